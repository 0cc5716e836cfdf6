/- The walks: the bytes of records, by the program. -/
import Derived.Test.YthjgcmifggdepaaH6
import Derived.Lib.SliceRun
set_option linter.unusedSimpArgs false
set_option linter.unusedVariables false
namespace Go.Proofs.Ythjgcmifggdepaa
open Go.RowKit

def sliceLen : Value → Nat | .slice _ m _ => m | _ => 0
/-- How many bytes the first record holds. -/
def recN : List UInt8 → Option Nat
  | x :: y :: z :: r => if x.toNat = 22 ∧ 1 ≤ y.toNat * 256 + z.toNat ∧ y.toNat * 256 + z.toNat ≤ r.length then some (y.toNat * 256 + z.toNat) else none
  | _ => none
theorem recN_le {b : List UInt8} {n : Nat} (h : recN b = some n) : 1 ≤ n ∧ n + 3 ≤ b.length := by
  match b, h with
  | x :: y :: z :: r, h =>
    rw [recN] at h
    split at h
    · rename_i hc
      injection h with h
      subst h
      simp
      omega
    · cases h
/-- The bytes that records hold. -/
def msgs (b : List UInt8) : Option (List UInt8) :=
  if b = [] then some [] else
  match h : recN b with
  | none => none
  | some n => (msgs (b.drop (3 + n))).map ((b.drop 3).take n ++ ·)
termination_by b.length
decreasing_by
  have := recN_le h
  rw [List.length_drop]; omega
theorem msgs_nil : msgs [] = some [] := by rw [msgs]; rfl
theorem msgs_none {b : List UInt8} (hb : b ≠ []) (h : recN b = none) : msgs b = none := by
  rw [msgs, if_neg hb]
  split
  · rfl
  · rename_i n h1; rw [h] at h1; cases h1
theorem msgs_some {b : List UInt8} {n : Nat} (h : recN b = some n) : msgs b = (msgs (b.drop (3 + n))).map ((b.drop 3).take n ++ ·) := by
  have hb : b ≠ [] := by rintro rfl; cases h
  rw [msgs, if_neg hb]
  split
  · rename_i h1; rw [h] at h1; cases h1
  · rename_i m h1
    rw [h] at h1
    injection h1 with h1
    subst h1
    rfl
def msgE (l : List UInt8) : Int := if 16384 < l.length then 3 else match msgs l with | none => 1 | some _ => 0
def msgL (l : List UInt8) : List UInt8 := if 16384 < l.length then [] else match msgs l with | none => [] | some m => m
theorem recN_four {x y z : UInt8} {r : List UInt8} : recN (x :: y :: z :: r) = if x.toNat = 22 ∧ 1 ≤ y.toNat * 256 + z.toNat ∧ y.toNat * 256 + z.toNat ≤ r.length then some (y.toNat * 256 + z.toNat) else none := rfl
theorem recN_short {b : List UInt8} (h : b.length < 4) : recN b = none := by
  match b, h with
  | [], _ => rfl
  | [_], _ => rfl
  | [_, _], _ => rfl
  | [x, y, z], _ => rw [recN_four, if_neg]; simp; omega
theorem four_of {b : List UInt8} {n : Nat} (hl : b.length = n) (h : 4 ≤ n) : ∃ x y z u r, b = x :: y :: z :: u :: r := by
  match b, hl with
  | x :: y :: z :: u :: r, _ => exact ⟨x, y, z, u, r, rfl⟩
  | [], hl => simp at hl; omega
  | [_], hl => simp at hl; omega
  | [_, _], hl => simp at hl; omega
  | [_, _, _], hl => simp at hl; omega

/-- What is behind the first bytes. -/
theorem rd_suffix {w : World} {S : Nat → Prop} {l : List UInt8} {ad : Addr} {n c : Nat} (h : RdC w S (.sl 1 (bytesC l)) (.slice (some ad) n c)) {i : Nat} (hi : i ≤ n) :
    RdC w S (.sl 1 (bytesC (l.drop i))) (.slice (if c = i then some ad else some (ad.add i)) (n - i) (c - i)) := by
  have hb := RdC.blen h
  have := RdC.cut h (i := i) (j := n) (cap' := c - i) (A' := if c = i then some ad else some (ad.add i)) hi (Nat.le_refl _) (by omega) (by have := hb.2.2; unfold maxLen at *; omega) (fun a ha hlt => by injection ha with ha; subst ha; rw [if_neg (by omega)]; simp)
  rw [Nat.mul_one, Nat.mul_one, List.take_of_length_le (by rw [List.length_drop, bytesC_length]; omega)] at this
  simpa [bytesC, List.map_drop] using this
set_option maxRecDepth 100000 in
set_option maxHeartbeats 800000 in
theorem clone_any (l : List UInt8) (A : Option Addr) (n c : Nat) (w : World) (h : Rd w (.sl 1 (bytesC l)) (.slice A n c)) (hn : n ≤ 1000000000) :
    Calls Try.prog 38 #[.slice A n c] w fun e w' => ∃ A' n' c', e = .returned (.slice A' n' c') ∧ OwnT (fun _ => False) w' w.heap.size 5 1 (.slice A' n' c') (bytesC l) ∧ Ext w w' := by
  have HR := Lib.hid h
  have hl := (RdC.blen h).1
  have keq := fun (w : World) (a : Option Addr) (n c : Nat) => Lib.run_eql_slice_nil (P := Try.prog) w 33 5 a n c 0 0 Try.underlying33
  cases A with
  | none =>
    have hl0 : l = [] := by
      have h0 : ¬ 0 < n := fun h0 => by obtain ⟨ad, _, e, _⟩ := RdC.byte h h0; cases e
      exact List.eq_nil_of_length_eq_zero (by omega)
    subst hl0
    clear h
    go_enter Try.func38, Try.ntmps38
    go_wp2
    all_goals
      go_ret
      exact ⟨none, 0, 0, ret_val rfl, OwnT.nil_ _ _ _ _ _, Ext.refl _⟩
  | some ad =>
    clear h
    go_enter Try.func38, Try.ntmps38
    go_wp2_with (at_builtin; refine wpList_appF (T := fun _ => False) (a0 := w) sl33 (by rfl) _ _ (by rfl) (by exact (Ext.refl _).alloc _) (by exact own_lit (Nat.le_refl _) (l := []) (n := 0) rfl (by omega) us_nil) (by rfl) (by rfl) (by exact HR.out.ext ((Ext.refl _).alloc _)) (bytesC_flat _) (by simp only [bytesC_length, List.length_nil]; omega) ?_; intro A3 n3 c3 w3 hown3 hx3 _ _)
    go_ret
    exact ⟨A3, n3, c3, ret_val rfl, hown3, hx3⟩

set_option maxRecDepth 100000 in
set_option maxHeartbeats 1600000 in
theorem messages_any (l : List UInt8) (A : Option Addr) (n c : Nat) (w : World) (h : Rd w (.sl 1 (bytesC l)) (.slice A n c)) :
    Calls Try.prog 24 #[.slice A n c] w fun e w' => BRes w (msgL l) (msgE l) e w' := by
  have HR := Lib.hid h
  obtain ⟨hl, hnc, hcap⟩ := RdC.blen h
  unfold maxLen at hcap
  obtain ⟨E, hE⟩ : ∃ E, msgE l = E := ⟨_, rfl⟩
  obtain ⟨M, hM⟩ : ∃ M, msgL l = M := ⟨_, rfl⟩
  rw [hE, hM]
  by_cases hbig : 16384 < n
  · have e1 : E = 3 := by rw [← hE]; unfold msgE; rw [if_pos (by omega)]
    have e2 : M = [] := by rw [← hM]; unfold msgL; rw [if_pos (by omega)]
    subst e1 e2
    clear hE hM hl h
    go_enter Try.func24, Try.ntmps24
    go_wp2
    go_ret2
    exact ⟨none, 0, 0, rfl, OwnT.nil_ _ _ _ _ _, Ext.refl _⟩
  have hE' : Hid (E = match msgs l with | none => 1 | some _ => 0) := by show _ = _; rw [← hE]; unfold msgE; rw [if_neg (by omega)]
  have hM' : Hid (M = match msgs l with | none => [] | some m => m) := by show _ = _; rw [← hM]; unfold msgL; rw [if_neg (by omega)]
  have HL := Lib.hid hl
  clear hE hM hl h
  go_enter Try.func24, Try.ntmps24
  go_wp2
  go_loopw [0, 4] (fun s o wr => ∃ (lb out : List UInt8) (A1 : Option Addr) (n1 c1 : Nat) (A2 : Option Addr) (n2 c2 : Nat), s = .slice A1 n1 c1 ∧ o = .slice A2 n2 c2 ∧ n1 + n2 ≤ 16384 ∧ Hid (Rd w (.sl 1 (bytesC lb)) (.slice A1 n1 c1)) ∧ OwnT (fun _ => False) wr w.heap.size 5 1 (.slice A2 n2 c2) (bytesC out) ∧ Ext w wr ∧ Hid (msgs l = (msgs lb).map (out ++ ·))) (fun s _ _ => sliceLen s)
  case atStart => exact ⟨l, [], A, n, c, none, 0, 0, rfl, rfl, by omega, HR, OwnT.nil_ _ _ _ _ _, Ext.refl _, by show _ = _; simp⟩
  case round =>
    obtain ⟨lb, out, A1, n1, c1, A2, n2, c2, rfl, rfl, hn12, HB, hown, hx, HM⟩ := hrel
    obtain ⟨hlb, hnc1, hc1⟩ := RdC.blen HB.out
    unfold maxLen at hc1
    have hn2 := (RdC.blen hown.rd).1
    have HLB := Lib.hid hlb
    have HN2 := Lib.hid hn2
    clear hlb hn2
    by_cases h0 : 0 < n1
    · by_cases h4 : n1 < 4
      · have HN : Hid (msgs l = none) := by show _ = _; rw [HM.out, msgs_none (by rintro rfl; have := HLB.out; simp at this; omega) (recN_short (by have := HLB.out; omega))]; rfl
        have e1 : E = 1 := by rw [hE'.out, HN.out]
        have e2 : M = [] := by rw [hM'.out, HN.out]
        subst e1 e2
        have h4i : (n1 : Int) < 4 := by omega
        go_wp2
        all_goals try (exfalso; omega)
        go_ret2
        exact ⟨none, 0, 0, rfl, OwnT.nil_ _ _ _ _ _, hx⟩
      · have h4i : ¬ (n1 : Int) < 4 := by omega
        obtain ⟨x, y, z, u, r, rfl⟩ := four_of HLB.out (by omega)
        obtain ⟨ad, x', rfl, -, hx0, c0⟩ := RdC.byte (HB.out.ext hx) (k := 0) (by omega)
        simp at hx0
        subst hx0
        simp [Addr.add] at c0
        have x1 := x.toNat_lt
        have y1 := y.toNat_lt
        have z1 := z.toNat_lt
        have hlen := HLB.out
        simp at hlen
        by_cases h22 : (x.toNat : Int) = 22
        · have hs2 := RdC.sub (HB.out.ext hx) (o := 1) (k := 2) (by omega) (by omega) (A' := some { block := ad.block, off := ad.off + 1 }) (c' := c1 - 1) (fun _ => rfl) (by unfold maxLen; omega)
          have HS2 : Hid (Rd wr (.sl 1 (bytesC [y, z])) (.slice (some { block := ad.block, off := ad.off + 1 }) 2 (c1 - 1))) := by show RdC _ _ _ _; simpa using hs2
          have nc1 : ¬ c1 = 1 := by omega
          obtain ⟨q, hq⟩ : ∃ q : Nat, y.toNat * 256 + z.toNat = q := ⟨_, rfl⟩
          have hq2 : ((y.toNat : Int) * 256 + (z.toNat : Int)) = (q : Int) := by omega
          have HQ := Lib.hid hq
          have HQ2 := Lib.hid hq2
          have hw3 : wrap64 (3 + (q : Int)) = 3 + (q : Int) := by unfold wrap64; omega
          clear hq hq2
          clear hs2
          go_wp2_with (go_at_call 37; refine (num2_any y z _ _ _ _ HS2.out).mono ?_; rintro e w1 ⟨rfl, rfl⟩; rw [HQ2.out])
          · have HN : Hid (msgs l = none) := by show _ = _; rw [HM.out, msgs_none (by simp) (by rw [recN_four, if_neg (by have := HQ.out; omega)])]; rfl
            have e1 : E = 1 := by rw [hE'.out, HN.out]
            have e2 : M = [] := by rw [hM'.out, HN.out]
            subst e1 e2
            go_ret2
            exact ⟨none, 0, 0, rfl, OwnT.nil_ _ _ _ _ _, hx⟩
          · have HN : Hid (msgs l = none) := by show _ = _; rw [HM.out, msgs_none (by simp) (by rw [recN_four, if_neg (by have := HQ.out; simp; omega)])]; rfl
            have e1 : E = 1 := by rw [hE'.out, HN.out]
            have e2 : M = [] := by rw [hM'.out, HN.out]
            subst e1 e2
            go_ret2
            exact ⟨none, 0, 0, rfl, OwnT.nil_ _ _ _ _ _, hx⟩
          · have hq3 : 3 + q ≤ n1 := by omega
            have hq1 : 1 ≤ q := by omega
            have b1 : IntKind.i64.wrap (3 + (q : Int)) = 3 + (q : Int) := by rw [IntKind.wrap_i64]; omega
            have b2 : (3 + (q : Int)).toNat = 3 + q := by omega
            have b3 : (0 : Int) ≤ 3 + (q : Int) := by omega
            have b4 : (3 : Int) + (q : Int) ≤ (c1 : Int) := by omega
            have b5 : (3 : Int) + (q : Int) ≤ (n1 : Int) := by omega
            have b6 : (3 : Int) ≤ 3 + (q : Int) := by omega
            have b7 : ¬ c1 = 3 := by omega
            have hs3 := RdC.sub (HB.out.ext hx) (o := 3) (k := q) (by omega) (by omega) (A' := some { block := ad.block, off := ad.off + 3 }) (c' := c1 - 3) (fun _ => rfl) (by unfold maxLen; omega)
            have HS3 : Hid (Rd w1 (.sl 1 (bytesC (((x :: y :: z :: u :: r).drop 3).take q))) (.slice (some { block := ad.block, off := ad.off + 3 }) q (c1 - 3))) := hs3
            have hsx := rd_suffix HB.out (i := 3 + q) (by omega)
            obtain ⟨AX, hAX⟩ : ∃ AX, (if c1 = 3 + q then some ad else some (ad.add (3 + q))) = AX := ⟨_, rfl⟩
            rw [hAX] at hsx
            have HSX := Lib.hid hsx
            clear hsx
            have HRN : Hid (recN (x :: y :: z :: u :: r) = some q) := by show _ = _; rw [recN_four, if_pos (by have := HQ.out; simp; omega), HQ.out]
            have HM2 : Hid (msgs l = (msgs ((x :: y :: z :: u :: r).drop (3 + q))).map ((out ++ ((x :: y :: z :: u :: r).drop 3).take q) ++ ·)) := by show _ = _; rw [HM.out, msgs_some HRN.out, Option.map_map]; congr 1; funext a; simp
            clear hs3
            go_region_law (refine step_appF (T := fun _ => False) (a0 := w) sl33 (by rfl) (.tmp 33) (.tmp 37) (by rfl) (by exact hx.drew) (by exact hown.ext (Ext.refl _).drew) (by simp [Act.eval, Act.put]) (A := some { block := ad.block, off := ad.off + 3 }) (m := q) (c := c1 - 3) (by simp [Act.eval, Act.put]) (by exact HS3.out.ext (Ext.refl _).drew) (bytesC_flat _) (by simp only [bytesC_length, List.length_take, List.length_drop, HN2.out]; simp; omega) ?_; intro A3 n3 c3 w3 hown3 hx3 _ _)
            go_simp
            go_wp2
            have hn3 := (RdC.blen (l := out ++ ((x :: y :: z :: u :: r).drop 3).take q) (by rw [bytesC_append]; exact hown3.rd)).1
            rw [List.length_append, HN2.out, List.length_take, List.length_drop] at hn3
            go_roundw
            case rel => exact ⟨_, _, _, n1 - (3 + q), c1 - (3 + q), A3, n3, c3, rfl, rfl, by simp at hn3; omega, HSX, by rw [bytesC_append]; exact hown3, hx3, HM2⟩
            case measure => simp [sliceLen]; omega
        · have HN : Hid (msgs l = none) := by show _ = _; rw [HM.out, msgs_none (by simp) (by rw [recN_four, if_neg (by omega)])]; rfl
          have e1 : E = 1 := by rw [hE'.out, HN.out]
          have e2 : M = [] := by rw [hM'.out, HN.out]
          subst e1 e2
          go_wp2
          go_ret2
          exact ⟨none, 0, 0, rfl, OwnT.nil_ _ _ _ _ _, hx⟩
    · have hlb0 : lb = [] := List.eq_nil_of_length_eq_zero (by have := HLB.out; omega)
      subst hlb0
      have HN : Hid (msgs l = some out) := by show _ = _; rw [HM.out, msgs_nil]; simp
      have e1 : E = 0 := by rw [hE'.out, HN.out]
      have e2 : M = out := by rw [hM'.out, HN.out]
      subst e1 e2
      go_wp2_with (go_at_call 38; refine (clone_any M _ _ _ _ hown.rd (by omega)).mono ?_; rintro e w1 ⟨A3, n3, c3, rfl, hown3, hx3⟩)
      go_ret2
      exact ⟨A3, n3, c3, rfl, hown3.more hx.size, hx.trans hx3⟩
end Go.Proofs.Ythjgcmifggdepaa
