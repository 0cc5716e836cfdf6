/- The walks: the bytes of records, by the reference. -/
import Derived.Test.YthjgcmifggdepaaH8
import Derived.BigQuiet
set_option linter.unusedSimpArgs false
set_option linter.unusedVariables false
namespace Go.Proofs.Ythjgcmifggdepaa
open Go.RowKit

theorem three_of {b : List UInt8} {n : Nat} (hl : b.length = n) (h : 3 ≤ n) : ∃ x y z r, b = x :: y :: z :: r := by
  match b, hl with
  | x :: y :: z :: r, _ => exact ⟨x, y, z, r, rfl⟩
  | [], hl => simp at hl; omega
  | [_], hl => simp at hl; omega
  | [_, _], hl => simp at hl; omega

set_option maxRecDepth 100000 in
set_option maxHeartbeats 1600000 in
theorem refMessages_any (l : List UInt8) (A : Option Addr) (n c : Nat) (w : World) (h : Rd w (.sl 1 (bytesC l)) (.slice A n c)) :
    Calls Try.prog 25 #[.slice A n c] w fun e w' => BRes w (msgL l) (msgE l) e w' := by
  have HR := Lib.hid h
  obtain ⟨hl, hnc, hcap⟩ := RdC.blen h
  unfold maxLen at hcap
  obtain ⟨E, hE⟩ : ∃ E, msgE l = E := ⟨_, rfl⟩
  obtain ⟨M, hM⟩ : ∃ M, msgL l = M := ⟨_, rfl⟩
  rw [hE, hM]
  by_cases hbig : 16384 < n
  · have e1 : E = 3 := by rw [← hE]; unfold msgE; rw [if_pos (by omega)]
    have e2 : M = [] := by rw [← hM]; unfold msgL; rw [if_pos (by omega)]
    subst e1 e2
    clear hE hM hl h
    go_enter Try.func25, Try.ntmps25
    go_wp2
    go_ret2
    exact ⟨none, 0, 0, rfl, OwnT.nil_ _ _ _ _ _, Ext.refl _⟩
  have hE' : Hid (E = match msgs l with | none => 1 | some _ => 0) := by show _ = _; rw [← hE]; unfold msgE; rw [if_neg (by omega)]; rfl
  have hM' : Hid (M = match msgs l with | none => [] | some m => m) := by show _ = _; rw [← hM]; unfold msgL; rw [if_neg (by omega)]; rfl
  have HL := Lib.hid hl
  have hbig2 : n ≤ 16384 := by omega
  clear hE hM hl h
  go_enter Try.func25, Try.ntmps25
  go_wp2
  go_loopw [4, 5] (fun o s wr => ∃ (i : Nat) (out : List UInt8) (A2 : Option Addr) (n2 c2 : Nat), s = .int .i64 (i : Nat) ∧ o = .slice A2 n2 c2 ∧ i ≤ n ∧ n2 ≤ i ∧ OwnT (fun _ => False) wr w.heap.size 5 1 (.slice A2 n2 c2) (bytesC out) ∧ Ext w wr ∧ Hid (msgs l = (msgs (l.drop i)).map (out ++ ·))) (fun _ s _ => n - (intOf s).toNat)
  case atStart => exact ⟨0, [], none, 0, 0, rfl, rfl, by omega, by omega, OwnT.nil_ _ _ _ _ _, Ext.refl _, by show _ = _; simp⟩
  case round =>
    obtain ⟨i, out, A2, n2, c2, rfl, rfl, hin, hn2i, hown, hx, HM⟩ := hrel
    have hn2 := (RdC.blen hown.rd).1
    have HN2 := Lib.hid hn2
    clear hn2
    by_cases h0 : i < n
    · by_cases h4 : n - i < 3
      · have HN : Hid (msgs l = none) := by show _ = _; rw [HM.out, msgs_none (by intro e; have := congrArg List.length e; rw [List.length_drop, HL.out] at this; simp at this; omega) (recN_short (by rw [List.length_drop, HL.out]; omega))]; rfl
        have e1 : E = 1 := by rw [hE'.out, HN.out]
        have e2 : M = [] := by rw [hM'.out, HN.out]
        subst e1 e2
        have h4i : (n : Int) - (i : Int) < 3 := by omega
        go_wp2
        all_goals try (exfalso; omega)
        go_ret2
        exact ⟨none, 0, 0, rfl, OwnT.nil_ _ _ _ _ _, hx⟩
      · have h4i : ¬ (n : Int) - (i : Int) < 3 := by omega
        obtain ⟨x, y, z, r, hd⟩ := three_of (b := l.drop i) (n := n - i) (by rw [List.length_drop, HL.out]) (by omega)
        have gx : l[i]? = some x := by have := congrArg (·[0]?) hd; simpa using this
        have gy : l[i + 1]? = some y := by have := congrArg (·[1]?) hd; simpa using this
        have gz : l[i + 2]? = some z := by have := congrArg (·[2]?) hd; simpa using this
        obtain ⟨ad, x', rfl, -, hx0, c0⟩ := RdC.byte (HR.out.ext hx) (k := i) (by omega)
        obtain ⟨ad', y', e1, -, hy0, c1⟩ := RdC.byte (HR.out.ext hx) (k := i + 1) (by omega)
        injection e1 with e1
        subst e1
        obtain ⟨ad', z', e1, -, hz0, c2'⟩ := RdC.byte (HR.out.ext hx) (k := i + 2) (by omega)
        injection e1 with e1
        subst e1
        rw [gx] at hx0
        rw [gy] at hy0
        rw [gz] at hz0
        injection hx0 with hx0
        injection hy0 with hy0
        injection hz0 with hz0
        subst hx0 hy0 hz0
        have x1 := x.toNat_lt
        have y1 := y.toNat_lt
        have z1 := z.toNat_lt
        have hrl : r.length + 3 = n - i := by have := congrArg List.length hd; rw [List.length_drop, HL.out] at this; simp at this; omega
        have HD := Lib.hid hd
        clear gx gy gz hd
        simp [Addr.add] at c1 c2'
        have i1 : IntKind.i64.wrap ((i : Int) + 1) = (i : Int) + 1 := by rw [IntKind.wrap_i64]; omega
        have i2 : IntKind.i64.wrap ((i : Int) + 2) = (i : Int) + 2 := by rw [IntKind.wrap_i64]; omega
        have t1 : ((i : Int) + 1).toNat = i + 1 := by omega
        have t2 : ((i : Int) + 2).toNat = i + 2 := by omega
        have l1 : (i : Int) + 1 < (n : Int) := by omega
        have l2 : (i : Int) + 2 < (n : Int) := by omega
        by_cases h22 : (x.toNat : Int) = 22
        · obtain ⟨q, hq⟩ : ∃ q : Nat, y.toNat * 256 + z.toNat = q := ⟨_, rfl⟩
          have o1 := or8 y.toNat z.toNat z1 (by omega)
          rw [show ((y.toNat : Int) * 256 + (z.toNat : Int)) = (q : Int) by omega] at o1
          have HQ := Lib.hid hq
          have hq6 : q ≤ 65535 := by omega
          clear hq
          go_wp2
          go_quiet (fail)
          by_cases hq1 : q < 1 ∨ r.length < q
          · have HN : Hid (msgs l = none) := by show _ = _; rw [HM.out, HD.out, msgs_none (by simp) (by rw [recN_four, if_neg (by have := HQ.out; omega)])]; rfl
            have e1 : E = 1 := by rw [hE'.out, HN.out]
            have e2 : M = [] := by rw [hM'.out, HN.out]
            subst e1 e2
            have hxd := hx.drewN nq
            go_wp2
            all_goals try (exfalso; omega)
            all_goals
              go_ret2
              exact ⟨none, 0, 0, rfl, OwnT.nil_ _ _ _ _ _, hxd⟩
          · have hq3 : i + 3 + q ≤ n := by omega
            have q1 : ¬ (q : Int) < 1 := by omega
            have q2 : ¬ (n : Int) - (i : Int) - 3 < (q : Int) := by omega
            have HP : Hid (Rd w (.sl 1 (bytesC ((l.drop (i + 3)).take q))) (.slice (some (ad.add (i + 3))) (i + 3 + q - (i + 3)) (c - (i + 3)))) := by
              have := rd_mid HR.out (i := i + 3) (m := q) (c' := c - (i + 3)) (by omega) (by omega)
              rw [show i + 3 + q - (i + 3) = q by omega]
              exact this
            have hxd := hx.drewN nq
            have hownd := hown.ext ((Ext.refl wr).drewN nq)
            have hlq : ((l.drop (i + 3)).take q).length = q := by rw [List.length_take, List.length_drop, HL.out]; omega
            have HLQ := Lib.hid hlq
            have HM2 : Hid (msgs l = (msgs (l.drop (i + 3 + q))).map ((out ++ ((l.drop (i + 3)).take q)) ++ ·)) := by
              show _ = _
              rw [HM.out, HD.out, msgs_some (n := q) (by rw [recN_four, if_pos (by have := HQ.out; omega), HQ.out]), ← HD.out, Option.map_map, List.drop_drop, List.drop_drop, show i + (3 + q) = i + 3 + q by omega]
              congr 1
              funext a
              simp
            clear hlq
            go_wp2_with (at_builtin; refine wpList_appF (T := fun _ => False) (a0 := w) sl33 (by rfl) _ _ (by rfl) (by exact hxd) (by exact hownd) (by rfl) (by rfl) (by exact HP.out.ext hxd) (bytesC_flat _) (by simp only [bytesC_length, HN2.out, HLQ.out]; omega) ?_; intro A4 n4 c4 w4 hown4 hx4 _ _)
            rw [← bytesC_append] at hown4
            have hn4 := (RdC.blen hown4.rd).1
            rw [List.length_append, HN2.out, HLQ.out] at hn4
            go_roundw
            case rel => exact ⟨i + 3 + q, _, A4, n4, c4, by go_num, rfl, by omega, by omega, hown4, hx4, HM2⟩
            case measure => simp [intOf]; omega
        · have HN : Hid (msgs l = none) := by show _ = _; rw [HM.out, HD.out, msgs_none (by simp) (by rw [recN_four, if_neg (by omega)])]; rfl
          have e1 : E = 1 := by rw [hE'.out, HN.out]
          have e2 : M = [] := by rw [hM'.out, HN.out]
          subst e1 e2
          go_wp2
          go_ret2
          exact ⟨none, 0, 0, rfl, OwnT.nil_ _ _ _ _ _, hx⟩
    · have hlb0 : Hid (l.drop i = []) := by show _ = _; exact List.drop_of_length_le (by have := HL.out; omega)
      have HN : Hid (msgs l = some out) := by show _ = _; rw [HM.out, hlb0.out, msgs_nil]; simp
      have e1 : E = 0 := by rw [hE'.out, HN.out]
      have e2 : M = out := by rw [hM'.out, HN.out]
      subst e1 e2
      go_wp2
      go_ret2
      exact ⟨A2, n2, c2, rfl, hown, hx⟩
end Go.Proofs.Ythjgcmifggdepaa
