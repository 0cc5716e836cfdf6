/- The walks: the bytes of a length, appended. -/
import Derived.Test.YthohienbmhohjaaW15
namespace Go.Proofs.Ythohienbmhohjaa
open Go.RowKit

/-- What is left by a call that appends to a row of the caller's own: the row, grown; all else as it was. -/
def AppRes (w : World) (base : Nat) (v : Value) (l : List UInt8) (e : Ending) (w' : World) : Prop :=
  ∃ A n c, e = .returned (.slice A n c) ∧ OwnT (fun _ => False) w' base 5 1 (.slice A n c) (bytesC l) ∧ w.grownBy w' v.ownBlock ∧ ((Value.slice A n c).ownBlock = v.ownBlock ∨ ∃ k, (Value.slice A n c).ownBlock = some k ∧ w.heap.size ≤ k)
/-- The row of a slice that has been appended to is the row that it was, or a new one. -/
def RowOf (w : World) (v u : Value) : Prop := u.ownBlock = v.ownBlock ∨ ∃ k, u.ownBlock = some k ∧ w.heap.size ≤ k
theorem RowOf.refl (w : World) (v : Value) : RowOf w v v := .inl rfl
theorem RowOf.step {w w1 : World} {v u u' : Value} (h : RowOf w v u) (hs : w.heap.size ≤ w1.heap.size) (h' : RowOf w1 u u') : RowOf w v u' := by
  rcases h' with h' | ⟨k, h1, h2⟩
  · rcases h with h | ⟨k, g1, g2⟩
    · exact .inl (h'.trans h)
    · exact .inr ⟨k, h'.trans g1, g2⟩
  · exact .inr ⟨k, h1, Nat.le_trans hs h2⟩
theorem grown_step {w w1 w2 : World} {v u : Value} (h : w.grownBy w1 v.ownBlock) (hr : RowOf w v u) (h' : w1.grownBy w2 u.ownBlock) : w.grownBy w2 v.ownBlock := by
  refine ⟨h'.os.trans h.os, h'.tape.trans h.tape, h'.output.trans h.output, Nat.le_trans h.size h'.size, fun k hk hne => (h'.block k (Nat.lt_of_lt_of_le hk h.size) ?_).trans (h.block k hk hne)⟩
  rcases hr with hr | ⟨j, g1, g2⟩
  · rw [hr]; exact hne
  · rw [g1]; intro e; injection e with e; omega
theorem RowOf.of_app {w : World} {v u : Value} (h : u.ownBlock = v.ownBlock ∨ u.ownBlock = some (w.heap.size + 1)) : RowOf w v u := by
  rcases h with h | h
  · exact .inl h
  · exact .inr ⟨_, h, by omega⟩
theorem RowOf.of_app0 {w : World} {v u : Value} (h : u.ownBlock = v.ownBlock ∨ u.ownBlock = some w.heap.size) : RowOf w v u := by
  rcases h with h | h
  · exact .inl h
  · exact .inr ⟨_, h, by omega⟩

theorem pow28 (n q : Nat) : (n : Int) / 2 ^ (8 * q) % 256 = ((n / 256 ^ q : Nat) : Int) % 256 := by
  have e : (2 : Int) ^ (8 * q) = ((256 ^ q : Nat) : Int) := by rw [Int.pow_mul]; simp
  rw [e, ← Int.natCast_ediv]

set_option maxRecDepth 100000 in
set_option maxHeartbeats 1600000 in
theorem length_any (n : Nat) (hn : n ≤ 1000000000000) (l : List UInt8) (hl : l.length ≤ 1000000000000) (a0 w : World) (A : Option Addr) (m c : Nat) (hx0 : Ext a0 w) (hown : OwnT (fun _ => False) w a0.heap.size 5 1 (.slice A m c) (bytesC l)) :
    Calls Try.prog 68 #[.slice A m c, .int .i64 n] w fun e w' => AppRes w a0.heap.size (.slice A m c) (l ++ lenB n) e w' := by
  have hown' := hown
  by_cases h128 : n < 128
  · have HQ : Hid (lenB n = [UInt8.ofNat n]) := by show _ = _; unfold lenB; rw [if_pos h128]
    go_enter Try.func68, Try.ntmps68
    go_wp2_with (at_builtin; refine wpList_appT1 (T := fun _ => False) (a0 := a0) sl22 (by rfl) _ _ (by rfl) (by exact hx0) (by exact hown) (by rfl) (cs1 := bytesC [UInt8.ofNat n]) (by exact rdByte (by rw [UInt8.toNat_ofNat', Nat.mod_eq_of_lt (by omega)])) (by rfl) (by rfl) (by rfl) (by simp [bytesC]; omega) ?_; intro A1 n1 c1 w1 hown1 hx1 hg1 hr1)
    go_ret
    exact ⟨A1, n1, c1, rfl, by rw [HQ.out, bytesC_append]; exact hown1, hg1, RowOf.of_app hr1⟩
  · have HQ : Hid (lenB n = UInt8.ofNat (128 + cnt n) :: be n) := by show _ = _; unfold lenB; rw [if_neg h128]
    have hc := cnt_le 6 n (by omega)
    have h128' : ¬ (n : Int) < 128 := by omega
    go_enter Try.func68, Try.ntmps68
    go_wp2
    go_loop [5, 6] (fun x y => ∃ j q : Nat, x = .int .i64 j ∧ y = .int .i64 q ∧ q ≤ n ∧ j ≤ 6 ∧ Hid (j + cnt q = cnt n)) (fun _ y => (intOf y).toNat)
    case atStart => exact ⟨0, n, rfl, rfl, by omega, by omega, by show _ = _; omega⟩
    case round =>
      obtain ⟨j, q, rfl, rfl, hq, hj, HC⟩ := hrel
      by_cases h0 : 0 < q
      · have h1 := HC.out
        rw [cnt_pos h0] at h1
        have hj5 : j ≤ 5 := by omega
        have HC2 : Hid (j + 1 + cnt (q / 256) = cnt n) := by show _ = _; omega
        clear h1
        have hq0 : (0 : Int) < (q : Int) := by omega
        go_wp2
        go_round
        case rel => exact ⟨j + 1, q / 256, by go_num, by congr 1, by omega, by omega, HC2.out⟩
        case measure => simp [intOf]; omega
      · obtain rfl : q = 0 := by omega
        have hjc := HC.out
        rw [cnt_0, Nat.add_zero] at hjc
        have HJ := Lib.hid hjc
        clear hjc
        have hpos : 1 ≤ cnt n := by rw [cnt_pos (by omega)]; omega
        have hj1 : 1 ≤ j := by have := HJ.out; omega
        have tok1 : True := trivial
        go_wp2_with (at_builtin; have _t := tok1; refine wpList_appT1 (T := fun _ => False) (a0 := a0) sl22 (by rfl) _ _ (by rfl) (by exact hx0) (by exact hown) (by rfl) (cs1 := bytesC [UInt8.ofNat (128 + cnt n)]) (by exact rdByte (by rw [UInt8.toNat_ofNat', Nat.mod_eq_of_lt (by omega), ← HJ.out]; omega)) (by rfl) (by rfl) (by rfl) (by simp [bytesC]; omega) ?_; intro A1 n1 c1 w1 hown1 hx1 hg1 hr1; clear tok1)
        have R0 := Lib.hid (RowOf.of_app hr1)
        have G0 := Lib.hid hg1
        clear hr1 hg1
        go_loopw [0, 7] (fun b x wr => ∃ (p : Nat) (A2 : Option Addr) (n2 c2 : Nat), p ≤ j ∧ x = .int .i64 ((j : Int) - 1 - (p : Int)) ∧ b = .slice A2 n2 c2 ∧ Ext a0 wr ∧ OwnT (fun _ => False) wr a0.heap.size 5 1 (.slice A2 n2 c2) (bytesC (l ++ [UInt8.ofNat (128 + cnt n)] ++ (be n).take p)) ∧ Hid (w.grownBy wr (Value.slice A m c).ownBlock ∧ RowOf w (.slice A m c) (.slice A2 n2 c2))) (fun _ x _ => (intOf x + 1).toNat)
        case atStart => exact ⟨0, A1, n1, c1, by omega, by simp, rfl, hx1, by rw [List.take_zero, List.append_nil, bytesC_append]; exact hown1, G0.out, R0.out⟩
        case round =>
          obtain ⟨p, A2, n2, c2, hp, rfl, rfl, hx2, hown2, HG⟩ := hrel
          by_cases hlt : p < j
          · obtain ⟨q, hq⟩ : ∃ q : Nat, j = q + 1 + p := ⟨j - 1 - p, by omega⟩
            have hxx : (j : Int) - 1 - (p : Int) = (q : Int) := by omega
            rw [hxx]
            have HX := Lib.hid hxx
            have HJQ := Lib.hid hq
            have hqb : q ≤ 6 := by omega
            clear hxx hq
            have hbe : Hid ((be n).take (p + 1) = (be n).take p ++ [UInt8.ofNat (n / 256 ^ q % 256)]) := by
              have h1 := be_get (cnt n) n rfl p (by have := HJ.out; omega)
              obtain ⟨h2, h3⟩ := List.getElem?_eq_some_iff.1 h1
              show _ = _
              rw [List.take_succ_eq_append_getElem h2, h3, show cnt n - 1 - p = q by have := HJ.out; have := HJQ.out; omega]
            have hbl : ((be n).take p).length ≤ 6 := by have := List.length_take_le p (be n); have := List.length_take_le' p (be n); unfold cnt at hc; omega
            go_wp2_with (at_builtin; refine wpList_appT1 (T := fun _ => False) (a0 := a0) sl22 (by rfl) _ _ (by rfl) (by exact hx2) (by exact hown2) (by rfl) (cs1 := bytesC [UInt8.ofNat (n / 256 ^ q % 256)]) (by exact rdByte (by rw [byteNat]; exact pow28 n q)) (by rfl) (by rfl) (by rfl) (by simp only [bytesC_length, List.length_append, List.length_singleton]; omega) ?_; intro A3 n3 c3 w3 hown3 hx3 hg3 hr3)
            have R3 := HG.out.2.step HG.out.1.size (RowOf.of_app hr3)
            have G3 := grown_step HG.out.1 HG.out.2 hg3
            clear hg3 hr3
            go_roundw
            case rel => exact ⟨p + 1, A3, n3, c3, by omega, by congr 1; have := HJQ.out; omega, rfl, hx3, by rw [hbe.out, ← List.append_assoc, bytesC_append]; exact hown3, G3, R3⟩
            case measure => simp [intOf]
          · obtain rfl : p = j := by omega
            have hbe : Hid ((be n).take p = be n) := take_all (n := p) (HJ.out.symm) (by omega)
            go_wp2
            go_ret
            refine ⟨A2, n2, c2, rfl, ?_, HG.out.1, HG.out.2⟩
            rw [HQ.out]
            have := hown2
            rw [hbe.out, List.append_assoc] at this
            exact this
end Go.Proofs.Ythohienbmhohjaa
