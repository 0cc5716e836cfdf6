/- The walks: the bytes of a client's message, by the reference. -/
import Derived.Test.YthjgcmifggdepaaH4
set_option linter.unusedSimpArgs false
set_option linter.unusedVariables false
namespace Go.Proofs.Ythjgcmifggdepaa
open Go.RowKit

set_option maxRecDepth 100000 in
set_option maxHeartbeats 1600000 in
theorem refEncodeHello_any (h : Hl) (v : Value) (w : World) (hr : RdHv w h v) : Calls Try.prog 14 #[v] w fun e w' => BRes w (encHL h) (encHE h) e w' := by
  have HV := Lib.hid hr
  have HC := Lib.hid (refHello_any h v)
  obtain ⟨A, n, c, A', n', c', rfl, hs, hh, ⟨hl, hnc, hcc⟩, ⟨hl', hnc', hcc'⟩⟩ := hr.opened
  have HS := Lib.hid hs
  have HH := Lib.hid hh
  clear hr hs hh
  cases hB : helloB h with
  | false =>
    have e1 : encHE h = 23 := by unfold encHE; rw [hB]; rfl
    have e2 : encHL h = [] := by unfold encHL; rw [hB]; rfl
    rw [e1, e2]
    have HB := Lib.hid hB
    clear hB hl hl'
    go_enter Try.func14, Try.ntmps14
    go_wp2_with (go_at_call 33; refine (HC.out _ (HV.out.ext ((Ext.refl _).alloc _))).mono ?_; rintro e w1 ⟨rfl, hx1⟩; rw [HB.out])
    go_ret2
    exact ⟨none, 0, 0, rfl, OwnT.nil_ _ _ _ _ _, ((Ext.refl _).alloc _).trans hx1⟩
  | true =>
    have e1 : encHE h = 0 := by unfold encHE; rw [hB]; rfl
    have e2 : encHL h = rawH h := by unfold encHL; rw [hB]; rfl
    rw [e1, e2]
    obtain ⟨hp, hsu, hha⟩ := helloB_in hB
    have HB := Lib.hid hB
    obtain ⟨m, su, ha⟩ := h
    dsimp only at hp hsu hha hl hl' HS HH HV HC HB
    rw [hl, hl'] at hp
    obtain ⟨p1, p2, p3, p4, p5⟩ := hp
    have HSU := Lib.hid hsu
    have HHA := Lib.hid hha
    have HL := Lib.hid hl
    have HL' := Lib.hid hl'
    have HRAW : Hid (rawH ⟨m, su, ha⟩ = [1, b8 m, b8 n] ++ su.flatMap two8 ++ [b8 n'] ++ ha.map b8) := by show _ = _; unfold rawH; dsimp only; rw [hl, hl']
    clear hB hl hl' hsu hha e1 e2
    have tok1 : True := trivial
    go_enter Try.func14, Try.ntmps14
    go_wp2_with (go_at_call 33; refine (HC.out _ (HV.out.ext ((Ext.refl _).alloc _))).mono ?_; rintro e w1 ⟨rfl, hx1⟩; rw [HB.out]; obtain ⟨⟨q0, q1, q2⟩, -⟩ := three hx1.blk; have Q := fun z => three ((hx1.trans ((Ext.refl w1).alloc z)).blk); have q1' := fun z => (Q z).1.2.1; clear Q)
    go_loopw [4, 5] (fun o i wr => ∃ (k : Nat) (A2 : Option Addr) (n2 c2 : Nat), k ≤ n ∧ i = .int .i64 (k : Nat) ∧ o = .slice A2 n2 c2 ∧ Ext (w.alloc (.cells #[.int .i64 m, .slice A n c, .slice A' n' c'] 24)) wr ∧ OwnT (fun _ => False) wr (w.alloc (.cells #[.int .i64 m, .slice A n c, .slice A' n' c'] 24)).heap.size 5 1 (.slice A2 n2 c2) (bytesC ([1, b8 m, b8 n] ++ (su.take k).flatMap two8))) (fun _ i _ => n - (intOf i).toNat)
    case atStart => exact ⟨0, _, 3, 3, by omega, rfl, rfl, hx1.alloc _, by simpa using own_lit hx1.size (l := [1, b8 m, b8 n]) (n := 3) rfl (by omega) (us_cons rfl (us_cons (by rw [b8_nat]; omega) (us_cons (by rw [b8_nat]; omega) us_nil)))⟩
    case round =>
      obtain ⟨k, A2, n2, c2, hk, rfl, rfl, hx, hown⟩ := hrel
      by_cases hlt : k < n
      · obtain ⟨ad, x, rfl, -, hd, c0, -⟩ := ints_get (HS.out.ext (((Ext.refl _).alloc _).trans hx)) hlt
        have HD := Lib.hid hd
        obtain ⟨x1, x2⟩ := HSU.out x (List.mem_of_getElem? hd)
        clear hd
        obtain ⟨⟨q0, q1, q2⟩, -⟩ := three hx.blk
        go_wp2
        go_region_law (refine step_appF (T := fun _ => False) (a0 := w.alloc (.cells #[.int .i64 m, .slice (some ad) n c, .slice A' n' c'] 24)) sl33 (by rfl) (.tmp 25) (.tmp 39) (by rfl) (by exact hx.drew.alloc _) (by exact (hown.ext (Ext.refl wr).drew).ext ((Ext.refl _).alloc _)) (by simp [Act.eval, Act.put]) (A := some ⟨wr.heap.size, 0, none⟩) (m := 2) (c := 2) (by simp [Act.eval, Act.put]) (by exact own_lit2 (l := two8 x) hx.drew rfl (by omega) (us_cons (by rw [b8_nat]; first | omega | (rw [u8wrap]; done) | (rw [u8wrap]; omega) | (simp [u8wrap]; done)) (us_cons (by rw [b8_nat]; first | omega | (rw [u8wrap]; done) | (simp [u8wrap]; done)) us_nil))) (bytesC_flat _) (by simp only [bytesC_length, List.length_append, flat_len, List.length_take]; simp [two8]; omega) ?_; intro A3 n3 c3 w3 hown3 hx3 _ _)
        all_goals go_wp2
        all_goals
          go_roundw
          case rel => exact ⟨k + 1, A3, n3, c3, by omega, by go_num, rfl, hx3, by rw [flat_take_succ HD.out, ← List.append_assoc, bytesC_append]; exact hown3⟩
          case measure => simp [intOf]; omega
      · have hall : Hid (su.take k = su) := by show _ = _; exact List.take_of_length_le (by have := HL.out; omega)
        obtain ⟨⟨q0, q1, q2⟩, -⟩ := three hx.blk
        go_wp2_with (at_builtin; refine wpList_appF (T := fun _ => False) (a0 := w.alloc (.cells #[.int .i64 m, .slice A n c, .slice A' n' c'] 24)) sl33 (by rfl) _ _ (by rfl) (by exact hx.alloc _) (by exact hown.ext ((Ext.refl _).alloc _)) (by rfl) (by rfl) (by exact own_lit2 (l := [b8 n']) hx rfl (by omega) (us_cons (by rw [b8_nat]; omega) us_nil)) (bytesC_flat _) (by simp only [bytesC_length, List.length_append, flat_len, List.length_take]; simp; omega) ?_; intro A3 n3 c3 w3 hown3 hx3 _ _; rw [hall.out] at hown3; obtain ⟨⟨p0, p1, p2⟩, -⟩ := three hx3.blk)
        go_loopw [4, 6] (fun o i wr => ∃ (k : Nat) (A2 : Option Addr) (n2 c2 : Nat), k ≤ n' ∧ i = .int .i64 (k : Nat) ∧ o = .slice A2 n2 c2 ∧ Ext (w.alloc (.cells #[.int .i64 m, .slice A n c, .slice A' n' c'] 24)) wr ∧ OwnT (fun _ => False) wr (w.alloc (.cells #[.int .i64 m, .slice A n c, .slice A' n' c'] 24)).heap.size 5 1 (.slice A2 n2 c2) (bytesC ([1, b8 m, b8 n] ++ su.flatMap two8 ++ [b8 n'] ++ (ha.take k).map b8))) (fun _ i _ => n' - (intOf i).toNat)
        case atStart => exact ⟨0, A3, n3, c3, by omega, rfl, rfl, hx3, by rw [← bytesC_append] at hown3; simpa only [List.take_zero, List.map_nil, List.append_nil] using hown3⟩
        case round =>
          obtain ⟨k2, A4, n4, c4, hk2, rfl, rfl, hx4, hown4⟩ := hrel
          by_cases hlt2 : k2 < n'
          · obtain ⟨ad, x, rfl, -, hd, c0, -⟩ := ints_get (HH.out.ext (((Ext.refl _).alloc _).trans hx4)) hlt2
            have HD := Lib.hid hd
            obtain ⟨x1, x2⟩ := HHA.out x (List.mem_of_getElem? hd)
            clear hd
            obtain ⟨⟨r0, r1, r2⟩, -⟩ := three hx4.blk
            go_wp2_with (at_builtin; refine wpList_appF (T := fun _ => False) (a0 := w.alloc (.cells #[.int .i64 m, .slice A n c, .slice (some ad) n' c'] 24)) sl33 (by rfl) _ _ (by rfl) (by exact hx4.alloc _) (by exact hown4.ext ((Ext.refl _).alloc _)) (by rfl) (by rfl) (by exact own_lit2 (l := [b8 x]) hx4 rfl (by omega) (us_cons (by rw [b8_nat]; omega) us_nil)) (bytesC_flat _) (by simp only [bytesC_length, List.length_append, flat_len, List.length_map, List.length_take]; simp; have := HL.out; omega) ?_; intro A5 n5 c5 w5 hown5 hx5 _ _)
            go_roundw
            case rel => exact ⟨k2 + 1, A5, n5, c5, by omega, by go_num, rfl, hx5, by rw [map_take_succ HD.out, ← List.append_assoc, bytesC_append]; exact hown5⟩
            case measure => simp [intOf]; omega
          · obtain ⟨⟨r0, r1, r2⟩, -⟩ := three hx4.blk
            have hall2 : Hid (ha.take k2 = ha) := by show _ = _; exact List.take_of_length_le (by have := HL'.out; omega)
            go_wp2
            go_ret2
            refine ⟨A4, n4, c4, rfl, ?_, ((Ext.refl _).alloc _).trans hx4⟩
            rw [HRAW.out]
            rw [hall2.out] at hown4
            exact hown4.more (by simp)
end Go.Proofs.Ythjgcmifggdepaa
