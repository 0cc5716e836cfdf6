/- The walks: the bytes of a client's message. -/
import Derived.Test.YthjgcmifggdepaaH3
set_option linter.unusedSimpArgs false
set_option linter.unusedVariables false
namespace Go.Proofs.Ythjgcmifggdepaa
open Go.RowKit

theorem distB_in {lo hi : Int} : ∀ (r seen : List Int), distB lo hi seen r = true → ∀ x ∈ r, lo ≤ x ∧ x ≤ hi
  | [], _, _, x, h => by simp at h
  | y :: r, seen, hd, x, h => by
    rw [distB] at hd
    simp only [Bool.and_eq_true, decide_eq_true_eq] at hd
    obtain ⟨⟨⟨h1, h2⟩, _⟩, h4⟩ := hd
    rcases List.mem_cons.1 h with rfl | h
    · exact ⟨h1, h2⟩
    · exact distB_in r _ h4 x h
theorem helloB_in {h : Hl} (hb : helloB h = true) : (1 ≤ h.most ∧ h.most ≤ 4 ∧ 1 ≤ h.su.length ∧ h.su.length ≤ 16 ∧ h.ha.length ≤ 16) ∧ (∀ x ∈ h.su, 0 ≤ x ∧ x ≤ 65535) ∧ (∀ x ∈ h.ha, 1 ≤ x ∧ x ≤ 255) := by
  have hp : 1 ≤ h.most ∧ h.most ≤ 4 ∧ 1 ≤ h.su.length ∧ h.su.length ≤ 16 ∧ h.ha.length ≤ 16 := by
    rcases Decidable.em (1 ≤ h.most ∧ h.most ≤ 4 ∧ 1 ≤ h.su.length ∧ h.su.length ≤ 16 ∧ h.ha.length ≤ 16) with hp | hp
    · exact hp
    · rw [helloB_no rfl rfl hp] at hb; cases hb
  rw [helloB_yes rfl rfl hp, Bool.and_eq_true] at hb
  exact ⟨hp, distB_in _ _ hb.1, distB_in _ _ hb.2⟩
def encHE (h : Hl) : Int := if helloB h then 0 else 23
def encHL (h : Hl) : List UInt8 := if helloB h then rawH h else []
theorem rawH_len (h : Hl) : (rawH h).length = 4 + 2 * h.su.length + h.ha.length := by
  have : ∀ l : List Int, (l.flatMap two8).length = 2 * l.length := by
    intro l
    induction l with
    | nil => rfl
    | cons x r ih => rw [List.flatMap_cons, List.length_append, ih]; simp [two8]; omega
  unfold rawH
  simp [this]
  omega
theorem own_lit2 {w a0 : World} (hx : Ext a0 w) {us : List Value} {l : List UInt8} {n : Nat} (hn : l.length = n) (hm : n ≤ 1000) (h : RdUs w (fun _ => False) (bytesC l) us) :
    Rd (w.alloc (.cells us.toArray 5)) (.sl 1 (bytesC l)) (.slice (some ⟨w.heap.size, 0, none⟩) n n) := (own_lit hx.size hn hm h).rd
theorem flat_len (l : List Int) : (l.flatMap two8).length = 2 * l.length := by
  induction l with
  | nil => rfl
  | cons x r ih => rw [List.flatMap_cons, List.length_append, ih]; simp [two8]; omega

set_option maxRecDepth 100000 in
set_option maxHeartbeats 1600000 in
theorem encodeHello_any (h : Hl) (v : Value) (w : World) (hr : RdHv w h v) : Calls Try.prog 13 #[v] w fun e w' => BRes w (encHL h) (encHE h) e w' := by
  have HV := Lib.hid hr
  have HC := Lib.hid (rightHello_any h v)
  obtain ⟨A, n, c, A', n', c', rfl, hs, hh, ⟨hl, hnc, hcc⟩, ⟨hl', hnc', hcc'⟩⟩ := hr.opened
  have HS := Lib.hid hs
  have HH := Lib.hid hh
  clear hr hs hh
  cases hB : helloB h with
  | false =>
    have e1 : encHE h = 23 := by unfold encHE; rw [hB]; rfl
    have e2 : encHL h = [] := by unfold encHL; rw [hB]; rfl
    rw [e1, e2]
    have HB := Lib.hid hB
    clear hB hl hl'
    go_enter Try.func13, Try.ntmps13
    go_wp2_with (go_at_call 32; refine (HC.out _ (HV.out.ext ((Ext.refl _).alloc _))).mono ?_; rintro e w1 ⟨rfl, hx1⟩; rw [HB.out])
    go_ret2
    exact ⟨none, 0, 0, rfl, OwnT.nil_ _ _ _ _ _, ((Ext.refl _).alloc _).trans hx1⟩
  | true =>
    have e1 : encHE h = 0 := by unfold encHE; rw [hB]; rfl
    have e2 : encHL h = rawH h := by unfold encHL; rw [hB]; rfl
    rw [e1, e2]
    obtain ⟨hp, hsu, hha⟩ := helloB_in hB
    have HB := Lib.hid hB
    obtain ⟨m, su, ha⟩ := h
    dsimp only at hp hsu hha hl hl' HS HH HV HC HB
    rw [hl, hl'] at hp
    obtain ⟨p1, p2, p3, p4, p5⟩ := hp
    have HSU := Lib.hid hsu
    have HHA := Lib.hid hha
    have HL := Lib.hid hl
    have HL' := Lib.hid hl'
    have HRAW : Hid (rawH ⟨m, su, ha⟩ = [1, b8 m, b8 n] ++ su.flatMap two8 ++ [b8 n'] ++ ha.map b8) := by show _ = _; unfold rawH; dsimp only; rw [hl, hl']
    clear hB hl hl' hsu hha e1 e2
    have tok1 : True := trivial
    go_enter Try.func13, Try.ntmps13
    go_wp2_with (go_at_call 32; refine (HC.out _ (HV.out.ext ((Ext.refl _).alloc _))).mono ?_; rintro e w1 ⟨rfl, hx1⟩; rw [HB.out]; obtain ⟨⟨q0, q1, q2⟩, -⟩ := three hx1.blk; have Q := fun z => three ((hx1.trans ((Ext.refl w1).alloc z)).blk); have q1' := fun z => (Q z).1.2.1; clear Q)
    go_loopw [4, 23] (fun o i wr => ∃ (k : Nat) (A2 : Option Addr) (n2 c2 : Nat), k ≤ n ∧ i = .int .i64 (k : Nat) ∧ o = .slice A2 n2 c2 ∧ Ext (w.alloc (.cells #[.int .i64 m, .slice A n c, .slice A' n' c'] 24)) wr ∧ OwnT (fun _ => False) wr (w.alloc (.cells #[.int .i64 m, .slice A n c, .slice A' n' c'] 24)).heap.size 5 1 (.slice A2 n2 c2) (bytesC ([1, b8 m, b8 n] ++ (su.take k).flatMap two8))) (fun _ i _ => n - (intOf i).toNat)
    case atStart => exact ⟨0, _, 3, 3, by omega, rfl, rfl, hx1.alloc _, by simpa using own_lit hx1.size (l := [1, b8 m, b8 n]) (n := 3) rfl (by omega) (us_cons rfl (us_cons (by rw [b8_nat]; omega) (us_cons (by rw [b8_nat]; omega) us_nil)))⟩
    case round =>
      obtain ⟨k, A2, n2, c2, hk, rfl, rfl, hx, hown⟩ := hrel
      by_cases hlt : k < n
      · obtain ⟨ad, x, rfl, -, hd, c0, -⟩ := ints_get (HS.out.ext (((Ext.refl _).alloc _).trans hx)) hlt
        have HD := Lib.hid hd
        obtain ⟨x1, x2⟩ := HSU.out x (List.mem_of_getElem? hd)
        clear hd
        go_wp2_with (at_builtin; refine wpList_appF (T := fun _ => False) (a0 := w.alloc (.cells #[.int .i64 m, .slice (some ad) n c, .slice A' n' c'] 24)) sl33 (by rfl) _ _ (by rfl) (by exact hx.alloc _) (by exact hown.ext ((Ext.refl _).alloc _)) (by rfl) (by rfl) (by exact own_lit2 (l := two8 x) hx rfl (by omega) (us_cons (by rw [b8_nat]; omega) (us_cons (by rw [b8_nat]) us_nil))) (bytesC_flat _) (by simp only [bytesC_length, List.length_append, flat_len, List.length_take]; simp [two8]; omega) ?_; intro A3 n3 c3 w3 hown3 hx3 _ _)
        go_roundw
        case rel => exact ⟨k + 1, A3, n3, c3, by omega, by go_num, rfl, hx3, by rw [flat_take_succ HD.out, ← List.append_assoc, bytesC_append]; exact hown3⟩
        case measure => simp [intOf]; omega
      · have hall : Hid (su.take k = su) := by show _ = _; exact List.take_of_length_le (by have := HL.out; omega)
        obtain ⟨⟨q0, q1, q2⟩, -⟩ := three hx.blk
        go_wp2_with (at_builtin; refine wpList_appF (T := fun _ => False) (a0 := w.alloc (.cells #[.int .i64 m, .slice A n c, .slice A' n' c'] 24)) sl33 (by rfl) _ _ (by rfl) (by exact hx.alloc _) (by exact hown.ext ((Ext.refl _).alloc _)) (by rfl) (by rfl) (by exact own_lit2 (l := [b8 n']) hx rfl (by omega) (us_cons (by rw [b8_nat]; omega) us_nil)) (bytesC_flat _) (by simp only [bytesC_length, List.length_append, flat_len, List.length_take]; simp; omega) ?_; intro A3 n3 c3 w3 hown3 hx3 _ _; rw [hall.out] at hown3; obtain ⟨⟨p0, p1, p2⟩, -⟩ := three hx3.blk)
        go_loopw [4, 46] (fun o i wr => ∃ (k : Nat) (A2 : Option Addr) (n2 c2 : Nat), k ≤ n' ∧ i = .int .i64 (k : Nat) ∧ o = .slice A2 n2 c2 ∧ Ext (w.alloc (.cells #[.int .i64 m, .slice A n c, .slice A' n' c'] 24)) wr ∧ OwnT (fun _ => False) wr (w.alloc (.cells #[.int .i64 m, .slice A n c, .slice A' n' c'] 24)).heap.size 5 1 (.slice A2 n2 c2) (bytesC ([1, b8 m, b8 n] ++ su.flatMap two8 ++ [b8 n'] ++ (ha.take k).map b8))) (fun _ i _ => n' - (intOf i).toNat)
        case atStart => exact ⟨0, A3, n3, c3, by omega, rfl, rfl, hx3, by rw [← bytesC_append] at hown3; simpa only [List.take_zero, List.map_nil, List.append_nil] using hown3⟩
        case round =>
          obtain ⟨k2, A4, n4, c4, hk2, rfl, rfl, hx4, hown4⟩ := hrel
          by_cases hlt2 : k2 < n'
          · obtain ⟨ad, x, rfl, -, hd, c0, -⟩ := ints_get (HH.out.ext (((Ext.refl _).alloc _).trans hx4)) hlt2
            have HD := Lib.hid hd
            obtain ⟨x1, x2⟩ := HHA.out x (List.mem_of_getElem? hd)
            clear hd
            go_wp2_with (at_builtin; refine wpList_appF (T := fun _ => False) (a0 := w.alloc (.cells #[.int .i64 m, .slice A n c, .slice (some ad) n' c'] 24)) sl33 (by rfl) _ _ (by rfl) (by exact hx4.alloc _) (by exact hown4.ext ((Ext.refl _).alloc _)) (by rfl) (by rfl) (by exact own_lit2 (l := [b8 x]) hx4 rfl (by omega) (us_cons (by rw [b8_nat]; omega) us_nil)) (bytesC_flat _) (by simp only [bytesC_length, List.length_append, flat_len, List.length_map, List.length_take]; simp; have := HL.out; omega) ?_; intro A5 n5 c5 w5 hown5 hx5 _ _)
            go_roundw
            case rel => exact ⟨k2 + 1, A5, n5, c5, by omega, by go_num, rfl, hx5, by rw [map_take_succ HD.out, ← List.append_assoc, bytesC_append]; exact hown5⟩
            case measure => simp [intOf]; omega
          · have hall2 : Hid (ha.take k2 = ha) := by show _ = _; exact List.take_of_length_le (by have := HL'.out; omega)
            go_wp2
            go_ret2
            refine ⟨A4, n4, c4, rfl, ?_, ((Ext.refl _).alloc _).trans hx4⟩
            rw [HRAW.out]
            rw [hall2.out] at hown4
            exact hown4.more (by simp)
end Go.Proofs.Ythjgcmifggdepaa
