/- The walks: All, by the program and by the reference. -/
import Derived.Test.YthohienbmhohjaaW29
namespace Go.Proofs.Ythohienbmhohjaa
open Go.RowKit

def deepB (d : V) : Bool := decide (16 < d.depth)
def AllsRes (w : World) (l : List UInt8) (e : Ending) (w' : World) : Prop := ∃ A n c, e = .returned (.tuple #[.slice A n c, .int .i64 (allE l)]) ∧ RdC w' (New w w') (.sl 4 (encs (allL l))) (.slice A n c) ∧ Ext w w'
theorem AllsRes.no {w w' : World} {l : List UInt8} {v : Value} (k : Int) (h : allE l = k) (hk : k ≠ 0) (hv : v = .tuple #[.slice none 0 0, .int .i64 k]) (hx : Ext w w') : AllsRes w l (.returned v) w' := by
  refine ⟨none, 0, 0, by rw [hv, h], ?_, hx⟩
  unfold allL
  rw [h, if_neg hk]
  exact RdC.nil_ 4
theorem AllsRes.yes {w w' : World} {l : List UInt8} {v : Value} {es : List V} {A : Option Addr} {n c : Nat} (h : allE l = 0) (hd : decAll l = some es) (hv : v = .tuple #[.slice A n c, .int .i64 0]) (hr : RdC w' (New w w') (.sl 4 (encs es)) (.slice A n c)) (hx : Ext w w') : AllsRes w l (.returned v) w' := by
  refine ⟨A, n, c, by rw [hv, h], ?_, hx⟩
  unfold allL
  rw [if_pos h, hd]
  exact hr
theorem allE_long {l : List UInt8} (h : 4096 < l.length) : allE l = 3 := by unfold allE; rw [if_pos h]
theorem allE_none {l : List UInt8} (h : ¬ 4096 < l.length) (hd : decAll l = none) : allE l = 1 := by unfold allE; rw [if_neg h, hd]
theorem allE_some {l : List UInt8} (h : ¬ 4096 < l.length) {es : List V} (hd : decAll l = some es) : allE l = if es.any deepB then 3 else 0 := by unfold allE; rw [if_neg h, hd]; rfl

set_option maxRecDepth 100000 in
set_option maxHeartbeats 800000 in
theorem alls_any (l : List UInt8) (A : Option Addr) (n c : Nat) (w : World) (h : Rd w (.sl 1 (bytesC l)) (.slice A n c)) :
    Calls Try.prog 30 #[.slice A n c] w fun e w' => AllsRes w l e w' := by
  obtain ⟨hl, hnc, hcap⟩ := RdC.blen h
  unfold maxLen at hcap
  have HR := Lib.hid h
  by_cases hbig : 4096 < n
  · have HE := Lib.hid (allE_long (l := l) (by omega))
    clear hl
    go_enter Try.func30, Try.ntmps30
    go_wp2
    go_ret2
    exact AllsRes.no 3 HE.out (by decide) rfl (Ext.refl _)
  have HN := Lib.hid (all_any _ l (Nat.le_refl _) (by omega))
  cases hd : decAll l with
  | none =>
    have HE := Lib.hid (allE_none (l := l) (by omega) hd)
    have HD := Lib.hid hd
    clear hl hd
    go_enter Try.func30, Try.ntmps30
    go_wp2_with (go_at_call 57; refine (HN.out _ _ _ _ HR.out).mono ?_; intro e w2 hR; obtain ⟨rfl, hx2⟩ := hR.of_none HD.out)
    go_ret2
    exact AllsRes.no 1 HE.out (by decide) rfl hx2
  | some es =>
    have hE0 := allE_some (l := l) (by omega) hd
    have HD := Lib.hid hd
    have hdep := dec_depth _ l (Nat.le_refl _) es hd
    have HF : Hid (∀ d ∈ es, ∀ v w', RdVal w' d v → Calls Try.prog 59 #[v] w' fun e w'' => e = .returned (.bool (deepB d)) ∧ Ext w' w'') := fun d hm v w' hv => deep_any d v w' (by have := depthAll_mem hm; omega) hv
    clear hd hl h hdep
    cases hany : es.any deepB with
    | true =>
      have HE : Hid (allE l = 3) := by show _ = _; rw [hE0, hany]; rfl
      have HA := Lib.hid hany
      clear hE0 hany
      go_enter Try.func30, Try.ntmps30
      go_wp2_with (first
        | (go_at_call 57; refine (HN.out _ _ _ _ HR.out).mono ?_; intro e w2 hR; obtain ⟨A2, n2, c2, rfl, hr2, hx2⟩ := hR.of_some HD.out)
        | (go_at_call 58; refine (contains_any 59 enters59 es deepB _ _ _ _ hr2.new_rd HF.out).mono ?_; rintro e w3 ⟨rfl, hx3⟩; rw [HA.out]))
      go_ret2
      exact AllsRes.no 3 HE.out (by decide) rfl (hx2.trans hx3)
    | false =>
      have HE : Hid (allE l = 0) := by show _ = _; rw [hE0, hany]; rfl
      have HA := Lib.hid hany
      clear hE0 hany
      go_enter Try.func30, Try.ntmps30
      go_wp2_with (first
        | (go_at_call 57; refine (HN.out _ _ _ _ HR.out).mono ?_; intro e w2 hR; obtain ⟨A2, n2, c2, rfl, hr2, hx2⟩ := hR.of_some HD.out)
        | (go_at_call 58; refine (contains_any 59 enters59 es deepB _ _ _ _ hr2.new_rd HF.out).mono ?_; rintro e w3 ⟨rfl, hx3⟩; rw [HA.out]))
      go_ret2
      exact AllsRes.yes HE.out HD.out rfl (hr2.new_ext hx3) (hx2.trans hx3)

theorem any_at {es : List V} {k : Nat} {d : V} (h : es[k]? = some d) (hd : deepB d = true) : es.any deepB = true := List.any_eq_true.2 ⟨d, List.mem_of_getElem? h, hd⟩
theorem any_none {es : List V} (h : ∀ (j : Nat) (d : V), j < es.length → es[j]? = some d → deepB d = false) : es.any deepB = false := by
  rw [List.any_eq_false]
  intro d hd
  obtain ⟨j, hj, rfl⟩ := List.getElem_of_mem hd
  rw [h j _ hj (List.getElem?_eq_getElem hj)]
  decide

set_option maxRecDepth 100000 in
set_option maxHeartbeats 800000 in
theorem ralls_any (l : List UInt8) (A : Option Addr) (n c : Nat) (w : World) (h : Rd w (.sl 1 (bytesC l)) (.slice A n c)) :
    Calls Try.prog 49 #[.slice A n c] w fun e w' => AllsRes w l e w' := by
  obtain ⟨hl, hnc, hcap⟩ := RdC.blen h
  unfold maxLen at hcap
  have HR := Lib.hid h
  by_cases hbig : 4096 < n
  · have HE := Lib.hid (allE_long (l := l) (by omega))
    clear hl
    go_enter Try.func49, Try.ntmps49
    go_wp2
    go_ret2
    exact AllsRes.no 3 HE.out (by decide) rfl (Ext.refl _)
  have HN := Lib.hid (rall_any _ l (Nat.le_refl _) (by omega))
  cases hd : decAll l with
  | none =>
    have HE := Lib.hid (allE_none (l := l) (by omega) hd)
    have HD := Lib.hid hd
    clear hl hd
    go_enter Try.func49, Try.ntmps49
    go_wp2_with (go_at_call 71; refine (HN.out _ _ _ _ HR.out).mono ?_; intro e w2 hR; obtain ⟨rfl, hx2⟩ := hR.of_none HD.out)
    go_ret2
    exact AllsRes.no 1 HE.out (by decide) rfl hx2
  | some es =>
    have hE0 := Lib.hid (allE_some (l := l) (by omega) hd)
    have HD := Lib.hid hd
    have hdep := dec_depth _ l (Nat.le_refl _) es hd
    have HP : Hid (∀ d ∈ es, d.depth ≤ 1000000) := fun d hm => by have := depthAll_mem hm; omega
    clear hd hl h hdep
    go_enter Try.func49, Try.ntmps49
    go_wp2_with (go_at_call 71; refine (HN.out _ _ _ _ HR.out).mono ?_; intro e w2 hR; obtain ⟨A2, n2, c2, rfl, hr2, hx2⟩ := hR.of_some HD.out)
    have hn2 := (RdC.len hr2).1
    have hn3 := (RdC.len hr2).2
    rw [encs_length] at hn2
    unfold maxLen at hn3
    have HL : Hid (es.length = n2) := by show _ = _; omega
    clear hn2
    go_loopw [6] (fun i wr => ∃ k : Nat, k ≤ n2 ∧ i = .int .i64 k ∧ Ext w2 wr ∧ Hid (∀ (j : Nat) (d : V), j < k → es[j]? = some d → deepB d = false)) (fun i _ => n2 - (intOf i).toNat)
    case atStart => exact ⟨0, by omega, rfl, Ext.refl _, fun j d h => absurd h (by omega)⟩
    case round =>
      obtain ⟨k, hk, rfl, hx, HK⟩ := hrel
      by_cases hlt : k < n2
      · obtain ⟨ad, t, b, nst, es', Ab, nb, cb, Ae, ne, ce, rfl, -, hd, hv, c0, c1, c2, c3⟩ := (hr2.new_rd.ext hx).elem hlt
        have HV := Lib.hid hv
        have HD2 := Lib.hid hd
        have hdep := HP.out _ (List.mem_of_getElem? hd)
        clear hv hd
        by_cases h16 : 16 < (V.mk t b nst es').depth
        · have HE : Hid (allE l = 3) := by show _ = _; rw [hE0.out, any_at HD2.out (by unfold deepB; simpa using h16)]; rfl
          go_wp2_with (go_at_call 46; refine (rdepth_any _ _ _ _ (Nat.le_refl _) hdep HV.out).mono ?_; rintro e w4 ⟨rfl, hx4⟩)
          go_ret2
          exact AllsRes.no 3 HE.out (by decide) rfl ((hx2.trans hx).trans hx4)
        · have HK2 : Hid (∀ (j : Nat) (d : V), j < k + 1 → es[j]? = some d → deepB d = false) := by
            intro j d hj hd
            by_cases e : j = k
            · subst e
              rw [HD2.out] at hd
              injection hd with hd
              subst hd
              unfold deepB
              simpa using h16
            · exact HK.out j d (by omega) hd
          go_wp2_with (go_at_call 46; refine (rdepth_any _ _ _ _ (Nat.le_refl _) hdep HV.out).mono ?_; rintro e w4 ⟨rfl, hx4⟩)
          go_roundw
          case rel => exact ⟨k + 1, by omega, by go_num, hx.trans hx4, HK2⟩
          case measure => simp [intOf]; omega
      · have HE : Hid (allE l = 0) := by
          show _ = _
          rw [hE0.out, any_none (fun j d hj hd => HK.out j d (by have := HL.out; omega) hd)]; rfl
        go_wp2
        go_ret2
        exact AllsRes.yes HE.out HD.out rfl (hr2.new_ext hx) (hx2.trans hx)
end Go.Proofs.Ythohienbmhohjaa
