/- The walks: equality of elements, of the program and of the reference. -/
import Derived.Test.YthohienbmhohjaaW3
import Derived.Deep.RegionWith
namespace Go.Proofs.Ythohienbmhohjaa
open Go.RowKit

theorem sameAll_len : ∀ {a b : List V}, sameAll a b = true → a.length = b.length
  | [], [], _ => rfl
  | _ :: _, _ :: _, h => by rw [sameAll] at h; simp at h; simp [sameAll_len h.2]
  | [], _ :: _, h => by simp [sameAll] at h
  | _ :: _, [], h => by simp [sameAll] at h
theorem sameAll_all : ∀ {a b : List V}, a.length = b.length → (∀ (j : Nat) (d d' : V), a[j]? = some d → b[j]? = some d' → d.same d' = true) → sameAll a b = true
  | [], [], _, _ => by simp [sameAll]
  | x :: xs, y :: ys, h, hh => by
    rw [sameAll, hh 0 x y rfl rfl, sameAll_all (by simpa using h) fun j d d' h1 h2 => hh (j + 1) d d' (by simpa using h1) (by simpa using h2)]
    rfl
  | [], _ :: _, h, _ => by simp at h
  | _ :: _, [], h, _ => by simp at h
theorem sameAll_at : ∀ {a b : List V} {k : Nat} {d d' : V}, a[k]? = some d → b[k]? = some d' → d.same d' = false → sameAll a b = false
  | x :: xs, y :: ys, 0, d, d', h1, h2, h => by simp at h1 h2; subst h1 h2; rw [sameAll, h]; rfl
  | x :: xs, y :: ys, k + 1, d, d', h1, h2, h => by rw [sameAll, sameAll_at (a := xs) (b := ys) (k := k) (by simpa using h1) (by simpa using h2) h]; simp
  | [], _, _, _, _, h1, _, _ => by simp at h1
  | _ :: _, [], _, _, _, _, h2, _ => by simp at h2
theorem sameAll_ne {a b : List V} (h : ¬ a.length = b.length) : sameAll a b = false := by
  rcases hx : sameAll a b with _ | _
  · rfl
  · exact absurd (sameAll_len hx) h
theorem sameAll_step {a b : List V} {k : Nat} {d d' : V} (h1 : a[k]? = some d) (h2 : b[k]? = some d') (h : d.same d' = true)
    (hh : ∀ (j : Nat) (d d' : V), j < k → a[j]? = some d → b[j]? = some d' → d.same d' = true) : ∀ (j : Nat) (d d' : V), j < k + 1 → a[j]? = some d → b[j]? = some d' → d.same d' = true := by
  intro j e e' hj g1 g2
  rcases Nat.lt_or_ge j k with hk | hk
  · exact hh j e e' hk g1 g2
  · obtain rfl : j = k := by omega
    rw [h1] at g1; rw [h2] at g2
    injection g1 with g1; injection g2 with g2
    subst g1 g2
    exact h

theorem enters27 (args : Array Value) (w : World) : (callFunc 27 args).run Try.prog w = .ok (.enter 27 args) w := enters Try.func27 (by kernel_rfl) (by kernel_rfl) args w

set_option maxHeartbeats 1600000 in
theorem equalFunc_any (es es' : List V) (A A' : Option Addr) (n c n' c' : Nat) (w : World) (h : Rd w (.sl 4 (encs es)) (.slice A n c)) (h' : Rd w (.sl 4 (encs es')) (.slice A' n' c'))
    (hf : ∀ d ∈ es, ∀ d' v v' w', RdVal w' d v → RdVal w' d' v' → Calls Try.prog 27 #[v, v'] w' fun e w'' => e = .returned (.bool (d.same d')) ∧ Ext w' w'') :
    Calls Try.prog 55 #[.slice A n c, .slice A' n' c', .func (.func 27) #[] #[]] w fun e w' => e = .returned (.bool (sameAll es es')) ∧ Ext w w' := by
  have hl := RdC.len h
  have hl' := RdC.len h'
  rw [encs_length] at hl hl'
  unfold maxLen at hl hl'
  have HL : Hid (es.length = n) := by show es.length = n; omega
  have HL' : Hid (es'.length = n') := by show es'.length = n'; omega
  have hn : n ≤ 9223372036854775807 := by omega
  have hn' : n' ≤ 9223372036854775807 := by omega
  clear hl hl'
  have HF := Lib.hid hf
  clear hf
  have hcf := enters27
  by_cases hnn : n = n'
  · subst hnn
    go_enter Try.func55, Try.ntmps55
    go_wp2
    go_loopw [6, 7, 17] (fun r j i wr => ∃ k : Nat, k ≤ n ∧ i = .int .i64 k ∧ Ext w wr ∧ Hid (∀ (j : Nat) (d d' : V), j < k → es[j]? = some d → es'[j]? = some d' → d.same d' = true)) (fun _ _ i _ => n - (intOf i).toNat)
    case atStart => exact ⟨0, by omega, rfl, Ext.refl _, fun _ _ _ h => absurd h (by omega)⟩
    case round =>
      obtain ⟨k, hk, rfl, hx, HK⟩ := hrel
      by_cases hlt : k < n
      · obtain ⟨ad, t, b, nst, es1, Ab, nb, cb, Ae, ne, ce, rfl, -, hd, hv, c0, c1, c2, c3⟩ := (h.ext hx).elem hlt
        obtain ⟨ad', t', b', nst', es1', Ab', nb', cb', Ae', ne', ce', rfl, hS, hd', hv', c0', c1', c2', c3'⟩ := (h'.ext (hx.trans ((Ext.refl _).alloc (.cells #[.int .i64 t, .slice Ab nb cb, .bool nst, .slice Ae ne ce] 29)))).elem hlt
        have HV := Lib.hid hv
        have HD := Lib.hid hd
        have HV' := Lib.hid hv'
        have HD' := Lib.hid hd'
        clear hv hd hv' hd'
        by_cases hp : (V.mk t b nst es1).same (V.mk t' b' nst' es1') = true
        · have HP : Hid ((V.mk t b nst es1).same (V.mk t' b' nst' es1') = true) := hp
          go_wp2_with fail
          refine (HF.out _ (List.mem_of_getElem? HD.out) _ _ _ _ (HV.out.ext (((Ext.refl _).alloc _).alloc _)) (HV'.out.ext ((Ext.refl _).alloc _))).mono ?_
          rintro e w' ⟨rfl, hb'⟩
          go_wp2
          go_roundw
          case rel => exact ⟨k + 1, by omega, by go_num, (hx.trans (((Ext.refl _).alloc _).alloc _)).trans hb', sameAll_step HD.out HD'.out HP.out HK.out⟩
          case measure => simp [intOf]; omega
        · have hp := eq_false_of_ne_true hp
          have HP : Hid ((V.mk t b nst es1).same (V.mk t' b' nst' es1') = false) := hp
          go_wp2_with fail
          refine (HF.out _ (List.mem_of_getElem? HD.out) _ _ _ _ (HV.out.ext (((Ext.refl _).alloc _).alloc _)) (HV'.out.ext ((Ext.refl _).alloc _))).mono ?_
          rintro e w' ⟨rfl, hb'⟩
          go_wp2
          go_ret
          exact ⟨ret_val (by rw [sameAll_at HD.out HD'.out HP.out]; rfl), (hx.trans (((Ext.refl _).alloc _).alloc _)).trans hb'⟩
      · go_wp2_with fail
        go_ret
        exact ⟨ret_val (by rw [sameAll_all (by rw [HL.out, HL'.out]) fun j d d' h1 h2 => HK.out j d d' (by have := (List.getElem?_eq_some_iff.1 h1).1; have := HL.out; omega) h1 h2]; rfl), hx⟩
  · have hne : ((n : Int) == n') = false := by simp; omega
    have HN : Hid (sameAll es es' = false) := sameAll_ne (by rw [HL.out, HL'.out]; exact hnn)
    go_enter Try.func55, Try.ntmps55
    go_wp2
    go_ret
    exact ⟨ret_val (by rw [HN.out]; rfl), Ext.refl _⟩

theorem same_eq (t : Int) (b : List UInt8) (n : Bool) (es : List V) (t' : Int) (b' : List UInt8) (n' : Bool) (es' : List V) :
    (V.mk t b n es).same (V.mk t' b' n' es') = (t == t' && n == n' && b == b' && sameAll es es') := by rw [V.same]

set_option maxHeartbeats 1600000 in
theorem same_step (t : Int) (b : List UInt8) (nst : Bool) (es : List V) (d' : V) (v v' : Value) (w : World) (h : RdVal w (.mk t b nst es) v) (h' : RdVal w d' v')
    (ih : ∀ d ∈ es, ∀ d' v v' w', RdVal w' d v → RdVal w' d' v' → Calls Try.prog 27 #[v, v'] w' fun e w'' => e = .returned (.bool (d.same d')) ∧ Ext w' w'') :
    Calls Try.prog 27 #[v, v'] w fun e w' => e = .returned (.bool ((V.mk t b nst es).same d')) ∧ Ext w w' := by
  obtain ⟨t', b', nst', es'⟩ := d'
  obtain ⟨Ab, nb, cb, Ae, ne, ce, rfl, ht, hb, he, HB, HE, hnb, hne⟩ := h.opened
  obtain ⟨Ab', nb', cb', Ae', ne', ce', rfl, ht', hb', he', HB', HE', hnb', hne'⟩ := h'.opened
  clear h h'
  have HI := Lib.hid ih
  clear ih
  have HS := Lib.hid (same_eq t b nst es t' b' nst' es')
  go_enter Try.func27, Try.ntmps27
  go_wp2_with (first | (go_at_call 34; refine (equal_any b b' _ _ _ _ _ _ _ (hb.ext (((Ext.refl _).alloc _).alloc _)) (hb'.ext (((Ext.refl _).alloc _).alloc _))).mono ?_; rintro e w' ⟨rfl, rfl⟩) | (go_at_call 55; refine (equalFunc_any es es' _ _ _ _ _ _ _ (he.ext (((Ext.refl _).alloc _).alloc _)) (he'.ext (((Ext.refl _).alloc _).alloc _)) HI.out).mono ?_; rintro e w' ⟨rfl, hx⟩))
  all_goals (go_ret; refine ⟨ret_val ?_, ?_⟩)
  all_goals (first | exact ((Ext.refl _).alloc _).alloc _ | exact (((Ext.refl _).alloc _).alloc _).trans hx | (rw [HS.out]; simp [*]))

theorem same_any : ∀ (k : Nat) (d d' : V) (v v' : Value) (w : World), d.depth ≤ k → RdVal w d v → RdVal w d' v' → Calls Try.prog 27 #[v, v'] w fun e w' => e = .returned (.bool (d.same d')) ∧ Ext w w' := by
  intro k
  induction k with
  | zero => intro d d' v v' w hd; cases d; simp [V.depth] at hd
  | succ k ih =>
    intro d d' v v' w hd h h'
    obtain ⟨t, b, nst, es⟩ := d
    exact same_step t b nst es d' v v' w h h' fun d1 hm d2 v v' w hv hv' => ih d1 d2 v v' w (by have := depthAll_mem hm; rw [V.depth] at hd; omega) hv hv'

/-! the reference's -/
set_option maxHeartbeats 1600000 in
theorem sameAll_any (es es' : List V) (A A' : Option Addr) (n c n' c' : Nat) (w : World) (h : Rd w (.sl 4 (encs es)) (.slice A n c)) (h' : Rd w (.sl 4 (encs es')) (.slice A' n' c'))
    (hf : ∀ d ∈ es, ∀ d' v v' w', RdVal w' d v → RdVal w' d' v' → Calls Try.prog 18 #[v, v'] w' fun e w'' => e = .returned (.bool (d.same d')) ∧ Ext w' w'') :
    Calls Try.prog 41 #[.slice A n c, .slice A' n' c'] w fun e w' => e = .returned (.bool (sameAll es es')) ∧ Ext w w' := by
  have hl := RdC.len h
  have hl' := RdC.len h'
  rw [encs_length] at hl hl'
  unfold maxLen at hl hl'
  have HL : Hid (es.length = n) := by show es.length = n; omega
  have HL' : Hid (es'.length = n') := by show es'.length = n'; omega
  have hn : n ≤ 9223372036854775807 := by omega
  have hn' : n' ≤ 9223372036854775807 := by omega
  clear hl hl'
  have HF := Lib.hid hf
  clear hf
  by_cases hnn : n = n'
  · subst hnn
    go_enter Try.func41, Try.ntmps41
    go_wp2
    go_loopw [4, 5] (fun r i wr => ∃ k : Nat, k ≤ n ∧ i = .int .i64 k ∧ Ext w wr ∧ Hid (∀ (j : Nat) (d d' : V), j < k → es[j]? = some d → es'[j]? = some d' → d.same d' = true)) (fun _ i _ => n - (intOf i).toNat)
    case atStart => exact ⟨0, by omega, rfl, Ext.refl _, fun _ _ _ h => absurd h (by omega)⟩
    case round =>
      obtain ⟨k, hk, rfl, hx, HK⟩ := hrel
      by_cases hlt : k < n
      · obtain ⟨ad, t, b, nst, es1, Ab, nb, cb, Ae, ne, ce, rfl, -, hd, hv, c0, c1, c2, c3⟩ := (h.ext hx).elem hlt
        obtain ⟨ad', t', b', nst', es1', Ab', nb', cb', Ae', ne', ce', rfl, hS, hd', hv', c0', c1', c2', c3'⟩ := (h'.ext hx).elem hlt
        have HV := Lib.hid hv
        have HD := Lib.hid hd
        have HV' := Lib.hid hv'
        have HD' := Lib.hid hd'
        clear hv hd hv' hd'
        by_cases hp : (V.mk t b nst es1).same (V.mk t' b' nst' es1') = true
        · have HP : Hid ((V.mk t b nst es1).same (V.mk t' b' nst' es1') = true) := hp
          go_wp2
          go_region_with (go_at_call 18; refine (HF.out _ (List.mem_of_getElem? HD.out) _ _ _ _ (HV.out.ext ((Ext.refl _).drew)) (HV'.out.ext (Ext.refl _).drew)).mono ?_; rintro e w' ⟨rfl, hb'⟩)
          all_goals
            go_wp2
            go_roundw
            case rel => exact ⟨k + 1, by omega, by go_num, (hx.trans (Ext.refl _).drew).trans hb', sameAll_step HD.out HD'.out HP.out HK.out⟩
            case measure => simp [intOf]; omega
        · have hp := eq_false_of_ne_true hp
          have HP : Hid ((V.mk t b nst es1).same (V.mk t' b' nst' es1') = false) := hp
          go_wp2
          go_region_with (go_at_call 18; refine (HF.out _ (List.mem_of_getElem? HD.out) _ _ _ _ (HV.out.ext ((Ext.refl _).drew)) (HV'.out.ext (Ext.refl _).drew)).mono ?_; rintro e w' ⟨rfl, hb'⟩)
          all_goals
            go_wp2
            go_ret
            exact ⟨ret_val (by rw [sameAll_at HD.out HD'.out HP.out]; rfl), (hx.trans (Ext.refl _).drew).trans hb'⟩
      · go_wp2_with fail
        go_ret
        exact ⟨ret_val (by rw [sameAll_all (by rw [HL.out, HL'.out]) fun j d d' h1 h2 => HK.out j d d' (by have := (List.getElem?_eq_some_iff.1 h1).1; have := HL.out; omega) h1 h2]; rfl), hx⟩
  · have hne : ((n : Int) == n') = false := by simp; omega
    have HN : Hid (sameAll es es' = false) := sameAll_ne (by rw [HL.out, HL'.out]; exact hnn)
    go_enter Try.func41, Try.ntmps41
    go_wp2
    go_ret
    exact ⟨ret_val (by rw [HN.out]; rfl), Ext.refl _⟩

set_option maxHeartbeats 1600000 in
theorem rsame_step (t : Int) (b : List UInt8) (nst : Bool) (es : List V) (d' : V) (v v' : Value) (w : World) (h : RdVal w (.mk t b nst es) v) (h' : RdVal w d' v')
    (ih : ∀ d ∈ es, ∀ d' v v' w', RdVal w' d v → RdVal w' d' v' → Calls Try.prog 18 #[v, v'] w' fun e w'' => e = .returned (.bool (d.same d')) ∧ Ext w' w'') :
    Calls Try.prog 18 #[v, v'] w fun e w' => e = .returned (.bool ((V.mk t b nst es).same d')) ∧ Ext w w' := by
  obtain ⟨t', b', nst', es'⟩ := d'
  obtain ⟨Ab, nb, cb, Ae, ne, ce, rfl, ht, hb, he, HB, HE, hnb, hne⟩ := h.opened
  obtain ⟨Ab', nb', cb', Ae', ne', ce', rfl, ht', hb', he', HB', HE', hnb', hne'⟩ := h'.opened
  clear h h'
  have HI := Lib.hid ih
  clear ih
  have HS := Lib.hid (same_eq t b nst es t' b' nst' es')
  have k1 := fun o o' => conv_bytes (P := Try.prog) 22 5 9 Try.underlying22 Try.underlying5 Try.underlying9 (hb.ext (((Ext.refl _).alloc o).alloc o'))
  have k2 := fun o o' => conv_bytes (P := Try.prog) 22 5 9 Try.underlying22 Try.underlying5 Try.underlying9 (hb'.ext (((Ext.refl _).alloc o).alloc o'))
  go_enter Try.func18, Try.ntmps18
  go_wp2_with (first | (go_at_call 41; refine (sameAll_any es es' _ _ _ _ _ _ _ (he.ext (((Ext.refl _).alloc _).alloc _)) (he'.ext (((Ext.refl _).alloc _).alloc _)) HI.out).mono ?_; rintro e w' ⟨rfl, hx⟩))
  all_goals (go_ret; refine ⟨ret_val ?_, ?_⟩)
  all_goals (first | exact ((Ext.refl _).alloc _).alloc _ | exact (((Ext.refl _).alloc _).alloc _).trans hx | (rw [HS.out]; simp [*]))

theorem rsame_any : ∀ (k : Nat) (d d' : V) (v v' : Value) (w : World), d.depth ≤ k → RdVal w d v → RdVal w d' v' → Calls Try.prog 18 #[v, v'] w fun e w' => e = .returned (.bool (d.same d')) ∧ Ext w w' := by
  intro k
  induction k with
  | zero => intro d d' v v' w hd; cases d; simp [V.depth] at hd
  | succ k ih =>
    intro d d' v v' w hd h h'
    obtain ⟨t, b, nst, es⟩ := d
    exact rsame_step t b nst es d' v v' w h h' fun d1 hm d2 v v' w hv hv' => ih d1 d2 v v' w (by have := depthAll_mem hm; rw [V.depth] at hd; omega) hv hv'
theorem rsameAll_any (es es' : List V) (A A' : Option Addr) (n c n' c' : Nat) (w : World) (h : Rd w (.sl 4 (encs es)) (.slice A n c)) (h' : Rd w (.sl 4 (encs es')) (.slice A' n' c')) :
    Calls Try.prog 41 #[.slice A n c, .slice A' n' c'] w fun e w' => e = .returned (.bool (sameAll es es')) ∧ Ext w w' :=
  sameAll_any es es' A A' n c n' c' w h h' fun d _ d' v v' w' hv hv' => rsame_any _ d d' v v' w' (Nat.le_refl _) hv hv'
end Go.Proofs.Ythohienbmhohjaa
