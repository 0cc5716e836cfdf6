/- The walks: well-formedness and depth, of the program and of the reference. -/
import Derived.Test.YthohienbmhohjaaW1
import Derived.BigGuardPart
namespace Go.Proofs.Ythohienbmhohjaa
open Go.RowKit

theorem enters66 (args : Array Value) (w : World) : (callFunc 66 args).run Try.prog w = .ok (.enter 66 args) w := enters Try.func66 (by kernel_rfl) (by kernel_rfl) args w
theorem enters59 (args : Array Value) (w : World) : (callFunc 59 args).run Try.prog w = .ok (.enter 59 args) w := enters Try.func59 (by kernel_rfl) (by kernel_rfl) args w

/-- The test that an element is not well formed, its parts still to be asked. -/
theorem formed_split (t : Int) (b : List UInt8) (n : Bool) (es : List V) : (V.mk t b n es).formed = (tagB t && (n == nestB t) && !(n && decide (0 < b.length)) && !(!n && decide (0 < es.length)) && es.all V.formed) := by
  rw [V.formed, formedAll_eq]
theorem all_not_any (es : List V) : (!es.any fun d => !d.formed) = es.all V.formed := by rw [List.all_eq_not_any_not]
theorem tagB_le {t : Int} (h : tagB t = true) : 1 ≤ t ∧ t ≤ 255 := by unfold tagB at h; simp at h; exact h.1
theorem formed_tag {t : Int} {b : List UInt8} {n : Bool} {es : List V} (h : tagB t = false) : (V.mk t b n es).formed = false := by rw [formed_split, h]; rfl
theorem formed_nest {t : Int} {b : List UInt8} {n : Bool} {es : List V} (h : ¬ n = nestB t) : (V.mk t b n es).formed = false := by rw [formed_split]; simp [h]
theorem formed_bytes {t : Int} {b : List UInt8} {es : List V} {nb : Nat} (h : Hid (b.length = nb)) (h0 : 0 < nb) : (V.mk t b true es).formed = false := by rw [formed_split, h.out]; simp [h0]
theorem formed_els {t : Int} {b : List UInt8} {es : List V} {ne : Nat} (h : Hid (es.length = ne)) (h0 : 0 < ne) : (V.mk t b false es).formed = false := by rw [formed_split, h.out]; simp [h0]
theorem formed_true {t : Int} {b : List UInt8} {es : List V} {nb : Nat} (h : Hid (b.length = nb)) (h0 : ¬ 0 < nb) (ht : tagB t = true) (hn : true = nestB t) : (V.mk t b true es).formed = es.all V.formed := by
  rw [formed_split, h.out, ht, ← hn]; simp [h0]
theorem formed_false {t : Int} {b : List UInt8} {es : List V} {ne : Nat} (h : Hid (es.length = ne)) (h0 : ¬ 0 < ne) (ht : tagB t = true) (hn : false = nestB t) : (V.mk t b false es).formed = es.all V.formed := by
  rw [formed_split, h.out, ht, ← hn]; simp [h0]

theorem nst_yes {t : Int} {nst : Bool} (ht : tagB t = true) (h : nst = (bits .and .i64 t 32 != 0)) (h0 : ¬ bits .and .i64 t 32 = 0) : nst = true ∧ true = nestB t := by
  have h2 := tagB_le ht
  rw [and32 h2.1 h2.2] at h
  have h3 := and32 h2.1 h2.2
  have : nestB t = true := by rw [← h3]; simpa using h0
  exact ⟨by rw [h, this], this.symm⟩
theorem nst_no {t : Int} {nst : Bool} (ht : tagB t = true) (h : nst = (bits .and .i64 t 32 != 0)) (h0 : bits .and .i64 t 32 = 0) : nst = false ∧ false = nestB t := by
  have h2 := tagB_le ht
  rw [and32 h2.1 h2.2] at h
  have h3 := and32 h2.1 h2.2
  have : nestB t = false := by rw [← h3]; simpa using h0
  exact ⟨by rw [h, this], this.symm⟩

/-- The closure that formed hands over. -/
theorem formedNot_any {es : List V} (ih : ∀ d ∈ es, ∀ v w, RdVal w d v → Calls Try.prog 42 #[v] w fun e w' => e = .returned (.bool d.formed) ∧ Ext w w') :
    ∀ d ∈ es, ∀ v w', RdVal w' d v → Calls Try.prog 66 #[v] w' fun e w'' => e = .returned (.bool (!d.formed)) ∧ Ext w' w'' := by
  intro d hd v w' hv
  obtain ⟨t', b', n', es'⟩ := d
  have HV := Lib.hid hv
  obtain ⟨_, _, _, _, _, _, rfl, -⟩ := hv.opened
  clear hv
  have HI := Lib.hid ih
  clear ih
  go_enter Try.func66, Try.ntmps66
  go_wp2_with (go_at_call 42; refine (HI.out _ hd _ _ (HV.out.ext ((Ext.refl _).alloc _))).mono ?_; rintro e w'' ⟨rfl, hb'⟩)
  go_ret
  exact ⟨rfl, ((Ext.refl _).alloc _).trans hb'⟩

set_option maxHeartbeats 800000 in
theorem formed_step (t : Int) (b : List UInt8) (nst : Bool) (es : List V) (v : Value) (w : World) (h : RdVal w (.mk t b nst es) v)
    (ih : ∀ d ∈ es, ∀ v w, RdVal w d v → Calls Try.prog 42 #[v] w fun e w' => e = .returned (.bool d.formed) ∧ Ext w w') :
    Calls Try.prog 42 #[v] w fun e w' => e = .returned (.bool (V.mk t b nst es).formed) ∧ Ext w w' := by
  obtain ⟨Ab, nb, cb, Ae, ne, ce, rfl, ht, hb, he, HB, HE, hnb, hne⟩ := h.opened
  clear h
  have H66 := Lib.hid (formedNot_any ih)
  clear ih
  go_enter Try.func42, Try.ntmps42
  go_wp2_with (first | (go_at_call 65; refine (tag_any _ _).mono ?_; rintro e w' ⟨rfl, rfl⟩) | (go_at_call 58; refine (contains_any 66 enters66 es (fun d => !d.formed) Ae ne ce _ (he.ext ((Ext.refl _).alloc _)) H66.out).mono ?_; rintro e w' ⟨rfl, hb'⟩))
  all_goals go_ret
  · exact ⟨ret_val (by rw [formed_tag ‹_›]; rfl), (Ext.refl _).alloc _⟩
  · have h := tagB_le ‹_›
    have h2 : ¬ nst = (bits .and .i64 t 32 != 0) := ‹_›
    rw [and32 h.1 h.2] at h2
    exact ⟨ret_val (by rw [formed_nest h2]; rfl), (Ext.refl _).alloc _⟩
  · obtain ⟨rfl, hq⟩ := nst_yes ‹tagB t = true› ‹_› ‹_›
    exact ⟨ret_val (by rw [formed_bytes HB ‹_›]; rfl), (Ext.refl _).alloc _⟩
  · obtain ⟨rfl, hq⟩ := nst_yes ‹tagB t = true› ‹_› ‹_›
    exact ⟨ret_val (by rw [formed_true HB ‹_› ‹_› hq, ← all_not_any]; rfl), ((Ext.refl _).alloc _).trans hb'⟩
  · obtain ⟨rfl, hq⟩ := nst_no ‹tagB t = true› ‹_› ‹_›
    exact ⟨ret_val (by rw [formed_els HE ‹_›]; rfl), (Ext.refl _).alloc _⟩
  · obtain ⟨rfl, hq⟩ := nst_no ‹tagB t = true› ‹_› ‹_›
    exact ⟨ret_val (by rw [formed_false HE ‹_› ‹_› hq, ← all_not_any]; rfl), ((Ext.refl _).alloc _).trans hb'⟩

theorem formed_any : ∀ (k : Nat) (d : V) (v : Value) (w : World), d.depth ≤ k → RdVal w d v → Calls Try.prog 42 #[v] w fun e w' => e = .returned (.bool d.formed) ∧ Ext w w' := by
  intro k
  induction k with
  | zero => intro d v w hd; cases d; simp [V.depth] at hd
  | succ k ih =>
    intro d v w hd h
    obtain ⟨t, b, nst, es⟩ := d
    exact formed_step t b nst es v w h fun d' hm v w hv => ih d' v w (by have := depthAll_mem hm; rw [V.depth] at hd; omega) hv

/-! the reference's -/
theorem quo32 {t : Int} (h : tagB t = true) : ((t.tdiv 32).tmod 2 == 1) = nestB t := by
  have := tagB_le h
  rw [Int.tdiv_eq_ediv_of_nonneg (by omega), Int.tmod_eq_emod_of_nonneg (by omega)]
  rfl
theorem all_take {p : V → Bool} {es : List V} {k : Nat} {d : V} (h : es[k]? = some d) (hp : p d = true) (ha : (es.take k).all p = true) : (es.take (k + 1)).all p = true := by
  obtain ⟨hk, e⟩ := List.getElem?_eq_some_iff.1 h
  rw [List.take_succ_eq_append_getElem hk, List.all_append, ha, e]
  simp [hp]
theorem all_no {p : V → Bool} {es : List V} {k : Nat} {d : V} (h : es[k]? = some d) (hp : p d = false) : es.all p = false := by
  rw [List.all_eq_false]
  exact ⟨d, List.mem_of_getElem? h, by simp [hp]⟩

set_option maxHeartbeats 1600000 in
theorem rformed_step (t : Int) (b : List UInt8) (nst : Bool) (es : List V) (v : Value) (w : World) (h : RdVal w (.mk t b nst es) v)
    (ih : ∀ d ∈ es, ∀ v w, RdVal w d v → Calls Try.prog 45 #[v] w fun e w' => e = .returned (.bool d.formed) ∧ Ext w w') :
    Calls Try.prog 45 #[v] w fun e w' => e = .returned (.bool (V.mk t b nst es).formed) ∧ Ext w w' := by
  obtain ⟨Ab, nb, cb, Ae, ne, ce, rfl, ht, hb, he, HB, HE, hnb, hne⟩ := h.opened
  clear h
  have HI := Lib.hid ih
  clear ih
  cases nst
  all_goals
    go_enter Try.func45, Try.ntmps45
    go_wp2_with (first | (go_at_call 69; refine (rtag_any _ _).mono ?_; rintro e w' ⟨rfl, rfl⟩))
  · go_ret
    exact ⟨ret_val (by rw [formed_tag ‹_›]; rfl), (Ext.refl _).alloc _⟩
  · go_ret
    have h1 : (t.tdiv 32).tmod 2 = 1 := ‹_›
    have h2 := quo32 ‹_›
    rw [h1] at h2
    exact ⟨ret_val (by rw [formed_nest (by rw [← h2]; simp)]; rfl), (Ext.refl _).alloc _⟩
  · go_ret
    exact ⟨ret_val (by rw [formed_els HE ‹_›]; rfl), (Ext.refl _).alloc _⟩
  · have HQ : Hid (false = nestB t) := by
      show _ = _
      rw [← quo32 ‹_›]; exact (beq_eq_false_iff_ne.2 ‹_›).symm
    have HR : Hid ((V.mk t b false es).formed = es.all V.formed) := formed_false HE ‹_› ‹_› HQ.out
    go_loopw [3] (fun i wr => ∃ k : Nat, k ≤ ne ∧ i = .int .i64 k ∧ Ext (w.alloc (.cells #[.int .i64 t, .slice Ab nb cb, .bool false, .slice Ae ne ce] 29)) wr ∧ Hid ((es.take k).all V.formed = true)) (fun i _ => ne - (intOf i).toNat)
    case atStart => exact ⟨0, by omega, rfl, Ext.refl _, rfl⟩
    case round =>
      obtain ⟨k, hk, rfl, hx, HK⟩ := hrel
      have hc3 := hx.box (i := 3) (v := .slice Ae ne ce) rfl
      by_cases hlt : k < ne
      · exact absurd hlt (by omega)
      · go_wp2
        go_ret
        exact ⟨ret_val (by rw [HR.out, ← List.take_of_length_le (l := es) (i := k) (by have := HE.out; omega), HK.out]; rfl), ((Ext.refl _).alloc _).trans hx⟩
  · go_ret
    exact ⟨ret_val (by rw [formed_tag ‹_›]; rfl), (Ext.refl _).alloc _⟩
  · go_ret
    have h1 : ¬ (t.tdiv 32).tmod 2 = 1 := ‹_›
    have h2 := quo32 ‹_›
    rw [beq_eq_false_iff_ne.2 h1] at h2
    exact ⟨ret_val (by rw [formed_nest (by rw [← h2]; simp)]; rfl), (Ext.refl _).alloc _⟩
  · go_ret
    exact ⟨ret_val (by rw [formed_bytes HB ‹_›]; rfl), (Ext.refl _).alloc _⟩
  · have HQ : Hid (true = nestB t) := by
      show _ = _
      rw [← quo32 ‹_›]; exact (beq_iff_eq.2 ‹_›).symm
    have HR : Hid ((V.mk t b true es).formed = es.all V.formed) := formed_true HB ‹_› ‹_› HQ.out
    rename tagB t = true => hz; clear hz
    rename (t.tdiv 32).tmod 2 = 1 => hz; clear hz
    go_loopw [3] (fun i wr => ∃ k : Nat, k ≤ ne ∧ i = .int .i64 k ∧ Ext (w.alloc (.cells #[.int .i64 t, .slice Ab nb cb, .bool true, .slice Ae ne ce] 29)) wr ∧ Hid ((es.take k).all V.formed = true)) (fun i _ => ne - (intOf i).toNat)
    case atStart => exact ⟨0, by omega, rfl, Ext.refl _, rfl⟩
    case round =>
      obtain ⟨k, hk, rfl, hx, HK⟩ := hrel
      have hc3 := hx.box (i := 3) (v := .slice Ae ne ce) rfl
      by_cases hlt : k < ne
      · obtain ⟨ad, t', b', nst', es', Ab', nb', cb', Ae', ne', ce', rfl, -, hd, hv, c0, c1, c2, c3⟩ := (he.ext (((Ext.refl _).alloc _).trans hx)).elem hlt
        have HV := Lib.hid hv
        have HD := Lib.hid hd
        clear hv hd
        by_cases hp : (V.mk t' b' nst' es').formed = true
        · have HP : Hid ((V.mk t' b' nst' es').formed = true) := hp
          go_wp2_with (go_at_call 45; refine (HI.out _ (List.mem_of_getElem? HD.out) _ _ HV.out).mono ?_; rintro e w' ⟨rfl, hb'⟩)
          go_roundw
          case rel => exact ⟨k + 1, by omega, by go_num, hx.trans hb', all_take HD.out HP.out HK.out⟩
          case measure => simp [intOf]; omega
        · have hp := eq_false_of_ne_true hp
          have HP : Hid ((V.mk t' b' nst' es').formed = false) := hp
          go_wp2_with (go_at_call 45; refine (HI.out _ (List.mem_of_getElem? HD.out) _ _ HV.out).mono ?_; rintro e w' ⟨rfl, hb'⟩)
          go_ret
          exact ⟨ret_val (by rw [HR.out, all_no HD.out HP.out]; rfl), (((Ext.refl _).alloc _).trans hx).trans hb'⟩
      · go_wp2
        go_ret
        exact ⟨ret_val (by rw [HR.out, ← List.take_of_length_le (l := es) (i := k) (by have := HE.out; omega), HK.out]; rfl), ((Ext.refl _).alloc _).trans hx⟩

theorem rformed_any : ∀ (k : Nat) (d : V) (v : Value) (w : World), d.depth ≤ k → RdVal w d v → Calls Try.prog 45 #[v] w fun e w' => e = .returned (.bool d.formed) ∧ Ext w w' := by
  intro k
  induction k with
  | zero => intro d v w hd; cases d; simp [V.depth] at hd
  | succ k ih =>
    intro d v w hd h
    obtain ⟨t, b, nst, es⟩ := d
    exact rformed_step t b nst es v w h fun d' hm v w hv => ih d' v w (by have := depthAll_mem hm; rw [V.depth] at hd; omega) hv
end Go.Proofs.Ythohienbmhohjaa
