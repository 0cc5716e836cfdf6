/- The walks: depth, equality. -/
import Derived.Test.YthohienbmhohjaaW2
namespace Go.Proofs.Ythohienbmhohjaa
open Go.RowKit

theorem max_num (a b : Nat) : Value.int .i64 (if a < b then (b : Int) else (a : Int)) = .int .i64 ((max a b : Nat) : Int) := by
  congr 1; split <;> omega
theorem depth_pos (d : V) : 1 ≤ d.depth := by cases d; simp [V.depth]

set_option maxHeartbeats 800000 in
theorem depth_step (t : Int) (b : List UInt8) (nst : Bool) (es : List V) (v : Value) (w : World) (hm : (V.mk t b nst es).depth ≤ 1000000) (h : RdVal w (.mk t b nst es) v)
    (ih : ∀ d ∈ es, ∀ v w, RdVal w d v → Calls Try.prog 43 #[v] w fun e w' => e = .returned (.int .i64 d.depth) ∧ Ext w w') :
    Calls Try.prog 43 #[v] w fun e w' => e = .returned (.int .i64 (V.mk t b nst es).depth) ∧ Ext w w' := by
  obtain ⟨Ab, nb, cb, Ae, ne, ce, rfl, ht, hb, he, HB, HE, hnb, hne⟩ := h.opened
  clear h
  have HI := Lib.hid ih
  clear ih
  rw [V.depth] at hm ⊢
  have hmx : ∀ k, depthAll (es.take k) ≤ depthAll es := fun k => depthAll_take_le k
  have HM := Lib.hid hmx
  clear hmx
  go_enter Try.func43, Try.ntmps43
  go_wp2
  go_loopw [3, 9] (fun m i wr => ∃ k : Nat, k ≤ ne ∧ i = .int .i64 k ∧ m = .int .i64 (depthAll (es.take k)) ∧ Ext w wr) (fun _ i _ => ne - (intOf i).toNat)
  case atStart => exact ⟨0, by omega, rfl, rfl, (Ext.refl _).alloc _⟩
  case round =>
    obtain ⟨k, hk, rfl, rfl, hx⟩ := hrel
    have hle := HM.out k
    by_cases hlt : k < ne
    · obtain ⟨ad, t', b', nst', es', Ab', nb', cb', Ae', ne', ce', rfl, -, hd, hv, c0, c1, c2, c3⟩ := (he.ext hx).elem hlt
      have HV := Lib.hid hv
      have HD := Lib.hid hd
      clear hv hd
      go_wp2_with (go_at_call 43; refine (HI.out _ (List.mem_of_getElem? HD.out) _ _ (HV.out.ext (((Ext.refl _).alloc _)))).mono ?_; rintro e w' ⟨rfl, hb'⟩)
      go_roundw
      case rel => exact ⟨k + 1, by omega, by go_num, (by rw [depthAll_take_succ HD.out]; exact max_num _ _), (hx.trans ((Ext.refl _).alloc _)).trans hb'⟩
      case measure => simp [intOf]; omega
    · go_wp2
      go_ret
      exact ⟨ret_val (by rw [take_all HE hlt]; rfl), hx⟩

theorem depth_any : ∀ (k : Nat) (d : V) (v : Value) (w : World), d.depth ≤ k → d.depth ≤ 1000000 → RdVal w d v → Calls Try.prog 43 #[v] w fun e w' => e = .returned (.int .i64 d.depth) ∧ Ext w w' := by
  intro k
  induction k with
  | zero => intro d v w hd; cases d; simp [V.depth] at hd
  | succ k ih =>
    intro d v w hd h6 h
    obtain ⟨t, b, nst, es⟩ := d
    exact depth_step t b nst es v w h6 h fun d' hm v w hv => ih d' v w (by have := depthAll_mem hm; rw [V.depth] at hd; omega) (by have := depthAll_mem hm; rw [V.depth] at h6; omega) hv

set_option maxHeartbeats 800000 in
theorem rdepth_step (t : Int) (b : List UInt8) (nst : Bool) (es : List V) (v : Value) (w : World) (hm : (V.mk t b nst es).depth ≤ 1000000) (h : RdVal w (.mk t b nst es) v)
    (ih : ∀ d ∈ es, ∀ v w, RdVal w d v → Calls Try.prog 46 #[v] w fun e w' => e = .returned (.int .i64 d.depth) ∧ Ext w w') :
    Calls Try.prog 46 #[v] w fun e w' => e = .returned (.int .i64 (V.mk t b nst es).depth) ∧ Ext w w' := by
  obtain ⟨Ab, nb, cb, Ae, ne, ce, rfl, ht, hb, he, HB, HE, hnb, hne⟩ := h.opened
  clear h
  have HI := Lib.hid ih
  clear ih
  rw [V.depth] at hm ⊢
  have hmx : ∀ k, depthAll (es.take k) ≤ depthAll es := fun k => depthAll_take_le k
  have HM := Lib.hid hmx
  clear hmx
  go_enter Try.func46, Try.ntmps46
  go_wp2
  go_loopw [3, 4] (fun m i wr => ∃ k : Nat, k ≤ ne ∧ i = .int .i64 k ∧ m = .int .i64 (depthAll (es.take k)) ∧ Ext (w.alloc (.cells #[.int .i64 t, .slice Ab nb cb, .bool nst, .slice Ae ne ce] 29)) wr) (fun _ i _ => ne - (intOf i).toNat)
  case atStart => exact ⟨0, by omega, rfl, rfl, Ext.refl _⟩
  case round =>
    obtain ⟨k, hk, rfl, rfl, hx⟩ := hrel
    have hle := HM.out k
    have hc3 := hx.box (i := 3) (v := .slice Ae ne ce) rfl
    by_cases hlt : k < ne
    · obtain ⟨ad, t', b', nst', es', Ab', nb', cb', Ae', ne', ce', rfl, -, hd, hv, c0, c1, c2, c3⟩ := (he.ext (((Ext.refl _).alloc _).trans hx)).elem hlt
      have HV := Lib.hid hv
      have HD := Lib.hid hd
      clear hv hd
      go_wp2_with (go_at_call 46; refine (HI.out _ (List.mem_of_getElem? HD.out) _ _ HV.out).mono ?_; rintro e w' ⟨rfl, hb'⟩)
      go_roundw
      case rel => exact ⟨k + 1, by omega, by go_num, (by rw [depthAll_take_succ HD.out]; exact max_num _ _), hx.trans hb'⟩
      case measure => simp [intOf]; omega
    · go_wp2
      go_ret
      exact ⟨ret_val (by rw [take_all HE hlt]; rfl), ((Ext.refl _).alloc _).trans hx⟩

theorem rdepth_any : ∀ (k : Nat) (d : V) (v : Value) (w : World), d.depth ≤ k → d.depth ≤ 1000000 → RdVal w d v → Calls Try.prog 46 #[v] w fun e w' => e = .returned (.int .i64 d.depth) ∧ Ext w w' := by
  intro k
  induction k with
  | zero => intro d v w hd; cases d; simp [V.depth] at hd
  | succ k ih =>
    intro d v w hd h6 h
    obtain ⟨t, b, nst, es⟩ := d
    exact rdepth_step t b nst es v w h6 h fun d' hm v w hv => ih d' v w (by have := depthAll_mem hm; rw [V.depth] at hd; omega) (by have := depthAll_mem hm; rw [V.depth] at h6; omega) hv

/-- The closure of All: is an element too deep? -/
theorem deep_any (d : V) (v : Value) (w : World) (hd : d.depth ≤ 1000000) (h : RdVal w d v) :
    Calls Try.prog 59 #[v] w fun e w' => e = .returned (.bool (decide (16 < d.depth))) ∧ Ext w w' := by
  obtain ⟨t, b, nst, es⟩ := d
  have HV := Lib.hid h
  obtain ⟨Ab, nb, cb, Ae, ne, ce, rfl, -⟩ := h.opened
  clear h
  go_enter Try.func59, Try.ntmps59
  go_wp2_with (go_at_call 43; refine (depth_any _ _ _ _ (Nat.le_refl _) hd (HV.out.ext (((Ext.refl _).alloc _)))).mono ?_; rintro e w' ⟨rfl, hb'⟩)
  go_ret
  exact ⟨ret_val (by simp; omega), ((Ext.refl _).alloc _).trans hb'⟩

theorem plainB_eq (t : Int) (b : List UInt8) (n : Bool) (es : List V) (q : Int) {ne : Nat} (h : Hid (es.length = ne)) : plainB (.mk t b n es) q = ((t == q) && !n && (ne == 0)) := by
  simp only [plainB, h.out]

set_option maxHeartbeats 800000 in
theorem plain_any (t : Int) (b : List UInt8) (nst : Bool) (es : List V) (v : Value) (w : World) (h : RdVal w (.mk t b nst es) v) (q : Int) :
    Calls Try.prog 33 #[v, .int .i64 q] w fun e w' => e = .returned (.bool (plainB (.mk t b nst es) q)) ∧ Ext w w' := by
  obtain ⟨Ab, nb, cb, Ae, ne, ce, rfl, ht, hb, he, HB, HE, hnb, hne⟩ := h.opened
  clear h
  rw [plainB_eq t b nst es q HE]
  go_enter Try.func33, Try.ntmps33
  go_wp2
  all_goals (go_ret; refine ⟨ret_val ?_, (Ext.refl _).alloc _⟩)
  all_goals simp_all
  rw [Bool.eq_iff_iff]; simp

theorem u8lt (x : UInt8) (n : Nat) (h : n < 256) : (decide (x < UInt8.ofNat n)) = decide ((x.toNat : Int) < n) := by
  rw [Bool.eq_iff_iff]; simp only [decide_eq_true_eq, UInt8.lt_iff_toNat_lt, UInt8.toNat_ofNat']; omega
theorem u8gt (x : UInt8) (n : Nat) (h : n < 256) : (decide (UInt8.ofNat n < x)) = decide ((n : Int) < x.toNat) := by
  rw [Bool.eq_iff_iff]; simp only [decide_eq_true_eq, UInt8.lt_iff_toNat_lt, UInt8.toNat_ofNat']; omega

theorem enters36 (args : Array Value) (w : World) : (callFunc 36 args).run Try.prog w = .ok (.enter 36 args) w := enters Try.func36 (by kernel_rfl) (by kernel_rfl) args w
def odd (x : UInt8) : Bool := decide (x < 32) || decide (126 < x)
theorem odd_eq (x : UInt8) : odd x = (decide ((x.toNat : Int) < 32) || decide ((126 : Int) < x.toNat)) := by
  unfold odd
  have h1 := u8lt x 32 (by omega)
  have h2 := u8gt x 126 (by omega)
  rw [show (32 : UInt8) = UInt8.ofNat 32 by rfl, show (126 : UInt8) = UInt8.ofNat 126 by rfl, h1, h2]
  rfl
theorem astext1_any (x : UInt8) (w : World) :
    Calls Try.prog 36 #[.int .u8 (x.toNat : Int)] w fun e w' => e = .returned (.bool (odd x)) ∧ w = w' := by
  rw [odd_eq]
  go_enter Try.func36, Try.ntmps36
  go_wp2
  all_goals (go_ret; refine ⟨ret_val ?_, rfl⟩)
  all_goals simp [*]
  omega

/-! bytes as a text -/
theorem conv_bytes {P : Program} {w : World} (src e dst : TypeId) (hs : P.underlying src = some (.slice e)) (he : P.underlying e = some (.int .u8)) (hd : P.underlying dst = some .string)
    {l : List UInt8} {A : Option Addr} {n c : Nat} (h : Rd w (.sl 1 (bytesC l)) (.slice A n c)) : (convert src dst (.slice A n c)).run P w = .ok (.string ⟨l.toArray⟩) w := by
  have hl := (RdC.blen h).1
  have key : ∀ a, A = some a → (loadCells a n).run P w = .ok ((l.map fun x => (x.toNat : Int)).map (Value.int .u8)).toArray w := by
    intro a ha
    have h1 := run_loadCells_list (P := P) w a ((l.map fun x => (x.toNat : Int)).map (Value.int .u8)) (fun j v hj => by
      have hj' : j < n := by
        rcases Nat.lt_or_ge j n with h | h
        · exact h
        · rw [List.getElem?_eq_none (by simpa [hl] using h)] at hj; cases hj
      obtain ⟨ad, x, e1, -, e2, e3⟩ := RdC.byte h hj'
      rw [ha] at e1
      injection e1 with e1
      subst e1
      rw [e3]
      simp [e2] at hj
      rw [hj])
    simpa [hl] using h1
  rw [run_convert_bytes_string w src dst e A n c hs he hd]
  cases A with
  | none =>
    have h0 : n = 0 := by
      rcases Nat.eq_zero_or_pos n with h0 | h0
      · exact h0
      · obtain ⟨ad, _, e1, _⟩ := RdC.byte h h0; cases e1
    have : l = [] := List.eq_nil_of_length_eq_zero (by omega)
    subst this
    simp [Conv.bytesToString]
    rfl
  | some a =>
    rw [run_bytesToString w a n c _ (key a rfl), foldl_push_bytes]
    have e : (l.map fun x => (x.toNat : Int)).map (fun n => UInt8.ofNat n.toNat) = l := by
      rw [List.map_map]
      exact (List.map_congr_left (fun x _ => by simp)).trans (List.map_id l)
    rw [e]
    simp [ByteArray.empty, ByteArray.emptyWithCapacity]
    rfl

set_option maxHeartbeats 400000 in
theorem equal_any (l l' : List UInt8) (A A' : Option Addr) (n c n' c' : Nat) (w : World) (h : Rd w (.sl 1 (bytesC l)) (.slice A n c)) (h' : Rd w (.sl 1 (bytesC l')) (.slice A' n' c')) :
    Calls Try.prog 34 #[.slice A n c, .slice A' n' c'] w fun e w' => e = .returned (.bool (l == l')) ∧ w = w' := by
  have k1 := conv_bytes (P := Try.prog) 22 5 9 Try.underlying22 Try.underlying5 Try.underlying9 h
  have k2 := conv_bytes (P := Try.prog) 22 5 9 Try.underlying22 Try.underlying5 Try.underlying9 h'
  go_enter Try.func34, Try.ntmps34
  go_wp2
  go_ret
  exact ⟨ret_val rfl, rfl⟩
end Go.Proofs.Ythohienbmhohjaa
