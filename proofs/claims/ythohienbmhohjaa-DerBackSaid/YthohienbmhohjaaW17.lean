/- The walk: the bytes of an element, by the reference. -/
import Derived.Test.YthohienbmhohjaaW16
import Derived.Deep.RegionLaw
namespace Go.Proofs.Ythohienbmhohjaa
open Go.RowKit

/-- append of a flat slice, at a step of a region that draws its order. -/
theorem step_appF {P : Program} {T S : Nat → Prop} {t e : TypeId} {sz bytes : Nat} (H : SlT P t e sz bytes) {a0 w : World} {ops : Array Oper} {o : Oper} {a : Act} {K : Act → World → Prop} {Q : Exit → Act → World → Prop} {E : Prop} (hgd : o.guard = none) (s x : Operand)
    (ho : o.op = .call { callee := .builtin .append, args := #[s, x], argTypes := #[t, t] }) {v : Value} {cs : List C} (hx0 : Ext a0 w) (hown : OwnT T w a0.heap.size e sz v cs) (hs : a.eval s = v)
    {A : Option Addr} {m c : Nat} {cs' : List C} (hx : a.eval x = .slice A m c) (hr : RdC w S (.sl sz cs') (.slice A m c)) (hf : ∀ c ∈ cs', flatC c = true) (hlen : (cs.length + cs'.length) * bytes ≤ 140737488355328)
    (h : ∀ A' n' c' w', OwnT T w' a0.heap.size e sz (.slice A' n' c') (cs ++ cs') → Ext a0 w' → w.grownBy w' v.ownBlock → ((Value.slice A' n' c').ownBlock = v.ownBlock ∨ (Value.slice A' n' c').ownBlock = some w.heap.size) → K (a.put o.dst (.slice A' n' c')) w') :
    if Region.wanted o (yielded ops a.tmps) = true then Oper.wp P o a w K Q else E := by
  have hw : Region.wanted o (yielded ops a.tmps) = true := by simp [Region.wanted, hgd]
  rw [if_pos hw]
  obtain ⟨us', hl', hu', hc'⟩ := RdC.vals hr
  exact wp_app_T H s x ho hx0 hown hs hx hl' (fun hm => by obtain ⟨ad, e1, _, e3⟩ := hc' hm; exact ⟨ad, e1, e3⟩) (hu'.flat_any hf) hlen h

theorem u8wrap (t : Int) : IntKind.u8.wrap t = t % 256 := by simp [IntKind.wrap, IntKind.bits, IntKind.signed]
theorem OwnT.more {T : Nat → Prop} {w : World} {base base' : Nat} {e : TypeId} {sz : Nat} {v : Value} {cs : List C} (h : OwnT T w base e sz v cs) (hb : base' ≤ base) : OwnT T w base' e sz v cs := by
  obtain ⟨n, us, ho, hr⟩ := h
  refine ⟨n, us, ⟨ho.1, ?_⟩, hr⟩
  rcases ho.2 with h1 | ⟨g, cap, cur, hv, hg, r⟩
  · exact .inl h1
  · exact .inr ⟨g, cap, cur, hv, by omega, r⟩
def PutOf (f : FuncId) (d : V) : Prop := ∀ (v : Value) (w : World), RdVal w d v → d.formed = true → d.put.length ≤ 1000000000 →
  Calls Try.prog f #[v] w fun e w' => ∃ A n c, e = .returned (.slice A n c) ∧ OwnT (fun _ => False) w' w.heap.size 5 1 (.slice A n c) (bytesC d.put) ∧ Ext w w'

theorem formed_mem {t : Int} {b : List UInt8} {n : Bool} {es : List V} (h : (V.mk t b n es).formed = true) : (∀ d ∈ es, d.formed = true) ∧ (V.mk t b n es).body = b ++ putAll es ∧ tagB t = true := by
  rw [formed_split] at h
  simp only [Bool.and_eq_true] at h
  obtain ⟨⟨⟨⟨h1, h2⟩, h3⟩, h4⟩, h5⟩ := h
  refine ⟨List.all_eq_true.1 h5, ?_, h1⟩
  unfold V.body
  cases n
  · have : es = [] := by
      rcases es with _ | ⟨x, xs⟩
      · rfl
      · simp at h4
    subst this
    simp [putAll]
  · have : b = [] := by
      rcases b with _ | ⟨x, xs⟩
      · rfl
      · simp at h3
    subst this
    simp
theorem body_le (t : Int) (b : List UInt8) (n : Bool) (es : List V) : (V.mk t b n es).body.length ≤ (V.mk t b n es).put.length := by rw [put_eq]; simp; omega

set_option maxRecDepth 100000 in
set_option maxHeartbeats 1600000 in
theorem put_step (t : Int) (b : List UInt8) (nst : Bool) (es : List V) (ih : ∀ d ∈ es, PutOf 47 d) : PutOf 47 (.mk t b nst es) := by
  intro v w h hf hlen
  obtain ⟨Ab, nb, cb, Ae, ne, ce, rfl, ht, hb, he, HB, HE, hnb, hne⟩ := h.opened
  clear h
  obtain ⟨hf1, hbody, htag⟩ := formed_mem hf
  have hbl := body_le t b nst es
  rw [hbody, List.length_append] at hbl
  have hbn := HB.out
  have hp1 : b.length ≤ 1000000000 := by omega
  have hp2 : b.length + (putAll es).length ≤ 1000000000 := by omega
  have hp3 : ∀ k, (putAll (es.take k)).length ≤ (putAll es).length := fun k => putAll_take_le k
  have HP3 := Lib.hid hp3
  have hp4 : ∀ d ∈ es, d.put.length ≤ (putAll es).length := fun d hd => putAll_mem hd
  have HP4 := Lib.hid hp4
  have HF := Lib.hid hf1
  have HI := Lib.hid ih
  have ht255 := tagB_le htag
  have HBD := Lib.hid hbody
  have HPE := Lib.hid (put_eq t b nst es)
  clear hf hf1 hbody ih hp3 hp4 hbl hbn hlen htag
  have tok1 : True := trivial
  go_enter Try.func47, Try.ntmps47
  go_wp2_with (at_builtin; have _t := tok1; refine wpList_appF (T := fun _ => False) (a0 := w.alloc (.cells #[.int .i64 t, .slice Ab nb cb, .bool nst, .slice Ae ne ce] 29)) sl22 (by rfl) _ _ (by rfl) (by exact (Ext.refl _).alloc _) (by exact OwnT.madeAt (w.heap.size + 1) (by simp) (n := 0) (us := []) (cs := bytesC []) (S := fun _ => False) rfl (by simp [maxLen]) ⟨rfl, fun _ _ _ h _ => by simp [bytesC] at h⟩ (fun _ h => h.elim) (Nat.le_refl _)) (by rfl) (by rfl) (by exact hb.ext (((Ext.refl _).alloc _).alloc _)) (bytesC_flat b) (by simp [bytesC]; omega) ?_; intro A1 n1 c1 w1 hown1 hx1 _ _; clear tok1)
  go_loopw [3, 4] (fun o i wr => ∃ (k : Nat) (A2 : Option Addr) (n2 c2 : Nat), k ≤ ne ∧ i = .int .i64 k ∧ o = .slice A2 n2 c2 ∧ Ext (w.alloc (.cells #[.int .i64 t, .slice Ab nb cb, .bool nst, .slice Ae ne ce] 29)) wr ∧ OwnT (fun _ => False) wr (w.alloc (.cells #[.int .i64 t, .slice Ab nb cb, .bool nst, .slice Ae ne ce] 29)).heap.size 5 1 (.slice A2 n2 c2) (bytesC (b ++ putAll (es.take k)))) (fun _ i _ => ne - (intOf i).toNat)
  case atStart => exact ⟨0, A1, n1, c1, by omega, rfl, rfl, hx1, by simpa [putAll, bytesC] using hown1⟩
  case round =>
    obtain ⟨k, A2, n2, c2, hk, rfl, rfl, hx, hown⟩ := hrel
    have hc3 := hx.box (i := 3) (v := .slice Ae ne ce) rfl
    have hc0 := hx.box (i := 0) (v := .int .i64 t) rfl
    by_cases hlt : k < ne
    · obtain ⟨ad, t', b', nst', es', Ab', nb', cb', Ae', ne', ce', rfl, -, hd, hv, c0, c1, c2, c3⟩ := (he.ext (((Ext.refl _).alloc _).trans hx)).elem hlt
      have HV := Lib.hid hv
      have HD := Lib.hid hd
      have h4 := HP4.out _ (List.mem_of_getElem? hd)
      have h3 := HP3.out k
      clear hv hd
      go_wp2_with (first | (go_at_call 47; refine (HI.out _ (List.mem_of_getElem? HD.out) _ _ HV.out (HF.out _ (List.mem_of_getElem? HD.out)) (by omega)).mono ?_; rintro e w2 ⟨A3, n3, c3, rfl, hown3, hx3⟩; have hr3 := hown3.rd) | (at_builtin; refine wpList_appF (T := fun _ => False) (a0 := w.alloc (.cells #[.int .i64 t, .slice Ab nb cb, .bool nst, .slice (some ad) ne ce] 29)) sl22 (by rfl) _ _ (by rfl) (by exact hx.trans hx3) (by exact hown.ext hx3) (by rfl) (by rfl) (by exact hr3) (bytesC_flat _) (by simp only [bytesC_length, List.length_append]; omega) ?_; intro A4 n4 c4 w4 hown4 hx4 _ _))
      go_roundw
      case rel => exact ⟨k + 1, A4, n4, c4, by omega, by go_num, rfl, hx4, by rw [putAll_take_succ HD.out, ← List.append_assoc, bytesC_append]; exact hown4⟩
      case measure => simp [intOf]; omega
    · have hall : Hid (es.take k = es) := take_all HE hlt
      have hn2 := (RdC.blen hown.rd).1
      have h3 := HP3.out k
      rw [List.length_append] at hn2
      have hn2' : n2 ≤ 1000000000 := by omega
      have HN2 : Hid ((b ++ putAll (es.take k)).length = n2) := by show _ = _; rw [List.length_append]; exact hn2
      clear hn2
      go_wp2
      go_region_law (first
        | (refine step_appF (T := fun _ => False) (a0 := wr) sl22 (by rfl) _ _ (by rfl) (by first | exact hE | exact hE.alloc _) (by first | exact ((OwnT.madeAt wr.heap.size rfl (n := 1) (us := [.int .u8 _]) (cs := bytesC [UInt8.ofNat (t.toNat % 256)]) (S := fun _ => False) rfl (by simp [maxLen]) (rdByte (by rw [byteNat, u8wrap]; omega)) (fun _ h => h.elim) (Nat.le_refl _)).ext (Ext.drew (Ext.refl _))).ext hx3 | exact OwnT.madeAt w2.heap.size rfl (n := 1) (us := [.int .u8 _]) (cs := bytesC [UInt8.ofNat (t.toNat % 256)]) (S := fun _ => False) rfl (by simp [maxLen]) (rdByte (by rw [byteNat, u8wrap]; omega)) (fun _ h => h.elim) hE.size) (by rfl) (by rfl) (by first | exact hr3 | exact hr3.new_rd.ext ((Ext.refl _).alloc _)) (bytesC_flat _) (by simp only [bytesC_length, List.length_singleton]; have := lenB_le (n := n2) (by omega); omega) ?_; intro A5 n5 c5 w5 hown5 hx5 hg5 hr5)
        | (refine step_appF (T := fun _ => False) (a0 := wr) sl22 (by rfl) _ _ (by rfl) (by exact hx5) (by exact hown5) (by rfl) (by rfl) (by exact hown.rd.ext hx5) (bytesC_flat _) (by simp only [bytesC_length, List.length_append, List.length_singleton]; have := lenB_le (n := n2) (by omega); omega) ?_; intro A6 n6 c6 w6 hown6 hx6 hg6 hr6)
        | (go_simp; go_at_call 70; refine (rlength_any n2 (by omega) _).mono ?_; rintro e w2 ⟨A3, n3, c3, rfl, hr3, hx3⟩; have hE : Ext wr w2 := (by first | exact Ext.trans (Ext.drew (Ext.refl _)) hx3 | exact Ext.trans (Ext.drew (Ext.alloc (Ext.refl _) _)) hx3 | exact Ext.trans (Ext.alloc (Ext.drew (Ext.refl _)) _) hx3); have hc02 := (hx.trans hE).box (i := 0) (v := .int .i64 t) rfl))
      all_goals
        go_wp2
        go_ret
        refine ⟨A6, n6, c6, rfl, ?_, (((Ext.refl _).alloc _).trans hx).trans hx6⟩
        have h6 := hown6
        rw [← bytesC_append, ← bytesC_append] at h6
        rw [HPE.out, HBD.out, ← hall.out, HN2.out]
        exact h6.more (((Ext.refl _).alloc _).trans hx).size

theorem rput_any : ∀ (k : Nat) (d : V), d.depth ≤ k → PutOf 47 d := by
  intro k
  induction k with
  | zero => intro d hd; cases d; simp [V.depth] at hd
  | succ k ih =>
    intro d hd
    obtain ⟨t, b, nst, es⟩ := d
    exact put_step t b nst es fun d' hm => ih d' (by have := depthAll_mem hm; rw [V.depth] at hd; omega)
end Go.Proofs.Ythohienbmhohjaa
