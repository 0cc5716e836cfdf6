/- How many elements an element has, itself included: the plain count, and the walk. -/
import Derived.Test.YthohienbmhohjaaW31
import Derived.BigGuardPart
namespace Go.Proofs.Ythohienbmhohjaa
open Go.RowKit

mutual
def V.cnt : V → Nat
  | .mk _ b _ es => 1 + b.length / 64 + cntAll es
def cntAll : List V → Nat
  | [] => 0
  | v :: vs => v.cnt + cntAll vs
end
theorem cntAll_append : ∀ a b : List V, cntAll (a ++ b) = cntAll a + cntAll b
  | [], b => by simp [cntAll]
  | v :: vs, b => by rw [List.cons_append, cntAll, cntAll, cntAll_append vs b, Nat.add_assoc]
theorem cntAll_take_succ {es : List V} {k : Nat} {d : V} (h : es[k]? = some d) : cntAll (es.take (k + 1)) = cntAll (es.take k) + d.cnt := by
  obtain ⟨hk, e⟩ := List.getElem?_eq_some_iff.1 h
  rw [List.take_succ_eq_append_getElem hk, cntAll_append, e, cntAll, cntAll, Nat.add_zero]
mutual
theorem cnt_depth : ∀ d : V, d.depth ≤ d.cnt
  | .mk t b n es => by rw [V.depth, V.cnt]; have := cntAll_depth es; omega
theorem cntAll_depth : ∀ es : List V, depthAll es ≤ cntAll es
  | [] => by simp [depthAll, cntAll]
  | d :: ds => by rw [depthAll, cntAll]; have := cnt_depth d; have := cntAll_depth ds; omega
end
mutual
theorem cnt_wt : ∀ d : V, d.wt ≤ 64 * d.cnt
  | .mk t b n es => by rw [V.wt, V.cnt]; have := cntAll_wt es; omega
theorem cntAll_wt : ∀ es : List V, wtAll es ≤ 64 * cntAll es
  | [] => by simp [wtAll, cntAll]
  | d :: ds => by rw [wtAll, cntAll]; have := cnt_wt d; have := cntAll_wt ds; omega
end
mutual
theorem cnt_put : ∀ d : V, d.cnt ≤ 1000000 → d.put.length ≤ 72 * d.cnt
  | .mk t b n es, h => by
    rw [V.cnt] at h ⊢
    have h1 := cntAll_put es (by omega)
    have hb : (V.mk t b n es).body.length ≤ max b.length (putAll es).length := by
      cases n
      · simp [V.body]; omega
      · simp [V.body]; omega
    have h2 := lenB_le (n := (V.mk t b n es).body.length) (by omega)
    rw [put_eq]
    simp
    omega
theorem cntAll_put : ∀ es : List V, cntAll es ≤ 1000000 → (putAll es).length ≤ 72 * cntAll es
  | [], _ => by simp [putAll, cntAll]
  | d :: ds, h => by
    rw [cntAll] at h ⊢
    rw [putAll, List.length_append]
    have := cnt_put d (by omega)
    have := cntAll_put ds (by omega)
    omega
end

/-- What Size hands back: the count, where it is not above what is allowed. -/
def SizeOf (d : V) : Prop := ∀ (m : Nat) (x : Int) (v : Value) (w : World), x = (m : Int) → m ≤ 400 → RdVal w d v → Calls Try.prog 60 #[v, .int .i64 x] w fun e w' =>
  ∃ r : Nat, e = .returned (.int .i64 (r : Nat)) ∧ (r ≤ m → r = d.cnt) ∧ r ≤ m + 144115188075855872 ∧ Ext w w'

set_option maxRecDepth 100000 in
set_option maxHeartbeats 1600000 in
theorem size_step (t : Int) (b : List UInt8) (nst : Bool) (es : List V) (ih : ∀ d ∈ es, SizeOf d) : SizeOf (.mk t b nst es) := by
  intro m x v w hx hm h
  subst hx
  have HV := Lib.hid h
  obtain ⟨Ab, nb, cb, Ae, ne, ce, rfl, ht, hb, he, HB, HE, hnb, hne⟩ := h.opened
  have HI := Lib.hid ih
  have HEr := Lib.hid he
  have HC : Hid ((V.mk t b nst es).cnt = 1 + nb / 64 + cntAll es) := by show _ = _; rw [V.cnt, HB.out]
  clear h ih he hb
  go_enter Try.func60, Try.ntmps60
  go_wp2
  go_loopw [5, 6] (fun s i wr => ∃ (k q : Nat), k ≤ ne ∧ i = .int .i64 (k : Nat) ∧ s = .int .i64 (q : Nat) ∧ Hid (q ≤ m → q = 1 + nb / 64 + cntAll (es.take k)) ∧ q ≤ m + 144115188075855872 ∧ Ext (w.alloc (.cells #[.int .i64 t, .slice Ab nb cb, .bool nst, .slice Ae ne ce] 29)) wr) (fun _ i _ => ne - (intOf i).toNat)
  case atStart => exact ⟨0, 1 + nb / 64, by omega, rfl, by go_num, fun _ => by simp [cntAll], by omega, Ext.refl _⟩
  case round =>
    obtain ⟨k, q, hk, rfl, rfl, HQ, hq, hx⟩ := hrel
    obtain ⟨⟨q0, q1, q2, q3⟩, ⟨f0, f1, f2, f3⟩⟩ := four hx.blk
    by_cases hlt : k < ne ∧ q ≤ m
    · obtain ⟨hlt, hqm⟩ := hlt
      obtain ⟨ad, t', b', nst', es', Ab', nb', cb', Ae', ne', ce', rfl, -, hd, hv, c0, c1, c2, c3⟩ := (HEr.out.ext (((Ext.refl _).alloc _).trans hx)).elem hlt
      have HV' := Lib.hid hv
      have HD := Lib.hid hd
      clear hv hd
      go_wp2_with (go_at_call 60; refine (HI.out _ (List.mem_of_getElem? HD.out) (m - q) _ _ wr (by omega) (by omega) HV'.out).mono ?_; rintro e w2 ⟨r, rfl, hr, hr2, hx2⟩; have HR := Lib.hid hr; clear hr)
      go_roundw
      case rel => exact ⟨k + 1, q + r, by omega, by go_num, by go_num, fun hle => by rw [cntAll_take_succ HD.out, HQ.out hqm, HR.out (by omega)]; omega, by omega, hx.trans hx2⟩
      case measure => simp [intOf]; omega
    · have hor : ne ≤ k ∨ m < q := by omega
      have HF : Hid (q ≤ m → q = (V.mk t b nst es).cnt) := fun hle => by rw [HC.out, HQ.out hle, take_all HE (by omega)]
      go_wp2
      all_goals
        go_ret
        exact ⟨q, ret_val rfl, HF.out, hq, ((Ext.refl _).alloc _).trans hx⟩
theorem dsize_any : ∀ (k : Nat) (d : V), d.depth ≤ k → SizeOf d := by
  intro k
  induction k with
  | zero => intro d hd; cases d; simp [V.depth] at hd
  | succ k ih =>
    intro d hd
    obtain ⟨t, b, nst, es⟩ := d
    exact size_step t b nst es fun d' hm => ih d' (by have := depthAll_mem hm; rw [V.depth] at hd; omega)
set_option maxRecDepth 100000 in
set_option maxHeartbeats 800000 in
theorem vlight_any (d : V) (v : Value) (w : World) (h : RdVal w d v) : Calls Try.prog 31 #[v] w fun e w' => ∃ r : Nat, e = .returned (.bool (decide ((r : Int) ≤ 400))) ∧ (r ≤ 400 → r = d.cnt) ∧ Ext w w' := by
  have HV := Lib.hid h
  obtain ⟨t, b, nst, es⟩ := d
  obtain ⟨Ab, nb, cb, Ae, ne, ce, rfl, -⟩ := h.opened
  clear h
  go_enter Try.func31, Try.ntmps31
  go_wp2_with (go_at_call 60; refine (dsize_any _ (.mk t b nst es) (Nat.le_refl _) 400 _ _ _ (by rfl) (by omega) (by exact HV.out.ext ((Ext.refl _).alloc _))).mono ?_; rintro e w2 ⟨r, rfl, hr, hr2, hx2⟩; have HR := Lib.hid hr; clear hr)
  go_ret
  exact ⟨r, ret_val rfl, HR.out, ((Ext.refl _).alloc _).trans hx2⟩
end Go.Proofs.Ythohienbmhohjaa
