/- The walks: Decode by the reference, All by both. -/
import Derived.Test.YthohienbmhohjaaW28
namespace Go.Proofs.Ythohienbmhohjaa
open Go.RowKit

/-- The first cells of a list. -/
theorem RdC.elem0 {w : World} {S : Nat → Prop} {d : V} {es : List V} {n cap : Nat} {A : Option Addr} (h : RdC w S (.sl 4 (encs (d :: es))) (.slice A n cap)) :
    ∃ ad t b nst es' Ab nb cb Ae ne ce, A = some ad ∧ S ad.block ∧ d = .mk t b nst es' ∧ RdV w S (.mk t b nst es') (.agg #[.int .i64 t, .slice Ab nb cb, .bool nst, .slice Ae ne ce]) ∧ (-9223372036854775808 ≤ t ∧ t ≤ 9223372036854775807) ∧
      w.cell? ad = some (.int .i64 t) ∧ w.cell? { block := ad.block, off := ad.off + 1 } = some (.slice Ab nb cb) ∧ w.cell? { block := ad.block, off := ad.off + 2 } = some (.bool nst) ∧ w.cell? { block := ad.block, off := ad.off + 3 } = some (.slice Ae ne ce) ∧
      RdC w S (.sl 1 (bytesC b)) (.slice Ab nb cb) ∧ RdC w S (.sl 4 (encs es')) (.slice Ae ne ce) := by
  have hl := (RdC.len h).1
  rw [encs_length] at hl
  simp only [List.length_cons] at hl
  obtain ⟨ad, hA, hS, hc⟩ := RdC.cells h (by omega)
  obtain ⟨t, b, nst, es'⟩ := d
  have e := encs_at (V.mk t b nst es' :: es) 0 (.mk t b nst es') rfl
  obtain ⟨u0, c0, r0⟩ := hc (0 * 4 + 0) (.int .i64 t) ((e 0 (by omega)).trans rfl)
  obtain ⟨u1, c1, r1⟩ := hc (0 * 4 + 1) (.sl 1 (bytesC b)) ((e 1 (by omega)).trans rfl)
  obtain ⟨u2, c2, r2⟩ := hc (0 * 4 + 2) (.bool nst) ((e 2 (by omega)).trans rfl)
  obtain ⟨u3, c3, r3⟩ := hc (0 * 4 + 3) (.sl 4 (encs es')) ((e 3 (by omega)).trans rfl)
  obtain ⟨rfl, hb⟩ := r0.int_
  have := r2.bool_
  subst this
  have hb : -9223372036854775808 ≤ t ∧ t ≤ 9223372036854775807 := hb
  have hv : RdV w S (.mk t b nst es') (.agg #[.int .i64 t, u1, .bool nst, u3]) := RdV.mk_ hb r1 r3
  obtain ⟨Ab, nb, cb, rfl, -⟩ := RdC.slice r1
  obtain ⟨Ae, ne, ce, rfl, -⟩ := RdC.slice r3
  exact ⟨ad, t, b, nst, es', Ab, nb, cb, Ae, ne, ce, hA, hS, rfl, hv, hb, by simpa [Addr.add] using c0, by simpa [Addr.add] using c1, by simpa [Addr.add] using c2, by simpa [Addr.add] using c3, r1, r3⟩

theorem decAll_none_nil {l : List UInt8} (h : decAll l = some []) : l = [] := by
  by_cases hn : l = []
  · exact hn
  rw [decAll_eq hn] at h
  cases ho : decOne l with
  | none => rw [ho] at h; cases h
  | some p => rw [ho] at h; obtain ⟨a, _, h⟩ := Option.map_eq_some_iff.1 h; cases h
theorem dec_single {l : List UInt8} {d : V} (h : decAll l = some [d]) : decOne l = some (d, l.length) := by
  have hn : l ≠ [] := by rintro rfl; rw [decAll_nil] at h; cases h
  rw [decAll_eq hn] at h
  cases ho : decOne l with
  | none => rw [ho] at h; cases h
  | some p =>
    obtain ⟨v, m⟩ := p
    rw [ho] at h
    obtain ⟨a, ha, h⟩ := Option.map_eq_some_iff.1 h
    injection h with h1 h2
    subst h1 h2
    have h3 := congrArg List.length (decAll_none_nil ha)
    have hm := decOne_le ho
    rw [List.length_drop] at h3
    simp at h3
    rw [show m = l.length by omega]
theorem dec_back {l : List UInt8} {d : V} (h : decOne l = some (d, l.length)) : decAll l = some [d] := by
  have hn : l ≠ [] := by rintro rfl; cases h
  rw [decAll_eq hn, h]
  dsimp only
  rw [List.drop_length, decAll_nil]; rfl
theorem decE_other {l : List UInt8} (h : ¬ 4096 < l.length) (hd : ∀ d, decAll l ≠ some [d]) : decE l = 1 := by
  cases ho : decOne l with
  | none => exact decE_none h ho
  | some p =>
    obtain ⟨d, m⟩ := p
    rw [decE_some h ho, if_pos]
    rintro rfl
    exact hd d (dec_back ho)

set_option maxRecDepth 100000 in
set_option maxHeartbeats 800000 in
theorem rdecode_any (l : List UInt8) (A : Option Addr) (n c : Nat) (w : World) (h : Rd w (.sl 1 (bytesC l)) (.slice A n c)) :
    Calls Try.prog 48 #[.slice A n c] w fun e w' => DecRes w l e w' := by
  obtain ⟨hl, hnc, hcap⟩ := RdC.blen h
  unfold maxLen at hcap
  have HR := Lib.hid h
  by_cases hbig : 4096 < n
  · have HE := Lib.hid (decE_long (l := l) (by omega))
    clear hl
    go_enter Try.func48, Try.ntmps48
    go_wp2
    exact bodyPost_ret (v := .tuple #[.agg #[.int .i64 0, .slice none 0 0, .bool false, .slice none 0 0], .int .i64 3]) (by simp [results, Try.results48, go_sem]) rfl (DecRes.no 3 HE.out (by decide) rfl ((Ext.refl _).alloc _))
  have HN := Lib.hid (rall_any _ l (Nat.le_refl _) (by omega))
  cases hd : decAll l with
  | none =>
    have HE := Lib.hid (decE_other (l := l) (by omega) (by rw [hd]; intro d e; cases e))
    have HD := Lib.hid hd
    clear hl hd
    go_enter Try.func48, Try.ntmps48
    go_wp2_with (go_at_call 71; refine (HN.out _ _ _ _ (by exact HR.out.ext ((Ext.refl _).alloc _))).mono ?_; intro e w2 hR; obtain ⟨rfl, hx2⟩ := hR.of_none HD.out; obtain ⟨⟨q0, q1, q2, q3⟩, ⟨f0, f1, f2, f3⟩⟩ := four hx2.blk)
    have hX0 := ((Ext.refl _).alloc _).trans hx2
    exact bodyPost_ret (v := .tuple #[.agg #[.int .i64 0, .slice none 0 0, .bool false, .slice none 0 0], .int .i64 1]) (by simp [results, Try.results48, go_sem, q0, q1, q2, q3, f0, f1, f2, f3]) rfl (DecRes.no 1 HE.out (by decide) rfl ((((hX0.setCell (Nat.le_refl _) _).setCell (Nat.le_refl _) _).setCell (Nat.le_refl _) _).setCell (Nat.le_refl _) _))
  | some es =>
    have HD := Lib.hid hd
    by_cases h1 : es.length ≠ 1
    · have HE := Lib.hid (decE_other (l := l) (by omega) (by rw [hd]; intro d e; injection e with e; subst e; exact h1 rfl))
      clear hl hd
      have H1 := Lib.hid h1
      go_enter Try.func48, Try.ntmps48
      go_wp2_with (go_at_call 71; refine (HN.out _ _ _ _ (by exact HR.out.ext ((Ext.refl _).alloc _))).mono ?_; intro e w2 hR; obtain ⟨A2, n2, c2, rfl, hr2, hx2⟩ := hR.of_some HD.out; have hne2 : ((n2 : Int) != 1) = true := (by have h2 := (RdC.len hr2).1; rw [encs_length] at h2; have h3 := H1.out; simp; omega); obtain ⟨⟨q0, q1, q2, q3⟩, ⟨f0, f1, f2, f3⟩⟩ := four hx2.blk)
      have hX0 := ((Ext.refl _).alloc _).trans hx2
      exact bodyPost_ret (v := .tuple #[.agg #[.int .i64 0, .slice none 0 0, .bool false, .slice none 0 0], .int .i64 1]) (by simp [results, Try.results48, go_sem, q0, q1, q2, q3, f0, f1, f2, f3]) rfl (DecRes.no 1 HE.out (by decide) rfl ((((hX0.setCell (Nat.le_refl _) _).setCell (Nat.le_refl _) _).setCell (Nat.le_refl _) _).setCell (Nat.le_refl _) _))
    obtain ⟨d, rfl⟩ : ∃ d, es = [d] := by
      rcases es with _ | ⟨d, _ | ⟨d', es⟩⟩
      · simp at h1
      · exact ⟨d, rfl⟩
      · simp at h1
    have ho := dec_single hd
    have hE0 := decE_some (l := l) (by omega) ho
    rw [if_neg (by simp)] at hE0
    have hdep := decOne_depth ho
    have HO := Lib.hid ho
    rw [hl] at hdep
    clear hd hl h ho h1
    obtain ⟨t, b, nst, es⟩ := d
    have hdep2 : (V.mk t b nst es).depth ≤ 1000000 := by omega
    by_cases hd16 : 16 < (V.mk t b nst es).depth
    · have HE : Hid (decE l = 3) := by show _ = _; rw [hE0, if_pos hd16]
      clear hE0
      go_enter Try.func48, Try.ntmps48
      go_wp2_with (first
        | (go_at_call 71; refine (HN.out _ _ _ _ (by exact HR.out.ext ((Ext.refl _).alloc _))).mono ?_; intro e w2 hR; obtain ⟨A2, n2, c2, rfl, hr2, hx2⟩ := hR.of_some HD.out; have hn2 := (RdC.len hr2).1; rw [encs_length] at hn2; simp only [List.length_singleton] at hn2; obtain rfl : n2 = 1 := (by omega); obtain ⟨ad, t', b', nst', es', Ab, nb, cb, Ae, ne, ce, rfl, hS, hdd, hv, ht2, c0, c1, c2, c3, hrb, hre⟩ := RdC.elem0 hr2; injection hdd with d1 d2 d3 d4; subst d1 d2 d3 d4; have HV2 := Lib.hid hv)
        | (go_at_call 46; refine (rdepth_any _ _ _ _ (Nat.le_refl _) hdep2 (by exact HV2.out.new_rd)).mono ?_; rintro e w4 ⟨rfl, hx4⟩; have hxB := hx2.trans hx4; obtain ⟨⟨q0, q1, q2, q3⟩, ⟨f0, f1, f2, f3⟩⟩ := four hxB.blk))
      have hX0 := ((Ext.refl _).alloc _).trans hxB
      exact bodyPost_ret (v := .tuple #[.agg #[.int .i64 0, .slice none 0 0, .bool false, .slice none 0 0], .int .i64 3]) (by simp [results, Try.results48, go_sem, q0, q1, q2, q3, f0, f1, f2, f3]) rfl (DecRes.no 3 HE.out (by decide) rfl ((((hX0.setCell (Nat.le_refl _) _).setCell (Nat.le_refl _) _).setCell (Nat.le_refl _) _).setCell (Nat.le_refl _) _))
    · have HE : Hid (decE l = 0) := by show _ = _; rw [hE0, if_neg hd16]
      clear hE0
      go_enter Try.func48, Try.ntmps48
      go_wp2_with (first
        | (go_at_call 71; refine (HN.out _ _ _ _ (by exact HR.out.ext ((Ext.refl _).alloc _))).mono ?_; intro e w2 hR; obtain ⟨A2, n2, c2, rfl, hr2, hx2⟩ := hR.of_some HD.out; have hn2 := (RdC.len hr2).1; rw [encs_length] at hn2; simp only [List.length_singleton] at hn2; obtain rfl : n2 = 1 := (by omega); obtain ⟨ad, t', b', nst', es', Ab, nb, cb, Ae, ne, ce, rfl, hS, hdd, hv, ht2, c0, c1, c2, c3, hrb, hre⟩ := RdC.elem0 hr2; injection hdd with d1 d2 d3 d4; subst d1 d2 d3 d4; have HV2 := Lib.hid hv)
        | (go_at_call 46; refine (rdepth_any _ _ _ _ (Nat.le_refl _) hdep2 (by exact HV2.out.new_rd)).mono ?_; rintro e w4 ⟨rfl, hx4⟩; have hxB := hx2.trans hx4; obtain ⟨⟨q0, q1, q2, q3⟩, ⟨f0, f1, f2, f3⟩⟩ := four hxB.blk; have k0 := (hx4.cell (p := ad) hS.2).trans c0; have k1 := (hx4.cell (p := ⟨ad.block, ad.off + 1, none⟩) hS.2).trans c1; have k2 := (hx4.cell (p := ⟨ad.block, ad.off + 2, none⟩) hS.2).trans c2; have k3 := (hx4.cell (p := ⟨ad.block, ad.off + 3, none⟩) hS.2).trans c3))
      obtain ⟨g1, g2⟩ := fin4 hxB (t := t) (b := b) (nst := nst) (es := es) ht2 (hrb.new_ext hx4) (hre.new_ext hx4) rfl
      exact bodyPost_ret (v := .tuple #[.agg #[.int .i64 t, .slice Ab nb cb, .bool nst, .slice Ae ne ce], .int .i64 0]) (by simp [results, Try.results48, go_sem, q0, q1, q2, q3, f0, f1, f2, f3]) rfl (DecRes.yes HE.out HO.out rfl g1 g2)
end Go.Proofs.Ythohienbmhohjaa
