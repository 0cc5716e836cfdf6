/- The walks: Decode and All, by the program and by the reference. -/
import Derived.Test.YthohienbmhohjaaW27
namespace Go.Proofs.Ythohienbmhohjaa
open Go.RowKit

def zeroV : V := .mk 0 [] false []
/-- Which error Decode gives, and which element. -/
def decE (l : List UInt8) : Int := if 4096 < l.length then 3 else match decOne l with
  | none => 1
  | some (d, m) => if m ≠ l.length then 1 else if 16 < d.depth then 3 else 0
def decV (l : List UInt8) : V := if decE l = 0 then (match decOne l with | none => zeroV | some (d, _) => d) else zeroV
/-- Which error All gives, and which elements. -/
def allE (l : List UInt8) : Int := if 4096 < l.length then 3 else match decAll l with
  | none => 1
  | some es => if es.any (fun d => decide (16 < d.depth)) then 3 else 0
def allL (l : List UInt8) : List V := if allE l = 0 then (match decAll l with | none => [] | some es => es) else []

theorem dec_depth : ∀ (N : Nat) (l : List UInt8), l.length ≤ N → ∀ es, decAll l = some es → depthAll es ≤ l.length := by
  intro N
  induction N with
  | zero =>
    intro l hl es h
    have : l = [] := List.eq_nil_of_length_eq_zero (by omega)
    subst this
    rw [decAll_nil] at h
    injection h with h
    subst h
    simp [depthAll]
  | succ N ih =>
    intro l hl es h
    by_cases hn : l = []
    · subst hn
      rw [decAll_nil] at h
      injection h with h
      subst h
      simp [depthAll]
    rw [decAll_eq hn] at h
    cases ho : decOne l with
    | none => rw [ho] at h; cases h
    | some p =>
      obtain ⟨d, m⟩ := p
      rw [ho] at h
      dsimp only at h
      obtain ⟨es', h1, rfl⟩ := Option.map_eq_some_iff.1 h
      have hm := decOne_le ho
      have h2 := ih (l.drop m) (by rw [List.length_drop]; omega) es' h1
      rw [List.length_drop] at h2
      have h3 : d.depth ≤ l.length := by
        cases hh : hdr l with
        | none => rw [decOne_none hh] at ho; cases ho
        | some q =>
          obtain ⟨t, o, n⟩ := q
          rw [decOne_hdr hh] at ho
          have hb := hdr_le hh
          obtain ⟨a, ha, hq⟩ := Option.map_eq_some_iff.1 ho
          injection hq with hq _
          subst hq
          split at ha
          · obtain ⟨es2, h4, rfl⟩ := Option.map_eq_some_iff.1 ha
            have h5 := ih ((l.drop o).take n) (by rw [List.length_take, List.length_drop]; omega) es2 h4
            rw [List.length_take, List.length_drop] at h5
            rw [V.depth]
            omega
          · injection ha with ha
            subst ha
            rw [V.depth, depthAll]
            omega
      rw [depthAll]
      omega
theorem decOne_depth {l : List UInt8} {d : V} {m : Nat} (h : decOne l = some (d, m)) : d.depth ≤ l.length := by
  have hn : l ≠ [] := by rintro rfl; cases h
  have h1 := decOne_le h
  -- the element alone
  cases hh : hdr l with
  | none => rw [decOne_none hh] at h; cases h
  | some q =>
    obtain ⟨t, o, n⟩ := q
    rw [decOne_hdr hh] at h
    have hb := hdr_le hh
    obtain ⟨a, ha, hq⟩ := Option.map_eq_some_iff.1 h
    injection hq with hq _
    subst hq
    split at ha
    · obtain ⟨es2, h4, rfl⟩ := Option.map_eq_some_iff.1 ha
      have h5 := dec_depth _ ((l.drop o).take n) (Nat.le_refl _) es2 h4
      rw [List.length_take, List.length_drop] at h5
      rw [V.depth]
      omega
    · injection ha with ha
      subst ha
      rw [V.depth, depthAll]
      omega

def DecRes (w : World) (l : List UInt8) (e : Ending) (w' : World) : Prop := ∃ v, e = .returned (.tuple #[v, .int .i64 (decE l)]) ∧ RdV w' (New w w') (decV l) v ∧ Ext w w'
theorem DecRes.no {w w' : World} {l : List UInt8} {v : Value} (k : Int) (h : decE l = k) (hk : k ≠ 0) (hv : v = .tuple #[.agg #[.int .i64 0, .slice none 0 0, .bool false, .slice none 0 0], .int .i64 k]) (hx : Ext w w') : DecRes w l (.returned v) w' := by
  refine ⟨_, by rw [hv, h], ?_, hx⟩
  unfold decV
  rw [h, if_neg hk]
  exact RdV.mk_ (by omega) (RdC.nil_ 1) (RdC.nil_ 4)
theorem DecRes.yes {w w' : World} {l : List UInt8} {v u : Value} {d : V} {m : Nat} (h : decE l = 0) (hd : decOne l = some (d, m)) (hv : v = .tuple #[u, .int .i64 0]) (hr : RdV w' (New w w') d u) (hx : Ext w w') : DecRes w l (.returned v) w' := by
  refine ⟨_, by rw [hv, h], ?_, hx⟩
  unfold decV
  rw [if_pos h, hd]
  exact hr
theorem decE_long {l : List UInt8} (h : 4096 < l.length) : decE l = 3 := by unfold decE; rw [if_pos h]
theorem decE_none {l : List UInt8} (h : ¬ 4096 < l.length) (hd : decOne l = none) : decE l = 1 := by unfold decE; rw [if_neg h, hd]
theorem decE_some {l : List UInt8} (h : ¬ 4096 < l.length) {d : V} {m : Nat} (hd : decOne l = some (d, m)) : decE l = if m ≠ l.length then 1 else if 16 < d.depth then 3 else 0 := by unfold decE; rw [if_neg h, hd]

set_option maxRecDepth 100000 in
set_option maxHeartbeats 800000 in
theorem decode_any (l : List UInt8) (A : Option Addr) (n c : Nat) (w : World) (h : Rd w (.sl 1 (bytesC l)) (.slice A n c)) :
    Calls Try.prog 29 #[.slice A n c] w fun e w' => DecRes w l e w' := by
  obtain ⟨hl, hnc, hcap⟩ := RdC.blen h
  unfold maxLen at hcap
  have HR := Lib.hid h
  by_cases hbig : 4096 < n
  · have HE := Lib.hid (decE_long (l := l) (by omega))
    clear hl
    go_enter Try.func29, Try.ntmps29
    go_wp2
    exact bodyPost_ret (v := .tuple #[.agg #[.int .i64 0, .slice none 0 0, .bool false, .slice none 0 0], .int .i64 3]) (by simp [results, Try.results29, go_sem]) rfl (DecRes.no 3 HE.out (by decide) rfl ((Ext.refl _).alloc _))
  have HN := Lib.hid (next_any l (by omega))
  cases hd : decOne l with
  | none =>
    have HE := Lib.hid (decE_none (l := l) (by omega) hd)
    have HD := Lib.hid hd
    clear hl hd
    go_enter Try.func29, Try.ntmps29
    go_wp2_with (go_at_call 56; refine (HN.out _ _ _ _ (by exact HR.out.ext ((Ext.refl _).alloc _))).mono ?_; intro e w2 hR; obtain ⟨t2, b2, m2, rfl, hx2⟩ := hR.of_none HD.out; have hxA := hx2.alloc (.cells #[.int .i64 t2, .slice none 0 0, .bool b2, .slice none 0 0] 29); obtain ⟨⟨q0, q1, q2, q3⟩, ⟨f0, f1, f2, f3⟩⟩ := four hxA.blk)
    have hX0 := ((Ext.refl _).alloc _).trans hxA
    exact bodyPost_ret (v := .tuple #[.agg #[.int .i64 0, .slice none 0 0, .bool false, .slice none 0 0], .int .i64 1]) (by simp [results, Try.results29, go_sem, q0, q1, q2, q3, f0, f1, f2, f3]) rfl (DecRes.no 1 HE.out (by decide) rfl ((((hX0.setCell (Nat.le_refl _) _).setCell (Nat.le_refl _) _).setCell (Nat.le_refl _) _).setCell (Nat.le_refl _) _))
  | some p =>
    obtain ⟨d, m⟩ := p
    have hE0 := decE_some (l := l) (by omega) hd
    have HD := Lib.hid hd
    have hdep := decOne_depth hd
    obtain ⟨t, b, nst, es⟩ := d
    have hml := (decOne_le hd).2
    rw [hl] at hE0 hml hdep
    have HNX : Hid (Rd w (.sl 1 (bytesC l)) (.slice A n c)) := h
    clear hd hl h
    by_cases hmn : m ≠ n
    · have HE : Hid (decE l = 1) := by show _ = _; rw [hE0, if_pos hmn]
      have hmn' : ((m : Int) != n) = true := by simp; omega
      clear hE0
      go_enter Try.func29, Try.ntmps29
      go_wp2_with (go_at_call 56; refine (HN.out _ _ _ _ (by exact HR.out.ext ((Ext.refl _).alloc _))).mono ?_; intro e w2 hR; obtain ⟨v2, rfl, hr2, hx2⟩ := hR.of_some HD.out; obtain ⟨vb, ve, rfl, ht2, hrb, hre⟩ := hr2; obtain ⟨Ab, nb, cb, rfl, -⟩ := RdC.slice hrb; obtain ⟨Ae, ne, ce, rfl, -⟩ := RdC.slice hre; have hxA := hx2.alloc (.cells #[.int .i64 t, .slice Ab nb cb, .bool nst, .slice Ae ne ce] 29); obtain ⟨⟨q0, q1, q2, q3⟩, ⟨f0, f1, f2, f3⟩⟩ := four hxA.blk)
      have hX0 := ((Ext.refl _).alloc _).trans hxA
      exact bodyPost_ret (v := .tuple #[.agg #[.int .i64 0, .slice none 0 0, .bool false, .slice none 0 0], .int .i64 1]) (by simp [results, Try.results29, go_sem, q0, q1, q2, q3, f0, f1, f2, f3]) rfl (DecRes.no 1 HE.out (by decide) rfl ((((hX0.setCell (Nat.le_refl _) _).setCell (Nat.le_refl _) _).setCell (Nat.le_refl _) _).setCell (Nat.le_refl _) _))
    have hmn : m = n := by omega
    subst hmn
    rw [if_neg (by omega)] at hE0
    have hdep2 : (V.mk t b nst es).depth ≤ 1000000 := by omega
    by_cases hd16 : 16 < (V.mk t b nst es).depth
    · have HE : Hid (decE l = 3) := by show _ = _; rw [hE0, if_pos hd16]
      clear hE0
      go_enter Try.func29, Try.ntmps29
      go_wp2_with (first
        | (go_at_call 56; refine (HN.out _ _ _ _ (by exact HR.out.ext ((Ext.refl _).alloc _))).mono ?_; intro e w2 hR; obtain ⟨v2, rfl, hr2, hx2⟩ := hR.of_some HD.out; have HV2 := Lib.hid hr2; obtain ⟨vb, ve, rfl, ht2, hrb, hre⟩ := hr2; obtain ⟨Ab, nb, cb, rfl, -⟩ := RdC.slice hrb; obtain ⟨Ae, ne, ce, rfl, -⟩ := RdC.slice hre; have hxA := hx2.alloc (.cells #[.int .i64 t, .slice Ab nb cb, .bool nst, .slice Ae ne ce] 29))
        | (go_at_call 43; refine (depth_any _ _ _ _ (Nat.le_refl _) hdep2 (by exact HV2.out.new_rd.ext ((Ext.refl _).alloc _))).mono ?_; rintro e w4 ⟨rfl, hx4⟩; have hxB := hxA.trans hx4; obtain ⟨⟨q0, q1, q2, q3⟩, ⟨f0, f1, f2, f3⟩⟩ := four hxB.blk))
      have hX0 := ((Ext.refl _).alloc _).trans hxB
      exact bodyPost_ret (v := .tuple #[.agg #[.int .i64 0, .slice none 0 0, .bool false, .slice none 0 0], .int .i64 3]) (by simp [results, Try.results29, go_sem, q0, q1, q2, q3, f0, f1, f2, f3]) rfl (DecRes.no 3 HE.out (by decide) rfl ((((hX0.setCell (Nat.le_refl _) _).setCell (Nat.le_refl _) _).setCell (Nat.le_refl _) _).setCell (Nat.le_refl _) _))
    · have HE : Hid (decE l = 0) := by show _ = _; rw [hE0, if_neg hd16]
      clear hE0
      go_enter Try.func29, Try.ntmps29
      go_wp2_with (first
        | (go_at_call 56; refine (HN.out _ _ _ _ (by exact HR.out.ext ((Ext.refl _).alloc _))).mono ?_; intro e w2 hR; obtain ⟨v2, rfl, hr2, hx2⟩ := hR.of_some HD.out; have HV2 := Lib.hid hr2; obtain ⟨vb, ve, rfl, ht2, hrb, hre⟩ := hr2; obtain ⟨Ab, nb, cb, rfl, -⟩ := RdC.slice hrb; obtain ⟨Ae, ne, ce, rfl, -⟩ := RdC.slice hre; have hxA := hx2.alloc (.cells #[.int .i64 t, .slice Ab nb cb, .bool nst, .slice Ae ne ce] 29))
        | (go_at_call 43; refine (depth_any _ _ _ _ (Nat.le_refl _) hdep2 (by exact HV2.out.new_rd.ext ((Ext.refl _).alloc _))).mono ?_; rintro e w4 ⟨rfl, hx4⟩; have hxB := hxA.trans hx4; obtain ⟨⟨q0, q1, q2, q3⟩, ⟨f0, f1, f2, f3⟩⟩ := four hxB.blk; obtain ⟨⟨p0, p1, p2, p3⟩, -⟩ := four hx4.blk))
      have hX0 := ((Ext.refl _).alloc _).trans hxB
      obtain ⟨g1, g2⟩ := fin4 hxB (t := t) (b := b) (nst := nst) (es := es) ht2 ((hrb.new_ext ((Ext.refl _).alloc _)).new_ext hx4) ((hre.new_ext ((Ext.refl _).alloc _)).new_ext hx4) rfl
      exact bodyPost_ret (v := .tuple #[.agg #[.int .i64 t, .slice Ab nb cb, .bool nst, .slice Ae ne ce], .int .i64 0]) (by simp [results, Try.results29, go_sem, q0, q1, q2, q3, f0, f1, f2, f3]) rfl (DecRes.yes HE.out HD.out rfl g1 g2)
end Go.Proofs.Ythohienbmhohjaa
