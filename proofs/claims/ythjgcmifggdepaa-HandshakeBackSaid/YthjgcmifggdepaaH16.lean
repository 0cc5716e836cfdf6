/- The walks: a capture, by the program and by the reference. -/
import Derived.Test.YthjgcmifggdepaaH15
set_option linter.unusedSimpArgs false
set_option linter.unusedVariables false
namespace Go.Proofs.Ythjgcmifggdepaa
open Go.RowKit

structure Cp where
  h : Hl
  c : Ch
  e : Int
def noC (e : Int) : Cp := ⟨zH, zC, e⟩
def capD (l : List UInt8) : Cp :=
  if msgE l = 0 then
    if (decD (msgL l)).e = 0 then
      if bAt (msgL l) 0 = 1 then
        if (decD ((msgL l).drop (decD (msgL l)).n.toNat)).e = 0 then
          if bAt (msgL l) (decD (msgL l)).n.toNat = 2 ∧ (decD (msgL l)).n + (decD ((msgL l).drop (decD (msgL l)).n.toNat)).n = ((msgL l).length : Int) then ⟨(decD (msgL l)).h, (decD ((msgL l).drop (decD (msgL l)).n.toNat)).c, 0⟩
          else noC 1
        else noC (decD ((msgL l).drop (decD (msgL l)).n.toNat)).e
      else noC 1
    else noC (decD (msgL l)).e
  else noC (msgE l)
def CapRes (w : World) (d : Cp) (e : Ending) (w' : World) : Prop :=
  ∃ hv, e = .returned (.tuple #[hv, chV d.c, .int .i64 d.e]) ∧ RdH w' (New w w') d.h hv ∧ Ext w w'
theorem decH_le {l : List UInt8} {p : Hl × Nat} (h : decH l = some p) : 1 ≤ p.2 ∧ p.2 ≤ l.length := by
  unfold decH at h
  by_cases h1 : l.length < 3
  · rw [if_pos h1] at h; cases h
  rw [if_neg h1] at h
  by_cases h2 : l.length ≤ 3 + 2 * bAt l 2
  · rw [if_pos h2] at h; cases h
  rw [if_neg h2] at h
  by_cases h3 : l.length < 3 + 2 * bAt l 2 + 1 + bAt l (3 + 2 * bAt l 2)
  · rw [if_pos h3] at h; cases h
  rw [if_neg h3] at h
  injection h with h
  subst h
  dsimp only
  omega
theorem decD_ok {l : List UInt8} (h : (decD l).e = 0) : ∃ k : Nat, (decD l).n = (k : Nat) ∧ 1 ≤ k ∧ k ≤ l.length := by
  unfold decD at h ⊢
  by_cases h1 : 0 < l.length ∧ bAt l 0 = 1
  · rw [if_pos h1] at h ⊢
    cases hd : decH l with
    | none => rw [hd] at h; exact absurd h (by decide)
    | some p =>
      rw [hd] at h
      dsimp only at h ⊢
      by_cases hb : helloB p.1 = true
      · rw [if_pos hb]
        exact ⟨p.2, rfl, decH_le hd⟩
      · rw [if_neg hb] at h; exact absurd h (by decide)
  · rw [if_neg h1] at h ⊢
    by_cases h2 : 8 ≤ l.length ∧ bAt l 0 = 2
    · rw [if_pos h2] at h ⊢
      by_cases hb : choiceB (chOf l) = true
      · rw [if_pos hb]
        exact ⟨8, rfl, by omega, h2.1⟩
      · rw [if_neg hb] at h; exact absurd h (by decide)
    · rw [if_neg h2] at h; exact absurd h (by decide)
theorem msgs_le : ∀ (k : Nat) (l m : List UInt8), l.length ≤ k → msgs l = some m → m.length ≤ l.length
  | k, [], m, _, h => by rw [msgs_nil] at h; injection h with h; subst h; simp
  | 0, x :: l, m, hk, h => by simp at hk
  | k + 1, x :: l, m, hk, h => by
    cases hr : recN (x :: l) with
    | none => rw [msgs_none (by simp) hr] at h; cases h
    | some n =>
      rw [msgs_some hr] at h
      have hn := recN_le hr
      cases hm : msgs ((x :: l).drop (3 + n)) with
      | none => rw [hm] at h; cases h
      | some m' =>
        rw [hm] at h
        simp only [Option.map_some, Option.some.injEq] at h
        have := msgs_le k _ m' (by rw [List.length_drop]; omega) hm
        rw [← h, List.length_append, List.length_take, List.length_drop]
        rw [List.length_drop] at this
        omega
theorem msgL_le (l : List UInt8) : (msgL l).length ≤ 16384 := by
  unfold msgL
  split
  · simp
  · split
    · simp
    · rename_i m hm
      have := msgs_le _ l m (Nat.le_refl _) hm
      omega
theorem DecRes.open_ {w w' : World} {d : Dc} {e : Ending} (h : DecRes w d e w') : ∃ A n c A' n' c', e = .returned (.tuple #[.agg #[.int .i64 d.h.most, .slice A n c, .slice A' n' c'], .agg #[.int .i64 d.c.ver, .int .i64 d.c.suite, .int .i64 d.c.key], .int .i64 d.n, .int .i64 d.e]) ∧ RdH w' (New w w') d.h (.agg #[.int .i64 d.h.most, .slice A n c, .slice A' n' c']) ∧ Ext w w' := by
  obtain ⟨hv, he, ⟨v1, v2, rfl, hm, h1, h2⟩, hx⟩ := h
  obtain ⟨A, n, c, rfl, -⟩ := RdC.slice h1
  obtain ⟨A', n', c', rfl, -⟩ := RdC.slice h2
  exact ⟨A, n, c, A', n', c', he, ⟨_, _, rfl, hm, h1, h2⟩, hx⟩
theorem byte0 {w : World} {S : Nat → Prop} {l : List UInt8} {n c z : Nat} {ad : Addr} (hz : bAt l 0 = z) (h : RdC w S (.sl 1 (bytesC l)) (.slice (some ad) n c)) (hn : 0 < n) : w.cell? ad = some (.int .u8 (z : Nat)) := by
  obtain ⟨ad', e, -, c0⟩ := bAt_cell h (k := 0) hn
  injection e with e
  subst e hz
  simpa [Addr.add] using c0
theorem byteK {w : World} {S : Nat → Prop} {l : List UInt8} {n c z k : Nat} {ad : Addr} (hz : bAt l k = z) (h : RdC w S (.sl 1 (bytesC l)) (.slice (some ad) n c)) (hn : k < n) : w.cell? (ad.add k) = some (.int .u8 (z : Nat)) := by
  obtain ⟨ad', e, -, c0⟩ := bAt_cell h (k := k) hn
  injection e with e
  subst e hz
  exact c0
theorem CapRes.none_ {w w' : World} {k : Int} (hx : Ext w w') : CapRes w (noC k) (.returned (.tuple #[.agg #[.int .i64 0, .slice none 0 0, .slice none 0 0], .agg #[.int .i64 0, .int .i64 0, .int .i64 0], .int .i64 k])) w' :=
  ⟨_, rfl, RdH.zero _ _, hx⟩
theorem capD1 {l : List UInt8} {D : Cp} (hD : capD l = D) (h : ¬ msgE l = 0) : D = noC (msgE l) := by rw [← hD]; unfold capD; rw [if_neg h]
theorem capD2 {l : List UInt8} {D : Cp} (hD : capD l = D) (h : msgE l = 0) (h2 : ¬ (decD (msgL l)).e = 0) : D = noC (decD (msgL l)).e := by rw [← hD]; unfold capD; rw [if_pos h, if_neg h2]
theorem capD3 {l : List UInt8} {D : Cp} (hD : capD l = D) (h : msgE l = 0) (h2 : (decD (msgL l)).e = 0) (h3 : ¬ bAt (msgL l) 0 = 1) : D = noC 1 := by rw [← hD]; unfold capD; rw [if_pos h, if_pos h2, if_neg h3]
theorem capD4 {l : List UInt8} {D : Cp} (hD : capD l = D) (h : msgE l = 0) (h2 : (decD (msgL l)).e = 0) (h3 : bAt (msgL l) 0 = 1) (h4 : ¬ (decD ((msgL l).drop (decD (msgL l)).n.toNat)).e = 0) : D = noC (decD ((msgL l).drop (decD (msgL l)).n.toNat)).e := by rw [← hD]; unfold capD; rw [if_pos h, if_pos h2, if_pos h3, if_neg h4]
theorem capD5 {l : List UInt8} {D : Cp} (hD : capD l = D) (h : msgE l = 0) (h2 : (decD (msgL l)).e = 0) (h3 : bAt (msgL l) 0 = 1) (h4 : (decD ((msgL l).drop (decD (msgL l)).n.toNat)).e = 0) (h5 : ¬ (bAt (msgL l) (decD (msgL l)).n.toNat = 2 ∧ (decD (msgL l)).n + (decD ((msgL l).drop (decD (msgL l)).n.toNat)).n = ((msgL l).length : Int))) : D = noC 1 := by rw [← hD]; unfold capD; rw [if_pos h, if_pos h2, if_pos h3, if_pos h4, if_neg h5]
theorem capD6 {l : List UInt8} {D : Cp} (hD : capD l = D) (h : msgE l = 0) (h2 : (decD (msgL l)).e = 0) (h3 : bAt (msgL l) 0 = 1) (h4 : (decD ((msgL l).drop (decD (msgL l)).n.toNat)).e = 0) (h5 : (bAt (msgL l) (decD (msgL l)).n.toNat = 2 ∧ (decD (msgL l)).n + (decD ((msgL l).drop (decD (msgL l)).n.toNat)).n = ((msgL l).length : Int))) : D = ⟨(decD (msgL l)).h, (decD ((msgL l).drop (decD (msgL l)).n.toNat)).c, 0⟩ := by rw [← hD]; unfold capD; rw [if_pos h, if_pos h2, if_pos h3, if_pos h4, if_pos h5]

set_option maxRecDepth 100000 in
set_option maxHeartbeats 5000000 in
theorem capture_any (l : List UInt8) (A : Option Addr) (n c : Nat) (w : World) (h : Rd w (.sl 1 (bytesC l)) (.slice A n c)) :
    Calls Try.prog 22 #[.slice A n c] w fun e w' => CapRes w (capD l) e w' := by
  have HR := Lib.hid h
  obtain ⟨D, hD⟩ : ∃ D, capD l = D := ⟨_, rfl⟩
  rw [hD]
  have hx2 : Ext w ((w.alloc (.cells #[.int .i64 0, .slice none 0 0, .slice none 0 0] 24)).alloc (.cells #[.int .i64 0, .int .i64 0, .int .i64 0] 26)) := ((Ext.refl w).alloc _).alloc _
  have HM0 := messages_any l _ _ _ _ (HR.out.ext hx2)
  clear h
  by_cases g1 : msgE l = 0
  case neg =>
    have e1 := capD1 hD g1
    subst e1
    obtain ⟨E, hE⟩ : ∃ E, msgE l = E := ⟨_, rfl⟩
    rw [hE] at g1 HM0
    rw [hE]
    have HM := Lib.hid HM0
    clear hD hE HM0
    go_enter Try.func22, Try.ntmps22
    go_wp2_with (go_at_call 24; refine HM.out.mono ?_; rintro e w3 ⟨A1, n1, c1, rfl, hown, hx3⟩; obtain ⟨R1, R2⟩ := res2 hx3; obtain ⟨⟨q0, q1, q2⟩, ⟨f0, f1, f2⟩⟩ := three R1; obtain ⟨⟨r0, r1, r2⟩, ⟨k0, k1, k2⟩⟩ := three R2; clear R1 R2)
    refine bodyPost_ret (v := .tuple #[.agg #[.int .i64 0, .slice none 0 0, .slice none 0 0], .agg #[.int .i64 0, .int .i64 0, .int .i64 0], .int .i64 E]) (by simp [results, Try.results22, go_sem, q0, q1, q2, f0, f1, f2, r0, r1, r2, k0, k1, k2]) rfl ?_
    have hxw := hx2.trans hx3
    exact CapRes.none_ ((((((hxw.setCell (by simp) _).setCell (by simp) _).setCell (by simp) _).setCell (by simp) _).setCell (by simp) _).setCell (by simp) _)
  rw [g1] at HM0
  have hml := msgL_le l
  obtain ⟨M, hM⟩ : ∃ M, msgL l = M := ⟨_, rfl⟩
  have HM := Lib.hid HM0
  have C2 := @capD2 _ _ hD g1
  have C3 := @capD3 _ _ hD g1
  have C4 := @capD4 _ _ hD g1
  have C5 := @capD5 _ _ hD g1
  have C6 := @capD6 _ _ hD g1
  rw [hM] at C2 C3 C4 C5 C6 HM hml
  have HDec := fun A n c w h => (decode_any M A n c w h (by have := (RdC.blen h).1; omega)).mono fun _ _ h => DecRes.open_ h
  have hok := @decD_ok M
  have HDec2 := fun k A n c w h => (decode_any (M.drop k) A n c w h (by have := (RdC.blen h).1; rw [List.length_drop] at this; omega)).mono fun _ _ h => DecRes.open_ h
  have hok2 := fun k => @decD_ok (M.drop k)
  clear hD hM HM0
  obtain ⟨D1, hD1⟩ : ∃ D1, decD M = D1 := ⟨_, rfl⟩
  rw [hD1] at C2 C3 C4 C5 C6 HDec hok
  obtain ⟨⟨m1, su1, ha1⟩, ⟨ve1, st1, ke1⟩, k1, E1⟩ := D1
  dsimp only at C2 C3 C4 C5 C6 HDec hok
  have HD := Lib.hid HDec
  clear HDec hD1
  by_cases g2 : E1 = 0
  case neg =>
    have e1 := C2 g2
    subst e1
    clear C3 C4 C5 C6 hok
    go_enter Try.func22, Try.ntmps22
    go_wp2_with (first
      | (go_at_call 24; refine HM.out.mono ?_; rintro e w3 ⟨A1, n1, c1, rfl, hown, hx3⟩)
      | (go_at_call 31; refine (HD.out _ _ _ _ hown.rd).mono ?_; rintro e w4 ⟨A2, n2, c2, A3, n3, c3, rfl, hrh, hx4⟩; have hx24 := ((hx3.trans hx4).alloc (.cells #[.int .i64 m1, .slice A2 n2 c2, .slice A3 n3 c3] 24)).alloc (.cells #[.int .i64 ve1, .int .i64 st1, .int .i64 ke1] 26); obtain ⟨R1, R2⟩ := res2 hx24; obtain ⟨⟨q0, q1, q2⟩, ⟨f0, f1, f2⟩⟩ := three R1; obtain ⟨⟨r0, r1, r2⟩, ⟨k0, k1, k2⟩⟩ := three R2; clear R1 R2))
    refine bodyPost_ret (v := .tuple #[.agg #[.int .i64 0, .slice none 0 0, .slice none 0 0], .agg #[.int .i64 0, .int .i64 0, .int .i64 0], .int .i64 E1]) (by simp [results, Try.results22, go_sem, q0, q1, q2, f0, f1, f2, r0, r1, r2, k0, k1, k2]) rfl ?_
    have hxw := hx2.trans hx24
    exact CapRes.none_ ((((((hxw.setCell (by simp) _).setCell (by simp) _).setCell (by simp) _).setCell (by simp) _).setCell (by simp) _).setCell (by simp) _)
  subst g2
  obtain ⟨k, hk, hk1, hk2⟩ := hok rfl
  subst hk
  simp only [Int.toNat_natCast] at C3 C4 C5 C6
  have hz0 := bAt_le M 0
  obtain ⟨z, hz⟩ : ∃ z, bAt M 0 = z := ⟨_, rfl⟩
  have HZ := Lib.hid hz
  rw [hz] at C3 C4 C5 C6 hz0
  clear C2 hok hz
  by_cases g3 : z = 1
  case neg =>
    have e1 := C3 trivial g3
    subst e1
    have g3i : ¬ (z : Int) = 1 := by omega
    clear C3 C4 C5 C6 g3
    go_enter Try.func22, Try.ntmps22
    go_wp2_with (first
      | (go_at_call 24; refine HM.out.mono ?_; rintro e w3 ⟨A1, n1, c1, rfl, hown, hx3⟩; have hln := (RdC.blen hown.rd).1; obtain ⟨ad, hA1, -, -⟩ := bAt_cell hown.rd (k := 0) (by omega); subst hA1; have HLN := Lib.hid hln; have i0 : (0 : Int) < (n1 : Int) := (by omega); clear hln)
      | (go_at_call 31; refine (HD.out _ _ _ _ hown.rd).mono ?_; rintro e w4 ⟨A2, n2, c2, A3, n3, c3, rfl, hrh, hx4⟩; have hx24 := ((hx3.trans hx4).alloc (.cells #[.int .i64 m1, .slice A2 n2 c2, .slice A3 n3 c3] 24)).alloc (.cells #[.int .i64 ve1, .int .i64 st1, .int .i64 ke1] 26); obtain ⟨R1, R2⟩ := res2 hx24; obtain ⟨⟨q0, q1, q2⟩, ⟨f0, f1, f2⟩⟩ := three R1; obtain ⟨⟨r0, r1, r2⟩, ⟨k0, k1, k2⟩⟩ := three R2; clear R1 R2; have cz := byte0 HZ.out (hown.rd.ext ((hx4.alloc (.cells #[.int .i64 m1, .slice A2 n2 c2, .slice A3 n3 c3] 24)).alloc (.cells #[.int .i64 ve1, .int .i64 st1, .int .i64 ke1] 26))) (by omega)))
    refine bodyPost_ret (v := .tuple #[.agg #[.int .i64 0, .slice none 0 0, .slice none 0 0], .agg #[.int .i64 0, .int .i64 0, .int .i64 0], .int .i64 1]) (by simp [results, Try.results22, go_sem, q0, q1, q2, f0, f1, f2, r0, r1, r2, k0, k1, k2]) rfl ?_
    have hxw := hx2.trans hx24
    exact CapRes.none_ ((((((hxw.setCell (by simp) _).setCell (by simp) _).setCell (by simp) _).setCell (by simp) _).setCell (by simp) _).setCell (by simp) _)
  subst g3
  have HDec2 := HDec2 k
  have hok2 := hok2 k
  obtain ⟨D2, hD2⟩ : ∃ D2, decD (M.drop k) = D2 := ⟨_, rfl⟩
  rw [hD2] at C4 C5 C6 HDec2 hok2
  obtain ⟨⟨m4, su4, ha4⟩, ⟨ve4, st4, ke4⟩, k4, E4⟩ := D2
  dsimp only at C4 C5 C6 HDec2 hok2
  have HD2 := Lib.hid HDec2
  clear HDec2 hD2 C3
  by_cases g4 : E4 = 0
  case neg =>
    have e1 := C4 trivial rfl g4
    subst e1
    clear C4 C5 C6 hok2
    go_enter Try.func22, Try.ntmps22
    have tok1 : True := trivial
    go_wp2_with (first
      | (go_at_call 24; refine HM.out.mono ?_; rintro e w3 ⟨A1, n1, c1, rfl, hown, hx3⟩; have hln := (RdC.blen hown.rd).1; have i3' : k ≤ n1 := (by omega); have i0' : 0 < n1 := (by omega); have HLN := Lib.hid hln; clear hln; obtain ⟨ad, hA1, -, -⟩ := bAt_cell hown.rd (k := 0) (by omega); subst hA1; have i0 : (0 : Int) < (n1 : Int) := (by omega); have i1 : (k : Int) ≤ (n1 : Int) := (by omega); have i2 : n1 ≤ c1 := (RdC.blen hown.rd).2.1; have i3 : k ≤ n1 := (by omega))
      | (go_at_call 31; have _t := tok1; refine (HD.out _ _ _ _ hown.rd).mono ?_; rintro e w4 ⟨A2, n2, c2, A3, n3, c3, rfl, hrh, hx4⟩; have hx24 := ((hx3.trans hx4).alloc (.cells #[.int .i64 m1, .slice A2 n2 c2, .slice A3 n3 c3] 24)).alloc (.cells #[.int .i64 ve1, .int .i64 st1, .int .i64 ke1] 26); have cz := byte0 HZ.out (hown.rd.ext ((hx4.alloc (.cells #[.int .i64 m1, .slice A2 n2 c2, .slice A3 n3 c3] 24)).alloc (.cells #[.int .i64 ve1, .int .i64 st1, .int .i64 ke1] 26))) (by omega); clear tok1)
      | (go_at_call 31; refine (HD2.out _ _ _ _ (Rd.ext (rd_suffix hown.rd i3) ((hx4.alloc _).alloc _))).mono ?_; rintro e w5 ⟨A4, n4, c4, A5, n5, c5, rfl, hrh5, hx5⟩; have hx26 := ((hx24.trans hx5).alloc (.cells #[.int .i64 m4, .slice A4 n4 c4, .slice A5 n5 c5] 24)).alloc (.cells #[.int .i64 ve4, .int .i64 st4, .int .i64 ke4] 26); obtain ⟨R1, R2⟩ := res2 hx26; obtain ⟨⟨q0, q1, q2⟩, ⟨f0, f1, f2⟩⟩ := three R1; obtain ⟨⟨r0, r1, r2⟩, ⟨k0, k1, k2⟩⟩ := three R2; clear R1 R2))
    all_goals
      refine bodyPost_ret (v := .tuple #[.agg #[.int .i64 0, .slice none 0 0, .slice none 0 0], .agg #[.int .i64 0, .int .i64 0, .int .i64 0], .int .i64 E4]) (by simp [results, Try.results22, go_sem, q0, q1, q2, f0, f1, f2, r0, r1, r2, k0, k1, k2]) rfl ?_
      have hxw := hx2.trans hx26
      exact CapRes.none_ ((((((hxw.setCell (by simp) _).setCell (by simp) _).setCell (by simp) _).setCell (by simp) _).setCell (by simp) _).setCell (by simp) _)
  subst g4
  obtain ⟨k2', hkk, hk3, hk4⟩ := hok2 rfl
  subst hkk
  rw [List.length_drop] at hk4
  have hy0 := bAt_le M k
  obtain ⟨y, hy⟩ : ∃ y, bAt M k = y := ⟨_, rfl⟩
  have HY := Lib.hid hy
  rw [hy] at C5 C6 hy0
  obtain ⟨L, hL⟩ : ∃ L, M.length = L := ⟨_, rfl⟩
  rw [hL] at C5 C6 hml hk2 hk4
  have HL := Lib.hid hL
  have hws : IntKind.i64.wrap ((k : Int) + (k2' : Int)) = (k : Int) + (k2' : Int) := by rw [IntKind.wrap_i64]; omega
  clear C4 hok2 hy hL
  by_cases g5 : y = 2
  case neg =>
    have e1 := C5 trivial rfl rfl (fun e => g5 e.1)
    subst e1
    have g5i : ¬ (y : Int) = 2 := by omega
    clear C5 C6 g5
    go_enter Try.func22, Try.ntmps22
    have tok1 : True := trivial
    go_wp2_with (first
      | (go_at_call 24; refine HM.out.mono ?_; rintro e w3 ⟨A1, n1, c1, rfl, hown, hx3⟩; have hnL : n1 = L := (by have := HL.out; have := (RdC.blen hown.rd).1; omega); subst hnL; have j1 : (k : Int) < (n1 : Int) := (by omega); have j2 : k < n1 := (by omega); have nck : ¬ c1 = k := (by have := (RdC.blen hown.rd).2.1; omega); have i4 : n1 - k ≤ c1 - k ∧ c1 - k ≤ maxLen := (by have := (RdC.blen hown.rd).2; omega); obtain ⟨ad, hA1, -, -⟩ := bAt_cell hown.rd (k := 0) (by omega); subst hA1; have i0 : (0 : Int) < (n1 : Int) := (by omega); have i1 : (k : Int) ≤ (n1 : Int) := (by omega); have i2 : n1 ≤ c1 := (RdC.blen hown.rd).2.1; have i3 : k ≤ n1 := (by omega))
      | (go_at_call 31; have _t := tok1; refine (HD.out _ _ _ _ hown.rd).mono ?_; rintro e w4 ⟨A2, n2, c2, A3, n3, c3, rfl, hrh, hx4⟩; have hx24 := ((hx3.trans hx4).alloc (.cells #[.int .i64 m1, .slice A2 n2 c2, .slice A3 n3 c3] 24)).alloc (.cells #[.int .i64 ve1, .int .i64 st1, .int .i64 ke1] 26); have cz := byte0 HZ.out (hown.rd.ext ((hx4.alloc (.cells #[.int .i64 m1, .slice A2 n2 c2, .slice A3 n3 c3] 24)).alloc (.cells #[.int .i64 ve1, .int .i64 st1, .int .i64 ke1] 26))) (by omega); clear tok1)
      | (go_at_call 31; refine (HD2.out _ _ _ _ (Rd.ext (RdC.from hown.rd (o := k) j2 rfl i4) ((hx4.alloc _).alloc _))).mono ?_; rintro e w5 ⟨A4, n4, c4, A5, n5, c5, rfl, hrh5, hx5⟩; have hx26 := ((hx24.trans hx5).alloc (.cells #[.int .i64 m4, .slice A4 n4 c4, .slice A5 n5 c5] 24)).alloc (.cells #[.int .i64 ve4, .int .i64 st4, .int .i64 ke4] 26); obtain ⟨R1, R2⟩ := res2 hx26; obtain ⟨⟨q0, q1, q2⟩, ⟨f0, f1, f2⟩⟩ := three R1; obtain ⟨⟨r0, r1, r2⟩, ⟨k0, k1, k2⟩⟩ := three R2; clear R1 R2; have cy := byteK HY.out (hown.rd.ext ((((hx4.alloc (.cells #[.int .i64 m1, .slice A2 n2 c2, .slice A3 n3 c3] 24)).alloc (.cells #[.int .i64 ve1, .int .i64 st1, .int .i64 ke1] 26)).trans hx5).alloc (.cells #[.int .i64 m4, .slice A4 n4 c4, .slice A5 n5 c5] 24) |>.alloc (.cells #[.int .i64 ve4, .int .i64 st4, .int .i64 ke4] 26))) (k := k) (by omega)))
    refine bodyPost_ret (v := .tuple #[.agg #[.int .i64 0, .slice none 0 0, .slice none 0 0], .agg #[.int .i64 0, .int .i64 0, .int .i64 0], .int .i64 1]) (by simp [results, Try.results22, go_sem, q0, q1, q2, f0, f1, f2, r0, r1, r2, k0, k1, k2]) rfl ?_
    have hxw := hx2.trans hx26
    exact CapRes.none_ ((((((hxw.setCell (by simp) _).setCell (by simp) _).setCell (by simp) _).setCell (by simp) _).setCell (by simp) _).setCell (by simp) _)
  subst g5
  by_cases g6 : k + k2' = L
  case neg =>
    have e1 := C5 trivial rfl rfl (fun e => g6 (by have := e.2; omega))
    subst e1
    have g6i : ¬ (k : Int) + (k2' : Int) = (L : Int) := by omega
    clear C5 C6 g6
    go_enter Try.func22, Try.ntmps22
    have tok1 : True := trivial
    go_wp2_with (first
      | (go_at_call 24; refine HM.out.mono ?_; rintro e w3 ⟨A1, n1, c1, rfl, hown, hx3⟩; have hnL : n1 = L := (by have := HL.out; have := (RdC.blen hown.rd).1; omega); subst hnL; have j1 : (k : Int) < (n1 : Int) := (by omega); have j2 : k < n1 := (by omega); have nck : ¬ c1 = k := (by have := (RdC.blen hown.rd).2.1; omega); have i4 : n1 - k ≤ c1 - k ∧ c1 - k ≤ maxLen := (by have := (RdC.blen hown.rd).2; omega); obtain ⟨ad, hA1, -, -⟩ := bAt_cell hown.rd (k := 0) (by omega); subst hA1; have i0 : (0 : Int) < (n1 : Int) := (by omega); have i1 : (k : Int) ≤ (n1 : Int) := (by omega); have i2 : n1 ≤ c1 := (RdC.blen hown.rd).2.1; have i3 : k ≤ n1 := (by omega))
      | (go_at_call 31; have _t := tok1; refine (HD.out _ _ _ _ hown.rd).mono ?_; rintro e w4 ⟨A2, n2, c2, A3, n3, c3, rfl, hrh, hx4⟩; have hx24 := ((hx3.trans hx4).alloc (.cells #[.int .i64 m1, .slice A2 n2 c2, .slice A3 n3 c3] 24)).alloc (.cells #[.int .i64 ve1, .int .i64 st1, .int .i64 ke1] 26); have cz := byte0 HZ.out (hown.rd.ext ((hx4.alloc (.cells #[.int .i64 m1, .slice A2 n2 c2, .slice A3 n3 c3] 24)).alloc (.cells #[.int .i64 ve1, .int .i64 st1, .int .i64 ke1] 26))) (by omega); clear tok1)
      | (go_at_call 31; refine (HD2.out _ _ _ _ (Rd.ext (RdC.from hown.rd (o := k) j2 rfl i4) ((hx4.alloc _).alloc _))).mono ?_; rintro e w5 ⟨A4, n4, c4, A5, n5, c5, rfl, hrh5, hx5⟩; have hx26 := ((hx24.trans hx5).alloc (.cells #[.int .i64 m4, .slice A4 n4 c4, .slice A5 n5 c5] 24)).alloc (.cells #[.int .i64 ve4, .int .i64 st4, .int .i64 ke4] 26); obtain ⟨R1, R2⟩ := res2 hx26; obtain ⟨⟨q0, q1, q2⟩, ⟨f0, f1, f2⟩⟩ := three R1; obtain ⟨⟨r0, r1, r2⟩, ⟨k0, k1, k2⟩⟩ := three R2; clear R1 R2; have cy := byteK HY.out (hown.rd.ext ((((hx4.alloc (.cells #[.int .i64 m1, .slice A2 n2 c2, .slice A3 n3 c3] 24)).alloc (.cells #[.int .i64 ve1, .int .i64 st1, .int .i64 ke1] 26)).trans hx5).alloc (.cells #[.int .i64 m4, .slice A4 n4 c4, .slice A5 n5 c5] 24) |>.alloc (.cells #[.int .i64 ve4, .int .i64 st4, .int .i64 ke4] 26))) (k := k) (by omega)))
    refine bodyPost_ret (v := .tuple #[.agg #[.int .i64 0, .slice none 0 0, .slice none 0 0], .agg #[.int .i64 0, .int .i64 0, .int .i64 0], .int .i64 1]) (by simp [results, Try.results22, go_sem, q0, q1, q2, f0, f1, f2, r0, r1, r2, k0, k1, k2]) rfl ?_
    have hxw := hx2.trans hx26
    exact CapRes.none_ ((((((hxw.setCell (by simp) _).setCell (by simp) _).setCell (by simp) _).setCell (by simp) _).setCell (by simp) _).setCell (by simp) _)
  have HG6 := Lib.hid g6
  have e1 := C6 trivial rfl rfl ⟨rfl, by omega⟩
  subst e1
  clear C5 C6 g6
  go_enter Try.func22, Try.ntmps22
  have tok1 : True := trivial
  go_wp2_with (first
    | (go_at_call 24; refine HM.out.mono ?_; rintro e w3 ⟨A1, n1, c1, rfl, hown, hx3⟩; have hnL : n1 = L := (by have := HL.out; have := (RdC.blen hown.rd).1; omega); subst hnL; have j1 : (k : Int) < (n1 : Int) := (by omega); have j2 : k < n1 := (by omega); have nck : ¬ c1 = k := (by have := (RdC.blen hown.rd).2.1; omega); have i4 : n1 - k ≤ c1 - k ∧ c1 - k ≤ maxLen := (by have := (RdC.blen hown.rd).2; omega); have hsum : (k : Int) + (k2' : Int) = (n1 : Int) := (by have := HG6.out; omega); have hwn : IntKind.i64.wrap (n1 : Int) = (n1 : Int) := wrapB (by omega); obtain ⟨ad, hA1, -, -⟩ := bAt_cell hown.rd (k := 0) (by omega); subst hA1; have i0 : (0 : Int) < (n1 : Int) := (by omega); have i1 : (k : Int) ≤ (n1 : Int) := (by omega); have i2 : n1 ≤ c1 := (RdC.blen hown.rd).2.1; have i3 : k ≤ n1 := (by omega))
    | (go_at_call 31; have _t := tok1; refine (HD.out _ _ _ _ hown.rd).mono ?_; rintro e w4 ⟨A2, n2, c2, A3, n3, c3, rfl, hrh, hx4⟩; have hx24 := ((hx3.trans hx4).alloc (.cells #[.int .i64 m1, .slice A2 n2 c2, .slice A3 n3 c3] 24)).alloc (.cells #[.int .i64 ve1, .int .i64 st1, .int .i64 ke1] 26); have cz := byte0 HZ.out (hown.rd.ext ((hx4.alloc (.cells #[.int .i64 m1, .slice A2 n2 c2, .slice A3 n3 c3] 24)).alloc (.cells #[.int .i64 ve1, .int .i64 st1, .int .i64 ke1] 26))) (by omega); clear tok1)
    | (go_at_call 31; refine (HD2.out _ _ _ _ (Rd.ext (RdC.from hown.rd (o := k) j2 rfl i4) ((hx4.alloc _).alloc _))).mono ?_; rintro e w5 ⟨A4, n4, c4, A5, n5, c5, rfl, hrh5, hx5⟩; have hx26 := ((hx24.trans hx5).alloc (.cells #[.int .i64 m4, .slice A4 n4 c4, .slice A5 n5 c5] 24)).alloc (.cells #[.int .i64 ve4, .int .i64 st4, .int .i64 ke4] 26); obtain ⟨R1, R2⟩ := res2 hx26; obtain ⟨⟨q0, q1, q2⟩, ⟨f0, f1, f2⟩⟩ := three R1; obtain ⟨⟨r0, r1, r2⟩, ⟨k0, k1, k2⟩⟩ := three R2; clear R1 R2; have cy := byteK HY.out (hown.rd.ext ((((hx4.alloc (.cells #[.int .i64 m1, .slice A2 n2 c2, .slice A3 n3 c3] 24)).alloc (.cells #[.int .i64 ve1, .int .i64 st1, .int .i64 ke1] 26)).trans hx5).alloc (.cells #[.int .i64 m4, .slice A4 n4 c4, .slice A5 n5 c5] 24) |>.alloc (.cells #[.int .i64 ve4, .int .i64 st4, .int .i64 ke4] 26))) (k := k) (by omega)))
  have R3 := (((((Ext.refl (w4.alloc (.cells #[.int .i64 m1, .slice A2 n2 c2, .slice A3 n3 c3] 24))).alloc (.cells #[.int .i64 ve1, .int .i64 st1, .int .i64 ke1] 26)).trans hx5).alloc (.cells #[.int .i64 m4, .slice A4 n4 c4, .slice A5 n5 c5] 24)).alloc (.cells #[.int .i64 ve4, .int .i64 st4, .int .i64 ke4] 26)).blk
  obtain ⟨⟨s0, s1, s2⟩, -⟩ := three R3
  have z1 := hx3.size
  have z2 := hx4.size
  have z3 := hx5.size
  simp at z1 z3
  have u1 : ¬ w4.heap.size = w.heap.size := by omega
  have u2 : ¬ w4.heap.size = w.heap.size + 1 := by omega
  have u3 : ¬ w5.heap.size + 1 = w.heap.size := by omega
  have u4 : ¬ w5.heap.size + 1 = w.heap.size + 1 := by omega
  have u5 : ¬ w5.heap.size = w.heap.size := by omega
  have HK : Hid (∀ b, b < w4.heap.size → ((w5.alloc (.cells #[.int .i64 m4, .slice A4 n4 c4, .slice A5 n5 c5] 24)).alloc (.cells #[.int .i64 ve4, .int .i64 st4, .int .i64 ke4] 26)).heap[b]? = w4.heap[b]?) := fun b hb => ((((((Ext.refl w4).alloc (.cells #[.int .i64 m1, .slice A2 n2 c2, .slice A3 n3 c3] 24)).alloc (.cells #[.int .i64 ve1, .int .i64 st1, .int .i64 ke1] 26)).trans hx5).alloc _).alloc _).block b hb
  clear R3
  go_region
  all_goals go_wp2
  all_goals
    have hxw := hx2.trans hx26
    refine bodyPost_ret (v := .tuple #[.agg #[.int .i64 m1, .slice A2 n2 c2, .slice A3 n3 c3], .agg #[.int .i64 ve4, .int .i64 st4, .int .i64 ke4], .int .i64 0]) (by simp [results, Try.results22, go_sem, q0, q1, q2, f0, f1, f2, r0, r1, r2, k0, k1, k2]) rfl ?_
    refine ⟨_, rfl, hrh.keep_ (S' := New w _) (fun b hb => (set6d (g := w.heap.size) (b := b) (by have := hb.1; omega) (by have := hb.1; omega) _ _ _ _ _ _).trans (HK.out b hb.2)) (fun b hb => ⟨by have := hb.1; omega, by have := hb.2; simp; omega⟩), ((((((hxw.setCell (by simp) _).setCell (by simp) _).setCell (by simp) _).setCell (by simp) _).setCell (by simp) _).setCell (by simp) _).drew⟩
end Go.Proofs.Ythjgcmifggdepaa
