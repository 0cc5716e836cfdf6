/- The walk: a tag and a length, read by the reference. -/
import Derived.Test.YthohienbmhohjaaW25
namespace Go.Proofs.Ythohienbmhohjaa
open Go.RowKit

def headV (o : Option (Nat × Nat × Nat)) (k : Nat) : Array Value := match o with
  | none => #[.int .i64 0, .int .i64 0, .int .i64 0, .bool false]
  | some (t, o, n) => #[.int .i64 t, .int .i64 ((k : Int) + o), .int .i64 ((k : Int) + o + n), .bool true]
def HeadRes (l : List UInt8) (k : Nat) (e : Ending) : Prop := e = .returned (.tuple (headV (hdr (l.drop k)) k))
theorem HeadRes.no {l : List UInt8} {k : Nat} {v : Value} (h : hdr (l.drop k) = none) (hv : v = .tuple #[.int .i64 0, .int .i64 0, .int .i64 0, .bool false]) : HeadRes l k (.returned v) := by unfold HeadRes; rw [h, hv]; rfl
theorem HeadRes.yes {l : List UInt8} {k : Nat} {v : Value} (t o n : Nat) (h : hdr (l.drop k) = some (t, o, n)) (hv : v = .tuple #[.int .i64 t, .int .i64 ((k : Int) + o), .int .i64 ((k : Int) + o + n), .bool true]) : HeadRes l k (.returned v) := by unfold HeadRes; rw [h, hv]; rfl

theorem hdr_short {r : List UInt8} (h : r.length < 2) : hdr r = none := by
  rcases r with _ | ⟨x, _ | ⟨y, r⟩⟩
  · rfl
  · rw [hdr_cons]; split <;> rfl
  · simp at h; omega
theorem hdr_tag {x : UInt8} {r : List UInt8} (h : tagB x.toNat = false) : hdr (x :: r) = none := by rw [hdr_cons, if_pos h]
theorem hdr_size {x : UInt8} {r : List UInt8} (h : sizeS r = none) : hdr (x :: r) = none := by
  rw [hdr_cons, h]; dsimp only; split <;> rfl
theorem hdr_long {x : UInt8} {r : List UInt8} {m c : Nat} (h : sizeS r = some (m, c)) (hm : r.length - c < m) : hdr (x :: r) = none := by
  rw [hdr_cons, h]; dsimp only; rw [if_pos hm]; split <;> rfl
theorem drop_at {l : List UInt8} {k : Nat} {x : UInt8} (h : l[k]? = some x) : l.drop k = x :: l.drop (k + 1) := by
  obtain ⟨hk, e⟩ := List.getElem?_eq_some_iff.1 h
  rw [List.drop_eq_getElem_cons hk, e]

set_option maxRecDepth 100000 in
set_option maxHeartbeats 800000 in
theorem head_any (l : List UInt8) (k : Nat) (A : Option Addr) (n c : Nat) (w : World) (S : Nat → Prop) (h : RdC w S (.sl 1 (bytesC l)) (.slice A n c)) (hk : k ≤ n) (hn : n ≤ 65535) :
    Calls Try.prog 75 #[.slice A n c, .int .i64 k] w fun e w' => HeadRes l k e ∧ w = w' := by
  obtain ⟨hl, hnc, hcap⟩ := RdC.blen h
  unfold maxLen at hcap
  by_cases h2 : n - k < 2
  · have HH := Lib.hid (hdr_short (r := l.drop k) (by rw [List.length_drop]; omega))
    have h2' : (n : Int) - (k : Int) < 2 := by omega
    go_enter Try.func75, Try.ntmps75
    go_wp2
    all_goals exact bodyPost_ret (v := .tuple #[.int .i64 0, .int .i64 0, .int .i64 0, .bool false]) (by simp [results, Try.results75, go_sem]) rfl ⟨HeadRes.no HH.out rfl, rfl⟩
  have h2' : ¬ (n : Int) - (k : Int) < 2 := by omega
  have hk2 : k + 2 ≤ n := by omega
  have hlen2 : (l.drop (k + 1)).length = n - (k + 1) := by rw [List.length_drop]; omega
  obtain ⟨ad, x, rfl, -, e0, c0⟩ := RdC.byte h (k := k) (by omega)
  obtain ⟨ad', y, e, -, e1, c1⟩ := RdC.byte h (k := k + 1) (by omega)
  injection e with e
  subst e
  have D0 := Lib.hid (drop_at e0)
  have D1 := Lib.hid (drop_at e1)
  have hx := x.toNat_lt
  have hy := y.toNat_lt
  have c1 : w.cell? { block := ad.block, off := ad.off + (k + 1) } = some (.int .u8 y.toNat) := by simpa [Addr.add] using c1
  clear e0 e1 h2
  by_cases ht : tagB x.toNat = false
  · have HH : Hid (hdr (l.drop k) = none) := by show _ = _; rw [D0.out]; exact hdr_tag ht
    have HT := Lib.hid ht
    clear ht
    go_enter Try.func75, Try.ntmps75
    go_wp2_with (go_at_call 69; refine (rtag_any _ _).mono ?_; rintro e w' ⟨rfl, rfl⟩; rw [HT.out])
    all_goals exact bodyPost_ret (v := .tuple #[.int .i64 0, .int .i64 0, .int .i64 0, .bool false]) (by simp [results, Try.results75, go_sem]) rfl ⟨HeadRes.no HH.out rfl, rfl⟩
  have ht : tagB x.toNat = true := by simpa using ht
  have HT := Lib.hid ht
  by_cases hs : y.toNat < 128
  · have hss := sizeS_small (l.drop (k + 1 + 1)) hs
    rw [← D1.out] at hss
    have hs' : ¬ (128 : Int) ≤ (y.toNat : Int) := by omega
    by_cases hlg : n - (k + 2) < y.toNat
    · have HH : Hid (hdr (l.drop k) = none) := by show _ = _; rw [D0.out]; exact hdr_long hss (by omega)
      have hlg' : (n : Int) - ((k : Int) + 2) < (y.toNat : Int) := by omega
      clear hss ht hs hlg
      go_enter Try.func75, Try.ntmps75
      go_wp2_with (go_at_call 69; refine (rtag_any _ _).mono ?_; rintro e w' ⟨rfl, rfl⟩; rw [HT.out])
      all_goals exact bodyPost_ret (v := .tuple #[.int .i64 0, .int .i64 0, .int .i64 0, .bool false]) (by simp [results, Try.results75, go_sem]) rfl ⟨HeadRes.no HH.out rfl, rfl⟩
    · have HH : Hid (hdr (l.drop k) = some (x.toNat, 1 + 1, y.toNat)) := by show _ = _; rw [D0.out]; exact hdr_yes ht hss (by omega)
      have hlg' : ¬ (n : Int) - ((k : Int) + 2) < (y.toNat : Int) := by omega
      clear hss ht hs hlg
      go_enter Try.func75, Try.ntmps75
      go_wp2_with (go_at_call 69; refine (rtag_any _ _).mono ?_; rintro e w' ⟨rfl, rfl⟩; rw [HT.out])
      all_goals exact bodyPost_ret (v := .tuple #[.int .i64 x.toNat, .int .i64 ((k : Int) + 2), .int .i64 ((k : Int) + 2 + y.toNat), .bool true]) (by simp [results, Try.results75, go_sem]) rfl ⟨HeadRes.yes _ _ _ HH.out rfl, rfl⟩
  by_cases hs2 : y.toNat = 128 ∨ 131 < y.toNat
  · have HH : Hid (hdr (l.drop k) = none) := by show _ = _; rw [D0.out, D1.out]; exact hdr_size (sizeS_128 _ (by omega))
    have hs' : (128 : Int) ≤ (y.toNat : Int) := by omega
    clear ht hs
    rcases hs2 with hs2 | hs2
    · have hs3 : (y.toNat : Int) - 128 < 1 := by omega
      clear hs2
      go_enter Try.func75, Try.ntmps75
      go_wp2_with (go_at_call 69; refine (rtag_any _ _).mono ?_; rintro e w' ⟨rfl, rfl⟩; rw [HT.out])
      all_goals exact bodyPost_ret (v := .tuple #[.int .i64 0, .int .i64 0, .int .i64 0, .bool false]) (by simp [results, Try.results75, go_sem]) rfl ⟨HeadRes.no HH.out rfl, rfl⟩
    · have hs3 : ¬ (y.toNat : Int) - 128 < 1 := by omega
      have hs4 : (3 : Int) < (y.toNat : Int) - 128 := by omega
      clear hs2
      go_enter Try.func75, Try.ntmps75
      go_wp2_with (go_at_call 69; refine (rtag_any _ _).mono ?_; rintro e w' ⟨rfl, rfl⟩; rw [HT.out])
      all_goals exact bodyPost_ret (v := .tuple #[.int .i64 0, .int .i64 0, .int .i64 0, .bool false]) (by simp [results, Try.results75, go_sem]) rfl ⟨HeadRes.no HH.out rfl, rfl⟩
  have hl2 : (l.drop (k + 1 + 1)).length = n - (k + 2) := by rw [List.length_drop]; omega
  by_cases h3 : n - (k + 2) < y.toNat - 128
  · have HH : Hid (hdr (l.drop k) = none) := by
      show _ = _
      rw [D0.out, D1.out]
      have h129 : y.toNat = 129 ∨ y.toNat = 130 ∨ y.toNat = 131 := by omega
      generalize hr : l.drop (k + 1 + 1) = r at hl2
      rcases h129 with hq | hq | hq
      · refine hdr_size ?_
        rw [sizeS_129 _ hq]
        rcases r with _ | ⟨z, r⟩
        · rfl
        · simp at hl2; omega
      · refine hdr_size ?_
        rw [sizeS_130 _ hq]
        rcases r with _ | ⟨z, _ | ⟨z', r⟩⟩
        · rfl
        · rfl
        · simp at hl2; omega
      · exact hdr_size (sizeS_128 _ (by omega))
    have hs' : (128 : Int) ≤ (y.toNat : Int) := by omega
    have hs3 : ¬ (y.toNat : Int) - 128 < 1 := by omega
    have hs4 : ¬ (3 : Int) < (y.toNat : Int) - 128 := by omega
    have hs5 : (n : Int) - ((k : Int) + 2) < (y.toNat : Int) - 128 := by omega
    clear ht hs hs2 h3
    go_enter Try.func75, Try.ntmps75
    go_wp2_with (go_at_call 69; refine (rtag_any _ _).mono ?_; rintro e w' ⟨rfl, rfl⟩; rw [HT.out])
    all_goals exact bodyPost_ret (v := .tuple #[.int .i64 0, .int .i64 0, .int .i64 0, .bool false]) (by simp [results, Try.results75, go_sem]) rfl ⟨HeadRes.no HH.out rfl, rfl⟩
  obtain ⟨ad', z, e, -, e2, c2⟩ := RdC.byte h (k := k + 2) (by omega)
  injection e with e
  subst e
  have D2 := Lib.hid (drop_at e2)
  have hz := z.toNat_lt
  have c2 : w.cell? { block := ad.block, off := ad.off + (k + 2) } = some (.int .u8 z.toNat) := by simpa [Addr.add] using c2
  clear e2
  have hs' : (128 : Int) ≤ (y.toNat : Int) := by omega
  have hs3 : ¬ (y.toNat : Int) - 128 < 1 := by omega
  have hs4 : ¬ (3 : Int) < (y.toNat : Int) - 128 := by omega
  have hs5 : ¬ (n : Int) - ((k : Int) + 2) < (y.toNat : Int) - 128 := by omega
  by_cases hz0 : z.toNat = 0
  · have HH : Hid (hdr (l.drop k) = none) := by
      show _ = _
      rw [D0.out, D1.out, show k + 1 + 1 = k + 2 by omega, D2.out]
      have h129 : y.toNat = 129 ∨ y.toNat = 130 ∨ y.toNat = 131 := by omega
      rcases h129 with hq | hq | hq
      · refine hdr_size ?_
        rw [sizeS_129 _ hq]; simp [hz0]
      · refine hdr_size ?_
        rw [sizeS_130 _ hq]
        cases l.drop (k + 2 + 1) <;> simp [hz0]
      · exact hdr_size (sizeS_128 _ (by omega))
    rw [hz0] at c2
    clear ht hs hs2 h3
    go_enter Try.func75, Try.ntmps75
    go_wp2_with (go_at_call 69; refine (rtag_any _ _).mono ?_; rintro e w' ⟨rfl, rfl⟩; rw [HT.out])
    all_goals exact bodyPost_ret (v := .tuple #[.int .i64 0, .int .i64 0, .int .i64 0, .bool false]) (by simp [results, Try.results75, go_sem]) rfl ⟨HeadRes.no HH.out rfl, rfl⟩
  have hz1 : 0 < (z.toNat : Int) := by omega
  by_cases h129 : y.toNat = 129
  · have hss : sizeS (l.drop (k + 1)) = if z.toNat < 128 then none else some (z.toNat, 2) := by rw [D1.out, show k + 1 + 1 = k + 2 by omega, D2.out, sizeS_129 _ h129]
    have HSS := Lib.hid hss
    have HTT := Lib.hid ht
    have hn3 : k + 3 ≤ n := by omega
    have hs6 : ¬ (n : Int) - ((k : Int) + 2) < 1 := by omega
    rw [h129] at c1
    clear ht hs hs2 h3 hs' hs3 hs4 hs5 hss h129 hy
    by_cases hz2 : z.toNat < 128
    · have HH : Hid (hdr (l.drop k) = none) := by show _ = _; rw [D0.out]; refine hdr_size ?_; rw [HSS.out, if_pos hz2]
      have hz3 : (z.toNat : Int) < 128 := by omega
      go_enter Try.func75, Try.ntmps75
      go_wp2_with (go_at_call 69; refine (rtag_any _ _).mono ?_; rintro e w' ⟨rfl, rfl⟩; rw [HT.out])
      all_goals try (exfalso; omega)
      go_loop [8, 11] (fun v i => (v = .int .i64 0 ∧ i = .int .i64 0) ∨ (v = .int .i64 z.toNat ∧ i = .int .i64 1)) (fun _ i => 2 - (intOf i).toNat)
      case atStart => exact .inl ⟨rfl, rfl⟩
      case round =>
        rcases hrel with ⟨rfl, rfl⟩ | ⟨rfl, rfl⟩
        · go_wp2
          go_round
          case rel => exact .inr ⟨by go_num, rfl⟩
          case measure => simp [intOf]
        · go_wp2
          all_goals exact bodyPost_ret (v := .tuple #[.int .i64 0, .int .i64 0, .int .i64 0, .bool false]) (by simp [results, Try.results75, go_sem]) rfl ⟨HeadRes.no HH.out rfl, rfl⟩
    have hz3 : ¬ (z.toNat : Int) < 128 := by omega
    by_cases hlg : n - (k + 3) < z.toNat
    · have HH : Hid (hdr (l.drop k) = none) := by show _ = _; rw [D0.out]; exact hdr_long (by rw [HSS.out, if_neg hz2]) (by omega)
      have hlg' : (n : Int) - ((k : Int) + 2 + 1) < (z.toNat : Int) := by omega
      clear hlg hz2
      go_enter Try.func75, Try.ntmps75
      go_wp2_with (go_at_call 69; refine (rtag_any _ _).mono ?_; rintro e w' ⟨rfl, rfl⟩; rw [HT.out])
      all_goals try (exfalso; omega)
      go_loop [8, 11] (fun v i => (v = .int .i64 0 ∧ i = .int .i64 0) ∨ (v = .int .i64 z.toNat ∧ i = .int .i64 1)) (fun _ i => 2 - (intOf i).toNat)
      case atStart => exact .inl ⟨rfl, rfl⟩
      case round =>
        rcases hrel with ⟨rfl, rfl⟩ | ⟨rfl, rfl⟩
        · go_wp2
          go_round
          case rel => exact .inr ⟨by go_num, rfl⟩
          case measure => simp [intOf]
        · go_wp2
          all_goals exact bodyPost_ret (v := .tuple #[.int .i64 0, .int .i64 0, .int .i64 0, .bool false]) (by simp [results, Try.results75, go_sem]) rfl ⟨HeadRes.no HH.out rfl, rfl⟩
    · have HH : Hid (hdr (l.drop k) = some (x.toNat, 1 + 2, z.toNat)) := by show _ = _; rw [D0.out]; exact hdr_yes HTT.out (by rw [HSS.out, if_neg hz2]) (by omega)
      have hlg' : ¬ (n : Int) - ((k : Int) + 2 + 1) < (z.toNat : Int) := by omega
      clear hlg hz2
      go_enter Try.func75, Try.ntmps75
      go_wp2_with (go_at_call 69; refine (rtag_any _ _).mono ?_; rintro e w' ⟨rfl, rfl⟩; rw [HT.out])
      all_goals try (exfalso; omega)
      go_loop [8, 11] (fun v i => (v = .int .i64 0 ∧ i = .int .i64 0) ∨ (v = .int .i64 z.toNat ∧ i = .int .i64 1)) (fun _ i => 2 - (intOf i).toNat)
      case atStart => exact .inl ⟨rfl, rfl⟩
      case round =>
        rcases hrel with ⟨rfl, rfl⟩ | ⟨rfl, rfl⟩
        · go_wp2
          go_round
          case rel => exact .inr ⟨by go_num, rfl⟩
          case measure => simp [intOf]
        · go_wp2
          all_goals exact bodyPost_ret (v := .tuple #[.int .i64 x.toNat, .int .i64 ((k : Int) + 2 + 1), .int .i64 ((k : Int) + 2 + 1 + z.toNat), .bool true]) (by simp [results, Try.results75, go_sem]) rfl ⟨HeadRes.yes _ _ _ HH.out (by go_num), rfl⟩
  obtain ⟨ad', z1, e, -, e3, c3⟩ := RdC.byte h (k := k + 3) (by omega)
  injection e with e
  subst e
  have D3 := Lib.hid (drop_at e3)
  have hz1' := z1.toNat_lt
  have c3 : w.cell? { block := ad.block, off := ad.off + (k + 3) } = some (.int .u8 z1.toNat) := by simpa [Addr.add] using c3
  clear e3
  by_cases h130 : y.toNat = 130
  · have hss : sizeS (l.drop (k + 1)) = some (z.toNat * 256 + z1.toNat, 3) := by rw [D1.out, show k + 1 + 1 = k + 2 by omega, D2.out, show k + 2 + 1 = k + 3 by omega, D3.out, sizeS_130 _ h130]; simp [hz0]
    have HSS := Lib.hid hss
    have HTT := Lib.hid ht
    have hn3 : k + 4 ≤ n := by omega
    have hs6 : ¬ (n : Int) - ((k : Int) + 2) < 2 := by omega
    rw [h130] at c1
    clear ht hs hs2 h3 hs' hs3 hs4 hs5 hss h129 h130 hy
    have hz3 : ¬ (z.toNat : Int) * 256 + z1.toNat < 128 := by omega
    by_cases hlg : n - (k + 4) < z.toNat * 256 + z1.toNat
    · have HH : Hid (hdr (l.drop k) = none) := by show _ = _; rw [D0.out]; exact hdr_long HSS.out (by omega)
      have hlg' : (n : Int) - ((k : Int) + 2 + 2) < (z.toNat : Int) * 256 + z1.toNat := by omega
      clear hlg
      go_enter Try.func75, Try.ntmps75
      go_wp2_with (go_at_call 69; refine (rtag_any _ _).mono ?_; rintro e w' ⟨rfl, rfl⟩; rw [HT.out])
      all_goals try (exfalso; omega)
      go_loop [8, 11] (fun v i => (v = .int .i64 0 ∧ i = .int .i64 0) ∨ (v = .int .i64 z.toNat ∧ i = .int .i64 1) ∨ (v = .int .i64 ((z.toNat : Int) * 256 + z1.toNat) ∧ i = .int .i64 2)) (fun _ i => 3 - (intOf i).toNat)
      case atStart => exact .inl ⟨rfl, rfl⟩
      case round =>
        rcases hrel with ⟨rfl, rfl⟩ | ⟨rfl, rfl⟩ | ⟨rfl, rfl⟩
        · go_wp2
          go_round
          case rel => exact .inr (.inl ⟨by go_num, rfl⟩)
          case measure => simp [intOf]
        · go_wp2
          go_round
          case rel => exact .inr (.inr ⟨by go_num, rfl⟩)
          case measure => simp [intOf]
        · go_wp2
          all_goals exact bodyPost_ret (v := .tuple #[.int .i64 0, .int .i64 0, .int .i64 0, .bool false]) (by simp [results, Try.results75, go_sem]) rfl ⟨HeadRes.no HH.out rfl, rfl⟩
    · have HH : Hid (hdr (l.drop k) = some (x.toNat, 1 + 3, z.toNat * 256 + z1.toNat)) := by show _ = _; rw [D0.out]; exact hdr_yes HTT.out HSS.out (by omega)
      have hlg' : ¬ (n : Int) - ((k : Int) + 2 + 2) < (z.toNat : Int) * 256 + z1.toNat := by omega
      clear hlg
      go_enter Try.func75, Try.ntmps75
      go_wp2_with (go_at_call 69; refine (rtag_any _ _).mono ?_; rintro e w' ⟨rfl, rfl⟩; rw [HT.out])
      all_goals try (exfalso; omega)
      go_loop [8, 11] (fun v i => (v = .int .i64 0 ∧ i = .int .i64 0) ∨ (v = .int .i64 z.toNat ∧ i = .int .i64 1) ∨ (v = .int .i64 ((z.toNat : Int) * 256 + z1.toNat) ∧ i = .int .i64 2)) (fun _ i => 3 - (intOf i).toNat)
      case atStart => exact .inl ⟨rfl, rfl⟩
      case round =>
        rcases hrel with ⟨rfl, rfl⟩ | ⟨rfl, rfl⟩ | ⟨rfl, rfl⟩
        · go_wp2
          go_round
          case rel => exact .inr (.inl ⟨by go_num, rfl⟩)
          case measure => simp [intOf]
        · go_wp2
          go_round
          case rel => exact .inr (.inr ⟨by go_num, rfl⟩)
          case measure => simp [intOf]
        · go_wp2
          all_goals exact bodyPost_ret (v := .tuple #[.int .i64 x.toNat, .int .i64 ((k : Int) + 2 + 2), .int .i64 ((k : Int) + 2 + 2 + ((z.toNat : Int) * 256 + z1.toNat)), .bool true]) (by simp [results, Try.results75, go_sem]) rfl ⟨HeadRes.yes _ _ _ HH.out (by go_num), rfl⟩
  have h131 : y.toNat = 131 := by omega
  obtain ⟨ad', z2, e, -, e4, c4⟩ := RdC.byte h (k := k + 4) (by omega)
  injection e with e
  subst e
  have hz2' := z2.toNat_lt
  have c4 : w.cell? { block := ad.block, off := ad.off + (k + 4) } = some (.int .u8 z2.toNat) := by simpa [Addr.add] using c4
  clear e4
  have HH : Hid (hdr (l.drop k) = none) := by show _ = _; rw [D0.out, D1.out]; exact hdr_size (sizeS_128 _ (by omega))
  have hn3 : k + 5 ≤ n := by omega
  have hs6 : ¬ (n : Int) - ((k : Int) + 2) < 3 := by omega
  have hz3 : ¬ ((z.toNat : Int) * 256 + z1.toNat) * 256 + z2.toNat < 128 := by omega
  have hlg' : (n : Int) - ((k : Int) + 2 + 3) < ((z.toNat : Int) * 256 + z1.toNat) * 256 + z2.toNat := by omega
  rw [h131] at c1
  clear ht hs hs2 h3 hs' hs3 hs4 hs5 h129 h130 h131 hy
  go_enter Try.func75, Try.ntmps75
  go_wp2_with (go_at_call 69; refine (rtag_any _ _).mono ?_; rintro e w' ⟨rfl, rfl⟩; rw [HT.out])
  all_goals try (exfalso; omega)
  go_loop [8, 11] (fun v i => (v = .int .i64 0 ∧ i = .int .i64 0) ∨ (v = .int .i64 z.toNat ∧ i = .int .i64 1) ∨ (v = .int .i64 ((z.toNat : Int) * 256 + z1.toNat) ∧ i = .int .i64 2) ∨ (v = .int .i64 (((z.toNat : Int) * 256 + z1.toNat) * 256 + z2.toNat) ∧ i = .int .i64 3)) (fun _ i => 4 - (intOf i).toNat)
  case atStart => exact .inl ⟨rfl, rfl⟩
  case round =>
    rcases hrel with ⟨rfl, rfl⟩ | ⟨rfl, rfl⟩ | ⟨rfl, rfl⟩ | ⟨rfl, rfl⟩
    · go_wp2
      go_round
      case rel => exact .inr (.inl ⟨by go_num, rfl⟩)
      case measure => simp [intOf]
    · go_wp2
      go_round
      case rel => exact .inr (.inr (.inl ⟨by go_num, rfl⟩))
      case measure => simp [intOf]
    · go_wp2
      go_round
      case rel => exact .inr (.inr (.inr ⟨by go_num, rfl⟩))
      case measure => simp [intOf]
    · go_wp2
      all_goals exact bodyPost_ret (v := .tuple #[.int .i64 0, .int .i64 0, .int .i64 0, .bool false]) (by simp [results, Try.results75, go_sem]) rfl ⟨HeadRes.no HH.out rfl, rfl⟩
end Go.Proofs.Ythohienbmhohjaa
