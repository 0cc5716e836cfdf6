/- The walks: a client's message read, by the program. -/
import Derived.Test.YthjgcmifggdepaaH11
import Derived.Test.YthjgcmifggdepaaH5
set_option linter.unusedSimpArgs false
set_option linter.unusedVariables false
namespace Go.Proofs.Ythjgcmifggdepaa
open Go.RowKit

/-- The byte at a place. -/
def bAt (l : List UInt8) (k : Nat) : Nat := (l.getD k 0).toNat
theorem bAt_le (l : List UInt8) (k : Nat) : bAt l k ≤ 255 := by unfold bAt; have := (l.getD k 0).toNat_lt; omega
theorem bAt_cell {w : World} {S : Nat → Prop} {l : List UInt8} {n c : Nat} {A : Option Addr} (h : RdC w S (.sl 1 (bytesC l)) (.slice A n c)) {k : Nat} (hk : k < n) :
    ∃ ad, A = some ad ∧ l[k]? = some (l.getD k 0) ∧ w.cell? (ad.add k) = some (.int .u8 (bAt l k : Nat)) := by
  obtain ⟨ad, x, hA, -, hx, hc⟩ := RdC.byte h hk
  have : l.getD k 0 = x := by rw [List.getD_eq_getElem?_getD, hx]; rfl
  exact ⟨ad, hA, by rw [hx, this], by unfold bAt; rw [this]; exact hc⟩
/-- Pairs of bytes as numbers. -/
def pairs (l : List UInt8) (k : Nat) : List Int := (List.range k).map fun j => (bAt l (3 + 2 * j) : Int) * 256 + (bAt l (3 + 2 * j + 1) : Int)
theorem pairs_succ (l : List UInt8) (k : Nat) : pairs l (k + 1) = pairs l k ++ [(bAt l (3 + 2 * k) : Int) * 256 + (bAt l (3 + 2 * k + 1) : Int)] := by simp [pairs, List.range_succ]
theorem pairs_len (l : List UInt8) (k : Nat) : (pairs l k).length = k := by simp [pairs]
/-- Bytes as numbers. -/
def ints8 (l : List UInt8) (a k : Nat) : List Int := (List.range k).map fun j => (bAt l (a + j) : Int)
theorem ints8_succ (l : List UInt8) (a k : Nat) : ints8 l a (k + 1) = ints8 l a k ++ [(bAt l (a + k) : Int)] := by simp [ints8, List.range_succ]
theorem ints8_len (l : List UInt8) (a k : Nat) : (ints8 l a k).length = k := by simp [ints8]
/-- A client's message that bytes begin with. -/
def decH (l : List UInt8) : Option (Hl × Nat) :=
  if l.length < 3 then none else
  if l.length ≤ 3 + 2 * bAt l 2 then none else
  if l.length < 3 + 2 * bAt l 2 + 1 + bAt l (3 + 2 * bAt l 2) then none else
  some (⟨(bAt l 1 : Nat), pairs l (bAt l 2), ints8 l (3 + 2 * bAt l 2 + 1) (bAt l (3 + 2 * bAt l 2))⟩, 3 + 2 * bAt l 2 + 1 + bAt l (3 + 2 * bAt l 2))

theorem info3 : (Try.prog.info? 3).map (fun i => (i.zero, i.size, i.bytes)) = some (some (.int .i64 0), 1, 8) := by kernel_rfl
theorem sl22 : SlT Try.prog 22 3 1 8 := SlT.mk' Try.underlying22 info3 rfl (by decide) (by decide)
def HelRes (w : World) (o : Option (Hl × Nat)) (e : Ending) (w' : World) : Prop :=
  ∃ hv, e = .returned (.tuple #[hv, .int .i64 (match o with | none => 0 | some p => (p.2 : Nat)), .bool o.isSome]) ∧ RdH w' (New w w') (match o with | none => ⟨0, [], []⟩ | some p => p.1) hv ∧ Ext w w'
theorem RdH.zero (w : World) (S : Nat → Prop) : RdH w S ⟨0, [], []⟩ (.agg #[.int .i64 0, .slice none 0 0, .slice none 0 0]) := ⟨_, _, rfl, by dsimp only; omega, RdC.nil_ 1, RdC.nil_ 1⟩
/-- An own slice does not lie in a block of another kind. -/
theorem OwnT.ne_block {T : Nat → Prop} {w : World} {base : Nat} {e : TypeId} {sz : Nat} {v : Value} {cs : List C} (h : OwnT T w base e sz v cs) {g : Nat} {ds : Array Value} {t : TypeId} {f : Nat × Nat} (hg : w.heap[g]? = some (.cells ds t f)) (hte : t ≠ e) : v.ownBlock ≠ some g := by
  obtain ⟨n, us, hr, -⟩ := h
  rcases hr.2 with ⟨rfl, _⟩ | ⟨g', cap, cur, rfl, _, hgb, _⟩
  · simp [Value.ownBlock]
  · intro e'
    obtain rfl : g' = g := by simpa [Value.ownBlock] using e'
    rw [hg] at hgb
    cases hgb
    exact hte rfl
theorem OwnT.set_other {w : World} {base : Nat} {e : TypeId} {sz : Nat} {v : Value} {cs : List C} (h : OwnT (fun _ => False) w base e sz v cs) {g i : Nat} (hne : v.ownBlock ≠ some g) (u : Value) : OwnT (fun _ => False) (w.setCell ⟨g, i, none⟩ u) base e sz v cs := by
  obtain ⟨n, us, hr, hu⟩ := h
  refine ⟨n, us, hr.kept (row := some g) ⟨rfl, rfl, rfl, ((Below.refl 0 w).setCell (p := ⟨g, i, none⟩) (Nat.zero_le _) u).size, fun k _ hk => Below.heap_setCell _ _ _ k (fun e => hk (by rw [e]))⟩ (.inr hne), hu.keep_ (fun b hb => hb.1.elim) (fun b hb => hb.1.elim)⟩
theorem OwnT.grown_other {w w' : World} {base : Nat} {e : TypeId} {sz : Nat} {v : Value} {cs : List C} (h : OwnT (fun _ => False) w base e sz v cs) {row : Option Nat} (hg : w.grownBy w' row) (hne : v.ownBlock = none ∨ v.ownBlock ≠ row) : OwnT (fun _ => False) w' base e sz v cs := by
  obtain ⟨n, us, hr, hu⟩ := h
  exact ⟨n, us, hr.kept hg hne, hu.keep_ (fun b hb => hb.1.elim) (fun b hb => hb.1.elim)⟩
/-- A part of bytes. -/
theorem rd_cut {w : World} {S : Nat → Prop} {l : List UInt8} {ad : Addr} {n c : Nat} (h : RdC w S (.sl 1 (bytesC l)) (.slice (some ad) n c)) {i j : Nat} (hi : i ≤ j) (hj : j ≤ n) :
    RdC w S (.sl 1 (bytesC ((l.drop i).take (j - i)))) (.slice (if c = i then some ad else some (ad.add i)) (j - i) (c - i)) := by
  have hb := RdC.blen h
  have := RdC.cut h (i := i) (j := j) (cap' := c - i) (A' := if c = i then some ad else some (ad.add i)) hi hj (by omega) (by have := hb.2.2; unfold maxLen at *; omega) (fun a ha hlt => by injection ha with ha; subst ha; rw [if_neg (by omega)]; simp)
  rw [Nat.mul_one, Nat.mul_one] at this
  simpa [bytesC, List.map_drop, List.map_take] using this

theorem bAt_part (l : List UInt8) {i m j : Nat} (h : j < m) : bAt ((l.drop i).take m) j = bAt l (i + j) := by
  unfold bAt
  rw [List.getD_eq_getElem?_getD, List.getD_eq_getElem?_getD, List.getElem?_take, if_pos h, List.getElem?_drop]
theorem OwnT.same {w w' : World} {base : Nat} {e : TypeId} {sz : Nat} {v : Value} {cs : List C} (h : OwnT (fun _ => False) w base e sz v cs) (hk : ∀ k, v.ownBlock = some k → w'.heap[k]? = w.heap[k]?) : OwnT (fun _ => False) w' base e sz v cs := by
  obtain ⟨n, us, hr, hu⟩ := h
  refine ⟨n, us, ⟨hr.1, ?_⟩, hu.keep_ (fun b hb => hb.1.elim) (fun b hb => hb.1.elim)⟩
  rcases hr.2 with hn | ⟨g, cap, cur, rfl, hb, hgg, rest⟩
  · exact .inl hn
  · exact .inr ⟨g, cap, cur, rfl, hb, (hk g rfl).trans hgg, rest⟩
theorem OwnT.set3 {w : World} {base : Nat} {e : TypeId} {sz : Nat} {v : Value} {cs : List C} (h : OwnT (fun _ => False) w base e sz v cs) {g : Nat} (hne : v.ownBlock ≠ some g) (u0 u1 u2 : Value) : OwnT (fun _ => False) (((w.setCell ⟨g, 0, none⟩ u0).setCell ⟨g, 1, none⟩ u1).setCell ⟨g, 2, none⟩ u2) base e sz v cs :=
  ((h.set_other hne _).set_other hne _).set_other hne _
theorem add_add (ad : Addr) (a j : Nat) : (ad.add (a + 1)).add j = { block := ad.block, off := ad.off + (a + 1) + j } := by
  have e : ad.add (a + 1) = ⟨ad.block, ad.off + (a + 1), none⟩ := by unfold Addr.add; rw [if_neg (by omega)]
  rw [e]
  unfold Addr.add
  split
  · rename_i h; subst h; rfl
  · rfl
theorem two_at {l : List UInt8} {n i : Nat} (hl : l.length = n) (h : i + 2 ≤ n) : (l.drop i).take 2 = [l.getD i 0, l.getD (i + 1) 0] := by
  have h1 : i < l.length := by omega
  have h2 : i + 1 < l.length := by omega
  rw [List.drop_eq_getElem_cons h1, List.drop_eq_getElem_cons h2]
  have e1 : l.getD i 0 = l[i] := by rw [List.getD_eq_getElem?_getD, List.getElem?_eq_getElem h1]; rfl
  have e2 : l.getD (i + 1) 0 = l[i + 1] := by rw [List.getD_eq_getElem?_getD, List.getElem?_eq_getElem h2]; rfl
  rw [e1, e2]
  rfl
theorem intsC_flat (l : List Int) : ∀ c ∈ intsC l, flatC c = true := by
  intro c hc
  simp only [intsC, List.mem_map] at hc
  obtain ⟨x, _, rfl⟩ := hc
  rfl
theorem intsC_append (a b : List Int) : intsC (a ++ b) = intsC a ++ intsC b := by simp [intsC]
theorem int_lit {w a0 : World} (hx : Ext a0 w) {x : Int} (h : 0 ≤ x ∧ x ≤ 9223372036854775807) : Rd (w.alloc (.cells #[.int .i64 x] 3)) (.sl 1 (intsC [x])) (.slice (some ⟨w.heap.size, 0, none⟩) 1 1) :=
  (OwnT.madeAt (T := fun _ => False) (S := fun _ => False) (us := [.int .i64 x]) (base := 0) w.heap.size rfl rfl (by unfold maxLen; omega) (RdUs.int_ (by simp [IntKind.min, IntKind.max, IntKind.signed, IntKind.bits]; omega)) (fun _ h => h.elim) (Nat.zero_le _)).rd
set_option maxRecDepth 100000 in
set_option maxHeartbeats 1600000 in
theorem hello_any (l : List UInt8) (A : Option Addr) (n c : Nat) (w : World) (h : Rd w (.sl 1 (bytesC l)) (.slice A n c)) (hn4 : n ≤ 1000000000) :
    Calls Try.prog 43 #[.slice A n c] w fun e w' => HelRes w (decH l) e w' := by
  have HR := Lib.hid h
  obtain ⟨hl, hnc, hcap⟩ := RdC.blen h
  unfold maxLen at hcap
  obtain ⟨E, hE⟩ : ∃ E, decH l = E := ⟨_, rfl⟩
  rw [hE]
  by_cases h3 : n < 3
  · have e1 : E = none := by rw [← hE]; unfold decH; rw [if_pos (by omega)]
    subst e1
    clear hE hl h
    go_enter Try.func43, Try.ntmps43
    go_wp2
    exact bodyPost_ret (v := .tuple #[.agg #[.int .i64 0, .slice none 0 0, .slice none 0 0], .int .i64 0, .bool false]) (by simp [results, Try.results43, go_sem]) rfl ⟨_, rfl, RdH.zero _ _, (Ext.refl _).alloc _⟩
  obtain ⟨ad, rfl, -, -⟩ := bAt_cell h (k := 0) (by omega)
  obtain ⟨K, hK⟩ : ∃ K, bAt l 2 = K := ⟨_, rfl⟩
  have hK2 : K ≤ 255 := by rw [← hK]; exact bAt_le _ _
  obtain ⟨M, hM⟩ : ∃ M, bAt l (3 + 2 * K) = M := ⟨_, rfl⟩
  have hM2 : M ≤ 255 := by rw [← hM]; exact bAt_le _ _
  obtain ⟨mo, hmo⟩ : ∃ mo, bAt l 1 = mo := ⟨_, rfl⟩
  have hmo2 : mo ≤ 255 := by rw [← hmo]; exact bAt_le _ _
  have hE1 : Hid (n ≤ 3 + 2 * K → E = none) := by intro hx; rw [← hE]; unfold decH; rw [if_neg (by omega), if_pos (by omega)]
  have hE2 : Hid (n < 3 + 2 * K + 1 + M → E = none) := by
    intro hx; rw [← hE]; unfold decH; rw [if_neg (by omega), hK, hM]
    by_cases h4 : l.length ≤ 3 + 2 * K
    · rw [if_pos h4]
    · rw [if_neg h4, if_pos (by omega)]
  have hE3 : Hid (3 + 2 * K < n → 3 + 2 * K + 1 + M ≤ n → E = some (⟨(mo : Nat), pairs l K, ints8 l (3 + 2 * K + 1) M⟩, 3 + 2 * K + 1 + M)) := by
    intro hx hy; rw [← hE]; unfold decH; rw [if_neg (by omega), hK, hM, if_neg (by omega), if_neg (by omega), hmo]
  have C := fun (w' : World) (hx : Ext w w') (k : Nat) (hk : k < n) => (bAt_cell (HR.out.ext hx) hk).elim fun ad' p => show w'.cell? (ad.add k) = some (.int .u8 (bAt l k : Nat)) from by obtain ⟨e, -, q⟩ := p; injection e with e; subst e; exact q
  have HC := Lib.hid C
  have HM := Lib.hid hM
  have cb1 := C (w.alloc (.cells #[.int .i64 0, .slice none 0 0, .slice none 0 0] 24)) ((Ext.refl _).alloc _) 1 (by omega)
  have cb2 := C ((w.alloc (.cells #[.int .i64 0, .slice none 0 0, .slice none 0 0] 24)).alloc (.cells #[.int .i64 (mo : Nat), .slice none 0 0, .slice none 0 0] 24)) (((Ext.refl _).alloc _).alloc _) 2 (by omega)
  rw [hmo] at cb1
  rw [hK] at cb2
  simp [Addr.add] at cb1 cb2
  have HL := Lib.hid hl
  clear C hE hl h hM
  go_enter Try.func43, Try.ntmps43
  go_wp2
  obtain ⟨W0, hW0⟩ : ∃ W0, w.alloc (.cells #[.int .i64 0, .slice none 0 0, .slice none 0 0] 24) = W0 := ⟨_, rfl⟩
  have hs0 : W0.heap.size = w.heap.size + 1 := by rw [← hW0]; simp
  have hx0 : Ext w W0 := by rw [← hW0]; exact (Ext.refl _).alloc _
  have hb0 : W0.heap[w.heap.size]? = some (.cells #[.int .i64 0, .slice none 0 0, .slice none 0 0] 24) := by rw [← hW0]; exact (Ext.refl (w.alloc (.cells #[.int .i64 0, .slice none 0 0, .slice none 0 0] 24))).blk
  rw [hW0]
  go_loopw [6, 23] (fun s i wr => ∃ (k a : Nat) (A2 : Option Addr) (n2 c2 : Nat), s = .int .i64 (a : Nat) ∧ Hid (a = 3 + 2 * k) ∧ i = .int .i64 (k : Nat) ∧ k ≤ K ∧ a ≤ n ∧ wr.heap[w.heap.size + 1]? = some (.cells #[.int .i64 (mo : Nat), .slice A2 n2 c2, .slice none 0 0] 24) ∧ OwnT (fun _ => False) wr W0.heap.size 3 1 (.slice A2 n2 c2) (intsC (pairs l k)) ∧ Ext W0 wr) (fun _ i _ => K - (intOf i).toNat)
  case atStart =>
    refine ⟨0, 3, none, 0, 0, rfl, rfl, rfl, by omega, by omega, ?_, OwnT.nil_ _ _ _ _ _, (Ext.refl _).alloc _⟩
    rw [← hs0]
    exact (Ext.refl (W0.alloc (.cells #[.int .i64 (mo : Nat), .slice none 0 0, .slice none 0 0] 24))).blk
  case round =>
    obtain ⟨k, a, A2, n2, c2, rfl, hak, rfl, hkK, hkn, hbg, hown, hx⟩ := hrel
    have hxw := hx0.trans hx
    have hn2 := (RdC.len hown.rd).1
    obtain ⟨⟨q0, q1, q2⟩, ⟨f0, f1, f2⟩⟩ := three hbg
    obtain ⟨⟨r0, r1, r2⟩, ⟨g0, g1, g2⟩⟩ := three ((hx.block _ (by omega)).trans hb0)
    have hne := hown.ne_block hbg (by decide)
    have hgl : w.heap.size + 1 < wr.heap.size := (Array.getElem?_eq_some_iff.1 hbg).1
    by_cases hkl : k < K
    · by_cases hfit : n < a + 2
      · have e1 : E = none := hE1.out (by have := hak.out; omega)
        subst e1
        go_wp2
        exact bodyPost_ret (v := .tuple #[.agg #[.int .i64 0, .slice none 0 0, .slice none 0 0], .int .i64 0, .bool false]) (by simp [results, Try.results43, go_sem, r0, r1, r2, g0, g1, g2]) rfl ⟨_, rfl, RdH.zero _ _, ((hxw.setCell (Nat.le_refl _) _).setCell (Nat.le_refl _) _).setCell (Nat.le_refl _) _⟩
      · have hs2 := rd_cut (HR.out.ext hxw) (i := a) (j := a + 2) (by omega) (by omega)
        rw [show a + 2 - a = 2 by omega, two_at HL.out (by omega), if_neg (by omega)] at hs2
        have hak' := hak.out
        have HS2 := Lib.hid hs2
        obtain ⟨vk, hvk⟩ : ∃ vk : Int, ((l.getD a 0).toNat : Int) * 256 + ((l.getD (a + 1) 0).toNat : Int) = vk := ⟨_, rfl⟩
        have hps := pairs_succ l k
        rw [← hak'] at hps
        have hv1 : bAt l a ≤ 255 := bAt_le _ _
        have hv2 : bAt l (a + 1) ≤ 255 := bAt_le _ _
        have hvk' : (bAt l a : Int) * 256 + (bAt l (a + 1) : Int) = vk := hvk
        have hvk2 : 0 ≤ vk ∧ vk ≤ 65535 := by omega
        rw [hvk'] at hps
        have HPS := Lib.hid hps
        have HVK := Lib.hid hvk
        clear hak' hs2 hps hvk hvk' hv1 hv2
        have b1 : IntKind.i64.wrap ((a : Int) + 2) = (a : Int) + 2 := by rw [IntKind.wrap_i64]; omega
        have b2 : (a : Int) + 2 ≤ (c : Int) := by omega
        have b3 : (0 : Int) ≤ (a : Int) + 2 := by omega
        have b4 : (a : Int) ≤ max ((a : Int) + 2) 0 := by omega
        have b5 : ((a : Int) + 2).toNat - a = 2 := by omega
        have b6 : ¬ c = a := by omega
        have b8' : (a : Int) ≤ (a : Int) + 2 := by omega
        have b7 : ¬ (n : Int) < (a : Int) + 2 := by omega
        go_wp2
        go_region_law (first
          | (go_simp; go_at_call 37; refine (num2_any (l.getD a 0) (l.getD (a + 1) 0) _ _ _ _ (by first | exact HS2.out | exact HS2.out.ext (Ext.refl _).drew)).mono ?_; rintro e w1 ⟨rfl, rfl⟩; rw [HVK.out])
          | (refine step_appF (T := fun _ => False) (a0 := W0) sl22 (by rfl) (.tmp 32) (.tmp 39) (by rfl) (by exact hx.drew.alloc _) (by exact (hown.ext (Ext.refl wr).drew).ext ((Ext.refl _).alloc _)) (by simp [Act.eval, Act.put]) (A := some ⟨wr.heap.size, 0, none⟩) (m := 1) (c := 1) (by simp [Act.eval, Act.put]) (by exact int_lit (x := vk) hx.drew (by omega)) (intsC_flat _) (by simp only [intsC_length, List.length_singleton, pairs_len]; omega) ?_; intro A3 n3 c3 w3 hown3 hx3 hgr3 hor3; have hbg3 := (hgr3.block (w.heap.size + 1) (by simpa using Nat.lt_succ_of_lt hgl) hne.symm).trans ((((Ext.refl wr).drew.alloc _).block _ hgl).trans hbg); obtain ⟨⟨p0, p1, p2⟩, ⟨s0, s1, s2⟩⟩ := three hbg3))
        all_goals go_wp2
        all_goals
          go_roundw
          case rel => exact ⟨k + 1, a + 2, A3, n3, c3, by go_num, by show _ = _; have := hak.out; omega, by go_num, by omega, by omega, by exact blk_set hbg3 _, by rw [HPS.out, intsC_append]; exact hown3.set_other (hown3.ne_block hbg3 (by decide)) _, hx3.setCell (by simp; omega) _⟩
          case measure => simp [intOf]; omega
    · obtain rfl : k = K := by omega
      have hMa : bAt l a = M := by rw [hak.out]; exact HM.out
      have hca := HC.out wr hxw a
      rw [hMa] at hca
      by_cases han : n ≤ a
      · have e1 : E = none := hE1.out (by have := hak.out; omega)
        subst e1
        have hna : a = n := by omega
        clear hca
        go_wp2
        all_goals try (exfalso; omega)
        all_goals exact bodyPost_ret (v := .tuple #[.agg #[.int .i64 0, .slice none 0 0, .slice none 0 0], .int .i64 0, .bool false]) (by simp [results, Try.results43, go_sem, r0, r1, r2, g0, g1, g2]) rfl ⟨_, rfl, RdH.zero _ _, ((hxw.setCell (Nat.le_refl _) _).setCell (Nat.le_refl _) _).setCell (Nat.le_refl _) _⟩
      have hca' := hca (by omega)
      by_cases hfit : n < a + 1 + M
      · have e1 : E = none := hE2.out (by have := hak.out; omega)
        subst e1
        go_wp2
        all_goals try (exfalso; omega)
        all_goals exact bodyPost_ret (v := .tuple #[.agg #[.int .i64 0, .slice none 0 0, .slice none 0 0], .int .i64 0, .bool false]) (by simp [results, Try.results43, go_sem, r0, r1, r2, g0, g1, g2]) rfl ⟨_, rfl, RdH.zero _ _, ((hxw.setCell (Nat.le_refl _) _).setCell (Nat.le_refl _) _).setCell (Nat.le_refl _) _⟩
      · have e1 : E = some (⟨(mo : Nat), pairs l k, ints8 l (a + 1) M⟩, a + 1 + M) := by have h := hE3.out (by have := hak.out; omega) (by have := hak.out; omega); rw [← hak.out] at h; exact h
        subst e1
        by_cases hc1 : c = a + 1
        · obtain rfl : M = 0 := by omega
          have b5 : a + 1 + 0 - (a + 1) = 0 := by omega
          go_wp2
          all_goals try (exfalso; omega)
          go_loopw [77] (fun i wr' => i = .int .i64 0 ∧ wr' = wr) (fun _ _ => 0)
          case atStart => exact ⟨rfl, rfl⟩
          case round =>
            obtain ⟨rfl, rfl⟩ := hrel
            go_wp2
            have hr0 := (hx.block _ (by omega)).trans hb0
            exact bodyPost_ret (v := .tuple #[.agg #[.int .i64 (mo : Nat), .slice A2 n2 c2, .slice none 0 0], .int .i64 ((a + 1 + 0 : Nat) : Int), .bool true]) (by simp [results, Try.results43, go_sem, r0, r1, r2, g0, g1, g2]) rfl ⟨_, rfl, ⟨_, _, rfl, by dsimp only; omega, ((hown.set3 (hown.ne_block hr0 (by decide)) _ _ _).newF).mono (fun b hb => ⟨by have := hb.1; omega, hb.2⟩), RdC.nil_ 1⟩, ((hxw.setCell (Nat.le_refl _) _).setCell (Nat.le_refl _) _).setCell (Nat.le_refl _) _⟩
        · have hP := rd_cut HR.out (i := a + 1) (j := a + 1 + M) (by omega) (by omega)
          rw [if_neg hc1, show a + 1 + M - (a + 1) = M by omega] at hP
          have HP : Hid (Rd w (.sl 1 (bytesC ((l.drop (a + 1)).take M))) (.slice (some (ad.add (a + 1))) M (c - (a + 1)))) := hP
          clear hP
          have b5 : a + 1 + M - (a + 1) = M := by omega
          have hox := hown.base_le
          go_wp2
          all_goals try (exfalso; omega)
          simp only [b5]
          go_loopw [77] (fun i wr' => ∃ (j : Nat) (A4 : Option Addr) (n4 c4 : Nat), i = .int .i64 (j : Nat) ∧ j ≤ M ∧ wr'.heap[w.heap.size + 1]? = some (.cells #[.int .i64 (mo : Nat), .slice A2 n2 c2, .slice A4 n4 c4] 24) ∧ OwnT (fun _ => False) wr' W0.heap.size 3 1 (.slice A2 n2 c2) (intsC (pairs l k)) ∧ OwnT (fun _ => False) wr' W0.heap.size 3 1 (.slice A4 n4 c4) (intsC (ints8 l (a + 1) j)) ∧ Hid (∀ q, (Value.slice A2 n2 c2).ownBlock = some q → (Value.slice A4 n4 c4).ownBlock ≠ some q) ∧ Ext W0 wr') (fun i _ => M - (intOf i).toNat)
          case atStart => exact ⟨0, none, 0, 0, rfl, by omega, hbg, hown, OwnT.nil_ _ _ _ _ _, by show ∀ _, _; simp [Value.ownBlock], hx⟩
          case round =>
            obtain ⟨j, A4, n4, c4, rfl, hjM, hbg', hown', howh, HNE, hx'⟩ := hrel
            have hxw' := hx0.trans hx'
            obtain ⟨⟨q0', q1', q2'⟩, ⟨f0', f1', f2'⟩⟩ := three hbg'
            obtain ⟨⟨r0', r1', r2'⟩, ⟨g0', g1', g2'⟩⟩ := three ((hx'.block _ (by omega)).trans hb0)
            have hgl' : w.heap.size + 1 < wr.heap.size := (Array.getElem?_eq_some_iff.1 hbg').1
            have hne' := howh.ne_block hbg' (by decide)
            by_cases hjl : j < M
            · obtain ⟨ad', e1, -, hcj⟩ := bAt_cell (HP.out.ext hxw') hjl
              injection e1 with e1
              subst e1
              rw [bAt_part l hjl, add_add] at hcj
              have hb8 := bAt_le l (a + 1 + j)
              have hi8 := ints8_succ l (a + 1) j
              obtain ⟨y, hy⟩ : ∃ y, bAt l (a + 1 + j) = y := ⟨_, rfl⟩
              rw [hy] at hcj hb8 hi8
              have HI8 := Lib.hid hi8
              clear hy hi8
              go_wp2_with (at_builtin; refine wpList_appF (T := fun _ => False) (a0 := W0) sl22 (by rfl) _ _ (by rfl) (by exact hx'.alloc _) (by exact howh.ext ((Ext.refl _).alloc _)) (by rfl) (by rfl) (by exact int_lit (x := (y : Nat)) hx' (by omega)) (intsC_flat _) (by simp only [intsC_length, List.length_singleton, ints8_len]; omega) ?_; intro A5 n5 c5 w5 hown5 hx5 hgr5 hor5; have hbg5 := (hgr5.block (w.heap.size + 1) (by simpa using Nat.lt_succ_of_lt hgl') hne'.symm).trans ((((Ext.refl wr).alloc _).block _ hgl').trans hbg'); obtain ⟨⟨p0, p1, p2⟩, ⟨s0, s1, s2⟩⟩ := three hbg5)
              have hsu : (Value.slice A2 n2 c2).ownBlock = none ∨ (Value.slice A2 n2 c2).ownBlock ≠ (Value.slice A4 n4 c4).ownBlock := by
                cases hq : (Value.slice A2 n2 c2).ownBlock with
                | none => exact .inl rfl
                | some q => exact .inr fun e => HNE.out q hq e.symm
              have hsu5 := (hown'.ext ((Ext.refl wr).alloc _)).grown_other hgr5 hsu
              have HNE5 : Hid (∀ q, (Value.slice A2 n2 c2).ownBlock = some q → (Value.slice A5 n5 c5).ownBlock ≠ some q) := by
                intro q hq
                rcases hor5 with h5 | h5
                · rw [h5]; exact HNE.out q hq
                · rw [h5]
                  have := (hown'.base_le q hq).2
                  intro e
                  injection e with e
                  simp at e
                  omega
              go_roundw
              case rel => exact ⟨j + 1, A5, n5, c5, by go_num, by omega, blk_set hbg5 _, hsu5.set_other (hsu5.ne_block hbg5 (by decide)) _, by rw [HI8.out, intsC_append]; exact hown5.set_other (hown5.ne_block hbg5 (by decide)) _, HNE5, hx5.setCell (by simp; omega) _⟩
              case measure => simp [intOf]; omega
            · obtain rfl : j = M := by omega
              go_wp2
              have hr0 := (hx'.block _ (by omega)).trans hb0
              exact bodyPost_ret (v := .tuple #[.agg #[.int .i64 (mo : Nat), .slice A2 n2 c2, .slice A4 n4 c4], .int .i64 ((a + 1 + j : Nat) : Int), .bool true]) (by simp [results, Try.results43, go_sem, r0', r1', r2', g0', g1', g2']) rfl ⟨_, rfl, ⟨_, _, rfl, by dsimp only; omega, ((hown'.set3 (hown'.ne_block hr0 (by decide)) _ _ _).newF).mono (fun b hb => ⟨by have := hb.1; omega, hb.2⟩), ((howh.set3 (howh.ne_block hr0 (by decide)) _ _ _).newF).mono (fun b hb => ⟨by have := hb.1; omega, hb.2⟩)⟩, ((hxw'.setCell (Nat.le_refl _) _).setCell (Nat.le_refl _) _).setCell (Nat.le_refl _) _⟩
end Go.Proofs.Ythjgcmifggdepaa
