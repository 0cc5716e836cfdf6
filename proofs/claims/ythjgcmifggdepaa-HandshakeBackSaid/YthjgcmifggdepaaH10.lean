/- The walk of Records: the loop over slices.Chunk. -/
import Derived.RangeFuncNested
import Derived.RangeFuncBound
import Derived.RangeFuncCalls
import Derived.RangeFuncLeaves
import Derived.RangeFuncBox
import Derived.Shelf.Abstract
import Derived.WalkKit
import Derived.OwnWalkIn
import Derived.TacticsInMore
import Derived.LoopNIn
import Derived.LoopIn
import Derived.Maps.AppendAt
import Derived.Test.YthjgcmifggdepaaH9
set_option linter.unusedSimpArgs false
set_option linter.unusedVariables false
namespace Go.Proofs.Ythjgcmifggdepaa
open Go.RowKit Go.Shelf

attribute [local go_sem] Oper.semAt_some

def byteV (x : UInt8) : Value := .int .u8 x.toNat
theorem us_eq {w : World} {S : Nat → Prop} {l : List UInt8} {us : List Value} (h : RdUs w S (bytesC l) us) : us = l.map byteV := by
  obtain ⟨h1, h2⟩ := h
  rw [bytesC_length] at h1
  apply List.ext_getElem?
  intro j
  by_cases hj : j < l.length
  · have hu : j < us.length := by omega
    have := h2 j (.int .u8 l[j].toNat) us[j] (by simp [bytesC, hj]) (List.getElem?_eq_getElem hu)
    rw [List.getElem?_eq_getElem hu, this.int_.1]
    simp [hj, byteV]
  · rw [List.getElem?_eq_none (by omega), List.getElem?_eq_none (by simp; omega)]
theorem us_of {w : World} {S : Nat → Prop} (l : List UInt8) : RdUs w S (bytesC l) (l.map byteV) := by
  induction l with
  | nil => exact us_nil
  | cons x l ih => exact us_cons rfl ih
theorem news_of {w : World} {S : Nat → Prop} {l : List UInt8} {ad : Addr} {n c : Nat} (h : RdC w S (.sl 1 (bytesC l)) (.slice (some ad) n c)) : ∀ j u, (l.map byteV)[j]? = some u → w.cell? (ad.add j) = some u := by
  intro j u hj
  have hl := (RdC.blen h).1
  have hjl : j < l.length := by
    have := (List.getElem?_eq_some_iff.1 hj).1
    simpa using this
  obtain ⟨ad', x, e, -, hx, hc⟩ := RdC.byte h (k := j) (by omega)
  cases e
  rw [hc]
  rw [List.getElem?_map, hx] at hj
  simpa [byteV] using hj
theorem byteV_one {l : List UInt8} : ∀ u ∈ l.map byteV, u.oneCell' = true := by
  intro u hu
  obtain ⟨x, -, rfl⟩ := List.mem_map.1 hu
  rfl
theorem cell_lit3 (W : World) (u0 u1 u2 : Value) : ∀ j u, ([u0, u1, u2] : List Value)[j]? = some u → (W.alloc (.cells #[u0, u1, u2] 5)).cell? ((⟨W.heap.size, 0, none⟩ : Addr).add j) = some u := by
  intro j u hj
  have hb : (W.alloc (.cells #[u0, u1, u2] 5)).heap[W.heap.size]? = some (.cells #[u0, u1, u2] 5) := World.alloc_heap_new W _
  rcases j with _ | _ | _ | j
  all_goals simp_all [World.cell?, Addr.add]
/-- Boxed.appended for values that lay already. -/
theorem Boxed.appended0 {W w1 : World} {n₀ B : Nat} {t e : TypeId} {size : Nat} {v v' : Value} {k m : Nat} {xs ys : List Value}
    (hv : Boxed W B t v) (hte : t ≠ e) (hrow : W.ownsRow n₀ e size v k xs) (hn₀ : n₀ ≤ W.heap.size) (hB : n₀ ≤ B)
    (hown' : w1.ownsRow n₀ e size v' m ys) (hgrow : W.grownBy w1 v.ownBlock) :
    Boxed w1 B t v ∧ Boxed (w1.setCell ⟨B, 0, none⟩ v') B t v' ∧ (w1.setCell ⟨B, 0, none⟩ v').ownsRow n₀ e size v' m ys ∧ KeepsOthers W (w1.setCell ⟨B, 0, none⟩ v') ∧ Below n₀ W (w1.setCell ⟨B, 0, none⟩ v') := by
  have hv1 : Boxed w1 B t v := hv.kept hgrow (hv.not_row hte hrow)
  refine ⟨hv1, hv1.set v', hown'.kept (grownBy_setCell' w1 B v') (.inr (hv1.not_row hte hown').symm), ?_, ?_⟩
  · refine (KeepsOthers.of_grownBy hgrow fun j o ej hj => ?_).trans (KeepsOthers.setCell _ _ _)
    rcases hrow.2 with ⟨rfl, _⟩ | ⟨g, cap, cur, rfl, _, hgb, _⟩
    · simp [Value.ownBlock] at ej
    · obtain rfl : g = j := by simpa [Value.ownBlock] using ej
      rw [hgb] at hj; cases hj; rfl
  · refine ((Below.refl n₀ W).grown hgrow (by omega) fun j ej => ?_).setCell (p := ⟨B, 0, none⟩) hB v'
    rcases hrow.2 with ⟨rfl, _⟩ | ⟨g, cap, cur, rfl, hb, _, _⟩
    · simp [Value.ownBlock] at ej
    · obtain rfl : g = j := by simpa [Value.ownBlock] using ej
      exact hb

/-- What has come. -/
def come (l : List UInt8) (s n : Nat) (pre : List {j : Nat // j < n}) : List UInt8 := pre.flatMap fun j => recAt l s n j.1
theorem come_snoc (l : List UInt8) (s n : Nat) (pre : List {j : Nat // j < n}) (x : {j : Nat // j < n}) : come l s n (pre ++ [x]) = come l s n pre ++ recAt l s n x.1 := by simp [come]
theorem recAt_len {l : List UInt8} {s n i : Nat} (hl : l.length = n) (hi : i < n) (hn : n ≤ 4096) : (recAt l s n i).length = 3 + min s (n - i) := by
  simp [recAt]; omega
theorem come_len {l : List UInt8} {s n : Nat} (hl : l.length = n) (hn : n ≤ 4096) (pre : List {j : Nat // j < n}) : (come l s n pre).length ≤ 4099 * pre.length := by
  induction pre with
  | nil => simp [come]
  | cons x pre ih =>
    have := recAt_len (s := s) hl x.2 hn
    rw [come, List.flatMap_cons, List.length_append, List.length_cons]
    change _ + (come l s n pre).length ≤ _
    omega

/-- slices.Chunk hands back a value that stops. -/
theorem chunk_stops (n Bs Bn : Nat) (hn : 1 ≤ n) (A : Option Addr) (ad : Addr) (len cap s : Nat) (hs : 0 < s) (hs9 : s ≤ 65535) (hlen : len ≤ 4096) (hlc : len ≤ cap) (hcap : cap ≤ 9223372036854775807) (hA : 0 < len → A = some ad) (w : World)
    (hBs : Boxed w Bs 33 (.slice A len cap)) (hBn : Boxed w Bn 3 (.int .i64 (s : Nat))) :
    SeqStopsK Fence.wide n Try.prog 47 #[.pointer (some ⟨Bs, 0, none⟩), .pointer (some ⟨Bn, 0, none⟩)] (fun x : {j : Nat // j < len} => #[.slice (some (ad.add x.1)) (min s (len - x.1)) (min s (len - x.1))]) (KB Bs Bn (.slice A len cap) (.int .i64 (s : Nat))) (fun ys => ys = offs s len 0) (fun _ => True) len w := fun l J Jx W hW hJ _ hY h0 =>
  chunk1_in Fence.wide n trivial rfl hn l Bs Bn A ad len cap s hs hs9 hlen hlc hcap hA J Jx (fun pre W' h => hJ pre W' W'.drew none h ⟨rfl, rfl, rfl, Nat.le_refl _, fun _ _ _ => rfl⟩ (fun _ e => by cases e)) hY W ((hW.block Bs hBs.lt).trans hBs) ((hW.block Bn hBn.lt).trans hBn) h0

set_option maxRecDepth 100000 in
set_option maxHeartbeats 1600000 in
theorem records_any (l : List UInt8) (size : Int) (A : Option Addr) (n c : Nat) (w : World) (h : Rd w (.sl 1 (bytesC l)) (.slice A n c)) :
    Calls Try.prog 28 #[.slice A n c, .int .i64 size] w fun e w' => BRes w (recL size l) (recE size l) e w' := by
  have HR := Lib.hid h
  obtain ⟨hl, hnc, hcap⟩ := RdC.blen h
  unfold maxLen at hcap
  obtain ⟨i0, hi, hz0, hz1, hz2⟩ := info_parts info5
  refine (callsIn_wide (n := 9)).1 ?_
  refine callsIn_of_wp_marks Try.func28 rfl trivial ?_ rfl
  simp only [Try.ntmps28, List.size_toArray, List.length_cons, List.length_nil, Nat.reduceAdd, Nat.reduceSub, Array.replicate_succ, Array.replicate_zero, List.push_toArray, List.append_toArray, List.nil_append, List.cons_append]
  by_cases hs : size < 1 ∨ 65535 < size
  · have e1 : recE size l = 2 := by unfold recE; rw [if_pos hs]
    have e2 : recL size l = [] := by unfold recL; rw [e1]; rfl
    rw [e1, e2]
    clear e1 e2 hl h
    gi_wp2
    all_goals try (exfalso; omega)
    all_goals exact ⟨_, results_tmp2 rfl _ _ _, none, 0, 0, rfl, OwnT.nil_ _ _ _ _ _, Ext.refl _⟩
  by_cases hb : 4096 < n
  · have e1 : recE size l = 3 := by unfold recE; rw [if_neg hs, if_pos (by omega)]
    have e2 : recL size l = [] := by unfold recL; rw [e1]; rfl
    rw [e1, e2]
    have s1 : ¬ size < 1 := by omega
    have s2 : ¬ 65535 < size := by omega
    clear e1 e2 hl h hs
    gi_wp2
    all_goals try (exfalso; omega)
    all_goals exact ⟨_, results_tmp2 rfl _ _ _, none, 0, 0, rfl, OwnT.nil_ _ _ _ _ _, Ext.refl _⟩
  obtain ⟨s, rfl⟩ := Int.eq_ofNat_of_zero_le (by omega : 0 ≤ size)
  have e1 : recE (s : Int) l = 0 := by unfold recE; rw [if_neg hs, if_neg (by omega)]
  have hs0 : 0 < s := by omega
  have hs9 : s ≤ 65535 := by omega
  have e2 : recL (s : Int) l = come l s n (offs s n 0) := by
    unfold recL
    rw [e1]
    simp only [if_true, Int.toNat_natCast]
    have := recs_offs hl hs0 n 0 (by omega)
    rw [List.drop_zero] at this
    exact this
  rw [e1, e2]
  have s1 : ¬ (s : Int) < 1 := by omega
  have s2 : ¬ 65535 < (s : Int) := by omega
  have hn4 : n ≤ 4096 := by omega
  have s3 : ¬ (4096 : Int) < (n : Int) := by omega
  have HL := Lib.hid hl
  clear e1 e2 hs
  gi_wp2_with (refine ⟨trivial, ?_⟩; gi_at_call 40; refine (chunk_in Fence.wide _ trivial rfl _ _ _ _ hs0 _).mono ?_; rintro e w' ⟨rfl, rfl⟩)
  obtain ⟨ad, hA⟩ : ∃ ad : Addr, 0 < n → A = some ad := by
    by_cases h0 : 0 < n
    · obtain ⟨ad, x, rfl, -, -, -⟩ := RdC.byte HR.out h0
      exact ⟨ad, fun _ => rfl⟩
    · exact ⟨⟨0, 0, none⟩, fun h => absurd h h0⟩
  have bO := Boxed.new w 33 (.slice none 0 0)
  have bS := Boxed.new (w.alloc (.cells #[.slice none 0 0] 33)) 33 (.slice A n c)
  have bN := Boxed.new ((w.alloc (.cells #[.slice none 0 0] 33)).alloc (.cells #[.slice A n c] 33)) 3 (.int .i64 (s : Nat))
  rw [World.size_alloc] at bS bN
  rw [World.size_alloc] at bN
  have hB0 : Below w.heap.size w (((w.alloc (.cells #[.slice none 0 0] 33)).alloc (.cells #[.slice A n c] 33)).alloc (.cells #[.int .i64 (s : Nat)] 3)) := (((Below.refl _ w).alloc (Nat.le_refl _) _).alloc (by simp) _).alloc (by simp; omega) _
  have hxs0 := bS.alloc (.cells #[.int .i64 (s : Nat)] 3)
  refine wpIn_rangeFunc_ownG rfl (by omega) (gf := 47) (lb := #[.pointer (some ⟨w.heap.size + 1, 0, none⟩), .pointer (some ⟨w.heap.size + 1 + 1, 0, none⟩)]) (by simp [Act.eval]) trivial (enters_of Try.func47 (by kernel_rfl) rfl)
    (chunk_stops 8 (w.heap.size + 1) (w.heap.size + 1 + 1) (by omega) A ad n c s hs0 hs9 hn4 hnc (by omega) hA _ hxs0 bN) KB.t (fun W l o o' _ h hc _ => KB.b W l o o' h hc) (Below.refl _ _) (fun _ => rfl)
    (fun pre W => ((∃ v, Boxed W w.heap.size 33 v ∧ W.ownsRow w.heap.size 5 1 v (come l s n pre).length ((come l s n pre).map byteV) ∧ True) ∧ Below w.heap.size w W) ∧ Boxed W (w.heap.size + 1) 33 (.slice A n c) ∧ Boxed W (w.heap.size + 1 + 1) 3 (.int .i64 (s : Nat)))
    (fun _ _ _ => False)
    (OwnFrom.and (OwnFrom.and (Own.from (holdsRow_own w.heap.size w.heap.size 33 5 1 (fun pre => (come l s n pre).length) (fun pre => (come l s n pre).map byteV) (fun _ _ => True)) _) (ownFrom_below (Nat.le_refl _) (by simp; omega))) (OwnFrom.and (Own.from (boxed_own _ _ (fun _ => .slice A n c)) _) (Own.from (boxed_own _ _ (fun _ => .int .i64 (s : Nat))) _)))
    (fun _ _ _ _ _ hs _ _ => hs)
    ⟨⟨⟨_, (bO.alloc _).alloc _, World.ownsRow_nil _ _ _ _, trivial⟩, hB0⟩, hxs0, bN⟩
    (fun x => { tmps := #[Value.slice A n c, Value.int IntKind.i64 (s : Nat), undef, undef, Value.slice none 0 0,
                Value.int IntKind.i64 0, Value.pointer (some { block := w.heap.size, off := 0 }), .slice (some (ad.add x.1)) (min s (n - x.1)) (min s (n - x.1)),
                Value.bool false, Value.int IntKind.i64 (s : Nat), Value.bool false, Value.bool false,
                Value.int IntKind.i64 (s : Nat), Value.bool false, Value.bool false, Value.bool false,
                Value.slice A n c, Value.int IntKind.i64 (n : Nat), Value.bool false, Value.slice A n c,
                Value.int IntKind.i64 (s : Nat), .func (.func 47) #[] #[.pointer (some ⟨w.heap.size + 1, 0, none⟩), .pointer (some ⟨w.heap.size + 1 + 1, 0, none⟩)], .slice (some (ad.add x.1)) (min s (n - x.1)) (min s (n - x.1)), undef, undef, undef, undef, undef, undef, undef, undef, undef, undef,
                undef, undef, undef, undef], defers := [] }) ?assign ?body ?done ?stop
  case assign =>
    intro l x W K hK
    gi_wp2
    exact hK
  case body =>
    rintro l0 pre ⟨x, hxn⟩ W ⟨⟨⟨v, hv, hrow, -⟩, hB⟩, hxs, hxb⟩ hlt
    have hc := hv.cell
    have hlen0 := come_len (s := s) hl hn4 pre
    obtain ⟨m, hm⟩ : ∃ m, min s (n - x) = m := ⟨_, rfl⟩
    have hrec : recAt l s n x = [22, b8 ((m : Int) / 256), b8 (m : Int)] ++ (l.drop x).take m := by unfold recAt; rw [hm]
    have hcm := come_snoc l s n pre ⟨x, hxn⟩
    dsimp only at hcm ⊢
    rw [hrec] at hcm
    rw [hm]
    have hm1 : 1 ≤ m := by omega
    have hm3 : x + m ≤ n := by omega
    obtain rfl := hA (by omega)
    have hpt : ((l.drop x).take m).length = m := by simp; omega
    have hwB : w.heap.size ≤ W.heap.size := hB.size
    have tok1 : True := trivial
    have HCM := Lib.hid hcm
    have HRW := Lib.hid hrow
    clear hcm hrec hm
    gi_wp2_with (first
      | (gi_at_builtin; have _t := tok1; refine wpListIn_append_own _ rfl _ _ 33 rfl w.heap.size 5 i0 (.int .u8 0) 1 1 Try.underlying33 hi hz0 hz1 hz2 rfl (by decide) _ _ _ rfl (HRW.out.alloc _) ⟨W.heap.size, 0, none⟩ 3 3 [_, _, _] rfl rfl (cell_lit3 _ _ _ _) (by simp [Value.oneCell']) (by unfold maxLen; omega) (by omega) (by have := hB.size; simp; omega) ?_; intro v' w1 hown' hgrow _; obtain ⟨g', cap', rfl⟩ := ownsRow_succ hown'; obtain ⟨hv1, hv2, hr2, hk2, hb2⟩ := hv.appended (by decide) HRW.out hB.size (Nat.le_refl _) hown' hgrow; have hc1 := hv1.cell; have hf1 := hv1.frozen; have hc2 := hv2.cell; have hB2 := hB.trans hb2; have hxs2 := ((hxs.alloc _).kept hgrow (hxs.not_row (by decide) HRW.out)).other (B' := w.heap.size) (by omega) (.slice (some ⟨g', 0, none⟩) ((come l s n pre).length + 2 + 1) cap'); have hxb2 := ((hxb.alloc _).kept hgrow (hxb.not_row (by decide) HRW.out)).other (B' := w.heap.size) (by omega) (.slice (some ⟨g', 0, none⟩) ((come l s n pre).length + 2 + 1) cap'); clear tok1)
      | (gi_at_builtin; refine wpListIn_append_own _ rfl _ _ 33 rfl w.heap.size 5 i0 (.int .u8 0) 1 1 Try.underlying33 hi hz0 hz1 hz2 rfl (by decide) _ _ _ rfl hr2 (ad.add x) m m (((l.drop x).take m).map byteV) rfl (by simp; omega) (news_of (rd_mid (HR.out.ext (show Ext w _ from hB2)) (i := x) (m := m) (c' := m) (by omega) (by omega))) byteV_one (by unfold maxLen; omega) (by omega) (by have := hB2.size; omega) ?_; intro v'' w2 hown'' hgrow2 _; obtain ⟨m', rfl⟩ : ∃ m', m = m' + 1 := ⟨m - 1, by omega⟩; obtain ⟨g'', cap'', rfl⟩ := ownsRow_succ (k := (come l s n pre).length + 2 + 1 + m') hown''; obtain ⟨hv3, hv4, hr4, hk4, hb4⟩ := Boxed.appended0 hv2 (by decide) hr2 hB2.size (Nat.le_refl _) hown'' hgrow2; have hc3 := hv3.cell; have hf3 := hv3.frozen))
    have hxs4 := (hxs2.kept hgrow2 (hxs2.not_row (by decide) hr2)).other (B' := w.heap.size) (by omega) (.slice (some ⟨g'', 0, none⟩) ((come l s n pre).length + 2 + 1 + m' + 1) cap'')
    have hxb4 := (hxb2.kept hgrow2 (hxb2.not_row (by decide) hr2)).other (B' := w.heap.size) (by omega) (.slice (some ⟨g'', 0, none⟩) ((come l s n pre).length + 2 + 1 + m' + 1) cap'')
    have hL : (come l s n (pre ++ [⟨x, hxn⟩])).length = (come l s n pre).length + 2 + 1 + m' + 1 := by
      rw [HCM.out, List.length_append, List.length_append, hpt]
      simp
      omega
    have hM : (come l s n (pre ++ [⟨x, hxn⟩])).map byteV = (come l s n pre).map byteV ++ [.int .u8 22, .int .u8 (((m' : Int) + 1) / 256), .int .u8 (((m' : Int) + 1) % 256)] ++ ((l.drop x).take (m' + 1)).map byteV := by
      rw [HCM.out, List.map_append, List.map_append, ← List.append_assoc]
      congr 2
      exact (us_eq (w := W) (S := fun _ => False) (us_cons rfl (us_cons (by rw [b8_nat]; omega) (us_cons (by rw [b8_nat]; omega) us_nil)))).symm
    refine ⟨(hk2.trans hk4).from _, ⟨fun _ => hxs4, fun _ => hxb4⟩, ⟨⟨_, hv4, ?_⟩, hB2.trans hb4⟩, hxs4, hxb4⟩
    rw [hL, hM]
    exact hr4
  case done =>
    rintro D ys W hD rfl ⟨⟨⟨v, hv, hrow, -⟩, hB⟩, -, -⟩ hK
    obtain ⟨A3, n3, c3, rfl⟩ : ∃ A3 n3 c3, v = .slice A3 n3 c3 := by
      rcases hrow.2 with ⟨rfl, _⟩ | ⟨g, cap, cur, rfl, _⟩
      · exact ⟨_, _, _, rfl⟩
      · exact ⟨_, _, _, rfl⟩
    have hc := hv.cell
    gi_wp2
    refine ⟨by simp, .inl ⟨_, _, rfl, run_takeDeferred hK, ?_⟩⟩
    exact ⟨_, results_tmp2 rfl _ _ _, A3, n3, c3, rfl, ⟨_, _, ownsRow_putObj hrow _ hK rfl, us_of _⟩, hB.trans (belowK_b (w := w) (Nat.le_refl _) W D _ _ (by simp at hD; omega) hK rfl rfl)⟩
  case stop =>
    rintro D c pre W _ _ h _
    exact h.elim
end Go.Proofs.Ythjgcmifggdepaa
