/- The walk: all elements of bytes. -/
import Derived.Test.YthohienbmhohjaaW24
namespace Go.Proofs.Ythohienbmhohjaa
open Go.RowKit

theorem RdC.from {w : World} {S : Nat → Prop} {l : List UInt8} {ad : Addr} {m c : Nat} (h : RdC w S (.sl 1 (bytesC l)) (.slice (some ad) m c)) {o : Nat} (ho : o < m) {A' : Option Addr} {c' : Nat} (hA : A' = some (ad.add o)) (hc : m - o ≤ c' ∧ c' ≤ maxLen) :
    RdC w S (.sl 1 (bytesC (l.drop o))) (.slice A' (m - o) c') := by
  have hl := (RdC.blen h).1
  have := RdC.cut h (i := o) (j := m) (cap' := c') (A' := A') (by omega) (Nat.le_refl _) (by omega) hc.2 (fun a ha hlt => by injection ha with ha; subst ha; rw [hA]; simp)
  rw [Nat.mul_one, Nat.mul_one, List.take_of_length_le (by rw [List.length_drop, bytesC_length]; omega)] at this
  simpa [bytesC, List.map_drop] using this
theorem NextRes.of_some {w w' : World} {l : List UInt8} {e : Ending} {d : V} {m : Nat} (h : NextRes w l e w') (hd : decOne l = some (d, m)) : ∃ v, e = .returned (.tuple #[v, .int .i64 m, .bool true]) ∧ RdV w' (New w w') d v ∧ Ext w w' := by
  obtain ⟨⟨v, d', m', h1, h2, h3⟩ | ⟨h1, -⟩, hx⟩ := h
  · rw [hd] at h2; simp at h2; obtain ⟨rfl, rfl⟩ := h2; exact ⟨v, h1, h3, hx⟩
  · rw [hd] at h1; cases h1
theorem NextRes.of_none {w w' : World} {l : List UInt8} {e : Ending} (h : NextRes w l e w') (hd : decOne l = none) : ∃ t b m, e = .returned (.tuple #[.agg #[.int .i64 t, .slice none 0 0, .bool b, .slice none 0 0], .int .i64 m, .bool false]) ∧ Ext w w' := by
  obtain ⟨⟨v, d', m', h1, h2, h3⟩ | ⟨-, t, b, m, h1⟩, hx⟩ := h
  · rw [hd] at h2; cases h2
  · exact ⟨t, b, m, h1, hx⟩
theorem AllRes.no {w w' : World} {l : List UInt8} {v : Value} (h : decAll l = none) (hv : v = .tuple #[.slice none 0 0, .bool false]) (hx : Ext w w') : AllRes w l (.returned v) w' := ⟨.inr ⟨h, by rw [hv]⟩, hx⟩
theorem AllRes.yes {w w' : World} {l : List UInt8} {v : Value} {es : List V} {A : Option Addr} {n c : Nat} (h : decAll l = some es) (hv : v = .tuple #[.slice A n c, .bool true]) (hr : RdC w' (New w w') (.sl 4 (encs es)) (.slice A n c)) (hx : Ext w w') : AllRes w l (.returned v) w' := ⟨.inl ⟨A, n, c, es, by rw [hv], h, hr⟩, hx⟩
theorem decAll_at {l : List UInt8} {k : Nat} {es0 : List V} (h : decAll l = (decAll (l.drop k)).map (es0 ++ ·)) (hk : k < l.length) {d : V} {m : Nat} (hd : decOne (l.drop k) = some (d, m)) : decAll l = (decAll (l.drop (k + m))).map ((es0 ++ [d]) ++ ·) := by
  have hne : l.drop k ≠ [] := by
    intro e
    have := congrArg List.length e
    rw [List.length_drop] at this
    simp at this; omega
  rw [h, decAll_eq hne, hd]
  dsimp only
  rw [List.drop_drop, Option.map_map]
  congr 1
  funext x
  simp
theorem decAll_fail {l : List UInt8} {k : Nat} {es0 : List V} (h : decAll l = (decAll (l.drop k)).map (es0 ++ ·)) (hk : k < l.length) (hd : decOne (l.drop k) = none) : decAll l = none := by
  have hne : l.drop k ≠ [] := by
    intro e
    have := congrArg List.length e
    rw [List.length_drop] at this
    simp at this; omega
  rw [h, decAll_eq hne, hd]; rfl
theorem decAll_end {l : List UInt8} {k : Nat} {es0 : List V} (h : decAll l = (decAll (l.drop k)).map (es0 ++ ·)) (hk : ¬ k < l.length) : decAll l = some es0 := by
  rw [h, List.drop_eq_nil_of_le (by omega), decAll_nil]; simp
theorem encs_snoc (es : List V) (d : V) : encs (es ++ [d]) = encs es ++ d.enc := by rw [encs_append]; simp [encs]
/-- An element that came new, to be laid behind others. -/
theorem us_new {w0 wr w2 : World} {o : Obj} {d : V} {us : List Value} {out : Value} (h : RdUs w2 (New wr w2) d.enc us) (h0 : w0.heap.size ≤ wr.heap.size) (hout : ∀ k, out.ownBlock = some k → w0.heap.size ≤ k ∧ k < wr.heap.size) :
    RdUs (w2.alloc o) (fun b => w0.heap.size ≤ b ∧ b < (w2.alloc o).heap.size ∧ out.ownBlock ≠ some b) d.enc us := by
  refine h.keep_ (fun b hb => Below.heap_alloc w2 o b hb.2) fun b hb => ⟨Nat.le_trans h0 hb.1, by have := hb.2; simp; omega, fun e => ?_⟩
  have h1 := (hout b e).2
  have h2 := hb.1
  omega

set_option maxRecDepth 100000 in
set_option maxHeartbeats 800000 in
theorem all_step (l : List UInt8) (hlen : l.length ≤ 1000000000) (ih : ∀ l', l'.length ≤ l.length → NextOf l') : AllOf 57 l := by
  intro A n c w h
  obtain ⟨hl, hnc, hcap⟩ := RdC.blen h
  unfold maxLen at hcap
  have HL := Lib.hid hl
  have HI := Lib.hid ih
  have hn : n ≤ 1000000000 := by omega
  clear hl hlen ih
  go_enter Try.func57, Try.ntmps57
  go_wp2
  go_loopw [4, 5] (fun o i wr => ∃ (k : Nat) (es0 : List V) (A2 : Option Addr) (n2 c2 : Nat), k ≤ n ∧ i = .int .i64 k ∧ o = .slice A2 n2 c2 ∧ Ext w wr ∧ OwnT (fun b => w.heap.size ≤ b) wr w.heap.size 29 4 (.slice A2 n2 c2) (encs es0) ∧ Hid (decAll l = (decAll (l.drop k)).map (es0 ++ ·)) ∧ es0.length ≤ k) (fun _ i _ => n - (intOf i).toNat)
  case atStart => exact ⟨0, [], none, 0, 0, by omega, rfl, rfl, Ext.refl _, OwnT.nil_ _ _ _ _ _, by show _ = _; simp, by simp⟩
  case round =>
    obtain ⟨k, es0, A2, n2, c2, hk, rfl, rfl, hx, hown, HD, hes⟩ := hrel
    by_cases hlt : k < n
    · obtain ⟨ad, x0, rfl, -, -, -⟩ := RdC.byte h (k := 0) (by omega)
      have hck : ¬ c = k := by omega
      have FR : Hid (∀ (A' : Option Addr), A' = some (ad.add k) → Rd wr (.sl 1 (bytesC (l.drop k))) (.slice A' (n - k) (c - k))) := fun A' hA => RdC.from (h.ext hx) hlt hA (by unfold maxLen; omega)
      have IHk := Lib.hid (HI.out (l.drop k) (by rw [List.length_drop]; omega))
      cases hd : decOne (l.drop k) with
      | none =>
        have HN := Lib.hid hd
        have HF := Lib.hid (decAll_fail HD.out (by rw [HL.out]; exact hlt) hd)
        clear hd
        go_wp2_with (go_at_call 56; refine (IHk.out _ _ _ _ (by exact FR.out _ (by first | rfl | simp))).mono ?_; intro e w2 hR; obtain ⟨t2, b2, m2, rfl, hx2⟩ := hR.of_none HN.out)
        go_ret2
        exact AllRes.no HF.out rfl ((hx.trans hx2).alloc _)
      | some p =>
        obtain ⟨d, m⟩ := p
        have HN := Lib.hid hd
        have HF := Lib.hid (decAll_at HD.out (by rw [HL.out]; exact hlt) hd)
        have hm := decOne_le hd
        rw [List.length_drop, HL.out] at hm
        clear hd
        obtain ⟨t, b, nst, es⟩ := d
        go_wp2_with (first
          | (go_at_call 56; refine (IHk.out _ _ _ _ (by exact FR.out _ (by first | rfl | simp))).mono ?_; intro e w2 hR; obtain ⟨v2, rfl, hr2, hx2⟩ := hR.of_some HN.out; obtain ⟨vb, ve, rfl, ht2, hrb, hre⟩ := hr2; obtain ⟨Ab, nb, cb, rfl, -⟩ := RdC.slice hrb; obtain ⟨Ae, ne, ce, rfl, -⟩ := RdC.slice hre; have HU := Lib.hid (us_new (w0 := w) (o := .cells #[.int .i64 t, .slice Ab nb cb, .bool nst, .slice Ae ne ce] 29) (out := .slice A2 n2 c2) (RdV.us (RdV.mk_ (nst := nst) ht2 hrb hre)) hx.size hown.base_le); have hE2 := (hx.trans hx2).alloc (.cells #[.int .i64 t, .slice Ab nb cb, .bool nst, .slice Ae ne ce] 29); have hown2 := (hown.ext hx2).ext ((Ext.refl _).alloc (.cells #[.int .i64 t, .slice Ab nb cb, .bool nst, .slice Ae ne ce] 29)))
          | (at_builtin; refine wpList_appT1 (T := fun b => w.heap.size ≤ b) (a0 := w) sl27 (by rfl) _ _ (by rfl) (by exact hE2) (by exact hown2) (by rfl) (by exact HU.out) (by rfl) (by rfl) (by simp) (by rw [encs_length, V.enc_length]; omega) ?_; intro A' n' c' w' hown' hx' _ _))
        go_roundw
        case rel => exact ⟨k + m, es0 ++ [V.mk t b nst es], A', n', c', by omega, by go_num, rfl, hx', by rw [encs_snoc]; exact hown', HF.out, by simp; omega⟩
        case measure => simp [intOf]; omega
    · have HF := Lib.hid (decAll_end HD.out (by rw [HL.out]; exact hlt))
      go_wp2
      go_ret2
      exact AllRes.yes HF.out rfl hown.new hx

theorem all_any : ∀ (N : Nat) (l : List UInt8), l.length ≤ N → l.length ≤ 1000000000 → AllOf 57 l := by
  intro N
  induction N with
  | zero => exact fun l h h9 => all_step l h9 fun l' h' => next_step l' (by omega) fun l'' h'' => absurd h'' (by omega)
  | succ N ih => exact fun l h h9 => all_step l h9 fun l' h' => next_step l' (by omega) fun l'' h'' => ih l'' (by omega) (by omega)
theorem next_any (l : List UInt8) (h : l.length ≤ 1000000000) : NextOf l := next_step l h fun l' h' => all_any _ l' (Nat.le_refl _) (by omega)
end Go.Proofs.Ythohienbmhohjaa
