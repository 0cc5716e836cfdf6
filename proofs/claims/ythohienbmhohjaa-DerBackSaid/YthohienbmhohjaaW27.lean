/- The walk: all elements of bytes, by the reference. -/
import Derived.Test.YthohienbmhohjaaW26
namespace Go.Proofs.Ythohienbmhohjaa
open Go.RowKit

/-- An element whose parts came new, to be laid behind others. -/
theorem us_any {w0 wr W0 w2 w' : World} {d : V} {us : List Value} {out : Value} (h : RdUs w2 (New W0 w2) d.enc us) (h0 : w0.heap.size ≤ wr.heap.size) (h1 : wr.heap.size ≤ W0.heap.size) (hout : ∀ k, out.ownBlock = some k → w0.heap.size ≤ k ∧ k < wr.heap.size)
    (hk : ∀ b, W0.heap.size ≤ b → b < w2.heap.size → w'.heap[b]? = w2.heap[b]?) (hs : w2.heap.size ≤ w'.heap.size) :
    RdUs w' (fun b => w0.heap.size ≤ b ∧ b < w'.heap.size ∧ out.ownBlock ≠ some b) d.enc us := by
  refine h.keep_ (fun b hb => hk b hb.1 hb.2) fun b hb => ⟨Nat.le_trans h0 (Nat.le_trans h1 hb.1), Nat.lt_of_lt_of_le hb.2 hs, fun e => ?_⟩
  have h3 := (hout b e).2
  have h2 := hb.1
  omega
theorem decOne_sub {l : List UInt8} {k t o m : Nat} (h : hdr (l.drop k) = some (t, o, m)) : decOne (l.drop k) = (if nestB t then (decAll ((l.drop (k + o)).take m)).map fun es => V.mk t [] true es else some (V.mk t ((l.drop (k + o)).take m) false [])).map fun v => (v, o + m) := by
  rw [decOne_hdr h, List.drop_drop]

set_option maxRecDepth 100000 in
set_option maxHeartbeats 800000 in
theorem rall_step (l : List UInt8) (hlen : l.length ≤ 65535) (ih : ∀ l', l'.length < l.length → AllOf 71 l') : AllOf 71 l := by
  intro A n c w h
  obtain ⟨hl, hnc, hcap⟩ := RdC.blen h
  unfold maxLen at hcap
  have HL := Lib.hid hl
  have HI := Lib.hid ih
  have hn : n ≤ 65535 := by omega
  clear hl hlen ih
  go_enter Try.func71, Try.ntmps71
  go_wp2
  go_loopw [4, 5] (fun o i wr => ∃ (k : Nat) (es0 : List V) (A2 : Option Addr) (n2 c2 : Nat), k ≤ n ∧ i = .int .i64 k ∧ o = .slice A2 n2 c2 ∧ Ext w wr ∧ OwnT (fun b => w.heap.size ≤ b) wr w.heap.size 29 4 (.slice A2 n2 c2) (encs es0) ∧ Hid (decAll l = (decAll (l.drop k)).map (es0 ++ ·)) ∧ es0.length ≤ k) (fun _ i _ => n - (intOf i).toNat)
  case atStart => exact ⟨0, [], none, 0, 0, by omega, rfl, rfl, Ext.refl _, OwnT.nil_ _ _ _ _ _, by show _ = _; simp, by simp⟩
  case round =>
    obtain ⟨k, es0, A2, n2, c2, hk, rfl, rfl, hx, hown, HD, hes⟩ := hrel
    by_cases hlt : k < n
    · obtain ⟨ad, x0, rfl, -, -, -⟩ := RdC.byte h (k := 0) (by omega)
      have HR := Lib.hid (h.ext hx)
      cases hh : hdr (l.drop k) with
      | none =>
        have HN := Lib.hid hh
        have HF := Lib.hid (decAll_fail HD.out (by rw [HL.out]; exact hlt) (decOne_none hh))
        clear hh
        go_wp2_with (go_at_call 75; refine (head_any l k _ _ _ _ _ HR.out (by omega) hn).mono ?_; rintro e w2 ⟨hR, rfl⟩; unfold HeadRes at hR; rw [HN.out] at hR; subst hR; simp only [headV])
        go_ret2
        exact AllRes.no HF.out rfl hx
      | some p =>
        obtain ⟨t, o, m⟩ := p
        have HN := Lib.hid hh
        obtain ⟨ho2, hom, htag, ht255, hm6, ho4⟩ := hdr_le hh
        rw [List.length_drop, HL.out] at hom
        have hfit : k + o + m ≤ n := by omega
        have h1 := decOne_sub hh
        have hq : ((t : Int) / 32 % 2 == 1) = nestB t := rfl
        have SUB : Hid (∀ (A' : Option Addr) (c' : Nat), (0 < m → A' = some { block := ad.block, off := ad.off + (k + o) }) → m ≤ c' ∧ c' ≤ maxLen → Rd wr (.sl 1 (bytesC ((l.drop (k + o)).take m))) (.slice A' m c')) := fun A' c' hA hc => RdC.sub (o := k + o) (k := m) (h.ext hx) (by omega) (by omega) hA hc
        have SUBQ : Hid (∀ (A' : Option Addr) (q c' : Nat), q = m → (0 < m → A' = some { block := ad.block, off := ad.off + (k + o) }) → m ≤ c' ∧ c' ≤ maxLen → Rd wr (.sl 1 (bytesC ((l.drop (k + o)).take m))) (.slice A' q c')) := fun A' q c' hq hA hc => by rw [hq]; exact SUB.out A' c' hA hc
        clear hh
        have hsubl : ((l.drop (k + o)).take m).length = m := by rw [List.length_take, List.length_drop, HL.out]; omega
        cases hnst : nestB t with
        | true =>
          rw [hnst] at h1 hq
          rw [if_pos rfl] at h1
          have IH := Lib.hid (HI.out ((l.drop (k + o)).take m) (by rw [hsubl, HL.out]; omega))
          cases hd : decAll ((l.drop (k + o)).take m) with
          | none =>
            rw [hd] at h1
            have HD2 := Lib.hid hd
            have HF := Lib.hid (decAll_fail HD.out (by rw [HL.out]; exact hlt) h1)
            clear hd h1 hsubl hnst htag
            go_wp2_with (first
              | (go_at_call 75; refine (head_any l k _ _ _ _ _ HR.out (by omega) hn).mono ?_; rintro e w2 ⟨hR, rfl⟩; unfold HeadRes at hR; rw [HN.out] at hR; subst hR; simp only [headV])
              | (go_at_call 71; refine (IH.out _ _ _ _ (by exact (SUB.out _ _ (fun hm => by first | (exfalso; omega) | rfl | (rw [if_neg (by omega)]; simp [Addr.add]; omega) | (rw [if_neg (by omega)]; simp [Addr.add]) | (simp [Addr.add]; omega) | (simp [Addr.add])) (by unfold maxLen; omega)).ext ((Ext.refl _).alloc _))).mono ?_; intro e w3 hR; obtain ⟨rfl, hx3⟩ := hR.of_none HD2.out))
            all_goals go_ret2
            all_goals exact AllRes.no HF.out rfl ((hx.alloc _).trans hx3)
          | some es =>
            rw [hd] at h1
            have h2 : decOne (l.drop k) = some (V.mk t [] true es, o + m) := by rw [h1]; rfl
            have HD2 := Lib.hid hd
            have HF := Lib.hid (decAll_at HD.out (by rw [HL.out]; exact hlt) h2)
            clear hd h1 h2 hsubl hnst htag
            go_wp2_with (first
              | (go_at_call 75; refine (head_any l k _ _ _ _ _ HR.out (by omega) hn).mono ?_; rintro e w2 ⟨hR, rfl⟩; unfold HeadRes at hR; rw [HN.out] at hR; subst hR; simp only [headV])
              | (go_at_call 71; refine (IH.out _ _ _ _ (by exact (SUB.out _ _ (fun hm => by first | (exfalso; omega) | rfl | (rw [if_neg (by omega)]; simp [Addr.add]; omega) | (rw [if_neg (by omega)]; simp [Addr.add]) | (simp [Addr.add]; omega) | (simp [Addr.add])) (by unfold maxLen; omega)).ext ((Ext.refl _).alloc _))).mono ?_; intro e w3 hR; obtain ⟨A3, n3, c3, rfl, hr3, hx3⟩ := hR.of_some HD2.out; obtain ⟨⟨q0, q1, q2, q3⟩, ⟨f0, f1, f2, f3⟩⟩ := four hx3.blk; have hE := (((Ext.refl wr).alloc _).trans hx3).setCell (p := ⟨wr.heap.size, 3, none⟩) (Nat.le_refl _) (.slice A3 n3 c3); have HU := Lib.hid (us_any (w0 := w) (wr := wr) (w' := w3.setCell ⟨wr.heap.size, 3, none⟩ (.slice A3 n3 c3)) (out := .slice A2 n2 c2) (RdV.us (t := (t : Int)) (RdV.mk_ (t := (t : Int)) (b := []) (nst := true) (es := es) (S := New (wr.alloc (.cells #[.int .i64 t, .slice none 0 0, .bool true, .slice none 0 0] 29)) w3) (by omega) (RdC.nil_ 1) hr3)) hx.size (by simp) hown.base_le (fun b hb _ => by simp at hb; have n1 : b ≠ wr.heap.size := (by omega); exact Below.heap_setCell _ _ _ _ (by exact n1)) (by simp [World.setCell])))
              | (at_builtin; refine wpList_appT1 (T := fun b => w.heap.size ≤ b) (a0 := w) sl27 (by rfl) _ _ (by rfl) (by exact hx.trans hE) (by exact hown.ext hE) (by rfl) (by exact HU.out) (by rfl) (by rfl) (by simp [World.setCell]) (by rw [encs_length, V.enc_length]; omega) ?_; intro A' n' c' w' hown' hx' _ _))
            all_goals
              go_roundw
              case rel => exact ⟨k + o + m, es0 ++ [V.mk t [] true es], A', n', c', by omega, by go_num, rfl, hx', by rw [encs_snoc]; exact hown', by rw [Nat.add_assoc]; exact HF.out, by simp; omega⟩
              case measure => simp [intOf]; omega
        | false =>
          rw [hnst] at h1 hq
          rw [if_neg (by decide)] at h1
          have h2 : decOne (l.drop k) = some (V.mk t ((l.drop (k + o)).take m) false [], o + m) := by rw [h1]; rfl
          have HF := Lib.hid (decAll_at HD.out (by rw [HL.out]; exact hlt) h2)
          have HSL := Lib.hid hsubl
          clear h1 h2 hsubl hnst htag
          by_cases hck : c = k + o
          · subst hck
            have tok1 : True := trivial
            go_wp2_with (first
              | (go_at_call 75; refine (head_any l k _ _ _ _ _ HR.out (by omega) hn).mono ?_; rintro e w2 ⟨hR, rfl⟩; unfold HeadRes at hR; rw [HN.out] at hR; subst hR; simp only [headV])
              | (at_builtin; have _t := tok1; refine wpList_appF (T := fun _ => False) (a0 := wr.alloc (.cells #[.int .i64 t, .slice none 0 0, .bool false, .slice none 0 0] 29)) sl22 (by rfl) _ _ (by rfl) (by exact (Ext.refl _).alloc _) (by exact OwnT.madeAt (wr.heap.size + 1) (by simp) (n := 0) (us := []) (cs := []) (S := fun _ => False) rfl (by simp [maxLen]) ⟨rfl, fun _ _ _ h _ => by simp at h⟩ (fun _ h => h.elim) (Nat.le_refl _)) (by rfl) (by rfl) (by refine (SUBQ.out _ _ _ (by omega) ?_ ?_).ext (((Ext.refl _).alloc _).alloc _); (intro hm; first | (exfalso; omega) | rfl | (rw [if_neg (by omega)]; simp [Addr.add]; omega) | (rw [if_neg (by omega)]; simp [Addr.add]) | (simp [Addr.add]; omega) | (simp [Addr.add])); (unfold maxLen; omega)) (bytesC_flat _) (by rw [bytesC_length, HSL.out]; simp; omega) ?_; intro A3 n3 c3 w3 hown3 hx3 _ _; clear tok1; have hr3 := hown3.newF; obtain ⟨⟨q0, q1, q2, q3⟩, ⟨f0, f1, f2, f3⟩⟩ := four hx3.blk; have hE := (((Ext.refl wr).alloc _).trans hx3).setCell (p := ⟨wr.heap.size, 1, none⟩) (Nat.le_refl _) (.slice A3 n3 c3); have HU := Lib.hid (us_any (w0 := w) (wr := wr) (w' := w3.setCell ⟨wr.heap.size, 1, none⟩ (.slice A3 n3 c3)) (out := .slice A2 n2 c2) (RdV.us (t := (t : Int)) (RdV.mk_ (t := (t : Int)) (b := (l.drop (k + o)).take m) (nst := false) (es := []) (S := New (wr.alloc (.cells #[.int .i64 t, .slice none 0 0, .bool false, .slice none 0 0] 29)) w3) (by omega) hr3 (RdC.nil_ 4))) hx.size (by simp) hown.base_le (fun b hb _ => by simp at hb; have n1 : b ≠ wr.heap.size := (by omega); exact Below.heap_setCell _ _ _ _ (by exact n1)) (by simp [World.setCell])))
              | (at_builtin; refine wpList_appT1 (T := fun b => w.heap.size ≤ b) (a0 := w) sl27 (by rfl) _ _ (by rfl) (by exact hx.trans hE) (by exact hown.ext hE) (by rfl) (by exact HU.out) (by rfl) (by rfl) (by simp [World.setCell]) (by rw [encs_length, V.enc_length]; omega) ?_; intro A' n' c' w' hown' hx' _ _))
            all_goals
              go_roundw
              case rel => exact ⟨k + o + m, es0 ++ [V.mk t ((l.drop (k + o)).take m) false []], A', n', c', by omega, by go_num, rfl, hx', by rw [encs_snoc]; exact hown', by rw [Nat.add_assoc]; exact HF.out, by simp; omega⟩
              case measure => simp [intOf]; omega
          · have tok1 : True := trivial
            go_wp2_with (first
              | (go_at_call 75; refine (head_any l k _ _ _ _ _ HR.out (by omega) hn).mono ?_; rintro e w2 ⟨hR, rfl⟩; unfold HeadRes at hR; rw [HN.out] at hR; subst hR; simp only [headV])
              | (at_builtin; have _t := tok1; refine wpList_appF (T := fun _ => False) (a0 := wr.alloc (.cells #[.int .i64 t, .slice none 0 0, .bool false, .slice none 0 0] 29)) sl22 (by rfl) _ _ (by rfl) (by exact (Ext.refl _).alloc _) (by exact OwnT.madeAt (wr.heap.size + 1) (by simp) (n := 0) (us := []) (cs := []) (S := fun _ => False) rfl (by simp [maxLen]) ⟨rfl, fun _ _ _ h _ => by simp at h⟩ (fun _ h => h.elim) (Nat.le_refl _)) (by rfl) (by rfl) (by refine (SUBQ.out _ _ _ (by omega) ?_ ?_).ext (((Ext.refl _).alloc _).alloc _); (intro hm; first | (exfalso; omega) | rfl | (rw [if_neg (by omega)]; simp [Addr.add]; omega) | (rw [if_neg (by omega)]; simp [Addr.add]) | (simp [Addr.add]; omega) | (simp [Addr.add])); (unfold maxLen; omega)) (bytesC_flat _) (by rw [bytesC_length, HSL.out]; simp; omega) ?_; intro A3 n3 c3 w3 hown3 hx3 _ _; clear tok1; have hr3 := hown3.newF; obtain ⟨⟨q0, q1, q2, q3⟩, ⟨f0, f1, f2, f3⟩⟩ := four hx3.blk; have hE := (((Ext.refl wr).alloc _).trans hx3).setCell (p := ⟨wr.heap.size, 1, none⟩) (Nat.le_refl _) (.slice A3 n3 c3); have HU := Lib.hid (us_any (w0 := w) (wr := wr) (w' := w3.setCell ⟨wr.heap.size, 1, none⟩ (.slice A3 n3 c3)) (out := .slice A2 n2 c2) (RdV.us (t := (t : Int)) (RdV.mk_ (t := (t : Int)) (b := (l.drop (k + o)).take m) (nst := false) (es := []) (S := New (wr.alloc (.cells #[.int .i64 t, .slice none 0 0, .bool false, .slice none 0 0] 29)) w3) (by omega) hr3 (RdC.nil_ 4))) hx.size (by simp) hown.base_le (fun b hb _ => by simp at hb; have n1 : b ≠ wr.heap.size := (by omega); exact Below.heap_setCell _ _ _ _ (by exact n1)) (by simp [World.setCell])))
              | (at_builtin; refine wpList_appT1 (T := fun b => w.heap.size ≤ b) (a0 := w) sl27 (by rfl) _ _ (by rfl) (by exact hx.trans hE) (by exact hown.ext hE) (by rfl) (by exact HU.out) (by rfl) (by rfl) (by simp [World.setCell]) (by rw [encs_length, V.enc_length]; omega) ?_; intro A' n' c' w' hown' hx' _ _))
            all_goals
              go_roundw
              case rel => exact ⟨k + o + m, es0 ++ [V.mk t ((l.drop (k + o)).take m) false []], A', n', c', by omega, by go_num, rfl, hx', by rw [encs_snoc]; exact hown', by rw [Nat.add_assoc]; exact HF.out, by simp; omega⟩
              case measure => simp [intOf]; omega
    · have HF := Lib.hid (decAll_end HD.out (by rw [HL.out]; exact hlt))
      go_wp2
      go_ret2
      exact AllRes.yes HF.out rfl hown.new hx
theorem rall_any : ∀ (N : Nat) (l : List UInt8), l.length ≤ N → l.length ≤ 65535 → AllOf 71 l := by
  intro N
  induction N with
  | zero => exact fun l h h9 => rall_step l h9 fun l' h' => absurd h' (by omega)
  | succ N ih => exact fun l h h9 => rall_step l h9 fun l' h' => ih l' (by omega) (by omega)
end Go.Proofs.Ythohienbmhohjaa
