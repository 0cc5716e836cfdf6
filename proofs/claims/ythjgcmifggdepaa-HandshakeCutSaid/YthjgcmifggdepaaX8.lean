/- HandshakeCut, by the engine. -/
import Derived.Test.YthjgcmifggdepaaX6
set_option linter.unusedVariables false
set_option linter.unusedSimpArgs false
namespace Go.Proofs.Ythjgcmifggdepaa
open Go.RowKit
theorem und3 : Try.prog.underlying 3 = some (.int .i64) := by kernel_rfl
theorem z5 : Zt Try.prog 5 [.int .u8 0] := ⟨(.int .u8 0), by kernel_rfl, rfl, by decide⟩
theorem dist_nodup {lo hi : Int} : ∀ (l seen : List Int), l.Nodup → (∀ x ∈ l, lo ≤ x ∧ x ≤ hi) → (∀ x ∈ l, x ∉ seen) → distB lo hi seen l = true
  | [], _, _, _, _ => by rw [distB]
  | x :: l, seen, h1, h2, h3 => by
    obtain ⟨g1, g2⟩ := List.nodup_cons.1 h1
    have := h2 x (by simp)
    rw [distB, decide_eq_true this.1, decide_eq_true this.2, dist_nodup l (seen ++ [x]) g2 (fun y hy => h2 y (by simp [hy])) (fun y hy hm => by
      rcases List.mem_append.1 hm with hm | hm
      · exact h3 y (by simp [hy]) hm
      · rw [List.mem_singleton] at hm
        rw [hm] at hy
        exact g1 hy)]
    have hx : seen.contains x = false := by rw [List.contains_eq_mem, decide_eq_false (h3 x (by simp))]
    rw [hx]
    rfl
theorem hello_ok {su ha : List Int} (hnd : su.Nodup) (hrg : ∀ y ∈ su, 1 ≤ y ∧ y ≤ 16) (h1 : 1 ≤ su.length) (h10 : su.length ≤ 10) (hA : Asc 1 4 ha) (hl : (ha.length : Int) ≤ 4 + 1 - 1) : helloB ⟨3, su, ha⟩ = true := by
  have d1 := dist_nodup (lo := 0) (hi := 65535) su [] hnd (fun x hx => by have := hrg x hx; omega) (by simp)
  have d2 := Asc.dist (lo := 1) (hi := 255) ha [] hA.1 (fun x hx => by have := hA.2 x hx; omega) (by simp)
  unfold helloB
  dsimp only
  rw [d1, d2]
  simp only [Bool.and_eq_true, decide_eq_true_eq, and_true]
  omega
theorem choice_ok {x y z : Int} (hx : 0 ≤ x ∧ x < 4) (hy : 0 ≤ y ∧ y < 300) (hz : 0 ≤ z ∧ z < 1073741824) : choiceB ⟨1 + x, y, z⟩ = true := by
  unfold choiceB
  simp only [Bool.and_eq_true, decide_eq_true_eq]
  omega
theorem encH_yes (h : Hl) (hb : helloB h = true) (hm : okM h) : Fn Try.prog 13 [hD h] [] (bR (rawH h) 0) := (encH_fn h hm).mono fun r b ⟨h1, h2⟩ => by
  unfold encHE at h1
  unfold encHL at h2
  rw [if_pos hb] at h1 h2
  exact ⟨h1, h2⟩
theorem encC_yes (c : Ch) (hb : choiceB c = true) : Fn Try.prog 15 [cD c] [] (bR (rawC c) 0) := (encC_fn c).mono fun r b ⟨h1, h2⟩ => by
  unfold encCE at h1
  unfold encCL at h2
  rw [if_pos hb] at h1 h2
  exact ⟨h1, h2⟩
theorem records_yes (l : List UInt8) (s : Int) (hl : l.length ≤ 4096) (hs : 1 ≤ s ∧ s ≤ 1000) : Fn Try.prog 28 [.sl 1 (bytesC l), .val (.int .i64 s)] [] (bR (recs s.toNat l) 0) := (records_fn l s).mono fun r b ⟨h1, h2⟩ => by
  have e : recE s l = 0 := by unfold recE; rw [if_neg (by omega), if_neg (by omega)]
  rw [e] at h1
  unfold recL at h2
  rw [e, if_pos rfl] at h2
  exact ⟨h1, h2⟩
/-- What is cut in two and put into records of two sizes is put together again. -/
theorem two_recs {a b : List UInt8} {s t : Int} (hs : 1 ≤ s ∧ s ≤ 1000) (ht : 1 ≤ t ∧ t ≤ 1000) (hl : a.length + b.length ≤ 2000) : msgE (recs s.toNat a ++ recs t.toNat b) = 0 ∧ msgL (recs s.toNat a ++ recs t.toNat b) = a ++ b := by
  have r1 := msgs_recs (s := s.toNat) (by omega) (by omega) (recs t.toNat b) a.length a (Nat.le_refl _)
  have r2 := msgs_recs (s := t.toNat) (by omega) (by omega) [] b.length b (Nat.le_refl _)
  rw [List.append_nil, msgs_nil] at r2
  rw [r2] at r1
  have l1 := recs_len (s := s.toNat) (by omega) a.length a (Nat.le_refl _)
  have l2 := recs_len (s := t.toNat) (by omega) b.length b (Nat.le_refl _)
  refine msgs_back (m := a ++ b) (by rw [r1]; simp) (by rw [List.length_append]; omega)
theorem capture_fnD (l : List UInt8) (d : Cp) (hd : capD l = d) : Fn Try.prog 22 [.sl 1 (bytesC l)] [] (capR d) := hd ▸ capture_fn l
theorem messages_fnD (l m : List UInt8) (hE : msgE l = 0) (hL : msgL l = m) : Fn Try.prog 24 [.sl 1 (bytesC l)] [] (bR m 0) := (messages_fn l).mono fun r b ⟨h1, h2⟩ => by
  rw [hE] at h1
  rw [hL] at h2
  exact ⟨h1, h2⟩
theorem bytesC_take (l : List UInt8) (n : Nat) : ((bytesC l).drop (0 * 1)).take ((n - 0) * 1) = bytesC (l.take n) := by simp [bytesC, List.map_take]
theorem bytesC_drop (l : List UInt8) (n : Nat) : ((bytesC l).drop (n * 1)).take ((l.length - n) * 1) = bytesC (l.drop n) := by
  simp [bytesC, List.map_drop]
  rw [List.take_of_length_le (by simp)]
set_option maxRecDepth 100000 in
set_option maxHeartbeats 800000 in
theorem cut_fn (l : List Int) (y1 y2 : Int) (hg1 : 0 ≤ y1 ∧ y1 ≤ 255) (hg2 : 0 ≤ y2 ∧ y2 ≤ 255) : Fn Try.prog 6 [.sl 1 (intsC l), .val (.int .u8 y1), .val (.int .u8 y2)] [] (fun r b => r = .val (.bool true) ∧ b = []) := by
  refine Fn.of Try.func6 rfl rfl rfl fun hok hokb w0 I ρ0 => ?_
  show awp _ ⟨w0, I, ρ0, 0, 156⟩ _ _ _
  refine awp_seq ?_
  refine awp_region (sys _ _ []) 0 8 mk_U rfl rfl ?_
  refine ch_s rfl .assign rfl ?_
  refine ch_q ?_
  intro hU8
  repeat (first | refine thn_normal ?_ | refine thn_exit ?_ | refine thn_ret ?_ | refine inB_here ?_ | refine inB_other (by decide) ?_ | refine inB_normal ?_ | refine inB_ret ?_)
  refine awp_seq ?_
  refine awp_seq ?_
  by_cases hL : l.length ≤ 400
  · refine awp_region (sys _ _ []) 8 32 hU8 rfl rfl ?_
    refine ch_s rfl .move rfl ?_
    refine ch_call (ps := []) false (light_t _ hL) rfl (by repeat' (first | exact ArL.nil | apply ArL.cons | exact Ar.flat Ar0.val | exact Ar.flat Ar0.sl | exact Ar.ptr rfl | exact Ar.row rfl | exact Ar.part rfl (by first | omega | (simp only [List.length_append, List.length_cons, List.length_nil, List.length_take, List.length_drop, intsC_length, bytesC_length, strsC_length]; omega)) | exact Ar.flat Ar0.nils | exact Ar.elt | apply Ar.agg | exact Ar0L.nil | apply Ar0L.cons | exact Ar0.val | exact Ar0.sl | exact Ar0.nils)) rfl rfl (by intro h; cases h) rfl (by intro h; first | (cases h; done) | exact ⟨_, _, ⟨rfl, rfl⟩, by simp, by simp, by trivial, by simp⟩) ?_
    rintro _ _ ⟨rfl, rfl⟩ hokr hokx
    refine ch_s rfl (.unOp uo_not) rfl ?_
    refine ch_q ?_
    intro hU32
    repeat (first | refine thn_normal ?_ | refine thn_exit ?_ | refine thn_ret ?_ | refine inB_here ?_ | refine inB_other (by decide) ?_ | refine inB_normal ?_ | refine inB_ret ?_)
    refine awp_cond rfl (fun h1 => ?_) (fun h1 => ?_)
    · exact absurd h1 (by decide)
    · refine awp_skip ?_
      repeat (first | refine thn_normal ?_ | refine thn_exit ?_ | refine thn_ret ?_ | refine inB_here ?_ | refine inB_other (by decide) ?_ | refine inB_normal ?_ | refine inB_ret ?_)
      refine awp_seq ?_
      refine awp_region (sys _ _ []) 32 56 hU32 rfl rfl ?_
      refine ch_s rfl .move rfl ?_
      refine ch_call (ps := []) false (roll_fn _) rfl (by repeat' (first | exact ArL.nil | apply ArL.cons | exact Ar.flat Ar0.val | exact Ar.flat Ar0.sl | exact Ar.ptr rfl | exact Ar.row rfl | exact Ar.part rfl (by first | omega | (simp only [List.length_append, List.length_cons, List.length_nil, List.length_take, List.length_drop, intsC_length, bytesC_length, strsC_length]; omega)) | exact Ar.flat Ar0.nils | exact Ar.elt | apply Ar.agg | exact Ar0L.nil | apply Ar0L.cons | exact Ar0.val | exact Ar0.sl | exact Ar0.nils)) rfl rfl (by intro h; cases h) rfl (by intro h; first | (cases h; done) | exact ⟨_, _, ⟨rfl, rfl⟩, by simp, by simp, by trivial, by simp⟩) ?_
      rintro _ _ ⟨rfl, rfl⟩ hokr hokx
      refine ch_s rfl .assign rfl ?_
      refine ch_q ?_
      intro hU56
      repeat (first | refine thn_normal ?_ | refine thn_exit ?_ | refine thn_ret ?_ | refine inB_here ?_ | refine inB_other (by decide) ?_ | refine inB_normal ?_ | refine inB_ret ?_)
      refine awp_seq ?_
      refine awp_regionL ?_
      refine AwpL.chain (sys _ _ []) 17 56 192 hU56 rfl rfl ?_
      refine ch_s rfl .move rfl ?_
      refine ch_call (ps := [40]) false (suites_fn l 0 (by omega)) rfl (by repeat' (first | exact ArL.nil | apply ArL.cons | exact Ar.flat Ar0.val | exact Ar.flat Ar0.sl | exact Ar.ptr rfl | exact Ar.row rfl | exact Ar.part rfl (by first | omega | (simp only [List.length_append, List.length_cons, List.length_nil, List.length_take, List.length_drop, intsC_length, bytesC_length, strsC_length]; omega)) | exact Ar.flat Ar0.nils | exact Ar.elt | apply Ar.agg | exact Ar0L.nil | apply Ar0L.cons | exact Ar0.val | exact Ar0.sl | exact Ar0.nils)) (.cons' (List.mem_cons_self ..) (.cons .sl (.cons .val .nil)) rfl) rfl (by intro h; cases h) rfl (by intro h; first | (cases h; done) | exact trivial) ?_
      rintro _ _ ⟨qs, su, rfl, hqs, hnd, hrg, hl1, hl10, rfl⟩ hokr hokx
      refine ch_s rfl .move rfl ?_
      refine ch_call (ps := [40]) false (some_fn l _ (by omega) 1 4 (by decide) (by decide) (by decide)) rfl (by repeat' (first | exact ArL.nil | apply ArL.cons | exact Ar.flat Ar0.val | exact Ar.flat Ar0.sl | exact Ar.ptr rfl | exact Ar.row rfl | exact Ar.part rfl (by first | omega | (simp only [List.length_append, List.length_cons, List.length_nil, List.length_take, List.length_drop, intsC_length, bytesC_length, strsC_length]; omega)) | exact Ar.flat Ar0.nils | exact Ar.elt | apply Ar.agg | exact Ar0L.nil | apply Ar0L.cons | exact Ar0.val | exact Ar0.sl | exact Ar0.nils)) (.cons' (List.mem_cons_self ..) (.cons .sl (.cons .val .nil)) rfl) rfl (by intro h; cases h) rfl (by intro h; first | (cases h; done) | exact trivial) ?_
      rintro _ _ ⟨qh, ha, rfl, hqh, hAsc, hahl, rfl⟩ hokr hokx
      refine ch_s rfl (.build und24 pl24 z24 rfl rfl) rfl ?_
      refine ch_s rfl .move rfl ?_
      refine ch_call (ps := [40]) false (next_fn _ _ (by omega) 4 (by omega) (by omega)) rfl (by repeat' (first | exact ArL.nil | apply ArL.cons | exact Ar.flat Ar0.val | exact Ar.flat Ar0.sl | exact Ar.ptr rfl | exact Ar.row rfl | exact Ar.part rfl (by first | omega | (simp only [List.length_append, List.length_cons, List.length_nil, List.length_take, List.length_drop, intsC_length, bytesC_length, strsC_length]; omega)) | exact Ar.flat Ar0.nils | exact Ar.elt | apply Ar.agg | exact Ar0L.nil | apply Ar0L.cons | exact Ar0.val | exact Ar0.sl | exact Ar0.nils)) (.cons' (List.mem_cons_self ..) (.cons .sl (.cons .val .nil)) rfl) rfl (by intro h; cases h) rfl (by intro h; first | (cases h; done) | exact ⟨_, _, ⟨0, 0, rfl, by omega, by omega, by omega, rfl⟩, by simp, by simp, by trivial, fun lb hlb => by rw [List.mem_singleton.1 hlb]; exact okB_dice (hokb (diceB l p) (by simp))⟩) ?_
      rintro _ _ ⟨x1, q1, rfl, hx1, hy1, hq1, rfl⟩ hokr hokx
      first | refine ch_s rfl (.binOp (bo_add (by omega))) rfl ?_ | refine ch_s rfl (.binOp bo_addw) rfl ?_
      refine ch_s rfl .move rfl ?_
      refine ch_call (ps := [40]) false (next_fn _ _ (by omega) 300 (by omega) (by omega)) rfl (by repeat' (first | exact ArL.nil | apply ArL.cons | exact Ar.flat Ar0.val | exact Ar.flat Ar0.sl | exact Ar.ptr rfl | exact Ar.row rfl | exact Ar.part rfl (by first | omega | (simp only [List.length_append, List.length_cons, List.length_nil, List.length_take, List.length_drop, intsC_length, bytesC_length, strsC_length]; omega)) | exact Ar.flat Ar0.nils | exact Ar.elt | apply Ar.agg | exact Ar0L.nil | apply Ar0L.cons | exact Ar0.val | exact Ar0.sl | exact Ar0.nils)) (.cons' (List.mem_cons_self ..) (.cons .sl (.cons .val .nil)) rfl) rfl (by intro h; cases h) rfl (by intro h; first | (cases h; done) | exact ⟨_, _, ⟨0, 0, rfl, by omega, by omega, by omega, rfl⟩, by simp, by simp, by trivial, fun lb hlb => by rw [List.mem_singleton.1 hlb]; exact okB_dice (hokb (diceB l p) (by simp))⟩) ?_
      rintro _ _ ⟨x2, q2, rfl, hx2, hy2, hq2, rfl⟩ hokr hokx
      refine ch_s rfl .move rfl ?_
      refine ch_call (ps := [40]) false (next_fn _ _ (by omega) 1073741824 (by omega) (by omega)) rfl (by repeat' (first | exact ArL.nil | apply ArL.cons | exact Ar.flat Ar0.val | exact Ar.flat Ar0.sl | exact Ar.ptr rfl | exact Ar.row rfl | exact Ar.part rfl (by first | omega | (simp only [List.length_append, List.length_cons, List.length_nil, List.length_take, List.length_drop, intsC_length, bytesC_length, strsC_length]; omega)) | exact Ar.flat Ar0.nils | exact Ar.elt | apply Ar.agg | exact Ar0L.nil | apply Ar0L.cons | exact Ar0.val | exact Ar0.sl | exact Ar0.nils)) (.cons' (List.mem_cons_self ..) (.cons .sl (.cons .val .nil)) rfl) rfl (by intro h; cases h) rfl (by intro h; first | (cases h; done) | exact ⟨_, _, ⟨0, 0, rfl, by omega, by omega, by omega, rfl⟩, by simp, by simp, by trivial, fun lb hlb => by rw [List.mem_singleton.1 hlb]; exact okB_dice (hokb (diceB l p) (by simp))⟩) ?_
      rintro _ _ ⟨x3, q3, rfl, hx3, hy3, hq3, rfl⟩ hokr hokx
      refine ch_s rfl (.build und26 pl26 z26 rfl rfl) rfl ?_
      refine ch_s rfl (.alloc z24) rfl ?_
      refine ch_s rfl (.alloc z26) rfl ?_
      first | refine ch_s rfl (.storeB ty24 rfl (Nat.le_of_ble_eq_true rfl) rfl) rfl ?_ | refine ch_s rfl (.storeR ty24 rfl (by simp only [List.length_append, List.length_cons, List.length_nil, List.length_take, List.length_drop, intsC_length, bytesC_length, strsC_length]; omega) (by repeat' (first | exact DcsE.nil | apply DcsE.cons | exact DcE.bool | exact DcE.sl | exact DcE.int (by first | decide | exact i64_range (by omega) | exact u8_range (by omega) | assumption) | exact DcE.str (by first | decide | assumption | omega) | exact DcE.ptr | exact DcE.nilF | exact DcE.nilI))) rfl ?_
      first | refine ch_s rfl (.storeB ty26 rfl (Nat.le_of_ble_eq_true rfl) rfl) rfl ?_ | refine ch_s rfl (.storeR ty26 rfl (by simp only [List.length_append, List.length_cons, List.length_nil, List.length_take, List.length_drop, intsC_length, bytesC_length, strsC_length]; omega) (by repeat' (first | exact DcsE.nil | apply DcsE.cons | exact DcE.bool | exact DcE.sl | exact DcE.int (by first | decide | exact i64_range (by omega) | exact u8_range (by omega) | assumption) | exact DcE.str (by first | decide | assumption | omega) | exact DcE.ptr | exact DcE.nilF | exact DcE.nilI))) rfl ?_
      refine ch_l ?_
      intro hUc56_16
      refine AwpL.sub (Sub.frz (j := 64) rfl rfl) ?_
      refine AwpL.sub (Sub.frz (j := 80) rfl rfl) ?_
      refine AwpL.chain (sys _ _ []) 0 192 192 hUc56_16 rfl rfl ?_
      refine ch_l ?_
      intro hU192
      refine AwpL.fin ?_
      repeat (first | refine thn_normal ?_ | refine thn_exit ?_ | refine thn_ret ?_ | refine inB_here ?_ | refine inB_other (by decide) ?_ | refine inB_normal ?_ | refine inB_ret ?_)
      refine awp_seq ?_
      refine awp_region (sys _ _ []) 192 248 hU192 rfl rfl ?_
      have hb := hello_ok hnd hrg hl1 hl10 hAsc hahl
      have hc := choice_ok (x := x1) (y := x2) (z := x3) ⟨(by omega), (by omega)⟩ ⟨(by omega), (by omega)⟩ ⟨(by omega), (by omega)⟩
      have hmm : okM ⟨3, su, ha⟩ := ⟨(by show (-9223372036854775808 : Int) ≤ 3; omega), (by show (3 : Int) ≤ (9223372036854775807 : Int); omega)⟩
      have hlH := rawH_len ⟨3, su, ha⟩
      have hlC : (rawC ⟨1 + x1, x2, x3⟩).length = 8 := rfl
      simp only [] at hlH
      first | refine ch_s rfl (.loadBA ty24 (Nat.le_of_ble_eq_true rfl)) rfl ?_ | refine ch_s rfl (.loadEA ty24 (by simp only [List.length_append, List.length_cons, List.length_nil, List.length_take, List.length_drop, intsC_length, bytesC_length, strsC_length]; omega)) rfl ?_ | refine ch_s rfl (.loadRA ty24 (by simp only [List.length_append, List.length_cons, List.length_nil, List.length_take, List.length_drop, intsC_length, bytesC_length, strsC_length]; omega)) rfl ?_
      refine ch_call (ps := []) false (encH_yes ⟨3, su, ha⟩ hb hmm) rfl (by repeat' (first | exact ArL.nil | apply ArL.cons | exact Ar.flat Ar0.val | exact Ar.flat Ar0.sl | exact Ar.ptr rfl | exact Ar.row rfl | exact Ar.part rfl (by first | omega | (simp only [List.length_append, List.length_cons, List.length_nil, List.length_take, List.length_drop, intsC_length, bytesC_length, strsC_length]; omega)) | exact Ar.flat Ar0.nils | exact Ar.elt | apply Ar.agg | exact Ar0L.nil | apply Ar0L.cons | exact Ar0.val | exact Ar0.sl | exact Ar0.nils)) rfl rfl (by intro h; cases h) rfl (by intro h; first | (cases h; done) | exact ⟨_, _, ⟨rfl, rfl⟩, by simp, by simp, by trivial, by simp⟩) ?_
      rintro _ _ ⟨rfl, rfl⟩ hokr hokx
      refine ch_s rfl .move rfl ?_
      refine ch_s rfl (.extract rfl) rfl ?_
      refine ch_s rfl (.extract rfl) rfl ?_
      refine ch_s rfl .assign rfl ?_
      refine ch_s rfl .assign rfl ?_
      refine ch_q ?_
      intro hU248
      repeat (first | refine thn_normal ?_ | refine thn_exit ?_ | refine thn_ret ?_ | refine inB_here ?_ | refine inB_other (by decide) ?_ | refine inB_normal ?_ | refine inB_ret ?_)
      refine awp_seq ?_
      refine awp_region (sys _ _ []) 248 304 hU248 rfl rfl ?_
      first | refine ch_s rfl (.loadBA ty26 (Nat.le_of_ble_eq_true rfl)) rfl ?_ | refine ch_s rfl (.loadEA ty26 (by simp only [List.length_append, List.length_cons, List.length_nil, List.length_take, List.length_drop, intsC_length, bytesC_length, strsC_length]; omega)) rfl ?_ | refine ch_s rfl (.loadRA ty26 (by simp only [List.length_append, List.length_cons, List.length_nil, List.length_take, List.length_drop, intsC_length, bytesC_length, strsC_length]; omega)) rfl ?_
      refine ch_call (ps := []) false (encC_yes ⟨1 + x1, x2, x3⟩ hc) rfl (by repeat' (first | exact ArL.nil | apply ArL.cons | exact Ar.flat Ar0.val | exact Ar.flat Ar0.sl | exact Ar.ptr rfl | exact Ar.row rfl | exact Ar.part rfl (by first | omega | (simp only [List.length_append, List.length_cons, List.length_nil, List.length_take, List.length_drop, intsC_length, bytesC_length, strsC_length]; omega)) | exact Ar.flat Ar0.nils | exact Ar.elt | apply Ar.agg | exact Ar0L.nil | apply Ar0L.cons | exact Ar0.val | exact Ar0.sl | exact Ar0.nils)) rfl rfl (by intro h; cases h) rfl (by intro h; first | (cases h; done) | exact ⟨_, _, ⟨rfl, rfl⟩, by simp, by simp, by trivial, by simp⟩) ?_
      rintro _ _ ⟨rfl, rfl⟩ hokr hokx
      refine ch_s rfl .move rfl ?_
      refine ch_s rfl (.extract rfl) rfl ?_
      refine ch_s rfl (.extract rfl) rfl ?_
      refine ch_s rfl .assign rfl ?_
      refine ch_s rfl .assign rfl ?_
      refine ch_q ?_
      intro hU304
      repeat (first | refine thn_normal ?_ | refine thn_exit ?_ | refine thn_ret ?_ | refine inB_here ?_ | refine inB_other (by decide) ?_ | refine inB_normal ?_ | refine inB_ret ?_)
      refine awp_seq ?_
      refine awp_region (sys _ _ []) 304 352 hU304 rfl rfl ?_
      refine ch_s rfl (.buildSl sl33 z5 (by decide) rfl (by repeat' (first | exact DcsE.nil | apply DcsE.cons | exact DcE.bool | exact DcE.sl | exact DcE.int (by first | decide | exact i64_range (by omega) | exact u8_range (by omega) | assumption) | exact DcE.str (by first | decide | assumption | omega) | exact DcE.ptr | exact DcE.nilF | exact DcE.nilI)) rfl) rfl ?_
      refine ch_s rfl .move rfl ?_
      have hq1' : (rawH ⟨3, su, ha⟩).length ≤ 200 := by rw [hlH]; omega
      first | refine ch_s rfl (.append sl33 .row .row (by simp only [List.length_append, List.length_cons, List.length_nil, List.length_take, List.length_drop, intsC_length, bytesC_length, strsC_length]; omega)) rfl ?_ | refine ch_s rfl (.append sl33 .row .sl (by simp only [List.length_append, List.length_cons, List.length_nil, List.length_take, List.length_drop, intsC_length, bytesC_length, strsC_length]; omega)) rfl ?_ | refine ch_s rfl (.append sl33 .row (.part (by simp only [List.length_append, List.length_cons, List.length_nil, List.length_take, List.length_drop, intsC_length, bytesC_length, strsC_length]; omega)) (by simp only [List.length_append, List.length_cons, List.length_nil, List.length_take, List.length_drop, intsC_length, bytesC_length, strsC_length]; omega)) rfl ?_ | refine ch_s rfl (.append sl33 .row .nil (by simp only [List.length_append, List.length_cons, List.length_nil, List.length_take, List.length_drop, intsC_length, bytesC_length, strsC_length]; omega)) rfl ?_ | refine ch_s rfl (.append sl33 .nil .row (by simp only [List.length_append, List.length_cons, List.length_nil, List.length_take, List.length_drop, intsC_length, bytesC_length, strsC_length]; omega)) rfl ?_ | refine ch_s rfl (.append sl33 .nil .sl (by simp only [List.length_append, List.length_cons, List.length_nil, List.length_take, List.length_drop, intsC_length, bytesC_length, strsC_length]; omega)) rfl ?_ | refine ch_s rfl (.append sl33 .nil (.part (by simp only [List.length_append, List.length_cons, List.length_nil, List.length_take, List.length_drop, intsC_length, bytesC_length, strsC_length]; omega)) (by simp only [List.length_append, List.length_cons, List.length_nil, List.length_take, List.length_drop, intsC_length, bytesC_length, strsC_length]; omega)) rfl ?_ | refine ch_s rfl (.append sl33 .nil .nil (by simp only [List.length_append, List.length_cons, List.length_nil, List.length_take, List.length_drop, intsC_length, bytesC_length, strsC_length]; omega)) rfl ?_
      refine ch_s rfl .move rfl ?_
      first | refine ch_s rfl (.append sl33 .row .row (by simp only [List.length_append, List.length_cons, List.length_nil, List.length_take, List.length_drop, intsC_length, bytesC_length, strsC_length]; omega)) rfl ?_ | refine ch_s rfl (.append sl33 .row .sl (by simp only [List.length_append, List.length_cons, List.length_nil, List.length_take, List.length_drop, intsC_length, bytesC_length, strsC_length]; omega)) rfl ?_ | refine ch_s rfl (.append sl33 .row (.part (by simp only [List.length_append, List.length_cons, List.length_nil, List.length_take, List.length_drop, intsC_length, bytesC_length, strsC_length]; omega)) (by simp only [List.length_append, List.length_cons, List.length_nil, List.length_take, List.length_drop, intsC_length, bytesC_length, strsC_length]; omega)) rfl ?_ | refine ch_s rfl (.append sl33 .row .nil (by simp only [List.length_append, List.length_cons, List.length_nil, List.length_take, List.length_drop, intsC_length, bytesC_length, strsC_length]; omega)) rfl ?_ | refine ch_s rfl (.append sl33 .nil .row (by simp only [List.length_append, List.length_cons, List.length_nil, List.length_take, List.length_drop, intsC_length, bytesC_length, strsC_length]; omega)) rfl ?_ | refine ch_s rfl (.append sl33 .nil .sl (by simp only [List.length_append, List.length_cons, List.length_nil, List.length_take, List.length_drop, intsC_length, bytesC_length, strsC_length]; omega)) rfl ?_ | refine ch_s rfl (.append sl33 .nil (.part (by simp only [List.length_append, List.length_cons, List.length_nil, List.length_take, List.length_drop, intsC_length, bytesC_length, strsC_length]; omega)) (by simp only [List.length_append, List.length_cons, List.length_nil, List.length_take, List.length_drop, intsC_length, bytesC_length, strsC_length]; omega)) rfl ?_ | refine ch_s rfl (.append sl33 .nil .nil (by simp only [List.length_append, List.length_cons, List.length_nil, List.length_take, List.length_drop, intsC_length, bytesC_length, strsC_length]; omega)) rfl ?_
      refine ch_s rfl .assign rfl ?_
      refine ch_q ?_
      intro hU352
      repeat (first | refine thn_normal ?_ | refine thn_exit ?_ | refine thn_ret ?_ | refine inB_here ?_ | refine inB_other (by decide) ?_ | refine inB_normal ?_ | refine inB_ret ?_)
      refine awp_seq ?_
      refine awp_region (sys _ _ [385]) 352 424 hU352 rfl rfl ?_
      rw [List.nil_append, ← bytesC_append]
      obtain ⟨S, hS⟩ : ∃ S, rawH ⟨3, su, ha⟩ ++ rawC ⟨1 + x1, x2, x3⟩ = S := ⟨_, rfl⟩
      have hSl : S.length ≤ 300 := by rw [← hS, List.length_append]; omega
      rw [hS]
      refine ch_s rfl .move rfl ?_
      refine ch_s rfl (.conv (by kernel_rfl) (by kernel_rfl) (cv_i64 (by rw [und5]; rfl) und3 (by omega))) rfl ?_
      refine ch_s rfl .move rfl ?_
      refine ch_s rfl (.buildSl sl33 z5 (by decide) rfl (by repeat' (first | exact DcsE.nil | apply DcsE.cons | exact DcE.bool | exact DcE.sl | exact DcE.int (by first | decide | exact i64_range (by omega) | exact u8_range (by omega) | assumption) | exact DcE.str (by first | decide | assumption | omega) | exact DcE.ptr | exact DcE.nilF | exact DcE.nilI)) rfl) rfl ?_
      refine ch_k rfl (.keep (N := S.length + 1) sl33 .row (by simp only [List.length_append, List.length_cons, List.length_nil, List.length_take, List.length_drop, intsC_length, bytesC_length, strsC_length]; omega) (by simp [bytesC_length])) rfl rfl ?_
      first | refine ch_s rfl (.len sl33.elem len_ints) rfl ?_ | refine ch_s rfl (.len sl33.elem len_rints) rfl ?_ | refine ch_s rfl (.len sl33.elem .part) rfl ?_ | refine ch_s rfl (.len sl33.elem len_bytes) rfl ?_ | refine ch_s rfl (.len sl33.elem len_rbytes) rfl ?_ | refine ch_s rfl (.len sl33.elem len_strs) rfl ?_ | refine ch_s rfl (.len sl33.elem len_rstrs) rfl ?_ | refine ch_s rfl (.len sl33.elem (.sl (by decide) (by assumption))) rfl ?_ | refine ch_s rfl (.len sl33.elem (.row (by decide) (by assumption))) rfl ?_
      refine ch_s rfl (.binOp (bo_rem (y := ((S.length + 1 : Nat) : Int)) (by omega))) rfl ?_
      have ht1 := Int.tmod_lt_of_pos y1 (b := ((S.length + 1 : Nat) : Int)) (by omega)
      have ht0 := Int.tmod_nonneg ((S.length + 1 : Nat) : Int) hg1.1
      first | refine ch_s rfl (.binOp (bo_add (by omega))) rfl ?_ | refine ch_s rfl (.binOp bo_addw) rfl ?_
      refine ch_s rfl .assign rfl ?_
      refine ch_q ?_
      intro hU424
      repeat (first | refine thn_normal ?_ | refine thn_exit ?_ | refine thn_ret ?_ | refine inB_here ?_ | refine inB_other (by decide) ?_ | refine inB_normal ?_ | refine inB_ret ?_)
      refine awp_seq ?_
      refine awp_region (sys _ _ []) 424 552 hU424 rfl rfl ?_
      obtain ⟨p, hP⟩ := Int.eq_ofNat_of_zero_le (show 0 ≤ 1 + y1.tmod ((S.length + 1 : Nat) : Int) by omega)
      rw [hP]
      obtain ⟨M, hM, hM2⟩ : ∃ M : Nat, min (p : Int) ((S.length : Nat) : Int) = (M : Int) ∧ M ≤ S.length := ⟨min p S.length, by omega, Nat.min_le_right _ _⟩
      have hv1 := Int.tmod_lt_of_pos y2 (b := 9) (by omega)
      have hv2 := Int.tmod_nonneg 9 hg2.1
      have hv3 := Int.tmod_lt_of_pos y2 (b := 13) (by omega)
      have hv4 := Int.tmod_nonneg 13 hg2.1
      refine ch_s rfl .move rfl ?_
      refine ch_s rfl .move rfl ?_
      refine ch_s rfl .move rfl ?_
      first | refine ch_s rfl (.len sl33.elem len_ints) rfl ?_ | refine ch_s rfl (.len sl33.elem len_rints) rfl ?_ | refine ch_s rfl (.len sl33.elem .part) rfl ?_ | refine ch_s rfl (.len sl33.elem len_bytes) rfl ?_ | refine ch_s rfl (.len sl33.elem len_rbytes) rfl ?_ | refine ch_s rfl (.len sl33.elem len_strs) rfl ?_ | refine ch_s rfl (.len sl33.elem len_rstrs) rfl ?_ | refine ch_s rfl (.len sl33.elem (.sl (by decide) (by assumption))) rfl ?_ | refine ch_s rfl (.len sl33.elem (.row (by decide) (by assumption))) rfl ?_
      refine ch_s rfl (.callV2 (by decide) (bv_minE hM)) rfl ?_
      refine ch_s rfl (.sliR (h := M) sl33 clen_b ⟨⟨_, _, _, rfl, rfl⟩, rfl⟩ (by omega)) rfl ?_
      refine ch_s rfl .move rfl ?_
      refine ch_s rfl (.conv (by kernel_rfl) (by kernel_rfl) (cv_i64 (by rw [und5]; rfl) und3 (by omega))) rfl ?_
      refine ch_s rfl (.binOp (bo_rem (by omega))) rfl ?_
      first | refine ch_s rfl (.binOp (bo_add (by omega))) rfl ?_ | refine ch_s rfl (.binOp bo_addw) rfl ?_
      refine ch_call (ps := []) true (Fn.cast (records_yes (S.take M) (1 + y2.tmod 9) (by rw [List.length_take]; omega) ⟨(by omega), (by omega)⟩) ?_) rfl (by repeat' (first | exact ArL.nil | apply ArL.cons | exact Ar.flat Ar0.val | exact Ar.flat Ar0.sl | exact Ar.ptr rfl | exact Ar.row rfl | exact Ar.part rfl (by first | omega | (simp only [List.length_append, List.length_cons, List.length_nil, List.length_take, List.length_drop, intsC_length, bytesC_length, strsC_length]; omega)) | exact Ar.flat Ar0.nils | exact Ar.elt | apply Ar.agg | exact Ar0L.nil | apply Ar0L.cons | exact Ar0.val | exact Ar0.sl | exact Ar0.nils)) rfl rfl (by rintro - _ _ ⟨rfl, rfl⟩; exact ⟨by simp [flatD, flatDs], fun lb hlb => by simp at hlb; subst hlb; intro c hc; simp [bytesC] at hc; obtain ⟨x, -, rfl⟩ := hc; rfl⟩) rfl (by intro h; first | (cases h; done) | exact ⟨_, _, ⟨rfl, rfl⟩, by simp, by simp, by trivial, by simp⟩) ?_
      · rw [bytesC_take]
      rintro _ _ ⟨rfl, rfl⟩ hokr hokx
      refine ch_s rfl .move rfl ?_
      refine ch_s rfl (.extract rfl) rfl ?_
      refine ch_s rfl (.extract rfl) rfl ?_
      refine ch_s rfl .assign rfl ?_
      refine ch_s rfl .assign rfl ?_
      refine ch_q ?_
      intro hU552
      repeat (first | refine thn_normal ?_ | refine thn_exit ?_ | refine thn_ret ?_ | refine inB_here ?_ | refine inB_other (by decide) ?_ | refine inB_normal ?_ | refine inB_ret ?_)
      refine awp_seq ?_
      refine awp_region (sys _ _ []) 552 680 hU552 rfl rfl ?_
      refine ch_s rfl .move rfl ?_
      refine ch_s rfl .move rfl ?_
      refine ch_s rfl .move rfl ?_
      first | refine ch_s rfl (.len sl33.elem len_ints) rfl ?_ | refine ch_s rfl (.len sl33.elem len_rints) rfl ?_ | refine ch_s rfl (.len sl33.elem .part) rfl ?_ | refine ch_s rfl (.len sl33.elem len_bytes) rfl ?_ | refine ch_s rfl (.len sl33.elem len_rbytes) rfl ?_ | refine ch_s rfl (.len sl33.elem len_strs) rfl ?_ | refine ch_s rfl (.len sl33.elem len_rstrs) rfl ?_ | refine ch_s rfl (.len sl33.elem (.sl (by decide) (by assumption))) rfl ?_ | refine ch_s rfl (.len sl33.elem (.row (by decide) (by assumption))) rfl ?_
      refine ch_s rfl (.callV2 (by decide) (bv_minE hM)) rfl ?_
      refine ch_s rfl (.sliR (l := M) sl33 clen_b ⟨⟨_, _, _, rfl, rfl⟩, rfl⟩ (by omega)) rfl ?_
      refine ch_s rfl .move rfl ?_
      refine ch_s rfl (.conv (by kernel_rfl) (by kernel_rfl) (cv_i64 (by rw [und5]; rfl) und3 (by omega))) rfl ?_
      refine ch_s rfl (.binOp (bo_rem (by omega))) rfl ?_
      first | refine ch_s rfl (.binOp (bo_add (by omega))) rfl ?_ | refine ch_s rfl (.binOp bo_addw) rfl ?_
      refine ch_call (ps := []) true (Fn.cast (records_yes (S.drop M) (1 + y2.tmod 13) (by rw [List.length_drop]; omega) ⟨(by omega), (by omega)⟩) ?_) rfl (by repeat' (first | exact ArL.nil | apply ArL.cons | exact Ar.flat Ar0.val | exact Ar.flat Ar0.sl | exact Ar.ptr rfl | exact Ar.row rfl | exact Ar.part rfl (by first | omega | (simp only [List.length_append, List.length_cons, List.length_nil, List.length_take, List.length_drop, intsC_length, bytesC_length, strsC_length]; omega)) | exact Ar.flat Ar0.nils | exact Ar.elt | apply Ar.agg | exact Ar0L.nil | apply Ar0L.cons | exact Ar0.val | exact Ar0.sl | exact Ar0.nils)) rfl rfl (by rintro - _ _ ⟨rfl, rfl⟩; exact ⟨by simp [flatD, flatDs], fun lb hlb => by simp at hlb; subst hlb; intro c hc; simp [bytesC] at hc; obtain ⟨x, -, rfl⟩ := hc; rfl⟩) rfl (by intro h; first | (cases h; done) | exact ⟨_, _, ⟨rfl, rfl⟩, by simp, by simp, by trivial, by simp⟩) ?_
      · rw [bytesC_drop]
      rintro _ _ ⟨rfl, rfl⟩ hokr hokx
      refine ch_s rfl .move rfl ?_
      refine ch_s rfl (.extract rfl) rfl ?_
      refine ch_s rfl (.extract rfl) rfl ?_
      refine ch_s rfl .assign rfl ?_
      refine ch_s rfl .assign rfl ?_
      refine ch_q ?_
      intro hU680
      repeat (first | refine thn_normal ?_ | refine thn_exit ?_ | refine thn_ret ?_ | refine inB_here ?_ | refine inB_other (by decide) ?_ | refine inB_normal ?_ | refine inB_ret ?_)
      refine awp_seq ?_
      refine awp_region (sys _ _ [712]) 680 800 hU680 rfl rfl ?_
      obtain ⟨hE12, hL12⟩ := two_recs (a := S.take M) (b := S.drop M) (s := 1 + y2.tmod 9) (t := 1 + y2.tmod 13) ⟨(by omega), (by omega)⟩ ⟨(by omega), (by omega)⟩ (by rw [List.length_take, List.length_drop]; omega)
      rw [List.take_append_drop] at hL12
      have hT1 := recs_len (s := (1 + y2.tmod 9).toNat) (by omega) (S.take M).length (S.take M) (Nat.le_refl _)
      have hT2 := recs_len (s := (1 + y2.tmod 13).toNat) (by omega) (S.drop M).length (S.drop M) (Nat.le_refl _)
      rw [List.length_take] at hT1
      rw [List.length_drop] at hT2
      generalize recs (1 + y2.tmod 9).toNat (S.take M) = T1 at *
      generalize recs (1 + y2.tmod 13).toNat (S.drop M) = T2 at *
      refine ch_s rfl (.buildSl sl33 z5 (by decide) rfl (by repeat' (first | exact DcsE.nil | apply DcsE.cons | exact DcE.bool | exact DcE.sl | exact DcE.int (by first | decide | exact i64_range (by omega) | exact u8_range (by omega) | assumption) | exact DcE.str (by first | decide | assumption | omega) | exact DcE.ptr | exact DcE.nilF | exact DcE.nilI)) rfl) rfl ?_
      refine ch_s rfl .move rfl ?_
      first | refine ch_s rfl (.append sl33 .row .row (by simp only [List.length_append, List.length_cons, List.length_nil, List.length_take, List.length_drop, intsC_length, bytesC_length, strsC_length]; omega)) rfl ?_ | refine ch_s rfl (.append sl33 .row .sl (by simp only [List.length_append, List.length_cons, List.length_nil, List.length_take, List.length_drop, intsC_length, bytesC_length, strsC_length]; omega)) rfl ?_ | refine ch_s rfl (.append sl33 .row (.part (by simp only [List.length_append, List.length_cons, List.length_nil, List.length_take, List.length_drop, intsC_length, bytesC_length, strsC_length]; omega)) (by simp only [List.length_append, List.length_cons, List.length_nil, List.length_take, List.length_drop, intsC_length, bytesC_length, strsC_length]; omega)) rfl ?_ | refine ch_s rfl (.append sl33 .row .nil (by simp only [List.length_append, List.length_cons, List.length_nil, List.length_take, List.length_drop, intsC_length, bytesC_length, strsC_length]; omega)) rfl ?_ | refine ch_s rfl (.append sl33 .nil .row (by simp only [List.length_append, List.length_cons, List.length_nil, List.length_take, List.length_drop, intsC_length, bytesC_length, strsC_length]; omega)) rfl ?_ | refine ch_s rfl (.append sl33 .nil .sl (by simp only [List.length_append, List.length_cons, List.length_nil, List.length_take, List.length_drop, intsC_length, bytesC_length, strsC_length]; omega)) rfl ?_ | refine ch_s rfl (.append sl33 .nil (.part (by simp only [List.length_append, List.length_cons, List.length_nil, List.length_take, List.length_drop, intsC_length, bytesC_length, strsC_length]; omega)) (by simp only [List.length_append, List.length_cons, List.length_nil, List.length_take, List.length_drop, intsC_length, bytesC_length, strsC_length]; omega)) rfl ?_ | refine ch_s rfl (.append sl33 .nil .nil (by simp only [List.length_append, List.length_cons, List.length_nil, List.length_take, List.length_drop, intsC_length, bytesC_length, strsC_length]; omega)) rfl ?_
      refine ch_s rfl .move rfl ?_
      first | refine ch_z rfl (.append sl33 .row .row (by simp only [List.length_append, List.length_cons, List.length_nil, List.length_take, List.length_drop, intsC_length, bytesC_length, strsC_length]; omega)) rfl rfl rfl ?_ | refine ch_z rfl (.append sl33 .row .sl (by simp only [List.length_append, List.length_cons, List.length_nil, List.length_take, List.length_drop, intsC_length, bytesC_length, strsC_length]; omega)) rfl rfl rfl ?_ | refine ch_z rfl (.append sl33 .row (.part (by simp only [List.length_append, List.length_cons, List.length_nil, List.length_take, List.length_drop, intsC_length, bytesC_length, strsC_length]; omega)) (by simp only [List.length_append, List.length_cons, List.length_nil, List.length_take, List.length_drop, intsC_length, bytesC_length, strsC_length]; omega)) rfl rfl rfl ?_ | refine ch_z rfl (.append sl33 .row .nil (by simp only [List.length_append, List.length_cons, List.length_nil, List.length_take, List.length_drop, intsC_length, bytesC_length, strsC_length]; omega)) rfl rfl rfl ?_ | refine ch_z rfl (.append sl33 .nil .row (by simp only [List.length_append, List.length_cons, List.length_nil, List.length_take, List.length_drop, intsC_length, bytesC_length, strsC_length]; omega)) rfl rfl rfl ?_ | refine ch_z rfl (.append sl33 .nil .sl (by simp only [List.length_append, List.length_cons, List.length_nil, List.length_take, List.length_drop, intsC_length, bytesC_length, strsC_length]; omega)) rfl rfl rfl ?_ | refine ch_z rfl (.append sl33 .nil (.part (by simp only [List.length_append, List.length_cons, List.length_nil, List.length_take, List.length_drop, intsC_length, bytesC_length, strsC_length]; omega)) (by simp only [List.length_append, List.length_cons, List.length_nil, List.length_take, List.length_drop, intsC_length, bytesC_length, strsC_length]; omega)) rfl rfl rfl ?_ | refine ch_z rfl (.append sl33 .nil .nil (by simp only [List.length_append, List.length_cons, List.length_nil, List.length_take, List.length_drop, intsC_length, bytesC_length, strsC_length]; omega)) rfl rfl rfl ?_
      refine ch_call (ps := []) false (Fn.cast (capture_fnD (T1 ++ T2) ⟨⟨3, su, ha⟩, ⟨1 + x1, x2, x3⟩, 0⟩ (capD_raw hb hc hE12 (hL12.trans hS.symm))) ?_) rfl (by repeat' (first | exact ArL.nil | apply ArL.cons | exact Ar.flat Ar0.val | exact Ar.flat Ar0.sl | exact Ar.ptr rfl | exact Ar.row rfl | exact Ar.part rfl (by first | omega | (simp only [List.length_append, List.length_cons, List.length_nil, List.length_take, List.length_drop, intsC_length, bytesC_length, strsC_length]; omega)) | exact Ar.flat Ar0.nils | exact Ar.elt | apply Ar.agg | exact Ar0L.nil | apply Ar0L.cons | exact Ar0.val | exact Ar0.sl | exact Ar0.nils)) rfl rfl (by intro h; cases h) rfl (by intro h; first | (cases h; done) | exact ⟨_, _, ⟨rfl, rfl⟩, by simp, by simp, by trivial, by simp⟩) ?_
      · simp [bytesC_append]
      rintro _ _ ⟨rfl, rfl⟩ hokr hokx
      refine ch_s rfl .move rfl ?_
      refine ch_s rfl (.extract rfl) rfl ?_
      refine ch_s rfl (.extract rfl) rfl ?_
      refine ch_s rfl (.extract rfl) rfl ?_
      refine ch_s rfl (.alloc z24) rfl ?_
      refine ch_s rfl (.alloc z26) rfl ?_
      first | refine ch_s rfl (.storeB ty24 rfl (Nat.le_of_ble_eq_true rfl) rfl) rfl ?_ | refine ch_s rfl (.storeR ty24 rfl (by simp only [List.length_append, List.length_cons, List.length_nil, List.length_take, List.length_drop, intsC_length, bytesC_length, strsC_length]; omega) (by repeat' (first | exact DcsE.nil | apply DcsE.cons | exact DcE.bool | exact DcE.sl | exact DcE.int (by first | decide | exact i64_range (by omega) | exact u8_range (by omega) | assumption) | exact DcE.str (by first | decide | assumption | omega) | exact DcE.ptr | exact DcE.nilF | exact DcE.nilI))) rfl ?_
      first | refine ch_s rfl (.storeB ty26 rfl (Nat.le_of_ble_eq_true rfl) rfl) rfl ?_ | refine ch_s rfl (.storeR ty26 rfl (by simp only [List.length_append, List.length_cons, List.length_nil, List.length_take, List.length_drop, intsC_length, bytesC_length, strsC_length]; omega) (by repeat' (first | exact DcsE.nil | apply DcsE.cons | exact DcE.bool | exact DcE.sl | exact DcE.int (by first | decide | exact i64_range (by omega) | exact u8_range (by omega) | assumption) | exact DcE.str (by first | decide | assumption | omega) | exact DcE.ptr | exact DcE.nilF | exact DcE.nilI))) rfl ?_
      refine ch_s rfl .assign rfl ?_
      refine ch_q ?_
      intro hU800
      repeat (first | refine thn_normal ?_ | refine thn_exit ?_ | refine thn_ret ?_ | refine inB_here ?_ | refine inB_other (by decide) ?_ | refine inB_normal ?_ | refine inB_ret ?_)
      refine awp_seq ?_
      refine awp_region (sys _ _ [832]) 800 888 hU800 rfl rfl ?_
      refine ch_s rfl (.buildSl sl33 z5 (by decide) rfl (by repeat' (first | exact DcsE.nil | apply DcsE.cons | exact DcE.bool | exact DcE.sl | exact DcE.int (by first | decide | exact i64_range (by omega) | exact u8_range (by omega) | assumption) | exact DcE.str (by first | decide | assumption | omega) | exact DcE.ptr | exact DcE.nilF | exact DcE.nilI)) rfl) rfl ?_
      refine ch_s rfl .move rfl ?_
      first | refine ch_s rfl (.append sl33 .row .row (by simp only [List.length_append, List.length_cons, List.length_nil, List.length_take, List.length_drop, intsC_length, bytesC_length, strsC_length]; omega)) rfl ?_ | refine ch_s rfl (.append sl33 .row .sl (by simp only [List.length_append, List.length_cons, List.length_nil, List.length_take, List.length_drop, intsC_length, bytesC_length, strsC_length]; omega)) rfl ?_ | refine ch_s rfl (.append sl33 .row (.part (by simp only [List.length_append, List.length_cons, List.length_nil, List.length_take, List.length_drop, intsC_length, bytesC_length, strsC_length]; omega)) (by simp only [List.length_append, List.length_cons, List.length_nil, List.length_take, List.length_drop, intsC_length, bytesC_length, strsC_length]; omega)) rfl ?_ | refine ch_s rfl (.append sl33 .row .nil (by simp only [List.length_append, List.length_cons, List.length_nil, List.length_take, List.length_drop, intsC_length, bytesC_length, strsC_length]; omega)) rfl ?_ | refine ch_s rfl (.append sl33 .nil .row (by simp only [List.length_append, List.length_cons, List.length_nil, List.length_take, List.length_drop, intsC_length, bytesC_length, strsC_length]; omega)) rfl ?_ | refine ch_s rfl (.append sl33 .nil .sl (by simp only [List.length_append, List.length_cons, List.length_nil, List.length_take, List.length_drop, intsC_length, bytesC_length, strsC_length]; omega)) rfl ?_ | refine ch_s rfl (.append sl33 .nil (.part (by simp only [List.length_append, List.length_cons, List.length_nil, List.length_take, List.length_drop, intsC_length, bytesC_length, strsC_length]; omega)) (by simp only [List.length_append, List.length_cons, List.length_nil, List.length_take, List.length_drop, intsC_length, bytesC_length, strsC_length]; omega)) rfl ?_ | refine ch_s rfl (.append sl33 .nil .nil (by simp only [List.length_append, List.length_cons, List.length_nil, List.length_take, List.length_drop, intsC_length, bytesC_length, strsC_length]; omega)) rfl ?_
      refine ch_s rfl .move rfl ?_
      first | refine ch_z rfl (.append sl33 .row .row (by simp only [List.length_append, List.length_cons, List.length_nil, List.length_take, List.length_drop, intsC_length, bytesC_length, strsC_length]; omega)) rfl rfl rfl ?_ | refine ch_z rfl (.append sl33 .row .sl (by simp only [List.length_append, List.length_cons, List.length_nil, List.length_take, List.length_drop, intsC_length, bytesC_length, strsC_length]; omega)) rfl rfl rfl ?_ | refine ch_z rfl (.append sl33 .row (.part (by simp only [List.length_append, List.length_cons, List.length_nil, List.length_take, List.length_drop, intsC_length, bytesC_length, strsC_length]; omega)) (by simp only [List.length_append, List.length_cons, List.length_nil, List.length_take, List.length_drop, intsC_length, bytesC_length, strsC_length]; omega)) rfl rfl rfl ?_ | refine ch_z rfl (.append sl33 .row .nil (by simp only [List.length_append, List.length_cons, List.length_nil, List.length_take, List.length_drop, intsC_length, bytesC_length, strsC_length]; omega)) rfl rfl rfl ?_ | refine ch_z rfl (.append sl33 .nil .row (by simp only [List.length_append, List.length_cons, List.length_nil, List.length_take, List.length_drop, intsC_length, bytesC_length, strsC_length]; omega)) rfl rfl rfl ?_ | refine ch_z rfl (.append sl33 .nil .sl (by simp only [List.length_append, List.length_cons, List.length_nil, List.length_take, List.length_drop, intsC_length, bytesC_length, strsC_length]; omega)) rfl rfl rfl ?_ | refine ch_z rfl (.append sl33 .nil (.part (by simp only [List.length_append, List.length_cons, List.length_nil, List.length_take, List.length_drop, intsC_length, bytesC_length, strsC_length]; omega)) (by simp only [List.length_append, List.length_cons, List.length_nil, List.length_take, List.length_drop, intsC_length, bytesC_length, strsC_length]; omega)) rfl rfl rfl ?_ | refine ch_z rfl (.append sl33 .nil .nil (by simp only [List.length_append, List.length_cons, List.length_nil, List.length_take, List.length_drop, intsC_length, bytesC_length, strsC_length]; omega)) rfl rfl rfl ?_
      refine ch_call (ps := []) false (Fn.cast (messages_fnD (T1 ++ T2) S hE12 hL12) ?_) rfl (by repeat' (first | exact ArL.nil | apply ArL.cons | exact Ar.flat Ar0.val | exact Ar.flat Ar0.sl | exact Ar.ptr rfl | exact Ar.row rfl | exact Ar.part rfl (by first | omega | (simp only [List.length_append, List.length_cons, List.length_nil, List.length_take, List.length_drop, intsC_length, bytesC_length, strsC_length]; omega)) | exact Ar.flat Ar0.nils | exact Ar.elt | apply Ar.agg | exact Ar0L.nil | apply Ar0L.cons | exact Ar0.val | exact Ar0.sl | exact Ar0.nils)) rfl rfl (by intro h; cases h) rfl (by intro h; first | (cases h; done) | exact ⟨_, _, ⟨rfl, rfl⟩, by simp, by simp, by trivial, by simp⟩) ?_
      · simp [bytesC_append]
      rintro _ _ ⟨rfl, rfl⟩ hokr hokx
      refine ch_s rfl .move rfl ?_
      refine ch_s rfl (.extract rfl) rfl ?_
      refine ch_s rfl (.extract rfl) rfl ?_
      refine ch_s rfl .assign rfl ?_
      refine ch_s rfl .assign rfl ?_
      refine ch_q ?_
      intro hU888
      repeat (first | refine thn_normal ?_ | refine thn_exit ?_ | refine thn_ret ?_ | refine inB_here ?_ | refine inB_other (by decide) ?_ | refine inB_normal ?_ | refine inB_ret ?_)
      refine awp_seq ?_
      refine awp_region (sys _ _ []) 888 1232 hU888 rfl rfl ?_
      refine ch_s rfl .move rfl ?_
      refine ch_s rfl (.binOp (bo_eql_t rfl)) rfl ?_
      refine ch_s rfl .move rfl ?_
      refine ch_g rfl rfl .move rfl ?_
      refine ch_g rfl rfl (.binOp (bo_eql_t rfl)) rfl ?_
      refine ch_s rfl .pick rfl ?_
      refine ch_s rfl .move rfl ?_
      refine ch_g rfl rfl .move rfl ?_
      refine ch_g rfl rfl (.binOp (bo_eql_t rfl)) rfl ?_
      refine ch_s rfl .pick rfl ?_
      refine ch_s rfl .move rfl ?_
      refine ch_g rfl rfl .move rfl ?_
      refine ch_g rfl rfl (.binOp (bo_eql_t rfl)) rfl ?_
      refine ch_s rfl .pick rfl ?_
      refine ch_s rfl .move rfl ?_
      refine ch_g rfl rfl .move rfl ?_
      refine ch_g rfl rfl (.binOp (bo_eql_t rfl)) rfl ?_
      refine ch_s rfl .pick rfl ?_
      refine ch_s rfl .move rfl ?_
      refine ch_g rfl rfl .move rfl ?_
      refine ch_g rfl rfl (.binOp (bo_eql_t rfl)) rfl ?_
      refine ch_s rfl .pick rfl ?_
      refine ch_s rfl .move rfl ?_
      refine ch_g rfl rfl .move rfl ?_
      first | refine ch_g rfl rfl (.convS und33 und5 und9 .sl rfl) rfl ?_ | refine ch_g rfl rfl (.convS und33 und5 und9 .row rfl) rfl ?_ | refine ch_g rfl rfl (.convS und33 und5 und9 (.part (by omega)) rfl) rfl ?_
      refine ch_g rfl rfl .move rfl ?_
      first | refine ch_g rfl rfl (.convS und33 und5 und9 .sl rfl) rfl ?_ | refine ch_g rfl rfl (.convS und33 und5 und9 .row rfl) rfl ?_ | refine ch_g rfl rfl (.convS und33 und5 und9 (.part (by omega)) rfl) rfl ?_
      refine ch_g rfl rfl (.binOp (bo_seql_t rfl)) rfl ?_
      refine ch_s rfl .pick rfl ?_
      refine ch_s rfl .move rfl ?_
      first | refine ch_g rfl rfl (.loadBA ty24 (Nat.le_of_ble_eq_true rfl)) rfl ?_ | refine ch_g rfl rfl (.loadEA ty24 (by simp only [List.length_append, List.length_cons, List.length_nil, List.length_take, List.length_drop, intsC_length, bytesC_length, strsC_length]; omega)) rfl ?_ | refine ch_g rfl rfl (.loadRA ty24 (by simp only [List.length_append, List.length_cons, List.length_nil, List.length_take, List.length_drop, intsC_length, bytesC_length, strsC_length]; omega)) rfl ?_
      first | refine ch_g rfl rfl (.loadBA ty24 (Nat.le_of_ble_eq_true rfl)) rfl ?_ | refine ch_g rfl rfl (.loadEA ty24 (by simp only [List.length_append, List.length_cons, List.length_nil, List.length_take, List.length_drop, intsC_length, bytesC_length, strsC_length]; omega)) rfl ?_ | refine ch_g rfl rfl (.loadRA ty24 (by simp only [List.length_append, List.length_cons, List.length_nil, List.length_take, List.length_drop, intsC_length, bytesC_length, strsC_length]; omega)) rfl ?_
      refine ch_callg (ps := []) false rfl (same_t ⟨3, su, ha⟩ hmm) rfl (by repeat' (first | exact ArL.nil | apply ArL.cons | exact Ar.flat Ar0.val | exact Ar.flat Ar0.sl | exact Ar.ptr rfl | exact Ar.row rfl | exact Ar.part rfl (by first | omega | (simp only [List.length_append, List.length_cons, List.length_nil, List.length_take, List.length_drop, intsC_length, bytesC_length, strsC_length]; omega)) | exact Ar.flat Ar0.nils | exact Ar.elt | apply Ar.agg | exact Ar0L.nil | apply Ar0L.cons | exact Ar0.val | exact Ar0.sl | exact Ar0.nils)) rfl rfl (by intro h; cases h) rfl (by intro h; first | (cases h; done) | exact ⟨_, _, ⟨rfl, rfl⟩, by simp, by simp, by trivial, by simp⟩) ?_
      rintro _ _ ⟨rfl, rfl⟩ hokr hokx
      refine ch_s rfl .pick rfl ?_
      refine ch_s rfl .move rfl ?_
      first | refine ch_g rfl rfl (.loadBA ty26 (Nat.le_of_ble_eq_true rfl)) rfl ?_ | refine ch_g rfl rfl (.loadEA ty26 (by simp only [List.length_append, List.length_cons, List.length_nil, List.length_take, List.length_drop, intsC_length, bytesC_length, strsC_length]; omega)) rfl ?_ | refine ch_g rfl rfl (.loadRA ty26 (by simp only [List.length_append, List.length_cons, List.length_nil, List.length_take, List.length_drop, intsC_length, bytesC_length, strsC_length]; omega)) rfl ?_
      first | refine ch_g rfl rfl (.loadBA ty26 (Nat.le_of_ble_eq_true rfl)) rfl ?_ | refine ch_g rfl rfl (.loadEA ty26 (by simp only [List.length_append, List.length_cons, List.length_nil, List.length_take, List.length_drop, intsC_length, bytesC_length, strsC_length]; omega)) rfl ?_ | refine ch_g rfl rfl (.loadRA ty26 (by simp only [List.length_append, List.length_cons, List.length_nil, List.length_take, List.length_drop, intsC_length, bytesC_length, strsC_length]; omega)) rfl ?_
      refine ch_g rfl rfl (.binOpA rfl rfl ch_eql_t) rfl ?_
      refine ch_s rfl .pick rfl ?_
      refine ch_s rfl .move rfl ?_
      refine ch_callg (ps := []) false rfl (awake_fn) rfl (by repeat' (first | exact ArL.nil | apply ArL.cons | exact Ar.flat Ar0.val | exact Ar.flat Ar0.sl | exact Ar.ptr rfl | exact Ar.row rfl | exact Ar.part rfl (by first | omega | (simp only [List.length_append, List.length_cons, List.length_nil, List.length_take, List.length_drop, intsC_length, bytesC_length, strsC_length]; omega)) | exact Ar.flat Ar0.nils | exact Ar.elt | apply Ar.agg | exact Ar0L.nil | apply Ar0L.cons | exact Ar0.val | exact Ar0.sl | exact Ar0.nils)) rfl rfl (by intro h; cases h) rfl (by intro h; first | (cases h; done) | exact ⟨_, _, ⟨rfl, rfl⟩, by simp, by simp, by trivial, by simp⟩) ?_
      rintro _ _ ⟨rfl, rfl⟩ hokr hokx
      refine ch_s rfl .pick rfl ?_
      refine ch_s rfl .assign rfl ?_
      refine ch_q ?_
      intro hU1232
      repeat (first | refine thn_normal ?_ | refine thn_exit ?_ | refine thn_ret ?_ | refine inB_here ?_ | refine inB_other (by decide) ?_ | refine inB_normal ?_ | refine inB_ret ?_)
      refine awp_ret ?_
      repeat (first | refine thn_normal ?_ | refine thn_exit ?_ | refine thn_ret ?_ | refine inB_here ?_ | refine inB_other (by decide) ?_ | refine inB_normal ?_ | refine inB_ret ?_)
      exact ⟨[_], _, [], [], .cons (.tmp rfl) .nil, ⟨rfl, rfl⟩, .val _, trivial, rfl, rfl, rfl, rfl⟩
  · refine awp_region (sys _ _ []) 8 32 hU8 rfl rfl ?_
    refine ch_s rfl .move rfl ?_
    refine ch_call (ps := []) false (light_f _ hL) rfl (by repeat' (first | exact ArL.nil | apply ArL.cons | exact Ar.flat Ar0.val | exact Ar.flat Ar0.sl | exact Ar.ptr rfl | exact Ar.row rfl | exact Ar.part rfl (by first | omega | (simp only [List.length_append, List.length_cons, List.length_nil, List.length_take, List.length_drop, intsC_length, bytesC_length, strsC_length]; omega)) | exact Ar.flat Ar0.nils | exact Ar.elt | apply Ar.agg | exact Ar0L.nil | apply Ar0L.cons | exact Ar0.val | exact Ar0.sl | exact Ar0.nils)) rfl rfl (by intro h; cases h) rfl (by intro h; first | (cases h; done) | exact ⟨_, _, ⟨rfl, rfl⟩, by simp, by simp, by trivial, by simp⟩) ?_
    rintro _ _ ⟨rfl, rfl⟩ hokr hokx
    refine ch_s rfl (.unOp uo_not) rfl ?_
    refine ch_q ?_
    intro hU32
    repeat (first | refine thn_normal ?_ | refine thn_exit ?_ | refine thn_ret ?_ | refine inB_here ?_ | refine inB_other (by decide) ?_ | refine inB_normal ?_ | refine inB_ret ?_)
    refine awp_cond rfl (fun h2 => ?_) (fun h2 => ?_)
    · refine awp_seq ?_
      refine awp_region (sys _ _ []) 32 48 hU32 rfl rfl ?_
      refine ch_call (ps := []) false (awake_fn) rfl (by repeat' (first | exact ArL.nil | apply ArL.cons | exact Ar.flat Ar0.val | exact Ar.flat Ar0.sl | exact Ar.ptr rfl | exact Ar.row rfl | exact Ar.part rfl (by first | omega | (simp only [List.length_append, List.length_cons, List.length_nil, List.length_take, List.length_drop, intsC_length, bytesC_length, strsC_length]; omega)) | exact Ar.flat Ar0.nils | exact Ar.elt | apply Ar.agg | exact Ar0L.nil | apply Ar0L.cons | exact Ar0.val | exact Ar0.sl | exact Ar0.nils)) rfl rfl (by intro h; cases h) rfl (by intro h; first | (cases h; done) | exact ⟨_, _, ⟨rfl, rfl⟩, by simp, by simp, by trivial, by simp⟩) ?_
      rintro _ _ ⟨rfl, rfl⟩ hokr hokx
      refine ch_s rfl .assign rfl ?_
      refine ch_q ?_
      intro hU48
      repeat (first | refine thn_normal ?_ | refine thn_exit ?_ | refine thn_ret ?_ | refine inB_here ?_ | refine inB_other (by decide) ?_ | refine inB_normal ?_ | refine inB_ret ?_)
      refine awp_ret ?_
      repeat (first | refine thn_normal ?_ | refine thn_exit ?_ | refine thn_ret ?_ | refine inB_here ?_ | refine inB_other (by decide) ?_ | refine inB_normal ?_ | refine inB_ret ?_)
      exact ⟨[_], _, [], [], .cons (.tmp rfl) .nil, ⟨rfl, rfl⟩, .val _, trivial, rfl, rfl, rfl, rfl⟩
    · exact absurd h2 (by decide)
end Go.Proofs.Ythjgcmifggdepaa
