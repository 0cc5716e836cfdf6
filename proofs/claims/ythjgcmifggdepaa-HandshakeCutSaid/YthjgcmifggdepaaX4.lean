/- A hello that is drawn, by the engine. -/
import Derived.Test.YthjgcmifggdepaaX3
set_option linter.unusedVariables false
set_option linter.unusedSimpArgs false
namespace Go.Proofs.Ythjgcmifggdepaa
open Go.RowKit
theorem und24 : Try.prog.underlying 24 = some (.struct ((match Try.prog.underlying 24 with | some (.struct f) => f | _ => #[]))) := by kernel_rfl
theorem fd24_1 : Fd Try.prog 24 1 1 22 := ⟨_, (match Try.prog.underlying 24 with | some (.struct f) => f | _ => #[])[1]!, und24, by kernel_rfl, by kernel_rfl, by kernel_rfl⟩
theorem fd24_2 : Fd Try.prog 24 2 2 22 := ⟨_, (match Try.prog.underlying 24 with | some (.struct f) => f | _ => #[])[2]!, und24, by kernel_rfl, by kernel_rfl, by kernel_rfl⟩
theorem pl24 : ((match Try.prog.underlying 24 with | some (.struct f) => f | _ => #[]) : Array Field).toList.map (fun f => (Try.prog.info? f.type).map fun i => (f.offset, i.size)) = [(0, 1), (1, 1), (2, 1)].map some := by kernel_rfl
theorem ty24 : Ty Try.prog 24 true 3 := ⟨by kernel_rfl, by kernel_rfl⟩
theorem z24 : Zt Try.prog 24 [.int .i64 0, .slice none 0 0, .slice none 0 0] := ⟨(.agg #[.int .i64 0, .slice none 0 0, .slice none 0 0]), by kernel_rfl, rfl, by decide⟩
set_option maxRecDepth 100000 in
set_option maxHeartbeats 800000 in
theorem hello_fn (l : List Int) (p : Nat) (hp : p ≤ l.length) : Fn Try.prog 11 [.ptr 0 0] [diceB l p] (fun r b => ∃ (m : Int) (su ha : List Int) (q : Nat), r = .agg [.val (.int .i64 m), .row 1, .row 2] ∧ (0 ≤ m ∧ m ≤ 5) ∧ su.length ≤ 40 ∧ ha.length ≤ 40 ∧ q ≤ l.length ∧ b = [diceB l q, .row 3 1 (intsC su), .row 3 1 (intsC ha)]) := by
  refine Fn.of Try.func11 rfl rfl rfl fun hok hokb w0 I ρ0 => ?_
  show awp _ ⟨w0, I, ρ0, 1, 78⟩ _ _ _
  refine awp_seq ?_
  refine awp_region (sys _ _ []) 1 9 mk_U rfl rfl ?_
  refine ch_s rfl (.alloc z24) rfl ?_
  refine ch_q ?_
  intro hU9
  repeat (first | refine thn_normal ?_ | refine thn_exit ?_ | refine thn_ret ?_ | refine inB_here ?_ | refine inB_other (by decide) ?_ | refine inB_normal ?_ | refine inB_ret ?_)
  refine awp_seq ?_
  refine awp_region (sys _ _ [17]) 9 89 hU9 rfl rfl ?_
  refine ch_s rfl .move rfl ?_
  refine ch_z rfl (.buildSl sl22 z3 (by decide) rfl (by repeat' (first | exact DcsE.nil | apply DcsE.cons | exact DcE.bool | exact DcE.sl | exact DcE.int (by first | decide | exact i64_range (by omega) | exact u8_range (by omega) | assumption) | exact DcE.str (by first | decide | assumption | omega) | exact DcE.ptr | exact DcE.nilF | exact DcE.nilI)) rfl) rfl rfl rfl ?_
  refine ch_call (ps := [0]) false (of_fn _ _ (by omega) [3, 4, 1, 0, 5] (by simp) (by simp)) rfl (by repeat' (first | exact ArL.nil | apply ArL.cons | exact Ar.flat Ar0.val | exact Ar.flat Ar0.sl | exact Ar.ptr rfl | exact Ar.row rfl | exact Ar.part rfl (by omega) | exact Ar.flat Ar0.nils | exact Ar.elt | apply Ar.agg | exact Ar0L.nil | apply Ar0L.cons | exact Ar0.val | exact Ar0.sl | exact Ar0.nils)) (.cons' (List.mem_cons_self ..) (.cons .sl (.cons .val .nil)) rfl) rfl (by intro h; cases h) rfl (by intro h; first | (cases h; done) | exact ⟨_, _, ⟨_, 0, rfl, List.mem_cons_self .., by omega, rfl⟩, by simp, by simp, by trivial, fun lb hlb => by rw [List.mem_singleton.1 hlb]; exact okB_dice (hokb (diceB l p) (by simp))⟩) ?_
  rintro _ _ ⟨x1, q1, rfl, hm1, hq1, rfl⟩ hokr hokx
  simp only [List.mem_cons, List.not_mem_nil, or_false] at hm1
  have hr1 : -9223372036854775808 ≤ x1 ∧ x1 ≤ 9223372036854775807 := by omega
  refine ch_s rfl .move rfl ?_
  refine ch_call (ps := [0]) false (suites_fn _ _ (by omega)) rfl (by repeat' (first | exact ArL.nil | apply ArL.cons | exact Ar.flat Ar0.val | exact Ar.flat Ar0.sl | exact Ar.ptr rfl | exact Ar.row rfl | exact Ar.part rfl (by omega) | exact Ar.flat Ar0.nils | exact Ar.elt | apply Ar.agg | exact Ar0L.nil | apply Ar0L.cons | exact Ar0.val | exact Ar0.sl | exact Ar0.nils)) (.cons' (List.mem_cons_self ..) (.cons .sl (.cons .val .nil)) rfl) rfl (by intro h; cases h) rfl (by intro h; first | (cases h; done) | exact ⟨_, _, ⟨0, [1], rfl, by omega, by simp, by simp, by simp, by simp, rfl⟩, by simp, by simp, by trivial, by simp⟩) ?_
  rintro _ _ ⟨qs, su, rfl, hqs, hnd, hrg, hl1, hl10, rfl⟩ hokr hokx
  have hsu : okB (.row 3 1 (intsC su)) := hokx _ (by simp)
  refine ch_s rfl .move rfl ?_
  refine ch_call (ps := [0]) false (some_fn _ _ (by omega) 1 4 (by decide) (by decide) (by decide)) rfl (by repeat' (first | exact ArL.nil | apply ArL.cons | exact Ar.flat Ar0.val | exact Ar.flat Ar0.sl | exact Ar.ptr rfl | exact Ar.row rfl | exact Ar.part rfl (by omega) | exact Ar.flat Ar0.nils | exact Ar.elt | apply Ar.agg | exact Ar0L.nil | apply Ar0L.cons | exact Ar0.val | exact Ar0.sl | exact Ar0.nils)) (.cons' (List.mem_cons_self ..) (.cons .sl (.cons .val .nil)) rfl) rfl (by intro h; cases h) rfl (by intro h; first | (cases h; done) | exact ⟨_, _, ⟨0, [], rfl, by omega, ⟨by simp, by simp⟩, by simp, rfl⟩, by simp, by simp, by trivial, by simp⟩) ?_
  rintro _ _ ⟨qh, ha, rfl, hqh, hAsc, hahl, rfl⟩ hokr hokx
  refine ch_s rfl (.build und24 pl24 z24 rfl rfl) rfl ?_
  refine ch_s rfl (.alloc z24) rfl ?_
  first | refine ch_s rfl (.storeB ty24 rfl (Nat.le_of_ble_eq_true rfl) rfl) rfl ?_ | refine ch_s rfl (.storeR ty24 rfl (by simp only [List.length_append, List.length_cons, List.length_nil, List.length_take, List.length_drop, intsC_length, bytesC_length, strsC_length]; omega) (by repeat' (first | exact DcsE.nil | apply DcsE.cons | exact DcE.bool | exact DcE.sl | exact DcE.int (by first | decide | exact i64_range (by omega) | exact u8_range (by omega) | assumption) | exact DcE.str (by first | decide | assumption | omega) | exact DcE.ptr | exact DcE.nilF | exact DcE.nilI))) rfl ?_
  refine ch_q ?_
  intro hU89
  repeat (first | refine thn_normal ?_ | refine thn_exit ?_ | refine thn_ret ?_ | refine inB_here ?_ | refine inB_other (by decide) ?_ | refine inB_normal ?_ | refine inB_ret ?_)
  refine awp_seq ?_
  refine awp_seq ?_
  refine awp_region (sys _ _ []) 89 105 hU89 rfl rfl ?_
  refine ch_s rfl .move rfl ?_
  refine ch_call (ps := [0]) false (next_fn _ _ (by omega) 14 (by omega) (by omega)) rfl (by repeat' (first | exact ArL.nil | apply ArL.cons | exact Ar.flat Ar0.val | exact Ar.flat Ar0.sl | exact Ar.ptr rfl | exact Ar.row rfl | exact Ar.part rfl (by omega) | exact Ar.flat Ar0.nils | exact Ar.elt | apply Ar.agg | exact Ar0L.nil | apply Ar0L.cons | exact Ar0.val | exact Ar0.sl | exact Ar0.nils)) (.cons' (List.mem_cons_self ..) (.cons .sl (.cons .val .nil)) rfl) rfl (by intro h; cases h) rfl (by intro h; first | (cases h; done) | exact ⟨_, _, ⟨0, 0, rfl, by omega, by omega, by omega, rfl⟩, by simp, by simp, by trivial, fun lb hlb => by rw [List.mem_singleton.1 hlb]; exact okB_dice (hokb (diceB l p) (by simp))⟩) ?_
  rintro _ _ ⟨x2, q2, rfl, hx2, hy2, hq2, rfl⟩ hokr hokx
  refine ch_q ?_
  intro hU105
  repeat (first | refine thn_normal ?_ | refine thn_exit ?_ | refine thn_ret ?_ | refine inB_here ?_ | refine inB_other (by decide) ?_ | refine inB_normal ?_ | refine inB_ret ?_)
  refine awp_block ?_
  refine awp_seq ?_
  refine awp_region (sys _ _ []) 105 121 hU105 rfl rfl ?_
  refine ch_s rfl (.binOp bo_eql) rfl ?_
  refine ch_s rfl .assign rfl ?_
  refine ch_q ?_
  intro hU121
  repeat (first | refine thn_normal ?_ | refine thn_exit ?_ | refine thn_ret ?_ | refine inB_here ?_ | refine inB_other (by decide) ?_ | refine inB_normal ?_ | refine inB_ret ?_)
  refine awp_cond rfl (fun h1 => ?_) (fun h1 => ?_)
  · replace h1 := of_decide_eq_true h1
    refine awp_region (sys _ _ []) 121 137 hU121 rfl rfl ?_
    first | refine ch_s rfl (.fieldP fd24_1 ty22 (by decide)) rfl ?_ | refine ch_s rfl (.fieldE fd24_1 ty22 (by decide) (by simp only [List.length_append, List.length_cons, List.length_nil, List.length_take, List.length_drop, intsC_length, bytesC_length, strsC_length]; omega)) rfl ?_
    first | refine ch_s rfl (.storeB ty22 rfl (Nat.le_of_ble_eq_true rfl) rfl) rfl ?_ | refine ch_s rfl (.storeR ty22 rfl (by simp only [List.length_append, List.length_cons, List.length_nil, List.length_take, List.length_drop, intsC_length, bytesC_length, strsC_length]; omega) (by repeat' (first | exact DcsE.nil | apply DcsE.cons | exact DcE.bool | exact DcE.sl | exact DcE.int (by first | decide | exact i64_range (by omega) | exact u8_range (by omega) | assumption) | exact DcE.str (by first | decide | assumption | omega) | exact DcE.ptr | exact DcE.nilF | exact DcE.nilI))) rfl ?_
    refine ch_q ?_
    intro hU137
    repeat (first | refine thn_normal ?_ | refine thn_exit ?_ | refine thn_ret ?_ | refine inB_here ?_ | refine inB_other (by decide) ?_ | refine inB_normal ?_ | refine inB_ret ?_)
    refine awp_seq ?_
    refine awp_region (sys _ _ []) 137 153 hU137 rfl rfl ?_
    first | refine ch_s rfl (.loadBA ty24 (Nat.le_of_ble_eq_true rfl)) rfl ?_ | refine ch_s rfl (.loadEA ty24 (by simp only [List.length_append, List.length_cons, List.length_nil, List.length_take, List.length_drop, intsC_length, bytesC_length, strsC_length]; omega)) rfl ?_ | refine ch_s rfl (.loadRA ty24 (by simp only [List.length_append, List.length_cons, List.length_nil, List.length_take, List.length_drop, intsC_length, bytesC_length, strsC_length]; omega)) rfl ?_
    first | refine ch_s rfl (.storeB ty24 rfl (Nat.le_of_ble_eq_true rfl) rfl) rfl ?_ | refine ch_s rfl (.storeR ty24 rfl (by simp only [List.length_append, List.length_cons, List.length_nil, List.length_take, List.length_drop, intsC_length, bytesC_length, strsC_length]; omega) (by repeat' (first | exact DcsE.nil | apply DcsE.cons | exact DcE.bool | exact DcE.sl | exact DcE.int (by first | decide | exact i64_range (by omega) | exact u8_range (by omega) | assumption) | exact DcE.str (by first | decide | assumption | omega) | exact DcE.ptr | exact DcE.nilF | exact DcE.nilI))) rfl ?_
    refine ch_q ?_
    intro hU153
    repeat (first | refine thn_normal ?_ | refine thn_exit ?_ | refine thn_ret ?_ | refine inB_here ?_ | refine inB_other (by decide) ?_ | refine inB_normal ?_ | refine inB_ret ?_)
    refine awp_ret ?_
    repeat (first | refine thn_normal ?_ | refine thn_exit ?_ | refine thn_ret ?_ | refine inB_here ?_ | refine inB_other (by decide) ?_ | refine inB_normal ?_ | refine inB_ret ?_)
    refine ⟨[_], _, [_, _, _], [(0, 0), (2, 57)], .cons (.cellA rfl rfl ty24 rfl) .nil, ⟨_, [], ha, q2, rfl, ?_, ?_, ?_, ?_, rfl⟩, .agg (.cons (.val _) (.cons (.nil rfl) (.cons (.row rfl) .nil))), ⟨.inl ⟨0, _, rfl, rfl, ⟨rfl, .cons (.sl _ _) (.cons (.val _) .nil)⟩⟩, .inr ⟨rfl, _, _, rfl⟩, .inl ⟨57, _, rfl, rfl, rfl, rfl, rfl⟩, trivial⟩, rfl, rfl, rfl, rfl⟩
    · omega
    · (try simp only [List.length_append, List.length_cons, List.length_nil]); omega
    · (try simp only [List.length_append, List.length_cons, List.length_nil]); omega
    · omega
  · replace h1 := of_decide_eq_false h1
    refine awp_seq ?_
    refine awp_region (sys _ _ []) 121 137 hU121 rfl rfl ?_
    refine ch_s rfl (.binOp bo_eql) rfl ?_
    refine ch_s rfl .assign rfl ?_
    refine ch_q ?_
    intro hU137
    repeat (first | refine thn_normal ?_ | refine thn_exit ?_ | refine thn_ret ?_ | refine inB_here ?_ | refine inB_other (by decide) ?_ | refine inB_normal ?_ | refine inB_ret ?_)
    refine awp_cond rfl (fun h2 => ?_) (fun h2 => ?_)
    · replace h2 := of_decide_eq_true h2
      refine awp_draw (sys _ _ [193, 209]) (by kernel_rfl) [(4, 8), (5, 8), (6, 8), (7, 8), (1, 10), (4, 10), (5, 10), (6, 10), (7, 10), (8, 10), (9, 10), (1, 12), (4, 12), (5, 12), (6, 12), (7, 12), (8, 12), (9, 12), (10, 12)] 137 241 hU137 rfl rfl (by kernel_rfl) ?_
      first | refine ch_s rfl (.fieldP fd24_1 ty22 (by decide)) rfl ?_ | refine ch_s rfl (.fieldE fd24_1 ty22 (by decide) (by simp only [List.length_append, List.length_cons, List.length_nil, List.length_take, List.length_drop, intsC_length, bytesC_length, strsC_length]; omega)) rfl ?_
      first | refine ch_s rfl (.loadB1 ty22 rfl) rfl ?_ | refine ch_s rfl (.loadE1 ty22 (by first | rfl | assumption | exact ints_elt (by assumption) | exact ints_row' (by assumption) | exact bytes_elt (by assumption) | exact bytes_row' (by assumption) | exact strs_elt (by assumption))) rfl ?_ | refine ch_s rfl (.loadR1 ty22 (by first | rfl | assumption | exact ints_elt (by assumption) | exact ints_row' (by assumption) | exact bytes_elt (by assumption) | exact bytes_row' (by assumption) | exact strs_elt (by assumption))) rfl ?_
      refine ch_s rfl .move rfl ?_
      first | refine ch_s rfl (.fieldP fd24_1 ty22 (by decide)) rfl ?_ | refine ch_s rfl (.fieldE fd24_1 ty22 (by decide) (by simp only [List.length_append, List.length_cons, List.length_nil, List.length_take, List.length_drop, intsC_length, bytesC_length, strsC_length]; omega)) rfl ?_
      first | refine ch_s rfl (.loadB1 ty22 rfl) rfl ?_ | refine ch_s rfl (.loadE1 ty22 (by first | rfl | assumption | exact ints_elt (by assumption) | exact ints_row' (by assumption) | exact bytes_elt (by assumption) | exact bytes_row' (by assumption) | exact strs_elt (by assumption))) rfl ?_ | refine ch_s rfl (.loadR1 ty22 (by first | rfl | assumption | exact ints_elt (by assumption) | exact ints_row' (by assumption) | exact bytes_elt (by assumption) | exact bytes_row' (by assumption) | exact strs_elt (by assumption))) rfl ?_
      obtain ⟨y, hy⟩ := ints_get' (l := su) (k := 0) (by omega)
      have hyr := ok_ints hsu.2 hy
      refine ch_s rfl (.idxR sl22 (j := 0) rfl (by simp only [List.length_append, List.length_cons, List.length_nil, List.length_take, List.length_drop, intsC_length, bytesC_length, strsC_length]; omega)) rfl ?_
      first | refine ch_s rfl (.loadB1 ty3 rfl) rfl ?_ | refine ch_s rfl (.loadE1 ty3 (by first | rfl | assumption | exact ints_elt (by assumption) | exact ints_row' (by assumption) | exact bytes_elt (by assumption) | exact bytes_row' (by assumption) | exact strs_elt (by assumption))) rfl ?_ | refine ch_s rfl (.loadR1 ty3 (by first | rfl | assumption | exact ints_elt (by assumption) | exact ints_row' (by assumption) | exact bytes_elt (by assumption) | exact bytes_row' (by assumption) | exact strs_elt (by assumption))) rfl ?_
      refine ch_z rfl (.buildSl sl22 z3 (by decide) rfl (by repeat' (first | exact DcsE.nil | apply DcsE.cons | exact DcE.bool | exact DcE.sl | exact DcE.int (by first | decide | exact i64_range (by omega) | exact u8_range (by omega) | assumption) | exact DcE.str (by first | decide | assumption | omega) | exact DcE.ptr | exact DcE.nilF | exact DcE.nilI)) rfl) rfl rfl rfl ?_
      refine ch_call (ps := [0]) false (of_fn _ _ (by omega) [65535, 65536, -1, y] (by simp) (by simp)) rfl (by repeat' (first | exact ArL.nil | apply ArL.cons | exact Ar.flat Ar0.val | exact Ar.flat Ar0.sl | exact Ar.ptr rfl | exact Ar.row rfl | exact Ar.part rfl (by omega) | exact Ar.flat Ar0.nils | exact Ar.elt | apply Ar.agg | exact Ar0L.nil | apply Ar0L.cons | exact Ar0.val | exact Ar0.sl | exact Ar0.nils)) (.cons' (List.mem_cons_self ..) (.cons .sl (.cons .val .nil)) rfl) rfl (by intro h; cases h) rfl (by intro h; first | (cases h; done) | exact ⟨_, _, ⟨_, 0, rfl, List.mem_cons_self .., by omega, rfl⟩, by simp, by simp, by trivial, fun lb hlb => by rw [List.mem_singleton.1 hlb]; exact okB_dice (hokb (diceB l p) (by simp))⟩) ?_
      rintro _ _ ⟨x3, q3, rfl, hm3, hq3, rfl⟩ hokr hokx
      simp only [List.mem_cons, List.not_mem_nil, or_false] at hm3
      have hr3 : -9223372036854775808 ≤ x3 ∧ x3 ≤ 9223372036854775807 := by omega
      refine ch_z rfl (.buildSl sl22 z3 (by decide) rfl (by repeat' (first | exact DcsE.nil | apply DcsE.cons | exact DcE.bool | exact DcE.sl | exact DcE.int (by first | decide | exact i64_range (by omega) | exact u8_range (by omega) | assumption) | exact DcE.str (by first | decide | assumption | omega) | exact DcE.ptr | exact DcE.nilF | exact DcE.nilI)) rfl) rfl rfl rfl ?_
      first | refine ch_s rfl (.append sl22 .row .row (by simp only [List.length_append, List.length_cons, List.length_nil, List.length_take, List.length_drop, intsC_length, bytesC_length, strsC_length]; omega)) rfl ?_ | refine ch_s rfl (.append sl22 .row .sl (by simp only [List.length_append, List.length_cons, List.length_nil, List.length_take, List.length_drop, intsC_length, bytesC_length, strsC_length]; omega)) rfl ?_ | refine ch_s rfl (.append sl22 .row (.part (by simp only [List.length_append, List.length_cons, List.length_nil, List.length_take, List.length_drop, intsC_length, bytesC_length, strsC_length]; omega)) (by simp only [List.length_append, List.length_cons, List.length_nil, List.length_take, List.length_drop, intsC_length, bytesC_length, strsC_length]; omega)) rfl ?_ | refine ch_s rfl (.append sl22 .row .nil (by simp only [List.length_append, List.length_cons, List.length_nil, List.length_take, List.length_drop, intsC_length, bytesC_length, strsC_length]; omega)) rfl ?_ | refine ch_s rfl (.append sl22 .nil .row (by simp only [List.length_append, List.length_cons, List.length_nil, List.length_take, List.length_drop, intsC_length, bytesC_length, strsC_length]; omega)) rfl ?_ | refine ch_s rfl (.append sl22 .nil .sl (by simp only [List.length_append, List.length_cons, List.length_nil, List.length_take, List.length_drop, intsC_length, bytesC_length, strsC_length]; omega)) rfl ?_ | refine ch_s rfl (.append sl22 .nil (.part (by simp only [List.length_append, List.length_cons, List.length_nil, List.length_take, List.length_drop, intsC_length, bytesC_length, strsC_length]; omega)) (by simp only [List.length_append, List.length_cons, List.length_nil, List.length_take, List.length_drop, intsC_length, bytesC_length, strsC_length]; omega)) rfl ?_ | refine ch_s rfl (.append sl22 .nil .nil (by simp only [List.length_append, List.length_cons, List.length_nil, List.length_take, List.length_drop, intsC_length, bytesC_length, strsC_length]; omega)) rfl ?_
      first | refine ch_s rfl (.fieldP fd24_1 ty22 (by decide)) rfl ?_ | refine ch_s rfl (.fieldE fd24_1 ty22 (by decide) (by simp only [List.length_append, List.length_cons, List.length_nil, List.length_take, List.length_drop, intsC_length, bytesC_length, strsC_length]; omega)) rfl ?_
      first | refine ch_s rfl (.storeB ty22 rfl (Nat.le_of_ble_eq_true rfl) rfl) rfl ?_ | refine ch_s rfl (.storeR ty22 rfl (by simp only [List.length_append, List.length_cons, List.length_nil, List.length_take, List.length_drop, intsC_length, bytesC_length, strsC_length]; omega) (by repeat' (first | exact DcsE.nil | apply DcsE.cons | exact DcE.bool | exact DcE.sl | exact DcE.int (by first | decide | exact i64_range (by omega) | exact u8_range (by omega) | assumption) | exact DcE.str (by first | decide | assumption | omega) | exact DcE.ptr | exact DcE.nilF | exact DcE.nilI))) rfl ?_
      refine ch_q ?_
      intro hU241
      repeat (first | refine thn_normal ?_ | refine thn_exit ?_ | refine thn_ret ?_ | refine inB_here ?_ | refine inB_other (by decide) ?_ | refine inB_normal ?_ | refine inB_ret ?_)
      refine awp_seq ?_
      refine awp_region (sys _ _ []) 241 257 hU241 rfl rfl ?_
      first | refine ch_s rfl (.loadBA ty24 (Nat.le_of_ble_eq_true rfl)) rfl ?_ | refine ch_s rfl (.loadEA ty24 (by simp only [List.length_append, List.length_cons, List.length_nil, List.length_take, List.length_drop, intsC_length, bytesC_length, strsC_length]; omega)) rfl ?_ | refine ch_s rfl (.loadRA ty24 (by simp only [List.length_append, List.length_cons, List.length_nil, List.length_take, List.length_drop, intsC_length, bytesC_length, strsC_length]; omega)) rfl ?_
      first | refine ch_s rfl (.storeB ty24 rfl (Nat.le_of_ble_eq_true rfl) rfl) rfl ?_ | refine ch_s rfl (.storeR ty24 rfl (by simp only [List.length_append, List.length_cons, List.length_nil, List.length_take, List.length_drop, intsC_length, bytesC_length, strsC_length]; omega) (by repeat' (first | exact DcsE.nil | apply DcsE.cons | exact DcE.bool | exact DcE.sl | exact DcE.int (by first | decide | exact i64_range (by omega) | exact u8_range (by omega) | assumption) | exact DcE.str (by first | decide | assumption | omega) | exact DcE.ptr | exact DcE.nilF | exact DcE.nilI))) rfl ?_
      refine ch_q ?_
      intro hU257
      repeat (first | refine thn_normal ?_ | refine thn_exit ?_ | refine thn_ret ?_ | refine inB_here ?_ | refine inB_other (by decide) ?_ | refine inB_normal ?_ | refine inB_ret ?_)
      refine awp_ret ?_
      repeat (first | refine thn_normal ?_ | refine thn_exit ?_ | refine thn_ret ?_ | refine inB_here ?_ | refine inB_other (by decide) ?_ | refine inB_normal ?_ | refine inB_ret ?_)
      refine ⟨[_], _, [_, _, _], [(0, 0), (1, 217), (2, 57)], .cons (.cellA rfl rfl ty24 rfl) .nil, ⟨_, su ++ [x3], ha, q3, rfl, ?_, ?_, ?_, ?_, rfl⟩, .agg (.cons (.val _) (.cons (.row rfl) (.cons (.row rfl) .nil))), ⟨.inl ⟨0, _, rfl, rfl, ⟨rfl, .cons (.sl _ _) (.cons (.val _) .nil)⟩⟩, .inl ⟨217, _, rfl, rfl, rfl, rfl, (by rw [intsC_append]; rfl)⟩, .inl ⟨57, _, rfl, rfl, rfl, rfl, rfl⟩, trivial⟩, rfl, rfl, rfl, rfl⟩
      · omega
      · (try simp only [List.length_append, List.length_cons, List.length_nil]); omega
      · (try simp only [List.length_append, List.length_cons, List.length_nil]); omega
      · omega
    · replace h2 := of_decide_eq_false h2
      refine awp_seq ?_
      refine awp_region (sys _ _ []) 137 153 hU137 rfl rfl ?_
      refine ch_s rfl (.binOp bo_eql) rfl ?_
      refine ch_s rfl .assign rfl ?_
      refine ch_q ?_
      intro hU153
      repeat (first | refine thn_normal ?_ | refine thn_exit ?_ | refine thn_ret ?_ | refine inB_here ?_ | refine inB_other (by decide) ?_ | refine inB_normal ?_ | refine inB_ret ?_)
      refine awp_cond rfl (fun h3 => ?_) (fun h3 => ?_)
      · replace h3 := of_decide_eq_true h3
        refine awp_draw (sys _ _ [177, 193]) (by kernel_rfl) [(3, 4), (1, 6), (3, 6), (4, 6), (5, 6), (1, 8), (3, 8), (4, 8), (5, 8), (6, 8)] 153 225 hU153 rfl rfl (by kernel_rfl) ?_
        first | refine ch_s rfl (.fieldP fd24_2 ty22 (by decide)) rfl ?_ | refine ch_s rfl (.fieldE fd24_2 ty22 (by decide) (by simp only [List.length_append, List.length_cons, List.length_nil, List.length_take, List.length_drop, intsC_length, bytesC_length, strsC_length]; omega)) rfl ?_
        first | refine ch_s rfl (.loadB1 ty22 rfl) rfl ?_ | refine ch_s rfl (.loadE1 ty22 (by first | rfl | assumption | exact ints_elt (by assumption) | exact ints_row' (by assumption) | exact bytes_elt (by assumption) | exact bytes_row' (by assumption) | exact strs_elt (by assumption))) rfl ?_ | refine ch_s rfl (.loadR1 ty22 (by first | rfl | assumption | exact ints_elt (by assumption) | exact ints_row' (by assumption) | exact bytes_elt (by assumption) | exact bytes_row' (by assumption) | exact strs_elt (by assumption))) rfl ?_
        refine ch_s rfl .move rfl ?_
        refine ch_z rfl (.buildSl sl22 z3 (by decide) rfl (by repeat' (first | exact DcsE.nil | apply DcsE.cons | exact DcE.bool | exact DcE.sl | exact DcE.int (by first | decide | exact i64_range (by omega) | exact u8_range (by omega) | assumption) | exact DcE.str (by first | decide | assumption | omega) | exact DcE.ptr | exact DcE.nilF | exact DcE.nilI)) rfl) rfl rfl rfl ?_
        refine ch_call (ps := [0]) false (of_fn _ _ (by omega) [255, 256, 0, 1] (by simp) (by simp)) rfl (by repeat' (first | exact ArL.nil | apply ArL.cons | exact Ar.flat Ar0.val | exact Ar.flat Ar0.sl | exact Ar.ptr rfl | exact Ar.row rfl | exact Ar.part rfl (by omega) | exact Ar.flat Ar0.nils | exact Ar.elt | apply Ar.agg | exact Ar0L.nil | apply Ar0L.cons | exact Ar0.val | exact Ar0.sl | exact Ar0.nils)) (.cons' (List.mem_cons_self ..) (.cons .sl (.cons .val .nil)) rfl) rfl (by intro h; cases h) rfl (by intro h; first | (cases h; done) | exact ⟨_, _, ⟨_, 0, rfl, List.mem_cons_self .., by omega, rfl⟩, by simp, by simp, by trivial, fun lb hlb => by rw [List.mem_singleton.1 hlb]; exact okB_dice (hokb (diceB l p) (by simp))⟩) ?_
        rintro _ _ ⟨x4, q4, rfl, hm4, hq4, rfl⟩ hokr hokx
        simp only [List.mem_cons, List.not_mem_nil, or_false] at hm4
        have hr4 : -9223372036854775808 ≤ x4 ∧ x4 ≤ 9223372036854775807 := by omega
        refine ch_z rfl (.buildSl sl22 z3 (by decide) rfl (by repeat' (first | exact DcsE.nil | apply DcsE.cons | exact DcE.bool | exact DcE.sl | exact DcE.int (by first | decide | exact i64_range (by omega) | exact u8_range (by omega) | assumption) | exact DcE.str (by first | decide | assumption | omega) | exact DcE.ptr | exact DcE.nilF | exact DcE.nilI)) rfl) rfl rfl rfl ?_
        first | refine ch_s rfl (.append sl22 .row .row (by simp only [List.length_append, List.length_cons, List.length_nil, List.length_take, List.length_drop, intsC_length, bytesC_length, strsC_length]; omega)) rfl ?_ | refine ch_s rfl (.append sl22 .row .sl (by simp only [List.length_append, List.length_cons, List.length_nil, List.length_take, List.length_drop, intsC_length, bytesC_length, strsC_length]; omega)) rfl ?_ | refine ch_s rfl (.append sl22 .row (.part (by simp only [List.length_append, List.length_cons, List.length_nil, List.length_take, List.length_drop, intsC_length, bytesC_length, strsC_length]; omega)) (by simp only [List.length_append, List.length_cons, List.length_nil, List.length_take, List.length_drop, intsC_length, bytesC_length, strsC_length]; omega)) rfl ?_ | refine ch_s rfl (.append sl22 .row .nil (by simp only [List.length_append, List.length_cons, List.length_nil, List.length_take, List.length_drop, intsC_length, bytesC_length, strsC_length]; omega)) rfl ?_ | refine ch_s rfl (.append sl22 .nil .row (by simp only [List.length_append, List.length_cons, List.length_nil, List.length_take, List.length_drop, intsC_length, bytesC_length, strsC_length]; omega)) rfl ?_ | refine ch_s rfl (.append sl22 .nil .sl (by simp only [List.length_append, List.length_cons, List.length_nil, List.length_take, List.length_drop, intsC_length, bytesC_length, strsC_length]; omega)) rfl ?_ | refine ch_s rfl (.append sl22 .nil (.part (by simp only [List.length_append, List.length_cons, List.length_nil, List.length_take, List.length_drop, intsC_length, bytesC_length, strsC_length]; omega)) (by simp only [List.length_append, List.length_cons, List.length_nil, List.length_take, List.length_drop, intsC_length, bytesC_length, strsC_length]; omega)) rfl ?_ | refine ch_s rfl (.append sl22 .nil .nil (by simp only [List.length_append, List.length_cons, List.length_nil, List.length_take, List.length_drop, intsC_length, bytesC_length, strsC_length]; omega)) rfl ?_
        first | refine ch_s rfl (.fieldP fd24_2 ty22 (by decide)) rfl ?_ | refine ch_s rfl (.fieldE fd24_2 ty22 (by decide) (by simp only [List.length_append, List.length_cons, List.length_nil, List.length_take, List.length_drop, intsC_length, bytesC_length, strsC_length]; omega)) rfl ?_
        first | refine ch_s rfl (.storeB ty22 rfl (Nat.le_of_ble_eq_true rfl) rfl) rfl ?_ | refine ch_s rfl (.storeR ty22 rfl (by simp only [List.length_append, List.length_cons, List.length_nil, List.length_take, List.length_drop, intsC_length, bytesC_length, strsC_length]; omega) (by repeat' (first | exact DcsE.nil | apply DcsE.cons | exact DcE.bool | exact DcE.sl | exact DcE.int (by first | decide | exact i64_range (by omega) | exact u8_range (by omega) | assumption) | exact DcE.str (by first | decide | assumption | omega) | exact DcE.ptr | exact DcE.nilF | exact DcE.nilI))) rfl ?_
        refine ch_q ?_
        intro hU225
        repeat (first | refine thn_normal ?_ | refine thn_exit ?_ | refine thn_ret ?_ | refine inB_here ?_ | refine inB_other (by decide) ?_ | refine inB_normal ?_ | refine inB_ret ?_)
        refine awp_seq ?_
        refine awp_region (sys _ _ []) 225 241 hU225 rfl rfl ?_
        first | refine ch_s rfl (.loadBA ty24 (Nat.le_of_ble_eq_true rfl)) rfl ?_ | refine ch_s rfl (.loadEA ty24 (by simp only [List.length_append, List.length_cons, List.length_nil, List.length_take, List.length_drop, intsC_length, bytesC_length, strsC_length]; omega)) rfl ?_ | refine ch_s rfl (.loadRA ty24 (by simp only [List.length_append, List.length_cons, List.length_nil, List.length_take, List.length_drop, intsC_length, bytesC_length, strsC_length]; omega)) rfl ?_
        first | refine ch_s rfl (.storeB ty24 rfl (Nat.le_of_ble_eq_true rfl) rfl) rfl ?_ | refine ch_s rfl (.storeR ty24 rfl (by simp only [List.length_append, List.length_cons, List.length_nil, List.length_take, List.length_drop, intsC_length, bytesC_length, strsC_length]; omega) (by repeat' (first | exact DcsE.nil | apply DcsE.cons | exact DcE.bool | exact DcE.sl | exact DcE.int (by first | decide | exact i64_range (by omega) | exact u8_range (by omega) | assumption) | exact DcE.str (by first | decide | assumption | omega) | exact DcE.ptr | exact DcE.nilF | exact DcE.nilI))) rfl ?_
        refine ch_q ?_
        intro hU241
        repeat (first | refine thn_normal ?_ | refine thn_exit ?_ | refine thn_ret ?_ | refine inB_here ?_ | refine inB_other (by decide) ?_ | refine inB_normal ?_ | refine inB_ret ?_)
        refine awp_ret ?_
        repeat (first | refine thn_normal ?_ | refine thn_exit ?_ | refine thn_ret ?_ | refine inB_here ?_ | refine inB_other (by decide) ?_ | refine inB_normal ?_ | refine inB_ret ?_)
        refine ⟨[_], _, [_, _, _], [(0, 0), (1, 41), (2, 201)], .cons (.cellA rfl rfl ty24 rfl) .nil, ⟨_, su, ha ++ [x4], q4, rfl, ?_, ?_, ?_, ?_, rfl⟩, .agg (.cons (.val _) (.cons (.row rfl) (.cons (.row rfl) .nil))), ⟨.inl ⟨0, _, rfl, rfl, ⟨rfl, .cons (.sl _ _) (.cons (.val _) .nil)⟩⟩, .inl ⟨41, _, rfl, rfl, rfl, rfl, rfl⟩, .inl ⟨201, _, rfl, rfl, rfl, rfl, (by rw [intsC_append]; rfl)⟩, trivial⟩, rfl, rfl, rfl, rfl⟩
        · omega
        · (try simp only [List.length_append, List.length_cons, List.length_nil]); omega
        · (try simp only [List.length_append, List.length_cons, List.length_nil]); omega
        · omega
      · replace h3 := of_decide_eq_false h3
        refine awp_seq ?_
        refine awp_region (sys _ _ []) 153 169 hU153 rfl rfl ?_
        refine ch_s rfl (.binOp bo_eql) rfl ?_
        refine ch_s rfl .assign rfl ?_
        refine ch_q ?_
        intro hU169
        repeat (first | refine thn_normal ?_ | refine thn_exit ?_ | refine thn_ret ?_ | refine inB_here ?_ | refine inB_other (by decide) ?_ | refine inB_normal ?_ | refine inB_ret ?_)
        refine awp_cond rfl (fun h4 => ?_) (fun h4 => ?_)
        · replace h4 := of_decide_eq_true h4
          refine awp_block ?_
          refine awp_loop (ι := Nat × List Int) (fun ((qq, su2) : Nat × List Int) => mk [(0, .ptr 0 0), (2, .ptr 1 0), (3, .ptr 2 0)] [(0, diceB l qq), (1, .box [.val (.int .i64 0), .val (.slice none 0 0), .val (.slice none 0 0)] 24), (2, .box [.val (.int .i64 x1), .row 3, .row 4] 24), (3, .row 3 1 (intsC su2)), (4, .row 3 1 (intsC ha))] 5) (fun ((qq, su2) : Nat × List Int) => qq ≤ l.length ∧ su2.length ≤ 30) (fun ((qq, su2) : Nat × List Int) => 30 - su2.length) (q2, su) ?_ ?_ ?_
          · exact Sub.lists [(0, 0), (1, 1), (2, 73), (3, 41), (4, 57)] rfl rfl ⟨⟨_, rfl, .ptr rfl⟩, ⟨_, rfl, .ptr rfl⟩, ⟨_, rfl, .ptr rfl⟩, trivial⟩ ⟨.inl ⟨0, _, rfl, rfl, ⟨rfl, .cons (.sl _ _) (.cons (.val _) .nil)⟩⟩, .inl ⟨1, _, rfl, rfl, rfl, .cons (.val _) (.cons (.val _) (.cons (.val _) .nil))⟩, .inl ⟨73, _, rfl, rfl, rfl, .cons (.val _) (.cons (.row rfl) (.cons (.row rfl) .nil))⟩, .inl ⟨41, _, rfl, rfl, rfl, rfl, rfl⟩, .inl ⟨57, _, rfl, rfl, rfl, rfl, rfl⟩, trivial⟩
          · exact ⟨by omega, by omega⟩
          · rintro ⟨qq, su2⟩ hokl
            replace hokl : qq ≤ l.length ∧ su2.length ≤ 30 := hokl
            obtain ⟨hqq, hvl⟩ := hokl
            show awp _ _ _ _ (mk [(0, .ptr 0 0), (2, .ptr 1 0), (3, .ptr 2 0)] [(0, diceB l qq), (1, .box [.val (.int .i64 0), .val (.slice none 0 0), .val (.slice none 0 0)] 24), (2, .box [.val (.int .i64 x1), .row 3, .row 4] 24), (3, .row 3 1 (intsC su2)), (4, .row 3 1 (intsC ha))] 5)
            refine awp_seq ?_
            refine awp_seq ?_
            refine awp_draw (sys _ _ []) (by kernel_rfl) [] 5 61 mk_U rfl rfl (by kernel_rfl) ?_
            first | refine ch_s rfl (.fieldP fd24_1 ty22 (by decide)) rfl ?_ | refine ch_s rfl (.fieldE fd24_1 ty22 (by decide) (by simp only [List.length_append, List.length_cons, List.length_nil, List.length_take, List.length_drop, intsC_length, bytesC_length, strsC_length]; omega)) rfl ?_
            first | refine ch_s rfl (.loadB1 ty22 rfl) rfl ?_ | refine ch_s rfl (.loadE1 ty22 (by first | rfl | assumption | exact ints_elt (by assumption) | exact ints_row' (by assumption) | exact bytes_elt (by assumption) | exact bytes_row' (by assumption) | exact strs_elt (by assumption))) rfl ?_ | refine ch_s rfl (.loadR1 ty22 (by first | rfl | assumption | exact ints_elt (by assumption) | exact ints_row' (by assumption) | exact bytes_elt (by assumption) | exact bytes_row' (by assumption) | exact strs_elt (by assumption))) rfl ?_
            first | refine ch_s rfl (.len sl22.elem len_ints) rfl ?_ | refine ch_s rfl (.len sl22.elem len_rints) rfl ?_ | refine ch_s rfl (.len sl22.elem .part) rfl ?_ | refine ch_s rfl (.len sl22.elem len_bytes) rfl ?_ | refine ch_s rfl (.len sl22.elem len_rbytes) rfl ?_ | refine ch_s rfl (.len sl22.elem len_strs) rfl ?_ | refine ch_s rfl (.len sl22.elem len_rstrs) rfl ?_ | refine ch_s rfl (.len sl22.elem (.sl (by decide) (by assumption))) rfl ?_ | refine ch_s rfl (.len sl22.elem (.row (by decide) (by assumption))) rfl ?_
            refine ch_s rfl .move rfl ?_
            refine ch_call (ps := [0]) false (next_fn _ _ (by omega) 2 (by omega) (by omega)) rfl (by repeat' (first | exact ArL.nil | apply ArL.cons | exact Ar.flat Ar0.val | exact Ar.flat Ar0.sl | exact Ar.ptr rfl | exact Ar.row rfl | exact Ar.part rfl (by omega) | exact Ar.flat Ar0.nils | exact Ar.elt | apply Ar.agg | exact Ar0L.nil | apply Ar0L.cons | exact Ar0.val | exact Ar0.sl | exact Ar0.nils)) (.cons' (List.mem_cons_self ..) (.cons .sl (.cons .val .nil)) rfl) rfl (by intro h; cases h) rfl (by intro h; first | (cases h; done) | exact ⟨_, _, ⟨0, 0, rfl, by omega, by omega, by omega, rfl⟩, by simp, by simp, by trivial, fun lb hlb => by rw [List.mem_singleton.1 hlb]; exact okB_dice (hokb (diceB l p) (by simp))⟩) ?_
            rintro _ _ ⟨x5, q5, rfl, hx5, hy5, hq5, rfl⟩ hokr hokx
            first | refine ch_s rfl (.binOp (bo_add (by omega))) rfl ?_ | refine ch_s rfl (.binOp bo_addw) rfl ?_
            refine ch_s rfl (.binOp bo_lss) rfl ?_
            refine ch_q ?_
            intro hU61
            repeat (first | refine thn_normal ?_ | refine thn_exit ?_ | refine thn_ret ?_ | refine inB_here ?_ | refine inB_other (by decide) ?_ | refine inB_normal ?_ | refine inB_ret ?_)
            refine awp_cond rfl (fun h5 => ?_) (fun h5 => ?_)
            · replace h5 := of_decide_eq_true h5
              refine awp_skip ?_
              repeat (first | refine thn_normal ?_ | refine thn_exit ?_ | refine thn_ret ?_ | refine inB_here ?_ | refine inB_other (by decide) ?_ | refine inB_normal ?_ | refine inB_ret ?_)
              refine awp_block ?_
              refine awp_region (sys _ _ []) 61 141 hU61 rfl rfl ?_
              first | refine ch_s rfl (.fieldP fd24_1 ty22 (by decide)) rfl ?_ | refine ch_s rfl (.fieldE fd24_1 ty22 (by decide) (by simp only [List.length_append, List.length_cons, List.length_nil, List.length_take, List.length_drop, intsC_length, bytesC_length, strsC_length]; omega)) rfl ?_
              first | refine ch_s rfl (.loadB1 ty22 rfl) rfl ?_ | refine ch_s rfl (.loadE1 ty22 (by first | rfl | assumption | exact ints_elt (by assumption) | exact ints_row' (by assumption) | exact bytes_elt (by assumption) | exact bytes_row' (by assumption) | exact strs_elt (by assumption))) rfl ?_ | refine ch_s rfl (.loadR1 ty22 (by first | rfl | assumption | exact ints_elt (by assumption) | exact ints_row' (by assumption) | exact bytes_elt (by assumption) | exact bytes_row' (by assumption) | exact strs_elt (by assumption))) rfl ?_
              first | refine ch_s rfl (.fieldP fd24_1 ty22 (by decide)) rfl ?_ | refine ch_s rfl (.fieldE fd24_1 ty22 (by decide) (by simp only [List.length_append, List.length_cons, List.length_nil, List.length_take, List.length_drop, intsC_length, bytesC_length, strsC_length]; omega)) rfl ?_
              first | refine ch_s rfl (.loadB1 ty22 rfl) rfl ?_ | refine ch_s rfl (.loadE1 ty22 (by first | rfl | assumption | exact ints_elt (by assumption) | exact ints_row' (by assumption) | exact bytes_elt (by assumption) | exact bytes_row' (by assumption) | exact strs_elt (by assumption))) rfl ?_ | refine ch_s rfl (.loadR1 ty22 (by first | rfl | assumption | exact ints_elt (by assumption) | exact ints_row' (by assumption) | exact bytes_elt (by assumption) | exact bytes_row' (by assumption) | exact strs_elt (by assumption))) rfl ?_
              first | refine ch_s rfl (.len sl22.elem len_ints) rfl ?_ | refine ch_s rfl (.len sl22.elem len_rints) rfl ?_ | refine ch_s rfl (.len sl22.elem .part) rfl ?_ | refine ch_s rfl (.len sl22.elem len_bytes) rfl ?_ | refine ch_s rfl (.len sl22.elem len_rbytes) rfl ?_ | refine ch_s rfl (.len sl22.elem len_strs) rfl ?_ | refine ch_s rfl (.len sl22.elem len_rstrs) rfl ?_ | refine ch_s rfl (.len sl22.elem (.sl (by decide) (by assumption))) rfl ?_ | refine ch_s rfl (.len sl22.elem (.row (by decide) (by assumption))) rfl ?_
              first | refine ch_s rfl (.binOp (bo_add (by omega))) rfl ?_ | refine ch_s rfl (.binOp bo_addw) rfl ?_
              refine ch_s rfl (.buildSl sl22 z3 (by decide) rfl (by repeat' (first | exact DcsE.nil | apply DcsE.cons | exact DcE.bool | exact DcE.sl | exact DcE.int (by first | decide | exact i64_range (by omega) | exact u8_range (by omega) | assumption) | exact DcE.str (by first | decide | assumption | omega) | exact DcE.ptr | exact DcE.nilF | exact DcE.nilI)) rfl) rfl ?_
              first | refine ch_s rfl (.append sl22 .row .row (by simp only [List.length_append, List.length_cons, List.length_nil, List.length_take, List.length_drop, intsC_length, bytesC_length, strsC_length]; omega)) rfl ?_ | refine ch_s rfl (.append sl22 .row .sl (by simp only [List.length_append, List.length_cons, List.length_nil, List.length_take, List.length_drop, intsC_length, bytesC_length, strsC_length]; omega)) rfl ?_ | refine ch_s rfl (.append sl22 .row (.part (by simp only [List.length_append, List.length_cons, List.length_nil, List.length_take, List.length_drop, intsC_length, bytesC_length, strsC_length]; omega)) (by simp only [List.length_append, List.length_cons, List.length_nil, List.length_take, List.length_drop, intsC_length, bytesC_length, strsC_length]; omega)) rfl ?_ | refine ch_s rfl (.append sl22 .row .nil (by simp only [List.length_append, List.length_cons, List.length_nil, List.length_take, List.length_drop, intsC_length, bytesC_length, strsC_length]; omega)) rfl ?_ | refine ch_s rfl (.append sl22 .nil .row (by simp only [List.length_append, List.length_cons, List.length_nil, List.length_take, List.length_drop, intsC_length, bytesC_length, strsC_length]; omega)) rfl ?_ | refine ch_s rfl (.append sl22 .nil .sl (by simp only [List.length_append, List.length_cons, List.length_nil, List.length_take, List.length_drop, intsC_length, bytesC_length, strsC_length]; omega)) rfl ?_ | refine ch_s rfl (.append sl22 .nil (.part (by simp only [List.length_append, List.length_cons, List.length_nil, List.length_take, List.length_drop, intsC_length, bytesC_length, strsC_length]; omega)) (by simp only [List.length_append, List.length_cons, List.length_nil, List.length_take, List.length_drop, intsC_length, bytesC_length, strsC_length]; omega)) rfl ?_ | refine ch_s rfl (.append sl22 .nil .nil (by simp only [List.length_append, List.length_cons, List.length_nil, List.length_take, List.length_drop, intsC_length, bytesC_length, strsC_length]; omega)) rfl ?_
              first | refine ch_s rfl (.fieldP fd24_1 ty22 (by decide)) rfl ?_ | refine ch_s rfl (.fieldE fd24_1 ty22 (by decide) (by simp only [List.length_append, List.length_cons, List.length_nil, List.length_take, List.length_drop, intsC_length, bytesC_length, strsC_length]; omega)) rfl ?_
              first | refine ch_s rfl (.storeB ty22 rfl (Nat.le_of_ble_eq_true rfl) rfl) rfl ?_ | refine ch_s rfl (.storeR ty22 rfl (by simp only [List.length_append, List.length_cons, List.length_nil, List.length_take, List.length_drop, intsC_length, bytesC_length, strsC_length]; omega) (by repeat' (first | exact DcsE.nil | apply DcsE.cons | exact DcE.bool | exact DcE.sl | exact DcE.int (by first | decide | exact i64_range (by omega) | exact u8_range (by omega) | assumption) | exact DcE.str (by first | decide | assumption | omega) | exact DcE.ptr | exact DcE.nilF | exact DcE.nilI))) rfl ?_
              refine ch_q ?_
              intro hU141
              repeat (first | refine thn_normal ?_ | refine thn_exit ?_ | refine thn_ret ?_ | refine inB_here ?_ | refine inB_other (by decide) ?_ | refine inB_normal ?_ | refine inB_ret ?_)
              refine ⟨(q5, su2 ++ [(100 : Int) + ((su2.length : Nat) : Int)]), ?_, ⟨by omega, by rw [List.length_append, List.length_singleton]; omega⟩, Sub.lists [(0, 0), (1, 1), (2, 2), (3, 117), (4, 4)] rfl rfl ⟨⟨_, rfl, .ptr rfl⟩, ⟨_, rfl, .ptr rfl⟩, ⟨_, rfl, .ptr rfl⟩, trivial⟩ ⟨.inl ⟨0, _, rfl, rfl, ⟨rfl, .cons (.sl _ _) (.cons (.val _) .nil)⟩⟩, .inl ⟨1, _, rfl, rfl, rfl, .cons (.val _) (.cons (.val _) (.cons (.val _) .nil))⟩, .inl ⟨2, _, rfl, rfl, rfl, .cons (.val _) (.cons (.row rfl) (.cons (.row rfl) .nil))⟩, .inl ⟨117, _, rfl, rfl, rfl, rfl, (by rw [intsC_append]; rfl)⟩, .inl ⟨4, _, rfl, rfl, rfl, rfl, rfl⟩, trivial⟩⟩
              show 30 - (su2 ++ [(100 : Int) + ((su2.length : Nat) : Int)]).length < 30 - su2.length
              rw [List.length_append, List.length_singleton]
              omega
            · replace h5 := of_decide_eq_false h5
              refine awp_exit ?_
              repeat (first | refine thn_normal ?_ | refine thn_exit ?_ | refine thn_ret ?_ | refine inB_here ?_ | refine inB_other (by decide) ?_ | refine inB_normal ?_ | refine inB_ret ?_)
              refine awp_seq ?_
              refine awp_region (sys _ _ []) 61 77 hU61 rfl rfl ?_
              first | refine ch_s rfl (.loadBA ty24 (Nat.le_of_ble_eq_true rfl)) rfl ?_ | refine ch_s rfl (.loadEA ty24 (by simp only [List.length_append, List.length_cons, List.length_nil, List.length_take, List.length_drop, intsC_length, bytesC_length, strsC_length]; omega)) rfl ?_ | refine ch_s rfl (.loadRA ty24 (by simp only [List.length_append, List.length_cons, List.length_nil, List.length_take, List.length_drop, intsC_length, bytesC_length, strsC_length]; omega)) rfl ?_
              first | refine ch_s rfl (.storeB ty24 rfl (Nat.le_of_ble_eq_true rfl) rfl) rfl ?_ | refine ch_s rfl (.storeR ty24 rfl (by simp only [List.length_append, List.length_cons, List.length_nil, List.length_take, List.length_drop, intsC_length, bytesC_length, strsC_length]; omega) (by repeat' (first | exact DcsE.nil | apply DcsE.cons | exact DcE.bool | exact DcE.sl | exact DcE.int (by first | decide | exact i64_range (by omega) | exact u8_range (by omega) | assumption) | exact DcE.str (by first | decide | assumption | omega) | exact DcE.ptr | exact DcE.nilF | exact DcE.nilI))) rfl ?_
              refine ch_q ?_
              intro hU77
              repeat (first | refine thn_normal ?_ | refine thn_exit ?_ | refine thn_ret ?_ | refine inB_here ?_ | refine inB_other (by decide) ?_ | refine inB_normal ?_ | refine inB_ret ?_)
              refine awp_ret ?_
              repeat (first | refine thn_normal ?_ | refine thn_exit ?_ | refine thn_ret ?_ | refine inB_here ?_ | refine inB_other (by decide) ?_ | refine inB_normal ?_ | refine inB_ret ?_)
              refine ⟨[_], _, [_, _, _], [(0, 0), (1, 3), (2, 4)], .cons (.cellA rfl rfl ty24 rfl) .nil, ⟨_, su2, ha, q5, rfl, ?_, ?_, ?_, ?_, rfl⟩, .agg (.cons (.val _) (.cons (.row rfl) (.cons (.row rfl) .nil))), ⟨.inl ⟨0, _, rfl, rfl, ⟨rfl, .cons (.sl _ _) (.cons (.val _) .nil)⟩⟩, .inl ⟨3, _, rfl, rfl, rfl, rfl, rfl⟩, .inl ⟨4, _, rfl, rfl, rfl, rfl, rfl⟩, trivial⟩, rfl, rfl, rfl, rfl⟩
              · omega
              · (try simp only [List.length_append, List.length_cons, List.length_nil]); omega
              · (try simp only [List.length_append, List.length_cons, List.length_nil]); omega
              · omega
        · replace h4 := of_decide_eq_false h4
          refine awp_seq ?_
          refine awp_region (sys _ _ []) 169 185 hU169 rfl rfl ?_
          refine ch_s rfl (.binOp bo_eql) rfl ?_
          refine ch_s rfl .assign rfl ?_
          refine ch_q ?_
          intro hU185
          repeat (first | refine thn_normal ?_ | refine thn_exit ?_ | refine thn_ret ?_ | refine inB_here ?_ | refine inB_other (by decide) ?_ | refine inB_normal ?_ | refine inB_ret ?_)
          refine awp_cond rfl (fun h6 => ?_) (fun h6 => ?_)
          · replace h6 := of_decide_eq_true h6
            refine awp_block ?_
            refine awp_loop (ι := Nat × List Int) (fun ((qq, ha2) : Nat × List Int) => mk [(0, .ptr 0 0), (2, .ptr 1 0), (3, .ptr 2 0)] [(0, diceB l qq), (1, .box [.val (.int .i64 0), .val (.slice none 0 0), .val (.slice none 0 0)] 24), (2, .box [.val (.int .i64 x1), .row 3, .row 4] 24), (3, .row 3 1 (intsC su)), (4, .row 3 1 (intsC ha2))] 5) (fun ((qq, ha2) : Nat × List Int) => qq ≤ l.length ∧ ha2.length ≤ 30) (fun ((qq, ha2) : Nat × List Int) => 30 - ha2.length) (q2, ha) ?_ ?_ ?_
            · exact Sub.lists [(0, 0), (1, 1), (2, 73), (3, 41), (4, 57)] rfl rfl ⟨⟨_, rfl, .ptr rfl⟩, ⟨_, rfl, .ptr rfl⟩, ⟨_, rfl, .ptr rfl⟩, trivial⟩ ⟨.inl ⟨0, _, rfl, rfl, ⟨rfl, .cons (.sl _ _) (.cons (.val _) .nil)⟩⟩, .inl ⟨1, _, rfl, rfl, rfl, .cons (.val _) (.cons (.val _) (.cons (.val _) .nil))⟩, .inl ⟨73, _, rfl, rfl, rfl, .cons (.val _) (.cons (.row rfl) (.cons (.row rfl) .nil))⟩, .inl ⟨41, _, rfl, rfl, rfl, rfl, rfl⟩, .inl ⟨57, _, rfl, rfl, rfl, rfl, rfl⟩, trivial⟩
            · exact ⟨by omega, by omega⟩
            · rintro ⟨qq, ha2⟩ hokl
              replace hokl : qq ≤ l.length ∧ ha2.length ≤ 30 := hokl
              obtain ⟨hqq, hvl⟩ := hokl
              show awp _ _ _ _ (mk [(0, .ptr 0 0), (2, .ptr 1 0), (3, .ptr 2 0)] [(0, diceB l qq), (1, .box [.val (.int .i64 0), .val (.slice none 0 0), .val (.slice none 0 0)] 24), (2, .box [.val (.int .i64 x1), .row 3, .row 4] 24), (3, .row 3 1 (intsC su)), (4, .row 3 1 (intsC ha2))] 5)
              refine awp_seq ?_
              refine awp_seq ?_
              refine awp_draw (sys _ _ []) (by kernel_rfl) [] 5 61 mk_U rfl rfl (by kernel_rfl) ?_
              first | refine ch_s rfl (.fieldP fd24_2 ty22 (by decide)) rfl ?_ | refine ch_s rfl (.fieldE fd24_2 ty22 (by decide) (by simp only [List.length_append, List.length_cons, List.length_nil, List.length_take, List.length_drop, intsC_length, bytesC_length, strsC_length]; omega)) rfl ?_
              first | refine ch_s rfl (.loadB1 ty22 rfl) rfl ?_ | refine ch_s rfl (.loadE1 ty22 (by first | rfl | assumption | exact ints_elt (by assumption) | exact ints_row' (by assumption) | exact bytes_elt (by assumption) | exact bytes_row' (by assumption) | exact strs_elt (by assumption))) rfl ?_ | refine ch_s rfl (.loadR1 ty22 (by first | rfl | assumption | exact ints_elt (by assumption) | exact ints_row' (by assumption) | exact bytes_elt (by assumption) | exact bytes_row' (by assumption) | exact strs_elt (by assumption))) rfl ?_
              first | refine ch_s rfl (.len sl22.elem len_ints) rfl ?_ | refine ch_s rfl (.len sl22.elem len_rints) rfl ?_ | refine ch_s rfl (.len sl22.elem .part) rfl ?_ | refine ch_s rfl (.len sl22.elem len_bytes) rfl ?_ | refine ch_s rfl (.len sl22.elem len_rbytes) rfl ?_ | refine ch_s rfl (.len sl22.elem len_strs) rfl ?_ | refine ch_s rfl (.len sl22.elem len_rstrs) rfl ?_ | refine ch_s rfl (.len sl22.elem (.sl (by decide) (by assumption))) rfl ?_ | refine ch_s rfl (.len sl22.elem (.row (by decide) (by assumption))) rfl ?_
              refine ch_s rfl .move rfl ?_
              refine ch_call (ps := [0]) false (next_fn _ _ (by omega) 2 (by omega) (by omega)) rfl (by repeat' (first | exact ArL.nil | apply ArL.cons | exact Ar.flat Ar0.val | exact Ar.flat Ar0.sl | exact Ar.ptr rfl | exact Ar.row rfl | exact Ar.part rfl (by omega) | exact Ar.flat Ar0.nils | exact Ar.elt | apply Ar.agg | exact Ar0L.nil | apply Ar0L.cons | exact Ar0.val | exact Ar0.sl | exact Ar0.nils)) (.cons' (List.mem_cons_self ..) (.cons .sl (.cons .val .nil)) rfl) rfl (by intro h; cases h) rfl (by intro h; first | (cases h; done) | exact ⟨_, _, ⟨0, 0, rfl, by omega, by omega, by omega, rfl⟩, by simp, by simp, by trivial, fun lb hlb => by rw [List.mem_singleton.1 hlb]; exact okB_dice (hokb (diceB l p) (by simp))⟩) ?_
              rintro _ _ ⟨x6, q6, rfl, hx6, hy6, hq6, rfl⟩ hokr hokx
              first | refine ch_s rfl (.binOp (bo_add (by omega))) rfl ?_ | refine ch_s rfl (.binOp bo_addw) rfl ?_
              refine ch_s rfl (.binOp bo_lss) rfl ?_
              refine ch_q ?_
              intro hU61
              repeat (first | refine thn_normal ?_ | refine thn_exit ?_ | refine thn_ret ?_ | refine inB_here ?_ | refine inB_other (by decide) ?_ | refine inB_normal ?_ | refine inB_ret ?_)
              refine awp_cond rfl (fun h7 => ?_) (fun h7 => ?_)
              · replace h7 := of_decide_eq_true h7
                refine awp_skip ?_
                repeat (first | refine thn_normal ?_ | refine thn_exit ?_ | refine thn_ret ?_ | refine inB_here ?_ | refine inB_other (by decide) ?_ | refine inB_normal ?_ | refine inB_ret ?_)
                refine awp_block ?_
                refine awp_region (sys _ _ []) 61 141 hU61 rfl rfl ?_
                first | refine ch_s rfl (.fieldP fd24_2 ty22 (by decide)) rfl ?_ | refine ch_s rfl (.fieldE fd24_2 ty22 (by decide) (by simp only [List.length_append, List.length_cons, List.length_nil, List.length_take, List.length_drop, intsC_length, bytesC_length, strsC_length]; omega)) rfl ?_
                first | refine ch_s rfl (.loadB1 ty22 rfl) rfl ?_ | refine ch_s rfl (.loadE1 ty22 (by first | rfl | assumption | exact ints_elt (by assumption) | exact ints_row' (by assumption) | exact bytes_elt (by assumption) | exact bytes_row' (by assumption) | exact strs_elt (by assumption))) rfl ?_ | refine ch_s rfl (.loadR1 ty22 (by first | rfl | assumption | exact ints_elt (by assumption) | exact ints_row' (by assumption) | exact bytes_elt (by assumption) | exact bytes_row' (by assumption) | exact strs_elt (by assumption))) rfl ?_
                first | refine ch_s rfl (.fieldP fd24_2 ty22 (by decide)) rfl ?_ | refine ch_s rfl (.fieldE fd24_2 ty22 (by decide) (by simp only [List.length_append, List.length_cons, List.length_nil, List.length_take, List.length_drop, intsC_length, bytesC_length, strsC_length]; omega)) rfl ?_
                first | refine ch_s rfl (.loadB1 ty22 rfl) rfl ?_ | refine ch_s rfl (.loadE1 ty22 (by first | rfl | assumption | exact ints_elt (by assumption) | exact ints_row' (by assumption) | exact bytes_elt (by assumption) | exact bytes_row' (by assumption) | exact strs_elt (by assumption))) rfl ?_ | refine ch_s rfl (.loadR1 ty22 (by first | rfl | assumption | exact ints_elt (by assumption) | exact ints_row' (by assumption) | exact bytes_elt (by assumption) | exact bytes_row' (by assumption) | exact strs_elt (by assumption))) rfl ?_
                first | refine ch_s rfl (.len sl22.elem len_ints) rfl ?_ | refine ch_s rfl (.len sl22.elem len_rints) rfl ?_ | refine ch_s rfl (.len sl22.elem .part) rfl ?_ | refine ch_s rfl (.len sl22.elem len_bytes) rfl ?_ | refine ch_s rfl (.len sl22.elem len_rbytes) rfl ?_ | refine ch_s rfl (.len sl22.elem len_strs) rfl ?_ | refine ch_s rfl (.len sl22.elem len_rstrs) rfl ?_ | refine ch_s rfl (.len sl22.elem (.sl (by decide) (by assumption))) rfl ?_ | refine ch_s rfl (.len sl22.elem (.row (by decide) (by assumption))) rfl ?_
                first | refine ch_s rfl (.binOp (bo_add (by omega))) rfl ?_ | refine ch_s rfl (.binOp bo_addw) rfl ?_
                refine ch_s rfl (.buildSl sl22 z3 (by decide) rfl (by repeat' (first | exact DcsE.nil | apply DcsE.cons | exact DcE.bool | exact DcE.sl | exact DcE.int (by first | decide | exact i64_range (by omega) | exact u8_range (by omega) | assumption) | exact DcE.str (by first | decide | assumption | omega) | exact DcE.ptr | exact DcE.nilF | exact DcE.nilI)) rfl) rfl ?_
                first | refine ch_s rfl (.append sl22 .row .row (by simp only [List.length_append, List.length_cons, List.length_nil, List.length_take, List.length_drop, intsC_length, bytesC_length, strsC_length]; omega)) rfl ?_ | refine ch_s rfl (.append sl22 .row .sl (by simp only [List.length_append, List.length_cons, List.length_nil, List.length_take, List.length_drop, intsC_length, bytesC_length, strsC_length]; omega)) rfl ?_ | refine ch_s rfl (.append sl22 .row (.part (by simp only [List.length_append, List.length_cons, List.length_nil, List.length_take, List.length_drop, intsC_length, bytesC_length, strsC_length]; omega)) (by simp only [List.length_append, List.length_cons, List.length_nil, List.length_take, List.length_drop, intsC_length, bytesC_length, strsC_length]; omega)) rfl ?_ | refine ch_s rfl (.append sl22 .row .nil (by simp only [List.length_append, List.length_cons, List.length_nil, List.length_take, List.length_drop, intsC_length, bytesC_length, strsC_length]; omega)) rfl ?_ | refine ch_s rfl (.append sl22 .nil .row (by simp only [List.length_append, List.length_cons, List.length_nil, List.length_take, List.length_drop, intsC_length, bytesC_length, strsC_length]; omega)) rfl ?_ | refine ch_s rfl (.append sl22 .nil .sl (by simp only [List.length_append, List.length_cons, List.length_nil, List.length_take, List.length_drop, intsC_length, bytesC_length, strsC_length]; omega)) rfl ?_ | refine ch_s rfl (.append sl22 .nil (.part (by simp only [List.length_append, List.length_cons, List.length_nil, List.length_take, List.length_drop, intsC_length, bytesC_length, strsC_length]; omega)) (by simp only [List.length_append, List.length_cons, List.length_nil, List.length_take, List.length_drop, intsC_length, bytesC_length, strsC_length]; omega)) rfl ?_ | refine ch_s rfl (.append sl22 .nil .nil (by simp only [List.length_append, List.length_cons, List.length_nil, List.length_take, List.length_drop, intsC_length, bytesC_length, strsC_length]; omega)) rfl ?_
                first | refine ch_s rfl (.fieldP fd24_2 ty22 (by decide)) rfl ?_ | refine ch_s rfl (.fieldE fd24_2 ty22 (by decide) (by simp only [List.length_append, List.length_cons, List.length_nil, List.length_take, List.length_drop, intsC_length, bytesC_length, strsC_length]; omega)) rfl ?_
                first | refine ch_s rfl (.storeB ty22 rfl (Nat.le_of_ble_eq_true rfl) rfl) rfl ?_ | refine ch_s rfl (.storeR ty22 rfl (by simp only [List.length_append, List.length_cons, List.length_nil, List.length_take, List.length_drop, intsC_length, bytesC_length, strsC_length]; omega) (by repeat' (first | exact DcsE.nil | apply DcsE.cons | exact DcE.bool | exact DcE.sl | exact DcE.int (by first | decide | exact i64_range (by omega) | exact u8_range (by omega) | assumption) | exact DcE.str (by first | decide | assumption | omega) | exact DcE.ptr | exact DcE.nilF | exact DcE.nilI))) rfl ?_
                refine ch_q ?_
                intro hU141
                repeat (first | refine thn_normal ?_ | refine thn_exit ?_ | refine thn_ret ?_ | refine inB_here ?_ | refine inB_other (by decide) ?_ | refine inB_normal ?_ | refine inB_ret ?_)
                refine ⟨(q6, ha2 ++ [(10 : Int) + ((ha2.length : Nat) : Int)]), ?_, ⟨by omega, by rw [List.length_append, List.length_singleton]; omega⟩, Sub.lists [(0, 0), (1, 1), (2, 2), (3, 3), (4, 117)] rfl rfl ⟨⟨_, rfl, .ptr rfl⟩, ⟨_, rfl, .ptr rfl⟩, ⟨_, rfl, .ptr rfl⟩, trivial⟩ ⟨.inl ⟨0, _, rfl, rfl, ⟨rfl, .cons (.sl _ _) (.cons (.val _) .nil)⟩⟩, .inl ⟨1, _, rfl, rfl, rfl, .cons (.val _) (.cons (.val _) (.cons (.val _) .nil))⟩, .inl ⟨2, _, rfl, rfl, rfl, .cons (.val _) (.cons (.row rfl) (.cons (.row rfl) .nil))⟩, .inl ⟨3, _, rfl, rfl, rfl, rfl, rfl⟩, .inl ⟨117, _, rfl, rfl, rfl, rfl, (by rw [intsC_append]; rfl)⟩, trivial⟩⟩
                show 30 - (ha2 ++ [(10 : Int) + ((ha2.length : Nat) : Int)]).length < 30 - ha2.length
                rw [List.length_append, List.length_singleton]
                omega
              · replace h7 := of_decide_eq_false h7
                refine awp_exit ?_
                repeat (first | refine thn_normal ?_ | refine thn_exit ?_ | refine thn_ret ?_ | refine inB_here ?_ | refine inB_other (by decide) ?_ | refine inB_normal ?_ | refine inB_ret ?_)
                refine awp_seq ?_
                refine awp_region (sys _ _ []) 61 77 hU61 rfl rfl ?_
                first | refine ch_s rfl (.loadBA ty24 (Nat.le_of_ble_eq_true rfl)) rfl ?_ | refine ch_s rfl (.loadEA ty24 (by simp only [List.length_append, List.length_cons, List.length_nil, List.length_take, List.length_drop, intsC_length, bytesC_length, strsC_length]; omega)) rfl ?_ | refine ch_s rfl (.loadRA ty24 (by simp only [List.length_append, List.length_cons, List.length_nil, List.length_take, List.length_drop, intsC_length, bytesC_length, strsC_length]; omega)) rfl ?_
                first | refine ch_s rfl (.storeB ty24 rfl (Nat.le_of_ble_eq_true rfl) rfl) rfl ?_ | refine ch_s rfl (.storeR ty24 rfl (by simp only [List.length_append, List.length_cons, List.length_nil, List.length_take, List.length_drop, intsC_length, bytesC_length, strsC_length]; omega) (by repeat' (first | exact DcsE.nil | apply DcsE.cons | exact DcE.bool | exact DcE.sl | exact DcE.int (by first | decide | exact i64_range (by omega) | exact u8_range (by omega) | assumption) | exact DcE.str (by first | decide | assumption | omega) | exact DcE.ptr | exact DcE.nilF | exact DcE.nilI))) rfl ?_
                refine ch_q ?_
                intro hU77
                repeat (first | refine thn_normal ?_ | refine thn_exit ?_ | refine thn_ret ?_ | refine inB_here ?_ | refine inB_other (by decide) ?_ | refine inB_normal ?_ | refine inB_ret ?_)
                refine awp_ret ?_
                repeat (first | refine thn_normal ?_ | refine thn_exit ?_ | refine thn_ret ?_ | refine inB_here ?_ | refine inB_other (by decide) ?_ | refine inB_normal ?_ | refine inB_ret ?_)
                refine ⟨[_], _, [_, _, _], [(0, 0), (1, 3), (2, 4)], .cons (.cellA rfl rfl ty24 rfl) .nil, ⟨_, su, ha2, q6, rfl, ?_, ?_, ?_, ?_, rfl⟩, .agg (.cons (.val _) (.cons (.row rfl) (.cons (.row rfl) .nil))), ⟨.inl ⟨0, _, rfl, rfl, ⟨rfl, .cons (.sl _ _) (.cons (.val _) .nil)⟩⟩, .inl ⟨3, _, rfl, rfl, rfl, rfl, rfl⟩, .inl ⟨4, _, rfl, rfl, rfl, rfl, rfl⟩, trivial⟩, rfl, rfl, rfl, rfl⟩
                · omega
                · (try simp only [List.length_append, List.length_cons, List.length_nil]); omega
                · (try simp only [List.length_append, List.length_cons, List.length_nil]); omega
                · omega
          · replace h6 := of_decide_eq_false h6
            refine awp_skip ?_
            repeat (first | refine thn_normal ?_ | refine thn_exit ?_ | refine thn_ret ?_ | refine inB_here ?_ | refine inB_other (by decide) ?_ | refine inB_normal ?_ | refine inB_ret ?_)
            refine awp_seq ?_
            refine awp_region (sys _ _ []) 185 201 hU185 rfl rfl ?_
            first | refine ch_s rfl (.loadBA ty24 (Nat.le_of_ble_eq_true rfl)) rfl ?_ | refine ch_s rfl (.loadEA ty24 (by simp only [List.length_append, List.length_cons, List.length_nil, List.length_take, List.length_drop, intsC_length, bytesC_length, strsC_length]; omega)) rfl ?_ | refine ch_s rfl (.loadRA ty24 (by simp only [List.length_append, List.length_cons, List.length_nil, List.length_take, List.length_drop, intsC_length, bytesC_length, strsC_length]; omega)) rfl ?_
            first | refine ch_s rfl (.storeB ty24 rfl (Nat.le_of_ble_eq_true rfl) rfl) rfl ?_ | refine ch_s rfl (.storeR ty24 rfl (by simp only [List.length_append, List.length_cons, List.length_nil, List.length_take, List.length_drop, intsC_length, bytesC_length, strsC_length]; omega) (by repeat' (first | exact DcsE.nil | apply DcsE.cons | exact DcE.bool | exact DcE.sl | exact DcE.int (by first | decide | exact i64_range (by omega) | exact u8_range (by omega) | assumption) | exact DcE.str (by first | decide | assumption | omega) | exact DcE.ptr | exact DcE.nilF | exact DcE.nilI))) rfl ?_
            refine ch_q ?_
            intro hU201
            repeat (first | refine thn_normal ?_ | refine thn_exit ?_ | refine thn_ret ?_ | refine inB_here ?_ | refine inB_other (by decide) ?_ | refine inB_normal ?_ | refine inB_ret ?_)
            refine awp_ret ?_
            repeat (first | refine thn_normal ?_ | refine thn_exit ?_ | refine thn_ret ?_ | refine inB_here ?_ | refine inB_other (by decide) ?_ | refine inB_normal ?_ | refine inB_ret ?_)
            refine ⟨[_], _, [_, _, _], [(0, 0), (1, 41), (2, 57)], .cons (.cellA rfl rfl ty24 rfl) .nil, ⟨_, su, ha, q2, rfl, ?_, ?_, ?_, ?_, rfl⟩, .agg (.cons (.val _) (.cons (.row rfl) (.cons (.row rfl) .nil))), ⟨.inl ⟨0, _, rfl, rfl, ⟨rfl, .cons (.sl _ _) (.cons (.val _) .nil)⟩⟩, .inl ⟨41, _, rfl, rfl, rfl, rfl, rfl⟩, .inl ⟨57, _, rfl, rfl, rfl, rfl, rfl⟩, trivial⟩, rfl, rfl, rfl, rfl⟩
            · omega
            · (try simp only [List.length_append, List.length_cons, List.length_nil]); omega
            · (try simp only [List.length_append, List.length_cons, List.length_nil]); omega
            · omega
end Go.Proofs.Ythjgcmifggdepaa
