/- HandshakeBack, by the engine. -/
import Derived.Test.YthjgcmifggdepaaX6
set_option linter.unusedVariables false
set_option linter.unusedSimpArgs false
namespace Go.Proofs.Ythjgcmifggdepaa
open Go.RowKit
theorem z5 : Zt Try.prog 5 [.int .u8 0] := ⟨(.int .u8 0), by kernel_rfl, rfl, by decide⟩
set_option maxRecDepth 100000 in
set_option maxHeartbeats 800000 in
theorem back_fn (l : List Int) (bs : List UInt8) : Fn Try.prog 7 [.sl 1 (intsC l), .sl 1 (bytesC bs)] [] (fun r b => r = .val (.bool true) ∧ b = []) := by
  refine Fn.of Try.func7 rfl rfl rfl fun hok hokb w0 I ρ0 => ?_
  show awp _ ⟨w0, I, ρ0, 0, 110⟩ _ _ _
  refine awp_seq ?_
  refine awp_region (sys _ _ []) 0 8 mk_U rfl rfl ?_
  refine ch_s rfl .assign rfl ?_
  refine ch_q ?_
  intro hU8
  repeat (first | refine thn_normal ?_ | refine thn_exit ?_ | refine thn_ret ?_ | refine inB_here ?_ | refine inB_other (by decide) ?_ | refine inB_normal ?_ | refine inB_ret ?_)
  refine awp_seq ?_
  refine awp_seq ?_
  by_cases hL : l.length ≤ 400
  · refine awp_region (sys _ _ []) 8 72 hU8 rfl rfl ?_
    refine ch_s rfl .move rfl ?_
    refine ch_call (ps := []) false (light_t _ hL) rfl (by repeat' (first | exact ArL.nil | apply ArL.cons | exact Ar.flat Ar0.val | exact Ar.flat Ar0.sl | exact Ar.ptr rfl | exact Ar.row rfl | exact Ar.part rfl (by omega) | exact Ar.flat Ar0.nils | exact Ar.elt | apply Ar.agg | exact Ar0L.nil | apply Ar0L.cons | exact Ar0.val | exact Ar0.sl | exact Ar0.nils)) rfl rfl (by intro h; cases h) rfl (by intro h; first | (cases h; done) | exact ⟨_, _, ⟨rfl, rfl⟩, by simp, by simp, by trivial, by simp⟩) ?_
    rintro _ _ ⟨rfl, rfl⟩ hokr hokx
    refine ch_s rfl (.unOp uo_not) rfl ?_
    refine ch_s rfl .move rfl ?_
    refine ch_g rfl rfl .move rfl ?_
    first | refine ch_g rfl rfl (.len sl33.elem len_ints) rfl ?_ | refine ch_g rfl rfl (.len sl33.elem len_rints) rfl ?_ | refine ch_g rfl rfl (.len sl33.elem .part) rfl ?_ | refine ch_g rfl rfl (.len sl33.elem len_bytes) rfl ?_ | refine ch_g rfl rfl (.len sl33.elem len_rbytes) rfl ?_ | refine ch_g rfl rfl (.len sl33.elem len_strs) rfl ?_ | refine ch_g rfl rfl (.len sl33.elem len_rstrs) rfl ?_ | refine ch_g rfl rfl (.len sl33.elem (.sl (by decide) (by assumption))) rfl ?_ | refine ch_g rfl rfl (.len sl33.elem (.row (by decide) (by assumption))) rfl ?_
    refine ch_g rfl rfl (.binOp bo_gtr) rfl ?_
    refine ch_s rfl .pick rfl ?_
    refine ch_q ?_
    intro hU72
    repeat (first | refine thn_normal ?_ | refine thn_exit ?_ | refine thn_ret ?_ | refine inB_here ?_ | refine inB_other (by decide) ?_ | refine inB_normal ?_ | refine inB_ret ?_)
    refine awp_cond rfl (fun h1 => ?_) (fun h1 => ?_)
    · replace h1 := of_decide_eq_true h1
      refine awp_seq ?_
      refine awp_region (sys _ _ []) 72 88 hU72 rfl rfl ?_
      refine ch_call (ps := []) false (awake_fn) rfl (by repeat' (first | exact ArL.nil | apply ArL.cons | exact Ar.flat Ar0.val | exact Ar.flat Ar0.sl | exact Ar.ptr rfl | exact Ar.row rfl | exact Ar.part rfl (by omega) | exact Ar.flat Ar0.nils | exact Ar.elt | apply Ar.agg | exact Ar0L.nil | apply Ar0L.cons | exact Ar0.val | exact Ar0.sl | exact Ar0.nils)) rfl rfl (by intro h; cases h) rfl (by intro h; first | (cases h; done) | exact ⟨_, _, ⟨rfl, rfl⟩, by simp, by simp, by trivial, by simp⟩) ?_
      rintro _ _ ⟨rfl, rfl⟩ hokr hokx
      refine ch_s rfl .assign rfl ?_
      refine ch_q ?_
      intro hU88
      repeat (first | refine thn_normal ?_ | refine thn_exit ?_ | refine thn_ret ?_ | refine inB_here ?_ | refine inB_other (by decide) ?_ | refine inB_normal ?_ | refine inB_ret ?_)
      refine awp_ret ?_
      repeat (first | refine thn_normal ?_ | refine thn_exit ?_ | refine thn_ret ?_ | refine inB_here ?_ | refine inB_other (by decide) ?_ | refine inB_normal ?_ | refine inB_ret ?_)
      exact ⟨[_], _, [], [], .cons (.tmp rfl) .nil, ⟨rfl, rfl⟩, .val _, trivial, rfl, rfl, rfl, rfl⟩
    · replace h1 := of_decide_eq_false h1
      refine awp_skip ?_
      repeat (first | refine thn_normal ?_ | refine thn_exit ?_ | refine thn_ret ?_ | refine inB_here ?_ | refine inB_other (by decide) ?_ | refine inB_normal ?_ | refine inB_ret ?_)
      refine awp_seq ?_
      refine awp_region (sys _ _ []) 72 96 hU72 rfl rfl ?_
      refine ch_s rfl .move rfl ?_
      refine ch_call (ps := []) false (roll_fn _) rfl (by repeat' (first | exact ArL.nil | apply ArL.cons | exact Ar.flat Ar0.val | exact Ar.flat Ar0.sl | exact Ar.ptr rfl | exact Ar.row rfl | exact Ar.part rfl (by omega) | exact Ar.flat Ar0.nils | exact Ar.elt | apply Ar.agg | exact Ar0L.nil | apply Ar0L.cons | exact Ar0.val | exact Ar0.sl | exact Ar0.nils)) rfl rfl (by intro h; cases h) rfl (by intro h; first | (cases h; done) | exact ⟨_, _, ⟨rfl, rfl⟩, by simp, by simp, by trivial, by simp⟩) ?_
      rintro _ _ ⟨rfl, rfl⟩ hokr hokx
      refine ch_s rfl .assign rfl ?_
      refine ch_q ?_
      intro hU96
      repeat (first | refine thn_normal ?_ | refine thn_exit ?_ | refine thn_ret ?_ | refine inB_here ?_ | refine inB_other (by decide) ?_ | refine inB_normal ?_ | refine inB_ret ?_)
      refine awp_seq ?_
      refine awp_regionL ?_
      refine AwpL.chain (sys _ _ []) 8 96 160 hU96 rfl rfl ?_
      refine ch_s rfl .move rfl ?_
      refine ch_call (ps := [80]) false (hello_fn l 0 (by omega)) rfl (by repeat' (first | exact ArL.nil | apply ArL.cons | exact Ar.flat Ar0.val | exact Ar.flat Ar0.sl | exact Ar.ptr rfl | exact Ar.row rfl | exact Ar.part rfl (by omega) | exact Ar.flat Ar0.nils | exact Ar.elt | apply Ar.agg | exact Ar0L.nil | apply Ar0L.cons | exact Ar0.val | exact Ar0.sl | exact Ar0.nils)) (.cons' (List.mem_cons_self ..) (.cons .sl (.cons .val .nil)) rfl) rfl (by intro h; cases h) rfl (by intro h; first | (cases h; done) | exact trivial) ?_
      rintro _ _ ⟨m, su, ha, q1, rfl, hm, hsl, hhl, hq1, rfl⟩ hokr hokx
      refine ch_s rfl .move rfl ?_
      refine ch_call (ps := [80]) false (choice_fn l _ (by omega)) rfl (by repeat' (first | exact ArL.nil | apply ArL.cons | exact Ar.flat Ar0.val | exact Ar.flat Ar0.sl | exact Ar.ptr rfl | exact Ar.row rfl | exact Ar.part rfl (by omega) | exact Ar.flat Ar0.nils | exact Ar.elt | apply Ar.agg | exact Ar0L.nil | apply Ar0L.cons | exact Ar0.val | exact Ar0.sl | exact Ar0.nils)) (.cons' (List.mem_cons_self ..) (.cons .sl (.cons .val .nil)) rfl) rfl (by intro h; cases h) rfl (by intro h; first | (cases h; done) | exact trivial) ?_
      rintro _ _ ⟨c, q2, rfl, hq2, rfl⟩ hokr hokx
      refine ch_s rfl (.alloc z24) rfl ?_
      refine ch_s rfl (.alloc z26) rfl ?_
      first | refine ch_s rfl (.storeB ty24 rfl (Nat.le_of_ble_eq_true rfl) rfl) rfl ?_ | refine ch_s rfl (.storeR ty24 rfl (by simp only [List.length_append, List.length_cons, List.length_nil, List.length_take, List.length_drop, intsC_length, bytesC_length, strsC_length]; omega) (by repeat' (first | exact DcsE.nil | apply DcsE.cons | exact DcE.bool | exact DcE.sl | exact DcE.int (by first | decide | exact i64_range (by omega) | exact u8_range (by omega) | assumption) | exact DcE.str (by first | decide | assumption | omega) | exact DcE.ptr | exact DcE.nilF | exact DcE.nilI))) rfl ?_
      first | refine ch_s rfl (.storeB ty26 rfl (Nat.le_of_ble_eq_true rfl) rfl) rfl ?_ | refine ch_s rfl (.storeR ty26 rfl (by simp only [List.length_append, List.length_cons, List.length_nil, List.length_take, List.length_drop, intsC_length, bytesC_length, strsC_length]; omega) (by repeat' (first | exact DcsE.nil | apply DcsE.cons | exact DcE.bool | exact DcE.sl | exact DcE.int (by first | decide | exact i64_range (by omega) | exact u8_range (by omega) | assumption) | exact DcE.str (by first | decide | assumption | omega) | exact DcE.ptr | exact DcE.nilF | exact DcE.nilI))) rfl ?_
      refine ch_l ?_
      intro hUc96_7
      refine AwpL.sub (Sub.frz (j := 104) rfl rfl) ?_
      refine AwpL.sub (Sub.frz (j := 105) rfl rfl) ?_
      refine AwpL.chain (sys _ _ []) 0 160 160 hUc96_7 rfl rfl ?_
      refine ch_l ?_
      intro hU160
      refine AwpL.fin ?_
      repeat (first | refine thn_normal ?_ | refine thn_exit ?_ | refine thn_ret ?_ | refine inB_here ?_ | refine inB_other (by decide) ?_ | refine inB_normal ?_ | refine inB_ret ?_)
      refine awp_seq ?_
      refine awp_region (sys _ _ []) 160 216 hU160 rfl rfl ?_
      have hmm : okM ⟨m, su, ha⟩ := ⟨(by show (-9223372036854775808 : Int) ≤ m; omega), (by show m ≤ (9223372036854775807 : Int); omega)⟩
      have hsH := @encH_short ⟨m, su, ha⟩
      have hsC := @encC_short c
      first | refine ch_s rfl (.loadBA ty24 (Nat.le_of_ble_eq_true rfl)) rfl ?_ | refine ch_s rfl (.loadEA ty24 (by simp only [List.length_append, List.length_cons, List.length_nil, List.length_take, List.length_drop, intsC_length, bytesC_length, strsC_length]; omega)) rfl ?_ | refine ch_s rfl (.loadRA ty24 (by simp only [List.length_append, List.length_cons, List.length_nil, List.length_take, List.length_drop, intsC_length, bytesC_length, strsC_length]; omega)) rfl ?_
      refine ch_call (ps := []) false (encH_fn ⟨m, su, ha⟩ (by assumption)) rfl (by repeat' (first | exact ArL.nil | apply ArL.cons | exact Ar.flat Ar0.val | exact Ar.flat Ar0.sl | exact Ar.ptr rfl | exact Ar.row rfl | exact Ar.part rfl (by omega) | exact Ar.flat Ar0.nils | exact Ar.elt | apply Ar.agg | exact Ar0L.nil | apply Ar0L.cons | exact Ar0.val | exact Ar0.sl | exact Ar0.nils)) rfl rfl (by intro h; cases h) rfl (by intro h; first | (cases h; done) | exact ⟨_, _, ⟨rfl, rfl⟩, by simp, by simp, by trivial, by simp⟩) ?_
      rintro _ _ ⟨rfl, rfl⟩ hokr hokx
      refine ch_s rfl .move rfl ?_
      refine ch_s rfl (.extract rfl) rfl ?_
      refine ch_s rfl (.extract rfl) rfl ?_
      refine ch_s rfl .assign rfl ?_
      refine ch_s rfl .assign rfl ?_
      refine ch_q ?_
      intro hU216
      repeat (first | refine thn_normal ?_ | refine thn_exit ?_ | refine thn_ret ?_ | refine inB_here ?_ | refine inB_other (by decide) ?_ | refine inB_normal ?_ | refine inB_ret ?_)
      refine awp_seq ?_
      refine awp_region (sys _ _ []) 216 272 hU216 rfl rfl ?_
      first | refine ch_s rfl (.loadBA ty26 (Nat.le_of_ble_eq_true rfl)) rfl ?_ | refine ch_s rfl (.loadEA ty26 (by simp only [List.length_append, List.length_cons, List.length_nil, List.length_take, List.length_drop, intsC_length, bytesC_length, strsC_length]; omega)) rfl ?_ | refine ch_s rfl (.loadRA ty26 (by simp only [List.length_append, List.length_cons, List.length_nil, List.length_take, List.length_drop, intsC_length, bytesC_length, strsC_length]; omega)) rfl ?_
      refine ch_call (ps := []) false (encC_fn c) rfl (by repeat' (first | exact ArL.nil | apply ArL.cons | exact Ar.flat Ar0.val | exact Ar.flat Ar0.sl | exact Ar.ptr rfl | exact Ar.row rfl | exact Ar.part rfl (by omega) | exact Ar.flat Ar0.nils | exact Ar.elt | apply Ar.agg | exact Ar0L.nil | apply Ar0L.cons | exact Ar0.val | exact Ar0.sl | exact Ar0.nils)) rfl rfl (by intro h; cases h) rfl (by intro h; first | (cases h; done) | exact ⟨_, _, ⟨rfl, rfl⟩, by simp, by simp, by trivial, by simp⟩) ?_
      rintro _ _ ⟨rfl, rfl⟩ hokr hokx
      refine ch_s rfl .move rfl ?_
      refine ch_s rfl (.extract rfl) rfl ?_
      refine ch_s rfl (.extract rfl) rfl ?_
      refine ch_s rfl .assign rfl ?_
      refine ch_s rfl .assign rfl ?_
      refine ch_q ?_
      intro hU272
      repeat (first | refine thn_normal ?_ | refine thn_exit ?_ | refine thn_ret ?_ | refine inB_here ?_ | refine inB_other (by decide) ?_ | refine inB_normal ?_ | refine inB_ret ?_)
      refine awp_seq ?_
      refine awp_seq ?_
      refine awp_region (sys _ _ []) 272 288 hU272 rfl rfl ?_
      refine ch_s rfl .move rfl ?_
      refine ch_s rfl (.binOp bo_eql) rfl ?_
      refine ch_q ?_
      intro hU288
      repeat (first | refine thn_normal ?_ | refine thn_exit ?_ | refine thn_ret ?_ | refine inB_here ?_ | refine inB_other (by decide) ?_ | refine inB_normal ?_ | refine inB_ret ?_)
      refine awp_cond rfl (fun h2 => ?_) (fun h2 => ?_)
      · replace h2 := of_decide_eq_true h2
        refine awp_seq ?_
        refine awp_region (sys _ _ [320]) 288 424 hU288 rfl rfl ?_
        refine ch_s rfl (.buildSl sl33 z5 (by decide) rfl (by repeat' (first | exact DcsE.nil | apply DcsE.cons | exact DcE.bool | exact DcE.sl | exact DcE.int (by first | decide | exact i64_range (by omega) | exact u8_range (by omega) | assumption) | exact DcE.str (by first | decide | assumption | omega) | exact DcE.ptr | exact DcE.nilF | exact DcE.nilI)) rfl) rfl ?_
        refine ch_s rfl .move rfl ?_
        first | refine ch_s rfl (.append sl33 .row .row (by simp only [List.length_append, List.length_cons, List.length_nil, List.length_take, List.length_drop, intsC_length, bytesC_length, strsC_length]; omega)) rfl ?_ | refine ch_s rfl (.append sl33 .row .sl (by simp only [List.length_append, List.length_cons, List.length_nil, List.length_take, List.length_drop, intsC_length, bytesC_length, strsC_length]; omega)) rfl ?_ | refine ch_s rfl (.append sl33 .row (.part (by simp only [List.length_append, List.length_cons, List.length_nil, List.length_take, List.length_drop, intsC_length, bytesC_length, strsC_length]; omega)) (by simp only [List.length_append, List.length_cons, List.length_nil, List.length_take, List.length_drop, intsC_length, bytesC_length, strsC_length]; omega)) rfl ?_ | refine ch_s rfl (.append sl33 .row .nil (by simp only [List.length_append, List.length_cons, List.length_nil, List.length_take, List.length_drop, intsC_length, bytesC_length, strsC_length]; omega)) rfl ?_ | refine ch_s rfl (.append sl33 .nil .row (by simp only [List.length_append, List.length_cons, List.length_nil, List.length_take, List.length_drop, intsC_length, bytesC_length, strsC_length]; omega)) rfl ?_ | refine ch_s rfl (.append sl33 .nil .sl (by simp only [List.length_append, List.length_cons, List.length_nil, List.length_take, List.length_drop, intsC_length, bytesC_length, strsC_length]; omega)) rfl ?_ | refine ch_s rfl (.append sl33 .nil (.part (by simp only [List.length_append, List.length_cons, List.length_nil, List.length_take, List.length_drop, intsC_length, bytesC_length, strsC_length]; omega)) (by simp only [List.length_append, List.length_cons, List.length_nil, List.length_take, List.length_drop, intsC_length, bytesC_length, strsC_length]; omega)) rfl ?_ | refine ch_s rfl (.append sl33 .nil .nil (by simp only [List.length_append, List.length_cons, List.length_nil, List.length_take, List.length_drop, intsC_length, bytesC_length, strsC_length]; omega)) rfl ?_
        refine ch_s rfl .move rfl ?_
        first | refine ch_z rfl (.append sl33 .row .row (by simp only [List.length_append, List.length_cons, List.length_nil, List.length_take, List.length_drop, intsC_length, bytesC_length, strsC_length]; omega)) rfl rfl rfl ?_ | refine ch_z rfl (.append sl33 .row .sl (by simp only [List.length_append, List.length_cons, List.length_nil, List.length_take, List.length_drop, intsC_length, bytesC_length, strsC_length]; omega)) rfl rfl rfl ?_ | refine ch_z rfl (.append sl33 .row (.part (by simp only [List.length_append, List.length_cons, List.length_nil, List.length_take, List.length_drop, intsC_length, bytesC_length, strsC_length]; omega)) (by simp only [List.length_append, List.length_cons, List.length_nil, List.length_take, List.length_drop, intsC_length, bytesC_length, strsC_length]; omega)) rfl rfl rfl ?_ | refine ch_z rfl (.append sl33 .row .nil (by simp only [List.length_append, List.length_cons, List.length_nil, List.length_take, List.length_drop, intsC_length, bytesC_length, strsC_length]; omega)) rfl rfl rfl ?_ | refine ch_z rfl (.append sl33 .nil .row (by simp only [List.length_append, List.length_cons, List.length_nil, List.length_take, List.length_drop, intsC_length, bytesC_length, strsC_length]; omega)) rfl rfl rfl ?_ | refine ch_z rfl (.append sl33 .nil .sl (by simp only [List.length_append, List.length_cons, List.length_nil, List.length_take, List.length_drop, intsC_length, bytesC_length, strsC_length]; omega)) rfl rfl rfl ?_ | refine ch_z rfl (.append sl33 .nil (.part (by simp only [List.length_append, List.length_cons, List.length_nil, List.length_take, List.length_drop, intsC_length, bytesC_length, strsC_length]; omega)) (by simp only [List.length_append, List.length_cons, List.length_nil, List.length_take, List.length_drop, intsC_length, bytesC_length, strsC_length]; omega)) rfl rfl rfl ?_ | refine ch_z rfl (.append sl33 .nil .nil (by simp only [List.length_append, List.length_cons, List.length_nil, List.length_take, List.length_drop, intsC_length, bytesC_length, strsC_length]; omega)) rfl rfl rfl ?_
        refine ch_call (ps := []) false (Fn.cast (decode_fnD (encHL ⟨m, su, ha⟩ ++ bs) _ (decH_more (by assumption) bs) (by have := @encH_short ⟨m, su, ha⟩; simp only [List.length_append]; omega)) ?_) rfl (by repeat' (first | exact ArL.nil | apply ArL.cons | exact Ar.flat Ar0.val | exact Ar.flat Ar0.sl | exact Ar.ptr rfl | exact Ar.row rfl | exact Ar.part rfl (by omega) | exact Ar.flat Ar0.nils | exact Ar.elt | apply Ar.agg | exact Ar0L.nil | apply Ar0L.cons | exact Ar0.val | exact Ar0.sl | exact Ar0.nils)) rfl rfl (by intro h; cases h) rfl (by intro h; first | (cases h; done) | exact ⟨_, _, ⟨rfl, rfl⟩, by simp, by simp, by trivial, by simp⟩) ?_
        · simp [bytesC_append]
        rintro _ _ ⟨rfl, rfl⟩ hokr hokx
        refine ch_s rfl .move rfl ?_
        refine ch_s rfl (.extract rfl) rfl ?_
        refine ch_s rfl (.extract rfl) rfl ?_
        refine ch_s rfl (.extract rfl) rfl ?_
        refine ch_s rfl (.extract rfl) rfl ?_
        refine ch_s rfl (.alloc z24) rfl ?_
        refine ch_s rfl (.alloc z26) rfl ?_
        first | refine ch_s rfl (.storeB ty24 rfl (Nat.le_of_ble_eq_true rfl) rfl) rfl ?_ | refine ch_s rfl (.storeR ty24 rfl (by simp only [List.length_append, List.length_cons, List.length_nil, List.length_take, List.length_drop, intsC_length, bytesC_length, strsC_length]; omega) (by repeat' (first | exact DcsE.nil | apply DcsE.cons | exact DcE.bool | exact DcE.sl | exact DcE.int (by first | decide | exact i64_range (by omega) | exact u8_range (by omega) | assumption) | exact DcE.str (by first | decide | assumption | omega) | exact DcE.ptr | exact DcE.nilF | exact DcE.nilI))) rfl ?_
        first | refine ch_s rfl (.storeB ty26 rfl (Nat.le_of_ble_eq_true rfl) rfl) rfl ?_ | refine ch_s rfl (.storeR ty26 rfl (by simp only [List.length_append, List.length_cons, List.length_nil, List.length_take, List.length_drop, intsC_length, bytesC_length, strsC_length]; omega) (by repeat' (first | exact DcsE.nil | apply DcsE.cons | exact DcE.bool | exact DcE.sl | exact DcE.int (by first | decide | exact i64_range (by omega) | exact u8_range (by omega) | assumption) | exact DcE.str (by first | decide | assumption | omega) | exact DcE.ptr | exact DcE.nilF | exact DcE.nilI))) rfl ?_
        refine ch_s rfl .assign rfl ?_
        refine ch_s rfl .assign rfl ?_
        refine ch_q ?_
        intro hU424
        repeat (first | refine thn_normal ?_ | refine thn_exit ?_ | refine thn_ret ?_ | refine inB_here ?_ | refine inB_other (by decide) ?_ | refine inB_normal ?_ | refine inB_ret ?_)
        refine awp_seq ?_
        refine awp_region (sys _ _ []) 424 576 hU424 rfl rfl ?_
        refine ch_s rfl .move rfl ?_
        refine ch_s rfl (.binOp (bo_neq_f (fun hh => hh rfl))) rfl ?_
        refine ch_s rfl .move rfl ?_
        refine ch_g rfl rfl .move rfl ?_
        refine ch_g rfl rfl .move rfl ?_
        first | refine ch_g rfl rfl (.len sl33.elem len_ints) rfl ?_ | refine ch_g rfl rfl (.len sl33.elem len_rints) rfl ?_ | refine ch_g rfl rfl (.len sl33.elem .part) rfl ?_ | refine ch_g rfl rfl (.len sl33.elem len_bytes) rfl ?_ | refine ch_g rfl rfl (.len sl33.elem len_rbytes) rfl ?_ | refine ch_g rfl rfl (.len sl33.elem len_strs) rfl ?_ | refine ch_g rfl rfl (.len sl33.elem len_rstrs) rfl ?_ | refine ch_g rfl rfl (.len sl33.elem (.sl (by decide) (by assumption))) rfl ?_ | refine ch_g rfl rfl (.len sl33.elem (.row (by decide) (by assumption))) rfl ?_
        refine ch_g rfl rfl (.binOp (bo_neq_f (fun hh => hh rfl))) rfl ?_
        refine ch_s rfl .pick rfl ?_
        refine ch_s rfl .move rfl ?_
        first | refine ch_g rfl rfl (.loadBA ty24 (Nat.le_of_ble_eq_true rfl)) rfl ?_ | refine ch_g rfl rfl (.loadEA ty24 (by simp only [List.length_append, List.length_cons, List.length_nil, List.length_take, List.length_drop, intsC_length, bytesC_length, strsC_length]; omega)) rfl ?_ | refine ch_g rfl rfl (.loadRA ty24 (by simp only [List.length_append, List.length_cons, List.length_nil, List.length_take, List.length_drop, intsC_length, bytesC_length, strsC_length]; omega)) rfl ?_
        first | refine ch_g rfl rfl (.loadBA ty24 (Nat.le_of_ble_eq_true rfl)) rfl ?_ | refine ch_g rfl rfl (.loadEA ty24 (by simp only [List.length_append, List.length_cons, List.length_nil, List.length_take, List.length_drop, intsC_length, bytesC_length, strsC_length]; omega)) rfl ?_ | refine ch_g rfl rfl (.loadRA ty24 (by simp only [List.length_append, List.length_cons, List.length_nil, List.length_take, List.length_drop, intsC_length, bytesC_length, strsC_length]; omega)) rfl ?_
        refine ch_callg (ps := []) false rfl (same_t ⟨m, su, ha⟩ hmm) rfl (by repeat' (first | exact ArL.nil | apply ArL.cons | exact Ar.flat Ar0.val | exact Ar.flat Ar0.sl | exact Ar.ptr rfl | exact Ar.row rfl | exact Ar.part rfl (by omega) | exact Ar.flat Ar0.nils | exact Ar.elt | apply Ar.agg | exact Ar0L.nil | apply Ar0L.cons | exact Ar0.val | exact Ar0.sl | exact Ar0.nils)) rfl rfl (by intro h; cases h) rfl (by intro h; first | (cases h; done) | exact ⟨_, _, ⟨rfl, rfl⟩, by simp, by simp, by trivial, by simp⟩) ?_
        rintro _ _ ⟨rfl, rfl⟩ hokr hokx
        refine ch_g rfl rfl (.unOp uo_not) rfl ?_
        refine ch_s rfl .pick rfl ?_
        refine ch_s rfl .move rfl ?_
        first | refine ch_g rfl rfl (.loadBA ty26 (Nat.le_of_ble_eq_true rfl)) rfl ?_ | refine ch_g rfl rfl (.loadEA ty26 (by simp only [List.length_append, List.length_cons, List.length_nil, List.length_take, List.length_drop, intsC_length, bytesC_length, strsC_length]; omega)) rfl ?_ | refine ch_g rfl rfl (.loadRA ty26 (by simp only [List.length_append, List.length_cons, List.length_nil, List.length_take, List.length_drop, intsC_length, bytesC_length, strsC_length]; omega)) rfl ?_
        refine ch_g rfl rfl (.build und26 pl26 z26 rfl rfl) rfl ?_
        refine ch_g rfl rfl (.binOpA rfl rfl ch_neq_f) rfl ?_
        refine ch_s rfl .pick rfl ?_
        refine ch_q ?_
        intro hU576
        repeat (first | refine thn_normal ?_ | refine thn_exit ?_ | refine thn_ret ?_ | refine inB_here ?_ | refine inB_other (by decide) ?_ | refine inB_normal ?_ | refine inB_ret ?_)
        refine awp_cond rfl (fun h3 => ?_) (fun h3 => ?_)
        · cases h3
        · refine awp_skip ?_
          repeat (first | refine thn_normal ?_ | refine thn_exit ?_ | refine thn_ret ?_ | refine inB_here ?_ | refine inB_other (by decide) ?_ | refine inB_normal ?_ | refine inB_ret ?_)
          refine awp_seq ?_
          refine awp_seq ?_
          refine awp_region (sys _ _ []) 576 592 hU576 rfl rfl ?_
          refine ch_s rfl .move rfl ?_
          refine ch_s rfl (.binOp bo_eql) rfl ?_
          refine ch_q ?_
          intro hU592
          repeat (first | refine thn_normal ?_ | refine thn_exit ?_ | refine thn_ret ?_ | refine inB_here ?_ | refine inB_other (by decide) ?_ | refine inB_normal ?_ | refine inB_ret ?_)
          refine awp_cond rfl (fun h4 => ?_) (fun h4 => ?_)
          · replace h4 := of_decide_eq_true h4
            refine awp_seq ?_
            refine awp_region (sys _ _ [624]) 592 728 hU592 rfl rfl ?_
            refine ch_s rfl (.buildSl sl33 z5 (by decide) rfl (by repeat' (first | exact DcsE.nil | apply DcsE.cons | exact DcE.bool | exact DcE.sl | exact DcE.int (by first | decide | exact i64_range (by omega) | exact u8_range (by omega) | assumption) | exact DcE.str (by first | decide | assumption | omega) | exact DcE.ptr | exact DcE.nilF | exact DcE.nilI)) rfl) rfl ?_
            refine ch_s rfl .move rfl ?_
            first | refine ch_s rfl (.append sl33 .row .row (by simp only [List.length_append, List.length_cons, List.length_nil, List.length_take, List.length_drop, intsC_length, bytesC_length, strsC_length]; omega)) rfl ?_ | refine ch_s rfl (.append sl33 .row .sl (by simp only [List.length_append, List.length_cons, List.length_nil, List.length_take, List.length_drop, intsC_length, bytesC_length, strsC_length]; omega)) rfl ?_ | refine ch_s rfl (.append sl33 .row (.part (by simp only [List.length_append, List.length_cons, List.length_nil, List.length_take, List.length_drop, intsC_length, bytesC_length, strsC_length]; omega)) (by simp only [List.length_append, List.length_cons, List.length_nil, List.length_take, List.length_drop, intsC_length, bytesC_length, strsC_length]; omega)) rfl ?_ | refine ch_s rfl (.append sl33 .row .nil (by simp only [List.length_append, List.length_cons, List.length_nil, List.length_take, List.length_drop, intsC_length, bytesC_length, strsC_length]; omega)) rfl ?_ | refine ch_s rfl (.append sl33 .nil .row (by simp only [List.length_append, List.length_cons, List.length_nil, List.length_take, List.length_drop, intsC_length, bytesC_length, strsC_length]; omega)) rfl ?_ | refine ch_s rfl (.append sl33 .nil .sl (by simp only [List.length_append, List.length_cons, List.length_nil, List.length_take, List.length_drop, intsC_length, bytesC_length, strsC_length]; omega)) rfl ?_ | refine ch_s rfl (.append sl33 .nil (.part (by simp only [List.length_append, List.length_cons, List.length_nil, List.length_take, List.length_drop, intsC_length, bytesC_length, strsC_length]; omega)) (by simp only [List.length_append, List.length_cons, List.length_nil, List.length_take, List.length_drop, intsC_length, bytesC_length, strsC_length]; omega)) rfl ?_ | refine ch_s rfl (.append sl33 .nil .nil (by simp only [List.length_append, List.length_cons, List.length_nil, List.length_take, List.length_drop, intsC_length, bytesC_length, strsC_length]; omega)) rfl ?_
            refine ch_s rfl .move rfl ?_
            first | refine ch_z rfl (.append sl33 .row .row (by simp only [List.length_append, List.length_cons, List.length_nil, List.length_take, List.length_drop, intsC_length, bytesC_length, strsC_length]; omega)) rfl rfl rfl ?_ | refine ch_z rfl (.append sl33 .row .sl (by simp only [List.length_append, List.length_cons, List.length_nil, List.length_take, List.length_drop, intsC_length, bytesC_length, strsC_length]; omega)) rfl rfl rfl ?_ | refine ch_z rfl (.append sl33 .row (.part (by simp only [List.length_append, List.length_cons, List.length_nil, List.length_take, List.length_drop, intsC_length, bytesC_length, strsC_length]; omega)) (by simp only [List.length_append, List.length_cons, List.length_nil, List.length_take, List.length_drop, intsC_length, bytesC_length, strsC_length]; omega)) rfl rfl rfl ?_ | refine ch_z rfl (.append sl33 .row .nil (by simp only [List.length_append, List.length_cons, List.length_nil, List.length_take, List.length_drop, intsC_length, bytesC_length, strsC_length]; omega)) rfl rfl rfl ?_ | refine ch_z rfl (.append sl33 .nil .row (by simp only [List.length_append, List.length_cons, List.length_nil, List.length_take, List.length_drop, intsC_length, bytesC_length, strsC_length]; omega)) rfl rfl rfl ?_ | refine ch_z rfl (.append sl33 .nil .sl (by simp only [List.length_append, List.length_cons, List.length_nil, List.length_take, List.length_drop, intsC_length, bytesC_length, strsC_length]; omega)) rfl rfl rfl ?_ | refine ch_z rfl (.append sl33 .nil (.part (by simp only [List.length_append, List.length_cons, List.length_nil, List.length_take, List.length_drop, intsC_length, bytesC_length, strsC_length]; omega)) (by simp only [List.length_append, List.length_cons, List.length_nil, List.length_take, List.length_drop, intsC_length, bytesC_length, strsC_length]; omega)) rfl rfl rfl ?_ | refine ch_z rfl (.append sl33 .nil .nil (by simp only [List.length_append, List.length_cons, List.length_nil, List.length_take, List.length_drop, intsC_length, bytesC_length, strsC_length]; omega)) rfl rfl rfl ?_
            refine ch_call (ps := []) false (Fn.cast (decode_fnD (encCL c ++ bs) _ (decC_more (by assumption) bs) (by have := @encC_short c; simp only [List.length_append]; omega)) ?_) rfl (by repeat' (first | exact ArL.nil | apply ArL.cons | exact Ar.flat Ar0.val | exact Ar.flat Ar0.sl | exact Ar.ptr rfl | exact Ar.row rfl | exact Ar.part rfl (by omega) | exact Ar.flat Ar0.nils | exact Ar.elt | apply Ar.agg | exact Ar0L.nil | apply Ar0L.cons | exact Ar0.val | exact Ar0.sl | exact Ar0.nils)) rfl rfl (by intro h; cases h) rfl (by intro h; first | (cases h; done) | exact ⟨_, _, ⟨rfl, rfl⟩, by simp, by simp, by trivial, by simp⟩) ?_
            · simp [bytesC_append]
            rintro _ _ ⟨rfl, rfl⟩ hokr hokx
            refine ch_s rfl .move rfl ?_
            refine ch_s rfl (.extract rfl) rfl ?_
            refine ch_s rfl (.extract rfl) rfl ?_
            refine ch_s rfl (.extract rfl) rfl ?_
            refine ch_s rfl (.extract rfl) rfl ?_
            refine ch_s rfl (.alloc z24) rfl ?_
            refine ch_s rfl (.alloc z26) rfl ?_
            first | refine ch_s rfl (.storeB ty24 rfl (Nat.le_of_ble_eq_true rfl) rfl) rfl ?_ | refine ch_s rfl (.storeR ty24 rfl (by simp only [List.length_append, List.length_cons, List.length_nil, List.length_take, List.length_drop, intsC_length, bytesC_length, strsC_length]; omega) (by repeat' (first | exact DcsE.nil | apply DcsE.cons | exact DcE.bool | exact DcE.sl | exact DcE.int (by first | decide | exact i64_range (by omega) | exact u8_range (by omega) | assumption) | exact DcE.str (by first | decide | assumption | omega) | exact DcE.ptr | exact DcE.nilF | exact DcE.nilI))) rfl ?_
            first | refine ch_s rfl (.storeB ty26 rfl (Nat.le_of_ble_eq_true rfl) rfl) rfl ?_ | refine ch_s rfl (.storeR ty26 rfl (by simp only [List.length_append, List.length_cons, List.length_nil, List.length_take, List.length_drop, intsC_length, bytesC_length, strsC_length]; omega) (by repeat' (first | exact DcsE.nil | apply DcsE.cons | exact DcE.bool | exact DcE.sl | exact DcE.int (by first | decide | exact i64_range (by omega) | exact u8_range (by omega) | assumption) | exact DcE.str (by first | decide | assumption | omega) | exact DcE.ptr | exact DcE.nilF | exact DcE.nilI))) rfl ?_
            refine ch_s rfl .assign rfl ?_
            refine ch_s rfl .assign rfl ?_
            refine ch_q ?_
            intro hU728
            repeat (first | refine thn_normal ?_ | refine thn_exit ?_ | refine thn_ret ?_ | refine inB_here ?_ | refine inB_other (by decide) ?_ | refine inB_normal ?_ | refine inB_ret ?_)
            refine awp_seq ?_
            refine awp_region (sys _ _ []) 728 880 hU728 rfl rfl ?_
            refine ch_s rfl .move rfl ?_
            refine ch_s rfl (.binOp (bo_neq_f (fun hh => hh rfl))) rfl ?_
            refine ch_s rfl .move rfl ?_
            refine ch_g rfl rfl .move rfl ?_
            refine ch_g rfl rfl .move rfl ?_
            first | refine ch_g rfl rfl (.len sl33.elem len_ints) rfl ?_ | refine ch_g rfl rfl (.len sl33.elem len_rints) rfl ?_ | refine ch_g rfl rfl (.len sl33.elem .part) rfl ?_ | refine ch_g rfl rfl (.len sl33.elem len_bytes) rfl ?_ | refine ch_g rfl rfl (.len sl33.elem len_rbytes) rfl ?_ | refine ch_g rfl rfl (.len sl33.elem len_strs) rfl ?_ | refine ch_g rfl rfl (.len sl33.elem len_rstrs) rfl ?_ | refine ch_g rfl rfl (.len sl33.elem (.sl (by decide) (by assumption))) rfl ?_ | refine ch_g rfl rfl (.len sl33.elem (.row (by decide) (by assumption))) rfl ?_
            refine ch_g rfl rfl (.binOp (bo_neq_f (fun hh => hh rfl))) rfl ?_
            refine ch_s rfl .pick rfl ?_
            refine ch_s rfl .move rfl ?_
            first | refine ch_g rfl rfl (.loadBA ty26 (Nat.le_of_ble_eq_true rfl)) rfl ?_ | refine ch_g rfl rfl (.loadEA ty26 (by simp only [List.length_append, List.length_cons, List.length_nil, List.length_take, List.length_drop, intsC_length, bytesC_length, strsC_length]; omega)) rfl ?_ | refine ch_g rfl rfl (.loadRA ty26 (by simp only [List.length_append, List.length_cons, List.length_nil, List.length_take, List.length_drop, intsC_length, bytesC_length, strsC_length]; omega)) rfl ?_
            first | refine ch_g rfl rfl (.loadBA ty26 (Nat.le_of_ble_eq_true rfl)) rfl ?_ | refine ch_g rfl rfl (.loadEA ty26 (by simp only [List.length_append, List.length_cons, List.length_nil, List.length_take, List.length_drop, intsC_length, bytesC_length, strsC_length]; omega)) rfl ?_ | refine ch_g rfl rfl (.loadRA ty26 (by simp only [List.length_append, List.length_cons, List.length_nil, List.length_take, List.length_drop, intsC_length, bytesC_length, strsC_length]; omega)) rfl ?_
            refine ch_g rfl rfl (.binOpA rfl rfl ch_neq_f) rfl ?_
            refine ch_s rfl .pick rfl ?_
            refine ch_s rfl .move rfl ?_
            first | refine ch_g rfl rfl (.fieldP fd24_1 ty22 (by decide)) rfl ?_ | refine ch_g rfl rfl (.fieldE fd24_1 ty22 (by decide) (by simp only [List.length_append, List.length_cons, List.length_nil, List.length_take, List.length_drop, intsC_length, bytesC_length, strsC_length]; omega)) rfl ?_
            first | refine ch_g rfl rfl (.loadB1 ty22 rfl) rfl ?_ | refine ch_g rfl rfl (.loadE1 ty22 (by first | rfl | assumption | exact ints_elt (by assumption) | exact ints_row' (by assumption) | exact bytes_elt (by assumption) | exact bytes_row' (by assumption) | exact strs_elt (by assumption))) rfl ?_ | refine ch_g rfl rfl (.loadR1 ty22 (by first | rfl | assumption | exact ints_elt (by assumption) | exact ints_row' (by assumption) | exact bytes_elt (by assumption) | exact bytes_row' (by assumption) | exact strs_elt (by assumption))) rfl ?_
            first | refine ch_g rfl rfl (.len sl22.elem len_ints) rfl ?_ | refine ch_g rfl rfl (.len sl22.elem len_rints) rfl ?_ | refine ch_g rfl rfl (.len sl22.elem .part) rfl ?_ | refine ch_g rfl rfl (.len sl22.elem len_bytes) rfl ?_ | refine ch_g rfl rfl (.len sl22.elem len_rbytes) rfl ?_ | refine ch_g rfl rfl (.len sl22.elem len_strs) rfl ?_ | refine ch_g rfl rfl (.len sl22.elem len_rstrs) rfl ?_ | refine ch_g rfl rfl (.len sl22.elem (.sl (by decide) (by assumption))) rfl ?_ | refine ch_g rfl rfl (.len sl22.elem (.row (by decide) (by assumption))) rfl ?_
            refine ch_g rfl rfl (.binOp (bo_gtr_f (by simp [zH]))) rfl ?_
            refine ch_s rfl .pick rfl ?_
            refine ch_q ?_
            intro hU880
            repeat (first | refine thn_normal ?_ | refine thn_exit ?_ | refine thn_ret ?_ | refine inB_here ?_ | refine inB_other (by decide) ?_ | refine inB_normal ?_ | refine inB_ret ?_)
            refine awp_cond rfl (fun h5 => ?_) (fun h5 => ?_)
            · cases h5
            · refine awp_skip ?_
              repeat (first | refine thn_normal ?_ | refine thn_exit ?_ | refine thn_ret ?_ | refine inB_here ?_ | refine inB_other (by decide) ?_ | refine inB_normal ?_ | refine inB_ret ?_)
              refine awp_seq ?_
              refine awp_region (sys _ _ []) 880 896 hU880 rfl rfl ?_
              refine ch_call (ps := []) false (awake_fn) rfl (by repeat' (first | exact ArL.nil | apply ArL.cons | exact Ar.flat Ar0.val | exact Ar.flat Ar0.sl | exact Ar.ptr rfl | exact Ar.row rfl | exact Ar.part rfl (by omega) | exact Ar.flat Ar0.nils | exact Ar.elt | apply Ar.agg | exact Ar0L.nil | apply Ar0L.cons | exact Ar0.val | exact Ar0.sl | exact Ar0.nils)) rfl rfl (by intro h; cases h) rfl (by intro h; first | (cases h; done) | exact ⟨_, _, ⟨rfl, rfl⟩, by simp, by simp, by trivial, by simp⟩) ?_
              rintro _ _ ⟨rfl, rfl⟩ hokr hokx
              refine ch_s rfl .assign rfl ?_
              refine ch_q ?_
              intro hU896
              repeat (first | refine thn_normal ?_ | refine thn_exit ?_ | refine thn_ret ?_ | refine inB_here ?_ | refine inB_other (by decide) ?_ | refine inB_normal ?_ | refine inB_ret ?_)
              refine awp_ret ?_
              repeat (first | refine thn_normal ?_ | refine thn_exit ?_ | refine thn_ret ?_ | refine inB_here ?_ | refine inB_other (by decide) ?_ | refine inB_normal ?_ | refine inB_ret ?_)
              exact ⟨[_], _, [], [], .cons (.tmp rfl) .nil, ⟨rfl, rfl⟩, .val _, trivial, rfl, rfl, rfl, rfl⟩
          · replace h4 := of_decide_eq_false h4
            refine awp_skip ?_
            repeat (first | refine thn_normal ?_ | refine thn_exit ?_ | refine thn_ret ?_ | refine inB_here ?_ | refine inB_other (by decide) ?_ | refine inB_normal ?_ | refine inB_ret ?_)
            refine awp_seq ?_
            refine awp_region (sys _ _ []) 592 608 hU592 rfl rfl ?_
            refine ch_call (ps := []) false (awake_fn) rfl (by repeat' (first | exact ArL.nil | apply ArL.cons | exact Ar.flat Ar0.val | exact Ar.flat Ar0.sl | exact Ar.ptr rfl | exact Ar.row rfl | exact Ar.part rfl (by omega) | exact Ar.flat Ar0.nils | exact Ar.elt | apply Ar.agg | exact Ar0L.nil | apply Ar0L.cons | exact Ar0.val | exact Ar0.sl | exact Ar0.nils)) rfl rfl (by intro h; cases h) rfl (by intro h; first | (cases h; done) | exact ⟨_, _, ⟨rfl, rfl⟩, by simp, by simp, by trivial, by simp⟩) ?_
            rintro _ _ ⟨rfl, rfl⟩ hokr hokx
            refine ch_s rfl .assign rfl ?_
            refine ch_q ?_
            intro hU608
            repeat (first | refine thn_normal ?_ | refine thn_exit ?_ | refine thn_ret ?_ | refine inB_here ?_ | refine inB_other (by decide) ?_ | refine inB_normal ?_ | refine inB_ret ?_)
            refine awp_ret ?_
            repeat (first | refine thn_normal ?_ | refine thn_exit ?_ | refine thn_ret ?_ | refine inB_here ?_ | refine inB_other (by decide) ?_ | refine inB_normal ?_ | refine inB_ret ?_)
            exact ⟨[_], _, [], [], .cons (.tmp rfl) .nil, ⟨rfl, rfl⟩, .val _, trivial, rfl, rfl, rfl, rfl⟩
      · replace h2 := of_decide_eq_false h2
        refine awp_skip ?_
        repeat (first | refine thn_normal ?_ | refine thn_exit ?_ | refine thn_ret ?_ | refine inB_here ?_ | refine inB_other (by decide) ?_ | refine inB_normal ?_ | refine inB_ret ?_)
        refine awp_seq ?_
        refine awp_seq ?_
        refine awp_region (sys _ _ []) 288 304 hU288 rfl rfl ?_
        refine ch_s rfl .move rfl ?_
        refine ch_s rfl (.binOp bo_eql) rfl ?_
        refine ch_q ?_
        intro hU304
        repeat (first | refine thn_normal ?_ | refine thn_exit ?_ | refine thn_ret ?_ | refine inB_here ?_ | refine inB_other (by decide) ?_ | refine inB_normal ?_ | refine inB_ret ?_)
        refine awp_cond rfl (fun h6 => ?_) (fun h6 => ?_)
        · replace h6 := of_decide_eq_true h6
          refine awp_seq ?_
          refine awp_region (sys _ _ [336]) 304 440 hU304 rfl rfl ?_
          refine ch_s rfl (.buildSl sl33 z5 (by decide) rfl (by repeat' (first | exact DcsE.nil | apply DcsE.cons | exact DcE.bool | exact DcE.sl | exact DcE.int (by first | decide | exact i64_range (by omega) | exact u8_range (by omega) | assumption) | exact DcE.str (by first | decide | assumption | omega) | exact DcE.ptr | exact DcE.nilF | exact DcE.nilI)) rfl) rfl ?_
          refine ch_s rfl .move rfl ?_
          first | refine ch_s rfl (.append sl33 .row .row (by simp only [List.length_append, List.length_cons, List.length_nil, List.length_take, List.length_drop, intsC_length, bytesC_length, strsC_length]; omega)) rfl ?_ | refine ch_s rfl (.append sl33 .row .sl (by simp only [List.length_append, List.length_cons, List.length_nil, List.length_take, List.length_drop, intsC_length, bytesC_length, strsC_length]; omega)) rfl ?_ | refine ch_s rfl (.append sl33 .row (.part (by simp only [List.length_append, List.length_cons, List.length_nil, List.length_take, List.length_drop, intsC_length, bytesC_length, strsC_length]; omega)) (by simp only [List.length_append, List.length_cons, List.length_nil, List.length_take, List.length_drop, intsC_length, bytesC_length, strsC_length]; omega)) rfl ?_ | refine ch_s rfl (.append sl33 .row .nil (by simp only [List.length_append, List.length_cons, List.length_nil, List.length_take, List.length_drop, intsC_length, bytesC_length, strsC_length]; omega)) rfl ?_ | refine ch_s rfl (.append sl33 .nil .row (by simp only [List.length_append, List.length_cons, List.length_nil, List.length_take, List.length_drop, intsC_length, bytesC_length, strsC_length]; omega)) rfl ?_ | refine ch_s rfl (.append sl33 .nil .sl (by simp only [List.length_append, List.length_cons, List.length_nil, List.length_take, List.length_drop, intsC_length, bytesC_length, strsC_length]; omega)) rfl ?_ | refine ch_s rfl (.append sl33 .nil (.part (by simp only [List.length_append, List.length_cons, List.length_nil, List.length_take, List.length_drop, intsC_length, bytesC_length, strsC_length]; omega)) (by simp only [List.length_append, List.length_cons, List.length_nil, List.length_take, List.length_drop, intsC_length, bytesC_length, strsC_length]; omega)) rfl ?_ | refine ch_s rfl (.append sl33 .nil .nil (by simp only [List.length_append, List.length_cons, List.length_nil, List.length_take, List.length_drop, intsC_length, bytesC_length, strsC_length]; omega)) rfl ?_
          refine ch_s rfl .move rfl ?_
          first | refine ch_z rfl (.append sl33 .row .row (by simp only [List.length_append, List.length_cons, List.length_nil, List.length_take, List.length_drop, intsC_length, bytesC_length, strsC_length]; omega)) rfl rfl rfl ?_ | refine ch_z rfl (.append sl33 .row .sl (by simp only [List.length_append, List.length_cons, List.length_nil, List.length_take, List.length_drop, intsC_length, bytesC_length, strsC_length]; omega)) rfl rfl rfl ?_ | refine ch_z rfl (.append sl33 .row (.part (by simp only [List.length_append, List.length_cons, List.length_nil, List.length_take, List.length_drop, intsC_length, bytesC_length, strsC_length]; omega)) (by simp only [List.length_append, List.length_cons, List.length_nil, List.length_take, List.length_drop, intsC_length, bytesC_length, strsC_length]; omega)) rfl rfl rfl ?_ | refine ch_z rfl (.append sl33 .row .nil (by simp only [List.length_append, List.length_cons, List.length_nil, List.length_take, List.length_drop, intsC_length, bytesC_length, strsC_length]; omega)) rfl rfl rfl ?_ | refine ch_z rfl (.append sl33 .nil .row (by simp only [List.length_append, List.length_cons, List.length_nil, List.length_take, List.length_drop, intsC_length, bytesC_length, strsC_length]; omega)) rfl rfl rfl ?_ | refine ch_z rfl (.append sl33 .nil .sl (by simp only [List.length_append, List.length_cons, List.length_nil, List.length_take, List.length_drop, intsC_length, bytesC_length, strsC_length]; omega)) rfl rfl rfl ?_ | refine ch_z rfl (.append sl33 .nil (.part (by simp only [List.length_append, List.length_cons, List.length_nil, List.length_take, List.length_drop, intsC_length, bytesC_length, strsC_length]; omega)) (by simp only [List.length_append, List.length_cons, List.length_nil, List.length_take, List.length_drop, intsC_length, bytesC_length, strsC_length]; omega)) rfl rfl rfl ?_ | refine ch_z rfl (.append sl33 .nil .nil (by simp only [List.length_append, List.length_cons, List.length_nil, List.length_take, List.length_drop, intsC_length, bytesC_length, strsC_length]; omega)) rfl rfl rfl ?_
          refine ch_call (ps := []) false (Fn.cast (decode_fnD (encCL c ++ bs) _ (decC_more (by assumption) bs) (by have := @encC_short c; simp only [List.length_append]; omega)) ?_) rfl (by repeat' (first | exact ArL.nil | apply ArL.cons | exact Ar.flat Ar0.val | exact Ar.flat Ar0.sl | exact Ar.ptr rfl | exact Ar.row rfl | exact Ar.part rfl (by omega) | exact Ar.flat Ar0.nils | exact Ar.elt | apply Ar.agg | exact Ar0L.nil | apply Ar0L.cons | exact Ar0.val | exact Ar0.sl | exact Ar0.nils)) rfl rfl (by intro h; cases h) rfl (by intro h; first | (cases h; done) | exact ⟨_, _, ⟨rfl, rfl⟩, by simp, by simp, by trivial, by simp⟩) ?_
          · simp [bytesC_append]
          rintro _ _ ⟨rfl, rfl⟩ hokr hokx
          refine ch_s rfl .move rfl ?_
          refine ch_s rfl (.extract rfl) rfl ?_
          refine ch_s rfl (.extract rfl) rfl ?_
          refine ch_s rfl (.extract rfl) rfl ?_
          refine ch_s rfl (.extract rfl) rfl ?_
          refine ch_s rfl (.alloc z24) rfl ?_
          refine ch_s rfl (.alloc z26) rfl ?_
          first | refine ch_s rfl (.storeB ty24 rfl (Nat.le_of_ble_eq_true rfl) rfl) rfl ?_ | refine ch_s rfl (.storeR ty24 rfl (by simp only [List.length_append, List.length_cons, List.length_nil, List.length_take, List.length_drop, intsC_length, bytesC_length, strsC_length]; omega) (by repeat' (first | exact DcsE.nil | apply DcsE.cons | exact DcE.bool | exact DcE.sl | exact DcE.int (by first | decide | exact i64_range (by omega) | exact u8_range (by omega) | assumption) | exact DcE.str (by first | decide | assumption | omega) | exact DcE.ptr | exact DcE.nilF | exact DcE.nilI))) rfl ?_
          first | refine ch_s rfl (.storeB ty26 rfl (Nat.le_of_ble_eq_true rfl) rfl) rfl ?_ | refine ch_s rfl (.storeR ty26 rfl (by simp only [List.length_append, List.length_cons, List.length_nil, List.length_take, List.length_drop, intsC_length, bytesC_length, strsC_length]; omega) (by repeat' (first | exact DcsE.nil | apply DcsE.cons | exact DcE.bool | exact DcE.sl | exact DcE.int (by first | decide | exact i64_range (by omega) | exact u8_range (by omega) | assumption) | exact DcE.str (by first | decide | assumption | omega) | exact DcE.ptr | exact DcE.nilF | exact DcE.nilI))) rfl ?_
          refine ch_s rfl .assign rfl ?_
          refine ch_s rfl .assign rfl ?_
          refine ch_q ?_
          intro hU440
          repeat (first | refine thn_normal ?_ | refine thn_exit ?_ | refine thn_ret ?_ | refine inB_here ?_ | refine inB_other (by decide) ?_ | refine inB_normal ?_ | refine inB_ret ?_)
          refine awp_seq ?_
          refine awp_region (sys _ _ []) 440 592 hU440 rfl rfl ?_
          refine ch_s rfl .move rfl ?_
          refine ch_s rfl (.binOp (bo_neq_f (fun hh => hh rfl))) rfl ?_
          refine ch_s rfl .move rfl ?_
          refine ch_g rfl rfl .move rfl ?_
          refine ch_g rfl rfl .move rfl ?_
          first | refine ch_g rfl rfl (.len sl33.elem len_ints) rfl ?_ | refine ch_g rfl rfl (.len sl33.elem len_rints) rfl ?_ | refine ch_g rfl rfl (.len sl33.elem .part) rfl ?_ | refine ch_g rfl rfl (.len sl33.elem len_bytes) rfl ?_ | refine ch_g rfl rfl (.len sl33.elem len_rbytes) rfl ?_ | refine ch_g rfl rfl (.len sl33.elem len_strs) rfl ?_ | refine ch_g rfl rfl (.len sl33.elem len_rstrs) rfl ?_ | refine ch_g rfl rfl (.len sl33.elem (.sl (by decide) (by assumption))) rfl ?_ | refine ch_g rfl rfl (.len sl33.elem (.row (by decide) (by assumption))) rfl ?_
          refine ch_g rfl rfl (.binOp (bo_neq_f (fun hh => hh rfl))) rfl ?_
          refine ch_s rfl .pick rfl ?_
          refine ch_s rfl .move rfl ?_
          first | refine ch_g rfl rfl (.loadBA ty26 (Nat.le_of_ble_eq_true rfl)) rfl ?_ | refine ch_g rfl rfl (.loadEA ty26 (by simp only [List.length_append, List.length_cons, List.length_nil, List.length_take, List.length_drop, intsC_length, bytesC_length, strsC_length]; omega)) rfl ?_ | refine ch_g rfl rfl (.loadRA ty26 (by simp only [List.length_append, List.length_cons, List.length_nil, List.length_take, List.length_drop, intsC_length, bytesC_length, strsC_length]; omega)) rfl ?_
          first | refine ch_g rfl rfl (.loadBA ty26 (Nat.le_of_ble_eq_true rfl)) rfl ?_ | refine ch_g rfl rfl (.loadEA ty26 (by simp only [List.length_append, List.length_cons, List.length_nil, List.length_take, List.length_drop, intsC_length, bytesC_length, strsC_length]; omega)) rfl ?_ | refine ch_g rfl rfl (.loadRA ty26 (by simp only [List.length_append, List.length_cons, List.length_nil, List.length_take, List.length_drop, intsC_length, bytesC_length, strsC_length]; omega)) rfl ?_
          refine ch_g rfl rfl (.binOpA rfl rfl ch_neq_f) rfl ?_
          refine ch_s rfl .pick rfl ?_
          refine ch_s rfl .move rfl ?_
          first | refine ch_g rfl rfl (.fieldP fd24_1 ty22 (by decide)) rfl ?_ | refine ch_g rfl rfl (.fieldE fd24_1 ty22 (by decide) (by simp only [List.length_append, List.length_cons, List.length_nil, List.length_take, List.length_drop, intsC_length, bytesC_length, strsC_length]; omega)) rfl ?_
          first | refine ch_g rfl rfl (.loadB1 ty22 rfl) rfl ?_ | refine ch_g rfl rfl (.loadE1 ty22 (by first | rfl | assumption | exact ints_elt (by assumption) | exact ints_row' (by assumption) | exact bytes_elt (by assumption) | exact bytes_row' (by assumption) | exact strs_elt (by assumption))) rfl ?_ | refine ch_g rfl rfl (.loadR1 ty22 (by first | rfl | assumption | exact ints_elt (by assumption) | exact ints_row' (by assumption) | exact bytes_elt (by assumption) | exact bytes_row' (by assumption) | exact strs_elt (by assumption))) rfl ?_
          first | refine ch_g rfl rfl (.len sl22.elem len_ints) rfl ?_ | refine ch_g rfl rfl (.len sl22.elem len_rints) rfl ?_ | refine ch_g rfl rfl (.len sl22.elem .part) rfl ?_ | refine ch_g rfl rfl (.len sl22.elem len_bytes) rfl ?_ | refine ch_g rfl rfl (.len sl22.elem len_rbytes) rfl ?_ | refine ch_g rfl rfl (.len sl22.elem len_strs) rfl ?_ | refine ch_g rfl rfl (.len sl22.elem len_rstrs) rfl ?_ | refine ch_g rfl rfl (.len sl22.elem (.sl (by decide) (by assumption))) rfl ?_ | refine ch_g rfl rfl (.len sl22.elem (.row (by decide) (by assumption))) rfl ?_
          refine ch_g rfl rfl (.binOp (bo_gtr_f (by simp [zH]))) rfl ?_
          refine ch_s rfl .pick rfl ?_
          refine ch_q ?_
          intro hU592
          repeat (first | refine thn_normal ?_ | refine thn_exit ?_ | refine thn_ret ?_ | refine inB_here ?_ | refine inB_other (by decide) ?_ | refine inB_normal ?_ | refine inB_ret ?_)
          refine awp_cond rfl (fun h7 => ?_) (fun h7 => ?_)
          · cases h7
          · refine awp_skip ?_
            repeat (first | refine thn_normal ?_ | refine thn_exit ?_ | refine thn_ret ?_ | refine inB_here ?_ | refine inB_other (by decide) ?_ | refine inB_normal ?_ | refine inB_ret ?_)
            refine awp_seq ?_
            refine awp_region (sys _ _ []) 592 608 hU592 rfl rfl ?_
            refine ch_call (ps := []) false (awake_fn) rfl (by repeat' (first | exact ArL.nil | apply ArL.cons | exact Ar.flat Ar0.val | exact Ar.flat Ar0.sl | exact Ar.ptr rfl | exact Ar.row rfl | exact Ar.part rfl (by omega) | exact Ar.flat Ar0.nils | exact Ar.elt | apply Ar.agg | exact Ar0L.nil | apply Ar0L.cons | exact Ar0.val | exact Ar0.sl | exact Ar0.nils)) rfl rfl (by intro h; cases h) rfl (by intro h; first | (cases h; done) | exact ⟨_, _, ⟨rfl, rfl⟩, by simp, by simp, by trivial, by simp⟩) ?_
            rintro _ _ ⟨rfl, rfl⟩ hokr hokx
            refine ch_s rfl .assign rfl ?_
            refine ch_q ?_
            intro hU608
            repeat (first | refine thn_normal ?_ | refine thn_exit ?_ | refine thn_ret ?_ | refine inB_here ?_ | refine inB_other (by decide) ?_ | refine inB_normal ?_ | refine inB_ret ?_)
            refine awp_ret ?_
            repeat (first | refine thn_normal ?_ | refine thn_exit ?_ | refine thn_ret ?_ | refine inB_here ?_ | refine inB_other (by decide) ?_ | refine inB_normal ?_ | refine inB_ret ?_)
            exact ⟨[_], _, [], [], .cons (.tmp rfl) .nil, ⟨rfl, rfl⟩, .val _, trivial, rfl, rfl, rfl, rfl⟩
        · replace h6 := of_decide_eq_false h6
          refine awp_skip ?_
          repeat (first | refine thn_normal ?_ | refine thn_exit ?_ | refine thn_ret ?_ | refine inB_here ?_ | refine inB_other (by decide) ?_ | refine inB_normal ?_ | refine inB_ret ?_)
          refine awp_seq ?_
          refine awp_region (sys _ _ []) 304 320 hU304 rfl rfl ?_
          refine ch_call (ps := []) false (awake_fn) rfl (by repeat' (first | exact ArL.nil | apply ArL.cons | exact Ar.flat Ar0.val | exact Ar.flat Ar0.sl | exact Ar.ptr rfl | exact Ar.row rfl | exact Ar.part rfl (by omega) | exact Ar.flat Ar0.nils | exact Ar.elt | apply Ar.agg | exact Ar0L.nil | apply Ar0L.cons | exact Ar0.val | exact Ar0.sl | exact Ar0.nils)) rfl rfl (by intro h; cases h) rfl (by intro h; first | (cases h; done) | exact ⟨_, _, ⟨rfl, rfl⟩, by simp, by simp, by trivial, by simp⟩) ?_
          rintro _ _ ⟨rfl, rfl⟩ hokr hokx
          refine ch_s rfl .assign rfl ?_
          refine ch_q ?_
          intro hU320
          repeat (first | refine thn_normal ?_ | refine thn_exit ?_ | refine thn_ret ?_ | refine inB_here ?_ | refine inB_other (by decide) ?_ | refine inB_normal ?_ | refine inB_ret ?_)
          refine awp_ret ?_
          repeat (first | refine thn_normal ?_ | refine thn_exit ?_ | refine thn_ret ?_ | refine inB_here ?_ | refine inB_other (by decide) ?_ | refine inB_normal ?_ | refine inB_ret ?_)
          exact ⟨[_], _, [], [], .cons (.tmp rfl) .nil, ⟨rfl, rfl⟩, .val _, trivial, rfl, rfl, rfl, rfl⟩
  · refine awp_region (sys _ _ []) 8 72 hU8 rfl rfl ?_
    refine ch_s rfl .move rfl ?_
    refine ch_call (ps := []) false (light_f _ hL) rfl (by repeat' (first | exact ArL.nil | apply ArL.cons | exact Ar.flat Ar0.val | exact Ar.flat Ar0.sl | exact Ar.ptr rfl | exact Ar.row rfl | exact Ar.part rfl (by omega) | exact Ar.flat Ar0.nils | exact Ar.elt | apply Ar.agg | exact Ar0L.nil | apply Ar0L.cons | exact Ar0.val | exact Ar0.sl | exact Ar0.nils)) rfl rfl (by intro h; cases h) rfl (by intro h; first | (cases h; done) | exact ⟨_, _, ⟨rfl, rfl⟩, by simp, by simp, by trivial, by simp⟩) ?_
    rintro _ _ ⟨rfl, rfl⟩ hokr hokx
    refine ch_s rfl (.unOp uo_not) rfl ?_
    refine ch_s rfl .move rfl ?_
    refine ch_skip rfl rfl ?_
    refine ch_skip rfl rfl ?_
    refine ch_skip rfl rfl ?_
    refine ch_s rfl .pick rfl ?_
    refine ch_q ?_
    intro hU72
    repeat (first | refine thn_normal ?_ | refine thn_exit ?_ | refine thn_ret ?_ | refine inB_here ?_ | refine inB_other (by decide) ?_ | refine inB_normal ?_ | refine inB_ret ?_)
    refine awp_cond rfl (fun h8 => ?_) (fun h8 => ?_)
    · refine awp_seq ?_
      refine awp_region (sys _ _ []) 72 88 hU72 rfl rfl ?_
      refine ch_call (ps := []) false (awake_fn) rfl (by repeat' (first | exact ArL.nil | apply ArL.cons | exact Ar.flat Ar0.val | exact Ar.flat Ar0.sl | exact Ar.ptr rfl | exact Ar.row rfl | exact Ar.part rfl (by omega) | exact Ar.flat Ar0.nils | exact Ar.elt | apply Ar.agg | exact Ar0L.nil | apply Ar0L.cons | exact Ar0.val | exact Ar0.sl | exact Ar0.nils)) rfl rfl (by intro h; cases h) rfl (by intro h; first | (cases h; done) | exact ⟨_, _, ⟨rfl, rfl⟩, by simp, by simp, by trivial, by simp⟩) ?_
      rintro _ _ ⟨rfl, rfl⟩ hokr hokx
      refine ch_s rfl .assign rfl ?_
      refine ch_q ?_
      intro hU88
      repeat (first | refine thn_normal ?_ | refine thn_exit ?_ | refine thn_ret ?_ | refine inB_here ?_ | refine inB_other (by decide) ?_ | refine inB_normal ?_ | refine inB_ret ?_)
      refine awp_ret ?_
      repeat (first | refine thn_normal ?_ | refine thn_exit ?_ | refine thn_ret ?_ | refine inB_here ?_ | refine inB_other (by decide) ?_ | refine inB_normal ?_ | refine inB_ret ?_)
      exact ⟨[_], _, [], [], .cons (.tmp rfl) .nil, ⟨rfl, rfl⟩, .val _, trivial, rfl, rfl, rfl, rfl⟩
    · cases h8
end Go.Proofs.Ythjgcmifggdepaa
