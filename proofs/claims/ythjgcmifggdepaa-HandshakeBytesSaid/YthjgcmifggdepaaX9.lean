/- HandshakeBytes, by the engine. -/
import Derived.Test.YthjgcmifggdepaaX6
set_option linter.unusedVariables false
set_option linter.unusedSimpArgs false
namespace Go.Proofs.Ythjgcmifggdepaa
open Go.RowKit
theorem und3 : Try.prog.underlying 3 = some (.int .i64) := by kernel_rfl
theorem sl44 : SlT Try.prog 44 33 1 24 := SlT.mk' (z := (.slice none 0 0)) (by kernel_rfl) (by kernel_rfl) rfl (by decide) (by decide)
theorem ty33 : Ty Try.prog 33 false 1 := ⟨by kernel_rfl, by kernel_rfl⟩
theorem ty5 : Ty Try.prog 5 false 1 := ⟨by kernel_rfl, by kernel_rfl⟩
theorem z33 : Zt Try.prog 33 [.slice none 0 0] := ⟨(.slice none 0 0), by kernel_rfl, rfl, by decide⟩
theorem z5 : Zt Try.prog 5 [.int .u8 0] := ⟨(.int .u8 0), by kernel_rfl, rfl, by decide⟩
theorem okM_zero : okM zH := ⟨by decide, by decide⟩
theorem okM_dec (l : List UInt8) : okM (decD l).h := by
  unfold decD
  split
  · split
    · exact okM_zero
    · rename_i p hp
      split
      · unfold decH at hp
        split at hp
        · cases hp
        · split at hp
          · cases hp
          · split at hp
            · cases hp
            · injection hp with hp
              subst hp
              have := bAt_le l 1
              exact ⟨by show (-9223372036854775808 : Int) ≤ (bAt l 1 : Nat); omega, by show ((bAt l 1 : Nat) : Int) ≤ 9223372036854775807; omega⟩
      · exact okM_zero
  · split
    · split
      · exact okM_zero
      · exact okM_zero
    · exact okM_zero
theorem okM_cap (l : List UInt8) : okM (capD l).h := by
  unfold capD
  split
  · split
    · split
      · split
        · split
          · exact okM_dec _
          · exact okM_zero
        · exact okM_zero
      · exact okM_zero
    · exact okM_zero
  · exact okM_zero
theorem recL_len (s : Int) (l : List UInt8) : (recL s l).length ≤ 4 * l.length := by
  unfold recL
  split
  · rename_i h
    have hs : 1 ≤ s.toNat := by
      unfold recE at h
      split at h
      · omega
      · omega
    exact recs_len hs l.length l (Nat.le_refl _)
  · simp
set_option maxRecDepth 100000 in
set_option maxHeartbeats 800000 in
theorem decoded_fn (x : List UInt8) (hxl : x.length ≤ 1000000000) : Fn Try.prog 26 [.sl 1 (bytesC x)] [] (fun r b => r = .val (.bool true) ∧ b = []) := by
  refine Fn.of Try.func26 rfl rfl rfl fun hok hokb w0 I ρ0 => ?_
  show awp _ ⟨w0, I, ρ0, 0, 43⟩ _ _ _
  refine awp_seq ?_
  refine awp_region (sys _ _ []) 0 8 mk_U rfl rfl ?_
  refine ch_s rfl .assign rfl ?_
  refine ch_q ?_
  intro hU8
  repeat (first | refine thn_normal ?_ | refine thn_exit ?_ | refine thn_ret ?_ | refine inB_here ?_ | refine inB_other (by decide) ?_ | refine inB_normal ?_ | refine inB_ret ?_)
  refine awp_seq ?_
  refine awp_region (sys _ _ []) 8 112 hU8 rfl rfl ?_
  refine ch_s rfl .move rfl ?_
  refine ch_call (ps := []) false (decode_fn x hxl) rfl (by repeat' (first | exact ArL.nil | apply ArL.cons | exact Ar.flat Ar0.val | exact Ar.flat Ar0.sl | exact Ar.ptr rfl | exact Ar.row rfl | exact Ar.part rfl (by first | omega | (simp only [List.length_append, List.length_cons, List.length_nil, List.length_take, List.length_drop, intsC_length, bytesC_length, strsC_length]; omega)) | exact Ar.flat Ar0.nils | exact Ar.elt | apply Ar.agg | exact Ar0L.nil | apply Ar0L.cons | exact Ar0.val | exact Ar0.sl | exact Ar0.nils)) rfl rfl (by intro h; cases h) rfl (by intro h; first | (cases h; done) | exact ⟨_, _, ⟨rfl, rfl⟩, by simp, by simp, by trivial, by simp⟩) ?_
  rintro _ _ ⟨rfl, rfl⟩ hokr hokx
  refine ch_s rfl .move rfl ?_
  refine ch_s rfl (.extract rfl) rfl ?_
  refine ch_s rfl (.extract rfl) rfl ?_
  refine ch_s rfl (.extract rfl) rfl ?_
  refine ch_s rfl (.extract rfl) rfl ?_
  refine ch_s rfl (.alloc z24) rfl ?_
  refine ch_s rfl (.alloc z26) rfl ?_
  first | refine ch_s rfl (.storeB ty24 rfl (Nat.le_of_ble_eq_true rfl) rfl) rfl ?_ | refine ch_s rfl (.storeR ty24 rfl (by simp only [List.length_append, List.length_cons, List.length_nil, List.length_take, List.length_drop, intsC_length, bytesC_length, strsC_length]; omega) (by repeat' (first | exact DcsE.nil | apply DcsE.cons | exact DcE.bool | exact DcE.sl | exact DcE.int (by first | decide | exact i64_range (by omega) | exact u8_range (by omega) | assumption) | exact DcE.str (by first | decide | assumption | omega) | exact DcE.ptr | exact DcE.nilF | exact DcE.nilI))) rfl ?_
  first | refine ch_s rfl (.storeB ty26 rfl (Nat.le_of_ble_eq_true rfl) rfl) rfl ?_ | refine ch_s rfl (.storeR ty26 rfl (by simp only [List.length_append, List.length_cons, List.length_nil, List.length_take, List.length_drop, intsC_length, bytesC_length, strsC_length]; omega) (by repeat' (first | exact DcsE.nil | apply DcsE.cons | exact DcE.bool | exact DcE.sl | exact DcE.int (by first | decide | exact i64_range (by omega) | exact u8_range (by omega) | assumption) | exact DcE.str (by first | decide | assumption | omega) | exact DcE.ptr | exact DcE.nilF | exact DcE.nilI))) rfl ?_
  refine ch_s rfl .assign rfl ?_
  refine ch_s rfl .assign rfl ?_
  refine ch_q ?_
  intro hU112
  repeat (first | refine thn_normal ?_ | refine thn_exit ?_ | refine thn_ret ?_ | refine inB_here ?_ | refine inB_other (by decide) ?_ | refine inB_normal ?_ | refine inB_ret ?_)
  refine awp_seq ?_
  refine awp_region (sys _ _ []) 112 216 hU112 rfl rfl ?_
  refine ch_s rfl .move rfl ?_
  refine ch_call (ps := []) false (decode2_fn x hxl) rfl (by repeat' (first | exact ArL.nil | apply ArL.cons | exact Ar.flat Ar0.val | exact Ar.flat Ar0.sl | exact Ar.ptr rfl | exact Ar.row rfl | exact Ar.part rfl (by first | omega | (simp only [List.length_append, List.length_cons, List.length_nil, List.length_take, List.length_drop, intsC_length, bytesC_length, strsC_length]; omega)) | exact Ar.flat Ar0.nils | exact Ar.elt | apply Ar.agg | exact Ar0L.nil | apply Ar0L.cons | exact Ar0.val | exact Ar0.sl | exact Ar0.nils)) rfl rfl (by intro h; cases h) rfl (by intro h; first | (cases h; done) | exact ⟨_, _, ⟨rfl, rfl⟩, by simp, by simp, by trivial, by simp⟩) ?_
  rintro _ _ ⟨rfl, rfl⟩ hokr hokx
  refine ch_s rfl .move rfl ?_
  refine ch_s rfl (.extract rfl) rfl ?_
  refine ch_s rfl (.extract rfl) rfl ?_
  refine ch_s rfl (.extract rfl) rfl ?_
  refine ch_s rfl (.extract rfl) rfl ?_
  refine ch_s rfl (.alloc z24) rfl ?_
  refine ch_s rfl (.alloc z26) rfl ?_
  first | refine ch_s rfl (.storeB ty24 rfl (Nat.le_of_ble_eq_true rfl) rfl) rfl ?_ | refine ch_s rfl (.storeR ty24 rfl (by simp only [List.length_append, List.length_cons, List.length_nil, List.length_take, List.length_drop, intsC_length, bytesC_length, strsC_length]; omega) (by repeat' (first | exact DcsE.nil | apply DcsE.cons | exact DcE.bool | exact DcE.sl | exact DcE.int (by first | decide | exact i64_range (by omega) | exact u8_range (by omega) | assumption) | exact DcE.str (by first | decide | assumption | omega) | exact DcE.ptr | exact DcE.nilF | exact DcE.nilI))) rfl ?_
  first | refine ch_s rfl (.storeB ty26 rfl (Nat.le_of_ble_eq_true rfl) rfl) rfl ?_ | refine ch_s rfl (.storeR ty26 rfl (by simp only [List.length_append, List.length_cons, List.length_nil, List.length_take, List.length_drop, intsC_length, bytesC_length, strsC_length]; omega) (by repeat' (first | exact DcsE.nil | apply DcsE.cons | exact DcE.bool | exact DcE.sl | exact DcE.int (by first | decide | exact i64_range (by omega) | exact u8_range (by omega) | assumption) | exact DcE.str (by first | decide | assumption | omega) | exact DcE.ptr | exact DcE.nilF | exact DcE.nilI))) rfl ?_
  refine ch_s rfl .assign rfl ?_
  refine ch_s rfl .assign rfl ?_
  refine ch_q ?_
  intro hU216
  repeat (first | refine thn_normal ?_ | refine thn_exit ?_ | refine thn_ret ?_ | refine inB_here ?_ | refine inB_other (by decide) ?_ | refine inB_normal ?_ | refine inB_ret ?_)
  refine awp_seq ?_
  refine awp_region (sys _ _ []) 216 368 hU216 rfl rfl ?_
  refine ch_s rfl .move rfl ?_
  refine ch_s rfl .move rfl ?_
  refine ch_s rfl (.binOp (bo_eql_t rfl)) rfl ?_
  refine ch_s rfl .move rfl ?_
  refine ch_g rfl rfl .move rfl ?_
  refine ch_g rfl rfl .move rfl ?_
  refine ch_g rfl rfl (.binOp (bo_eql_t rfl)) rfl ?_
  refine ch_s rfl .pick rfl ?_
  refine ch_s rfl .move rfl ?_
  first | refine ch_g rfl rfl (.loadBA ty26 (Nat.le_of_ble_eq_true rfl)) rfl ?_ | refine ch_g rfl rfl (.loadEA ty26 (by simp only [List.length_append, List.length_cons, List.length_nil, List.length_take, List.length_drop, intsC_length, bytesC_length, strsC_length]; omega)) rfl ?_ | refine ch_g rfl rfl (.loadRA ty26 (by simp only [List.length_append, List.length_cons, List.length_nil, List.length_take, List.length_drop, intsC_length, bytesC_length, strsC_length]; omega)) rfl ?_
  first | refine ch_g rfl rfl (.loadBA ty26 (Nat.le_of_ble_eq_true rfl)) rfl ?_ | refine ch_g rfl rfl (.loadEA ty26 (by simp only [List.length_append, List.length_cons, List.length_nil, List.length_take, List.length_drop, intsC_length, bytesC_length, strsC_length]; omega)) rfl ?_ | refine ch_g rfl rfl (.loadRA ty26 (by simp only [List.length_append, List.length_cons, List.length_nil, List.length_take, List.length_drop, intsC_length, bytesC_length, strsC_length]; omega)) rfl ?_
  refine ch_g rfl rfl (.binOpA rfl rfl ch_eql_t) rfl ?_
  refine ch_s rfl .pick rfl ?_
  refine ch_s rfl .move rfl ?_
  first | refine ch_g rfl rfl (.loadBA ty24 (Nat.le_of_ble_eq_true rfl)) rfl ?_ | refine ch_g rfl rfl (.loadEA ty24 (by simp only [List.length_append, List.length_cons, List.length_nil, List.length_take, List.length_drop, intsC_length, bytesC_length, strsC_length]; omega)) rfl ?_ | refine ch_g rfl rfl (.loadRA ty24 (by simp only [List.length_append, List.length_cons, List.length_nil, List.length_take, List.length_drop, intsC_length, bytesC_length, strsC_length]; omega)) rfl ?_
  first | refine ch_g rfl rfl (.loadBA ty24 (Nat.le_of_ble_eq_true rfl)) rfl ?_ | refine ch_g rfl rfl (.loadEA ty24 (by simp only [List.length_append, List.length_cons, List.length_nil, List.length_take, List.length_drop, intsC_length, bytesC_length, strsC_length]; omega)) rfl ?_ | refine ch_g rfl rfl (.loadRA ty24 (by simp only [List.length_append, List.length_cons, List.length_nil, List.length_take, List.length_drop, intsC_length, bytesC_length, strsC_length]; omega)) rfl ?_
  refine ch_callg (ps := []) false rfl (same_t (decD x).h (okM_dec x)) rfl (by repeat' (first | exact ArL.nil | apply ArL.cons | exact Ar.flat Ar0.val | exact Ar.flat Ar0.sl | exact Ar.ptr rfl | exact Ar.row rfl | exact Ar.part rfl (by first | omega | (simp only [List.length_append, List.length_cons, List.length_nil, List.length_take, List.length_drop, intsC_length, bytesC_length, strsC_length]; omega)) | exact Ar.flat Ar0.nils | exact Ar.elt | apply Ar.agg | exact Ar0L.nil | apply Ar0L.cons | exact Ar0.val | exact Ar0.sl | exact Ar0.nils)) rfl rfl (by intro h; cases h) rfl (by intro h; first | (cases h; done) | exact ⟨_, _, ⟨rfl, rfl⟩, by simp, by simp, by trivial, by simp⟩) ?_
  rintro _ _ ⟨rfl, rfl⟩ hokr hokx
  refine ch_s rfl .pick rfl ?_
  refine ch_s rfl .assign rfl ?_
  refine ch_q ?_
  intro hU368
  repeat (first | refine thn_normal ?_ | refine thn_exit ?_ | refine thn_ret ?_ | refine inB_here ?_ | refine inB_other (by decide) ?_ | refine inB_normal ?_ | refine inB_ret ?_)
  refine awp_ret ?_
  repeat (first | refine thn_normal ?_ | refine thn_exit ?_ | refine thn_ret ?_ | refine inB_here ?_ | refine inB_other (by decide) ?_ | refine inB_normal ?_ | refine inB_ret ?_)
  exact ⟨[_], _, [], [], .cons (.tmp rfl) .nil, ⟨rfl, rfl⟩, .val _, trivial, rfl, rfl, rfl, rfl⟩
set_option maxRecDepth 100000 in
set_option maxHeartbeats 1600000 in
theorem bytes_fn (l : List Int) (bs : List UInt8) (a : Int) : Fn Try.prog 4 [.sl 1 (intsC l), .sl 1 (bytesC bs), .val (.int .i64 a)] [] (fun r b => r = .val (.bool true) ∧ b = []) := by
  refine Fn.of Try.func4 rfl rfl rfl fun hok hokb w0 I ρ0 => ?_
  show awp _ ⟨w0, I, ρ0, 0, 196⟩ _ _ _
  refine awp_seq ?_
  refine awp_region (sys _ _ []) 0 8 mk_U rfl rfl ?_
  refine ch_s rfl .assign rfl ?_
  refine ch_q ?_
  intro hU8
  repeat (first | refine thn_normal ?_ | refine thn_exit ?_ | refine thn_ret ?_ | refine inB_here ?_ | refine inB_other (by decide) ?_ | refine inB_normal ?_ | refine inB_ret ?_)
  refine awp_seq ?_
  refine awp_seq ?_
  by_cases hL : l.length ≤ 400
  · refine awp_region (sys _ _ []) 8 72 hU8 rfl rfl ?_
    refine ch_s rfl .move rfl ?_
    refine ch_call (ps := []) false (light_t _ hL) rfl (by repeat' (first | exact ArL.nil | apply ArL.cons | exact Ar.flat Ar0.val | exact Ar.flat Ar0.sl | exact Ar.ptr rfl | exact Ar.row rfl | exact Ar.part rfl (by first | omega | (simp only [List.length_append, List.length_cons, List.length_nil, List.length_take, List.length_drop, intsC_length, bytesC_length, strsC_length]; omega)) | exact Ar.flat Ar0.nils | exact Ar.elt | apply Ar.agg | exact Ar0L.nil | apply Ar0L.cons | exact Ar0.val | exact Ar0.sl | exact Ar0.nils)) rfl rfl (by intro h; cases h) rfl (by intro h; first | (cases h; done) | exact ⟨_, _, ⟨rfl, rfl⟩, by simp, by simp, by trivial, by simp⟩) ?_
    rintro _ _ ⟨rfl, rfl⟩ hokr hokx
    refine ch_s rfl (.unOp uo_not) rfl ?_
    refine ch_s rfl .move rfl ?_
    refine ch_g rfl rfl .move rfl ?_
    first | refine ch_g rfl rfl (.len sl33.elem len_ints) rfl ?_ | refine ch_g rfl rfl (.len sl33.elem len_rints) rfl ?_ | refine ch_g rfl rfl (.len sl33.elem .part) rfl ?_ | refine ch_g rfl rfl (.len sl33.elem len_bytes) rfl ?_ | refine ch_g rfl rfl (.len sl33.elem len_rbytes) rfl ?_ | refine ch_g rfl rfl (.len sl33.elem len_strs) rfl ?_ | refine ch_g rfl rfl (.len sl33.elem len_rstrs) rfl ?_ | refine ch_g rfl rfl (.len sl33.elem (.sl (by decide) (by assumption))) rfl ?_ | refine ch_g rfl rfl (.len sl33.elem (.row (by decide) (by assumption))) rfl ?_
    refine ch_g rfl rfl (.binOp bo_gtr) rfl ?_
    refine ch_s rfl .pick rfl ?_
    refine ch_q ?_
    intro hU72
    repeat (first | refine thn_normal ?_ | refine thn_exit ?_ | refine thn_ret ?_ | refine inB_here ?_ | refine inB_other (by decide) ?_ | refine inB_normal ?_ | refine inB_ret ?_)
    refine awp_cond rfl (fun h1 => ?_) (fun h1 => ?_)
    · replace h1 := of_decide_eq_true h1
      refine awp_seq ?_
      refine awp_region (sys _ _ []) 72 88 hU72 rfl rfl ?_
      refine ch_call (ps := []) false (awake_fn) rfl (by repeat' (first | exact ArL.nil | apply ArL.cons | exact Ar.flat Ar0.val | exact Ar.flat Ar0.sl | exact Ar.ptr rfl | exact Ar.row rfl | exact Ar.part rfl (by first | omega | (simp only [List.length_append, List.length_cons, List.length_nil, List.length_take, List.length_drop, intsC_length, bytesC_length, strsC_length]; omega)) | exact Ar.flat Ar0.nils | exact Ar.elt | apply Ar.agg | exact Ar0L.nil | apply Ar0L.cons | exact Ar0.val | exact Ar0.sl | exact Ar0.nils)) rfl rfl (by intro h; cases h) rfl (by intro h; first | (cases h; done) | exact ⟨_, _, ⟨rfl, rfl⟩, by simp, by simp, by trivial, by simp⟩) ?_
      rintro _ _ ⟨rfl, rfl⟩ hokr hokx
      refine ch_s rfl .assign rfl ?_
      refine ch_q ?_
      intro hU88
      repeat (first | refine thn_normal ?_ | refine thn_exit ?_ | refine thn_ret ?_ | refine inB_here ?_ | refine inB_other (by decide) ?_ | refine inB_normal ?_ | refine inB_ret ?_)
      refine awp_ret ?_
      repeat (first | refine thn_normal ?_ | refine thn_exit ?_ | refine thn_ret ?_ | refine inB_here ?_ | refine inB_other (by decide) ?_ | refine inB_normal ?_ | refine inB_ret ?_)
      exact ⟨[_], _, [], [], .cons (.tmp rfl) .nil, ⟨rfl, rfl⟩, .val _, trivial, rfl, rfl, rfl, rfl⟩
    · replace h1 := of_decide_eq_false h1
      refine awp_skip ?_
      repeat (first | refine thn_normal ?_ | refine thn_exit ?_ | refine thn_ret ?_ | refine inB_here ?_ | refine inB_other (by decide) ?_ | refine inB_normal ?_ | refine inB_ret ?_)
      refine awp_seq ?_
      refine awp_region (sys _ _ []) 72 96 hU72 rfl rfl ?_
      refine ch_s rfl .move rfl ?_
      refine ch_call (ps := []) false (roll_fn _) rfl (by repeat' (first | exact ArL.nil | apply ArL.cons | exact Ar.flat Ar0.val | exact Ar.flat Ar0.sl | exact Ar.ptr rfl | exact Ar.row rfl | exact Ar.part rfl (by first | omega | (simp only [List.length_append, List.length_cons, List.length_nil, List.length_take, List.length_drop, intsC_length, bytesC_length, strsC_length]; omega)) | exact Ar.flat Ar0.nils | exact Ar.elt | apply Ar.agg | exact Ar0L.nil | apply Ar0L.cons | exact Ar0.val | exact Ar0.sl | exact Ar0.nils)) rfl rfl (by intro h; cases h) rfl (by intro h; first | (cases h; done) | exact ⟨_, _, ⟨rfl, rfl⟩, by simp, by simp, by trivial, by simp⟩) ?_
      rintro _ _ ⟨rfl, rfl⟩ hokr hokx
      refine ch_s rfl .assign rfl ?_
      refine ch_q ?_
      intro hU96
      repeat (first | refine thn_normal ?_ | refine thn_exit ?_ | refine thn_ret ?_ | refine inB_here ?_ | refine inB_other (by decide) ?_ | refine inB_normal ?_ | refine inB_ret ?_)
      refine awp_seq ?_
      refine awp_regionL ?_
      refine AwpL.chain (sys _ _ []) 2 96 112 hU96 rfl rfl ?_
      have hlA : ∀ h : Hl, (encHL h).length ≤ 1000 := fun h => encH_short
      have hlB : ∀ c : Ch, (encCL c).length ≤ 8 := fun c => encC_short
      refine ch_s rfl .move rfl ?_
      refine ch_call (ps := [80]) false (hello_fn l 0 (by omega)) rfl (by repeat' (first | exact ArL.nil | apply ArL.cons | exact Ar.flat Ar0.val | exact Ar.flat Ar0.sl | exact Ar.ptr rfl | exact Ar.row rfl | exact Ar.part rfl (by first | omega | (simp only [List.length_append, List.length_cons, List.length_nil, List.length_take, List.length_drop, intsC_length, bytesC_length, strsC_length]; omega)) | exact Ar.flat Ar0.nils | exact Ar.elt | apply Ar.agg | exact Ar0L.nil | apply Ar0L.cons | exact Ar0.val | exact Ar0.sl | exact Ar0.nils)) (.cons' (List.mem_cons_self ..) (.cons .sl (.cons .val .nil)) rfl) rfl (by intro h; cases h) rfl (by intro h; first | (cases h; done) | exact trivial) ?_
      rintro _ _ ⟨m, su, ha, q1, rfl, hm, hsl, hhl, hq1, rfl⟩ hokr hokx
      refine ch_l ?_
      intro hUc96_1
      refine AwpL.sub (Sub.frz (j := 104) rfl rfl) ?_
      refine AwpL.sub (Sub.frz (j := 105) rfl rfl) ?_
      refine AwpL.chain (sys _ _ []) 6 112 160 hUc96_1 rfl rfl ?_
      refine ch_call (ps := []) false (encH2_fn ⟨m, su, ha⟩ ⟨(by show (-9223372036854775808 : Int) ≤ m; omega), (by show m ≤ (9223372036854775807 : Int); omega)⟩) rfl (by repeat' (first | exact ArL.nil | apply ArL.cons | exact Ar.flat Ar0.val | exact Ar.flat Ar0.sl | exact Ar.ptr rfl | exact Ar.row rfl | exact Ar.part rfl (by first | omega | (simp only [List.length_append, List.length_cons, List.length_nil, List.length_take, List.length_drop, intsC_length, bytesC_length, strsC_length]; omega)) | exact Ar.flat Ar0.nils | exact Ar.elt | apply Ar.agg | exact Ar0L.nil | apply Ar0L.cons | exact Ar0.val | exact Ar0.sl | exact Ar0.nils)) rfl rfl (by intro h; cases h) rfl (by intro h; first | (cases h; done) | exact ⟨_, _, ⟨rfl, rfl⟩, by simp, by simp, by trivial, by simp⟩) ?_
      rintro _ _ ⟨rfl, rfl⟩ hokr hokx
      refine ch_s rfl .move rfl ?_
      refine ch_s rfl (.extract rfl) rfl ?_
      refine ch_s rfl (.extract rfl) rfl ?_
      refine ch_s rfl .assign rfl ?_
      refine ch_s rfl .assign rfl ?_
      refine ch_l ?_
      intro hU160
      refine AwpL.fin ?_
      repeat (first | refine thn_normal ?_ | refine thn_exit ?_ | refine thn_ret ?_ | refine inB_here ?_ | refine inB_other (by decide) ?_ | refine inB_normal ?_ | refine inB_ret ?_)
      refine awp_seq ?_
      refine awp_region (sys _ _ []) 160 224 hU160 rfl rfl ?_
      refine ch_s rfl .move rfl ?_
      refine ch_call (ps := [80]) false (choice_fn l _ (by omega)) rfl (by repeat' (first | exact ArL.nil | apply ArL.cons | exact Ar.flat Ar0.val | exact Ar.flat Ar0.sl | exact Ar.ptr rfl | exact Ar.row rfl | exact Ar.part rfl (by first | omega | (simp only [List.length_append, List.length_cons, List.length_nil, List.length_take, List.length_drop, intsC_length, bytesC_length, strsC_length]; omega)) | exact Ar.flat Ar0.nils | exact Ar.elt | apply Ar.agg | exact Ar0L.nil | apply Ar0L.cons | exact Ar0.val | exact Ar0.sl | exact Ar0.nils)) (.cons' (List.mem_cons_self ..) (.cons .sl (.cons .val .nil)) rfl) rfl (by intro h; cases h) rfl (by intro h; first | (cases h; done) | exact trivial) ?_
      rintro _ _ ⟨c, q2, rfl, hq2, rfl⟩ hokr hokx
      refine ch_call (ps := []) false (encC2_fn c) rfl (by repeat' (first | exact ArL.nil | apply ArL.cons | exact Ar.flat Ar0.val | exact Ar.flat Ar0.sl | exact Ar.ptr rfl | exact Ar.row rfl | exact Ar.part rfl (by first | omega | (simp only [List.length_append, List.length_cons, List.length_nil, List.length_take, List.length_drop, intsC_length, bytesC_length, strsC_length]; omega)) | exact Ar.flat Ar0.nils | exact Ar.elt | apply Ar.agg | exact Ar0L.nil | apply Ar0L.cons | exact Ar0.val | exact Ar0.sl | exact Ar0.nils)) rfl rfl (by intro h; cases h) rfl (by intro h; first | (cases h; done) | exact ⟨_, _, ⟨rfl, rfl⟩, by simp, by simp, by trivial, by simp⟩) ?_
      rintro _ _ ⟨rfl, rfl⟩ hokr hokx
      refine ch_s rfl .move rfl ?_
      refine ch_s rfl (.extract rfl) rfl ?_
      refine ch_s rfl (.extract rfl) rfl ?_
      refine ch_s rfl .assign rfl ?_
      refine ch_s rfl .assign rfl ?_
      refine ch_q ?_
      intro hU224
      repeat (first | refine thn_normal ?_ | refine thn_exit ?_ | refine thn_ret ?_ | refine inB_here ?_ | refine inB_other (by decide) ?_ | refine inB_normal ?_ | refine inB_ret ?_)
      refine awp_seq ?_
      refine awp_region (sys _ _ []) 224 272 hU224 rfl rfl ?_
      refine ch_s rfl (.buildSl sl33 z5 (by decide) rfl (by repeat' (first | exact DcsE.nil | apply DcsE.cons | exact DcE.bool | exact DcE.sl | exact DcE.int (by first | decide | exact i64_range (by omega) | exact u8_range (by omega) | assumption) | exact DcE.str (by first | decide | assumption | omega) | exact DcE.ptr | exact DcE.nilF | exact DcE.nilI)) rfl) rfl ?_
      refine ch_s rfl .move rfl ?_
      have hA := hlA ⟨m, su, ha⟩
      have hB := hlB c
      first | refine ch_s rfl (.append sl33 .row .row (by simp only [List.length_append, List.length_cons, List.length_nil, List.length_take, List.length_drop, intsC_length, bytesC_length, strsC_length]; omega)) rfl ?_ | refine ch_s rfl (.append sl33 .row .sl (by simp only [List.length_append, List.length_cons, List.length_nil, List.length_take, List.length_drop, intsC_length, bytesC_length, strsC_length]; omega)) rfl ?_ | refine ch_s rfl (.append sl33 .row (.part (by simp only [List.length_append, List.length_cons, List.length_nil, List.length_take, List.length_drop, intsC_length, bytesC_length, strsC_length]; omega)) (by simp only [List.length_append, List.length_cons, List.length_nil, List.length_take, List.length_drop, intsC_length, bytesC_length, strsC_length]; omega)) rfl ?_ | refine ch_s rfl (.append sl33 .row .nil (by simp only [List.length_append, List.length_cons, List.length_nil, List.length_take, List.length_drop, intsC_length, bytesC_length, strsC_length]; omega)) rfl ?_ | refine ch_s rfl (.append sl33 .nil .row (by simp only [List.length_append, List.length_cons, List.length_nil, List.length_take, List.length_drop, intsC_length, bytesC_length, strsC_length]; omega)) rfl ?_ | refine ch_s rfl (.append sl33 .nil .sl (by simp only [List.length_append, List.length_cons, List.length_nil, List.length_take, List.length_drop, intsC_length, bytesC_length, strsC_length]; omega)) rfl ?_ | refine ch_s rfl (.append sl33 .nil (.part (by simp only [List.length_append, List.length_cons, List.length_nil, List.length_take, List.length_drop, intsC_length, bytesC_length, strsC_length]; omega)) (by simp only [List.length_append, List.length_cons, List.length_nil, List.length_take, List.length_drop, intsC_length, bytesC_length, strsC_length]; omega)) rfl ?_ | refine ch_s rfl (.append sl33 .nil .nil (by simp only [List.length_append, List.length_cons, List.length_nil, List.length_take, List.length_drop, intsC_length, bytesC_length, strsC_length]; omega)) rfl ?_ | refine ch_s rfl (.append sl33 (.part (by simp only [List.length_append, List.length_cons, List.length_nil, List.length_take, List.length_drop, intsC_length, bytesC_length, strsC_length]; omega)) .row (by simp only [List.length_append, List.length_cons, List.length_nil, List.length_take, List.length_drop, intsC_length, bytesC_length, strsC_length]; omega)) rfl ?_ | refine ch_s rfl (.append sl33 (.part (by simp only [List.length_append, List.length_cons, List.length_nil, List.length_take, List.length_drop, intsC_length, bytesC_length, strsC_length]; omega)) .sl (by simp only [List.length_append, List.length_cons, List.length_nil, List.length_take, List.length_drop, intsC_length, bytesC_length, strsC_length]; omega)) rfl ?_ | refine ch_s rfl (.append sl33 (.part (by simp only [List.length_append, List.length_cons, List.length_nil, List.length_take, List.length_drop, intsC_length, bytesC_length, strsC_length]; omega)) (.part (by simp only [List.length_append, List.length_cons, List.length_nil, List.length_take, List.length_drop, intsC_length, bytesC_length, strsC_length]; omega)) (by simp only [List.length_append, List.length_cons, List.length_nil, List.length_take, List.length_drop, intsC_length, bytesC_length, strsC_length]; omega)) rfl ?_ | refine ch_s rfl (.append sl33 (.part (by simp only [List.length_append, List.length_cons, List.length_nil, List.length_take, List.length_drop, intsC_length, bytesC_length, strsC_length]; omega)) .nil (by simp only [List.length_append, List.length_cons, List.length_nil, List.length_take, List.length_drop, intsC_length, bytesC_length, strsC_length]; omega)) rfl ?_
      refine ch_s rfl .move rfl ?_
      first | refine ch_s rfl (.append sl33 .row .row (by simp only [List.length_append, List.length_cons, List.length_nil, List.length_take, List.length_drop, intsC_length, bytesC_length, strsC_length]; omega)) rfl ?_ | refine ch_s rfl (.append sl33 .row .sl (by simp only [List.length_append, List.length_cons, List.length_nil, List.length_take, List.length_drop, intsC_length, bytesC_length, strsC_length]; omega)) rfl ?_ | refine ch_s rfl (.append sl33 .row (.part (by simp only [List.length_append, List.length_cons, List.length_nil, List.length_take, List.length_drop, intsC_length, bytesC_length, strsC_length]; omega)) (by simp only [List.length_append, List.length_cons, List.length_nil, List.length_take, List.length_drop, intsC_length, bytesC_length, strsC_length]; omega)) rfl ?_ | refine ch_s rfl (.append sl33 .row .nil (by simp only [List.length_append, List.length_cons, List.length_nil, List.length_take, List.length_drop, intsC_length, bytesC_length, strsC_length]; omega)) rfl ?_ | refine ch_s rfl (.append sl33 .nil .row (by simp only [List.length_append, List.length_cons, List.length_nil, List.length_take, List.length_drop, intsC_length, bytesC_length, strsC_length]; omega)) rfl ?_ | refine ch_s rfl (.append sl33 .nil .sl (by simp only [List.length_append, List.length_cons, List.length_nil, List.length_take, List.length_drop, intsC_length, bytesC_length, strsC_length]; omega)) rfl ?_ | refine ch_s rfl (.append sl33 .nil (.part (by simp only [List.length_append, List.length_cons, List.length_nil, List.length_take, List.length_drop, intsC_length, bytesC_length, strsC_length]; omega)) (by simp only [List.length_append, List.length_cons, List.length_nil, List.length_take, List.length_drop, intsC_length, bytesC_length, strsC_length]; omega)) rfl ?_ | refine ch_s rfl (.append sl33 .nil .nil (by simp only [List.length_append, List.length_cons, List.length_nil, List.length_take, List.length_drop, intsC_length, bytesC_length, strsC_length]; omega)) rfl ?_ | refine ch_s rfl (.append sl33 (.part (by simp only [List.length_append, List.length_cons, List.length_nil, List.length_take, List.length_drop, intsC_length, bytesC_length, strsC_length]; omega)) .row (by simp only [List.length_append, List.length_cons, List.length_nil, List.length_take, List.length_drop, intsC_length, bytesC_length, strsC_length]; omega)) rfl ?_ | refine ch_s rfl (.append sl33 (.part (by simp only [List.length_append, List.length_cons, List.length_nil, List.length_take, List.length_drop, intsC_length, bytesC_length, strsC_length]; omega)) .sl (by simp only [List.length_append, List.length_cons, List.length_nil, List.length_take, List.length_drop, intsC_length, bytesC_length, strsC_length]; omega)) rfl ?_ | refine ch_s rfl (.append sl33 (.part (by simp only [List.length_append, List.length_cons, List.length_nil, List.length_take, List.length_drop, intsC_length, bytesC_length, strsC_length]; omega)) (.part (by simp only [List.length_append, List.length_cons, List.length_nil, List.length_take, List.length_drop, intsC_length, bytesC_length, strsC_length]; omega)) (by simp only [List.length_append, List.length_cons, List.length_nil, List.length_take, List.length_drop, intsC_length, bytesC_length, strsC_length]; omega)) rfl ?_ | refine ch_s rfl (.append sl33 (.part (by simp only [List.length_append, List.length_cons, List.length_nil, List.length_take, List.length_drop, intsC_length, bytesC_length, strsC_length]; omega)) .nil (by simp only [List.length_append, List.length_cons, List.length_nil, List.length_take, List.length_drop, intsC_length, bytesC_length, strsC_length]; omega)) rfl ?_
      refine ch_s rfl .assign rfl ?_
      refine ch_q ?_
      intro hU272
      repeat (first | refine thn_normal ?_ | refine thn_exit ?_ | refine thn_ret ?_ | refine inB_here ?_ | refine inB_other (by decide) ?_ | refine inB_normal ?_ | refine inB_ret ?_)
      refine awp_cut (ι := Nat × List UInt8) (fun ((q, X) : Nat × List UInt8) => mk [(1, .sl 1 (bytesC bs)), (2, .val (.int .i64 a)), (7, .ptr 0 0), (8, .row 1), (10, .row 2), (12, .row 3)] [(0, diceB l q), (1, .row 5 1 (bytesC (encHL ⟨m, su, ha⟩))), (2, .row 5 1 (bytesC (encCL c))), (3, .row 5 1 (bytesC X))] 4) (fun ((q, X) : Nat × List UInt8) => q ≤ l.length ∧ X.length ≤ 2008) ?_ ?_
      · refine awp_seq ?_
        refine awp_region (sys _ _ []) 272 288 hU272 rfl rfl ?_
        refine ch_s rfl .move rfl ?_
        refine ch_call (ps := [80]) false (one_fn l _ (by omega) 6 (by omega) (by omega)) rfl (by repeat' (first | exact ArL.nil | apply ArL.cons | exact Ar.flat Ar0.val | exact Ar.flat Ar0.sl | exact Ar.ptr rfl | exact Ar.row rfl | exact Ar.part rfl (by first | omega | (simp only [List.length_append, List.length_cons, List.length_nil, List.length_take, List.length_drop, intsC_length, bytesC_length, strsC_length]; omega)) | exact Ar.flat Ar0.nils | exact Ar.elt | apply Ar.agg | exact Ar0L.nil | apply Ar0L.cons | exact Ar0.val | exact Ar0.sl | exact Ar0.nils)) (.cons' (List.mem_cons_self ..) (.cons .sl (.cons .val .nil)) rfl) rfl (by intro h; cases h) rfl (by intro h; first | (cases h; done) | exact trivial) ?_
        rintro _ _ ⟨b1, q1, rfl, hq1, rfl⟩ hokr hokx
        refine ch_q ?_
        intro hU288
        repeat (first | refine thn_normal ?_ | refine thn_exit ?_ | refine thn_ret ?_ | refine inB_here ?_ | refine inB_other (by decide) ?_ | refine inB_normal ?_ | refine inB_ret ?_)
        refine awp_cond rfl (fun h2 => ?_) (fun h2 => ?_)
        · refine awp_region (sys _ _ []) 288 336 hU288 rfl rfl ?_
          refine ch_s rfl (.buildSl sl33 z5 (by decide) rfl (by repeat' (first | exact DcsE.nil | apply DcsE.cons | exact DcE.bool | exact DcE.sl | exact DcE.int (by first | decide | exact i64_range (by omega) | exact u8_range (by omega) | assumption) | exact DcE.str (by first | decide | assumption | omega) | exact DcE.ptr | exact DcE.nilF | exact DcE.nilI)) rfl) rfl ?_
          refine ch_s rfl .move rfl ?_
          first | refine ch_s rfl (.append sl33 .row .row (by simp only [List.length_append, List.length_cons, List.length_nil, List.length_take, List.length_drop, intsC_length, bytesC_length, strsC_length]; omega)) rfl ?_ | refine ch_s rfl (.append sl33 .row .sl (by simp only [List.length_append, List.length_cons, List.length_nil, List.length_take, List.length_drop, intsC_length, bytesC_length, strsC_length]; omega)) rfl ?_ | refine ch_s rfl (.append sl33 .row (.part (by simp only [List.length_append, List.length_cons, List.length_nil, List.length_take, List.length_drop, intsC_length, bytesC_length, strsC_length]; omega)) (by simp only [List.length_append, List.length_cons, List.length_nil, List.length_take, List.length_drop, intsC_length, bytesC_length, strsC_length]; omega)) rfl ?_ | refine ch_s rfl (.append sl33 .row .nil (by simp only [List.length_append, List.length_cons, List.length_nil, List.length_take, List.length_drop, intsC_length, bytesC_length, strsC_length]; omega)) rfl ?_ | refine ch_s rfl (.append sl33 .nil .row (by simp only [List.length_append, List.length_cons, List.length_nil, List.length_take, List.length_drop, intsC_length, bytesC_length, strsC_length]; omega)) rfl ?_ | refine ch_s rfl (.append sl33 .nil .sl (by simp only [List.length_append, List.length_cons, List.length_nil, List.length_take, List.length_drop, intsC_length, bytesC_length, strsC_length]; omega)) rfl ?_ | refine ch_s rfl (.append sl33 .nil (.part (by simp only [List.length_append, List.length_cons, List.length_nil, List.length_take, List.length_drop, intsC_length, bytesC_length, strsC_length]; omega)) (by simp only [List.length_append, List.length_cons, List.length_nil, List.length_take, List.length_drop, intsC_length, bytesC_length, strsC_length]; omega)) rfl ?_ | refine ch_s rfl (.append sl33 .nil .nil (by simp only [List.length_append, List.length_cons, List.length_nil, List.length_take, List.length_drop, intsC_length, bytesC_length, strsC_length]; omega)) rfl ?_ | refine ch_s rfl (.append sl33 (.part (by simp only [List.length_append, List.length_cons, List.length_nil, List.length_take, List.length_drop, intsC_length, bytesC_length, strsC_length]; omega)) .row (by simp only [List.length_append, List.length_cons, List.length_nil, List.length_take, List.length_drop, intsC_length, bytesC_length, strsC_length]; omega)) rfl ?_ | refine ch_s rfl (.append sl33 (.part (by simp only [List.length_append, List.length_cons, List.length_nil, List.length_take, List.length_drop, intsC_length, bytesC_length, strsC_length]; omega)) .sl (by simp only [List.length_append, List.length_cons, List.length_nil, List.length_take, List.length_drop, intsC_length, bytesC_length, strsC_length]; omega)) rfl ?_ | refine ch_s rfl (.append sl33 (.part (by simp only [List.length_append, List.length_cons, List.length_nil, List.length_take, List.length_drop, intsC_length, bytesC_length, strsC_length]; omega)) (.part (by simp only [List.length_append, List.length_cons, List.length_nil, List.length_take, List.length_drop, intsC_length, bytesC_length, strsC_length]; omega)) (by simp only [List.length_append, List.length_cons, List.length_nil, List.length_take, List.length_drop, intsC_length, bytesC_length, strsC_length]; omega)) rfl ?_ | refine ch_s rfl (.append sl33 (.part (by simp only [List.length_append, List.length_cons, List.length_nil, List.length_take, List.length_drop, intsC_length, bytesC_length, strsC_length]; omega)) .nil (by simp only [List.length_append, List.length_cons, List.length_nil, List.length_take, List.length_drop, intsC_length, bytesC_length, strsC_length]; omega)) rfl ?_
          refine ch_s rfl .move rfl ?_
          first | refine ch_s rfl (.append sl33 .row .row (by simp only [List.length_append, List.length_cons, List.length_nil, List.length_take, List.length_drop, intsC_length, bytesC_length, strsC_length]; omega)) rfl ?_ | refine ch_s rfl (.append sl33 .row .sl (by simp only [List.length_append, List.length_cons, List.length_nil, List.length_take, List.length_drop, intsC_length, bytesC_length, strsC_length]; omega)) rfl ?_ | refine ch_s rfl (.append sl33 .row (.part (by simp only [List.length_append, List.length_cons, List.length_nil, List.length_take, List.length_drop, intsC_length, bytesC_length, strsC_length]; omega)) (by simp only [List.length_append, List.length_cons, List.length_nil, List.length_take, List.length_drop, intsC_length, bytesC_length, strsC_length]; omega)) rfl ?_ | refine ch_s rfl (.append sl33 .row .nil (by simp only [List.length_append, List.length_cons, List.length_nil, List.length_take, List.length_drop, intsC_length, bytesC_length, strsC_length]; omega)) rfl ?_ | refine ch_s rfl (.append sl33 .nil .row (by simp only [List.length_append, List.length_cons, List.length_nil, List.length_take, List.length_drop, intsC_length, bytesC_length, strsC_length]; omega)) rfl ?_ | refine ch_s rfl (.append sl33 .nil .sl (by simp only [List.length_append, List.length_cons, List.length_nil, List.length_take, List.length_drop, intsC_length, bytesC_length, strsC_length]; omega)) rfl ?_ | refine ch_s rfl (.append sl33 .nil (.part (by simp only [List.length_append, List.length_cons, List.length_nil, List.length_take, List.length_drop, intsC_length, bytesC_length, strsC_length]; omega)) (by simp only [List.length_append, List.length_cons, List.length_nil, List.length_take, List.length_drop, intsC_length, bytesC_length, strsC_length]; omega)) rfl ?_ | refine ch_s rfl (.append sl33 .nil .nil (by simp only [List.length_append, List.length_cons, List.length_nil, List.length_take, List.length_drop, intsC_length, bytesC_length, strsC_length]; omega)) rfl ?_ | refine ch_s rfl (.append sl33 (.part (by simp only [List.length_append, List.length_cons, List.length_nil, List.length_take, List.length_drop, intsC_length, bytesC_length, strsC_length]; omega)) .row (by simp only [List.length_append, List.length_cons, List.length_nil, List.length_take, List.length_drop, intsC_length, bytesC_length, strsC_length]; omega)) rfl ?_ | refine ch_s rfl (.append sl33 (.part (by simp only [List.length_append, List.length_cons, List.length_nil, List.length_take, List.length_drop, intsC_length, bytesC_length, strsC_length]; omega)) .sl (by simp only [List.length_append, List.length_cons, List.length_nil, List.length_take, List.length_drop, intsC_length, bytesC_length, strsC_length]; omega)) rfl ?_ | refine ch_s rfl (.append sl33 (.part (by simp only [List.length_append, List.length_cons, List.length_nil, List.length_take, List.length_drop, intsC_length, bytesC_length, strsC_length]; omega)) (.part (by simp only [List.length_append, List.length_cons, List.length_nil, List.length_take, List.length_drop, intsC_length, bytesC_length, strsC_length]; omega)) (by simp only [List.length_append, List.length_cons, List.length_nil, List.length_take, List.length_drop, intsC_length, bytesC_length, strsC_length]; omega)) rfl ?_ | refine ch_s rfl (.append sl33 (.part (by simp only [List.length_append, List.length_cons, List.length_nil, List.length_take, List.length_drop, intsC_length, bytesC_length, strsC_length]; omega)) .nil (by simp only [List.length_append, List.length_cons, List.length_nil, List.length_take, List.length_drop, intsC_length, bytesC_length, strsC_length]; omega)) rfl ?_
          refine ch_s rfl .assign rfl ?_
          refine ch_q ?_
          intro hU336
          repeat (first | refine thn_normal ?_ | refine thn_exit ?_ | refine thn_ret ?_ | refine inB_here ?_ | refine inB_other (by decide) ?_ | refine inB_normal ?_ | refine inB_ret ?_)
          exact ⟨(q1, ((encCL c) ++ (encHL ⟨m, su, ha⟩))), ⟨(by omega), (by rw [List.length_append]; omega)⟩, Sub.lists [(0, 80), (1, 112), (2, 176), (3, 320)] rfl rfl ⟨⟨_, rfl, .sl _ _⟩, ⟨_, rfl, .val _⟩, ⟨_, rfl, .ptr rfl⟩, ⟨_, rfl, .row rfl⟩, ⟨_, rfl, .row rfl⟩, ⟨_, rfl, .row rfl⟩, trivial⟩ ⟨.inl ⟨80, _, rfl, rfl, ⟨rfl, .cons (.sl _ _) (.cons (.val _) .nil)⟩⟩, .inl ⟨112, _, rfl, rfl, rfl, rfl, rfl⟩, .inl ⟨176, _, rfl, rfl, rfl, rfl, rfl⟩, .inl ⟨320, _, rfl, rfl, rfl, rfl, (by simp [bytesC_append])⟩, trivial⟩⟩
        · refine awp_skip ?_
          repeat (first | refine thn_normal ?_ | refine thn_exit ?_ | refine thn_ret ?_ | refine inB_here ?_ | refine inB_other (by decide) ?_ | refine inB_normal ?_ | refine inB_ret ?_)
          exact ⟨(q1, ((encHL ⟨m, su, ha⟩) ++ (encCL c))), ⟨(by omega), (by rw [List.length_append]; omega)⟩, Sub.lists [(0, 80), (1, 112), (2, 176), (3, 256)] rfl rfl ⟨⟨_, rfl, .sl _ _⟩, ⟨_, rfl, .val _⟩, ⟨_, rfl, .ptr rfl⟩, ⟨_, rfl, .row rfl⟩, ⟨_, rfl, .row rfl⟩, ⟨_, rfl, .row rfl⟩, trivial⟩ ⟨.inl ⟨80, _, rfl, rfl, ⟨rfl, .cons (.sl _ _) (.cons (.val _) .nil)⟩⟩, .inl ⟨112, _, rfl, rfl, rfl, rfl, rfl⟩, .inl ⟨176, _, rfl, rfl, rfl, rfl, rfl⟩, .inl ⟨256, _, rfl, rfl, rfl, rfl, (by simp [bytesC_append])⟩, trivial⟩⟩
      · rintro ⟨q, X⟩ hokm
        replace hokm : q ≤ l.length ∧ X.length ≤ 2008 := hokm
        obtain ⟨hq, hXl⟩ := hokm
        show awp _ _ _ _ (mk [(1, .sl 1 (bytesC bs)), (2, .val (.int .i64 a)), (7, .ptr 0 0), (8, .row 1), (10, .row 2), (12, .row 3)] [(0, diceB l q), (1, .row 5 1 (bytesC (encHL ⟨m, su, ha⟩))), (2, .row 5 1 (bytesC (encCL c))), (3, .row 5 1 (bytesC X))] 4)
        refine awp_cut (ι := Nat × List UInt8) (fun ((q, X) : Nat × List UInt8) => mk [(1, .sl 1 (bytesC bs)), (2, .val (.int .i64 a)), (7, .ptr 0 0), (8, .row 1), (10, .row 2), (12, .row 3)] [(0, diceB l q), (1, .row 5 1 (bytesC (encHL ⟨m, su, ha⟩))), (2, .row 5 1 (bytesC (encCL c))), (3, .row 5 1 (bytesC X))] 4) (fun ((q, X) : Nat × List UInt8) => q ≤ l.length ∧ X.length ≤ 3008) ?_ ?_
        · refine awp_seq ?_
          refine awp_region (sys _ _ []) 4 20 mk_U rfl rfl ?_
          refine ch_s rfl .move rfl ?_
          refine ch_call (ps := [0]) false (one_fn l _ (by omega) 6 (by omega) (by omega)) rfl (by repeat' (first | exact ArL.nil | apply ArL.cons | exact Ar.flat Ar0.val | exact Ar.flat Ar0.sl | exact Ar.ptr rfl | exact Ar.row rfl | exact Ar.part rfl (by first | omega | (simp only [List.length_append, List.length_cons, List.length_nil, List.length_take, List.length_drop, intsC_length, bytesC_length, strsC_length]; omega)) | exact Ar.flat Ar0.nils | exact Ar.elt | apply Ar.agg | exact Ar0L.nil | apply Ar0L.cons | exact Ar0.val | exact Ar0.sl | exact Ar0.nils)) (.cons' (List.mem_cons_self ..) (.cons .sl (.cons .val .nil)) rfl) rfl (by intro h; cases h) rfl (by intro h; first | (cases h; done) | exact trivial) ?_
          rintro _ _ ⟨b2, q2, rfl, hq2, rfl⟩ hokr hokx
          refine ch_q ?_
          intro hU20
          repeat (first | refine thn_normal ?_ | refine thn_exit ?_ | refine thn_ret ?_ | refine inB_here ?_ | refine inB_other (by decide) ?_ | refine inB_normal ?_ | refine inB_ret ?_)
          refine awp_cond rfl (fun h3 => ?_) (fun h3 => ?_)
          · refine awp_region (sys _ _ []) 20 52 hU20 rfl rfl ?_
            refine ch_s rfl .move rfl ?_
            refine ch_s rfl .move rfl ?_
            first | refine ch_s rfl (.append sl33 .row .row (by simp only [List.length_append, List.length_cons, List.length_nil, List.length_take, List.length_drop, intsC_length, bytesC_length, strsC_length]; omega)) rfl ?_ | refine ch_s rfl (.append sl33 .row .sl (by simp only [List.length_append, List.length_cons, List.length_nil, List.length_take, List.length_drop, intsC_length, bytesC_length, strsC_length]; omega)) rfl ?_ | refine ch_s rfl (.append sl33 .row (.part (by simp only [List.length_append, List.length_cons, List.length_nil, List.length_take, List.length_drop, intsC_length, bytesC_length, strsC_length]; omega)) (by simp only [List.length_append, List.length_cons, List.length_nil, List.length_take, List.length_drop, intsC_length, bytesC_length, strsC_length]; omega)) rfl ?_ | refine ch_s rfl (.append sl33 .row .nil (by simp only [List.length_append, List.length_cons, List.length_nil, List.length_take, List.length_drop, intsC_length, bytesC_length, strsC_length]; omega)) rfl ?_ | refine ch_s rfl (.append sl33 .nil .row (by simp only [List.length_append, List.length_cons, List.length_nil, List.length_take, List.length_drop, intsC_length, bytesC_length, strsC_length]; omega)) rfl ?_ | refine ch_s rfl (.append sl33 .nil .sl (by simp only [List.length_append, List.length_cons, List.length_nil, List.length_take, List.length_drop, intsC_length, bytesC_length, strsC_length]; omega)) rfl ?_ | refine ch_s rfl (.append sl33 .nil (.part (by simp only [List.length_append, List.length_cons, List.length_nil, List.length_take, List.length_drop, intsC_length, bytesC_length, strsC_length]; omega)) (by simp only [List.length_append, List.length_cons, List.length_nil, List.length_take, List.length_drop, intsC_length, bytesC_length, strsC_length]; omega)) rfl ?_ | refine ch_s rfl (.append sl33 .nil .nil (by simp only [List.length_append, List.length_cons, List.length_nil, List.length_take, List.length_drop, intsC_length, bytesC_length, strsC_length]; omega)) rfl ?_ | refine ch_s rfl (.append sl33 (.part (by simp only [List.length_append, List.length_cons, List.length_nil, List.length_take, List.length_drop, intsC_length, bytesC_length, strsC_length]; omega)) .row (by simp only [List.length_append, List.length_cons, List.length_nil, List.length_take, List.length_drop, intsC_length, bytesC_length, strsC_length]; omega)) rfl ?_ | refine ch_s rfl (.append sl33 (.part (by simp only [List.length_append, List.length_cons, List.length_nil, List.length_take, List.length_drop, intsC_length, bytesC_length, strsC_length]; omega)) .sl (by simp only [List.length_append, List.length_cons, List.length_nil, List.length_take, List.length_drop, intsC_length, bytesC_length, strsC_length]; omega)) rfl ?_ | refine ch_s rfl (.append sl33 (.part (by simp only [List.length_append, List.length_cons, List.length_nil, List.length_take, List.length_drop, intsC_length, bytesC_length, strsC_length]; omega)) (.part (by simp only [List.length_append, List.length_cons, List.length_nil, List.length_take, List.length_drop, intsC_length, bytesC_length, strsC_length]; omega)) (by simp only [List.length_append, List.length_cons, List.length_nil, List.length_take, List.length_drop, intsC_length, bytesC_length, strsC_length]; omega)) rfl ?_ | refine ch_s rfl (.append sl33 (.part (by simp only [List.length_append, List.length_cons, List.length_nil, List.length_take, List.length_drop, intsC_length, bytesC_length, strsC_length]; omega)) .nil (by simp only [List.length_append, List.length_cons, List.length_nil, List.length_take, List.length_drop, intsC_length, bytesC_length, strsC_length]; omega)) rfl ?_
            refine ch_s rfl .assign rfl ?_
            refine ch_q ?_
            intro hU52
            repeat (first | refine thn_normal ?_ | refine thn_exit ?_ | refine thn_ret ?_ | refine inB_here ?_ | refine inB_other (by decide) ?_ | refine inB_normal ?_ | refine inB_ret ?_)
            exact ⟨(q2, (X ++ (encHL ⟨m, su, ha⟩))), ⟨(by omega), (by rw [List.length_append]; omega)⟩, Sub.lists [(0, 0), (1, 1), (2, 2), (3, 36)] rfl rfl ⟨⟨_, rfl, .sl _ _⟩, ⟨_, rfl, .val _⟩, ⟨_, rfl, .ptr rfl⟩, ⟨_, rfl, .row rfl⟩, ⟨_, rfl, .row rfl⟩, ⟨_, rfl, .row rfl⟩, trivial⟩ ⟨.inl ⟨0, _, rfl, rfl, ⟨rfl, .cons (.sl _ _) (.cons (.val _) .nil)⟩⟩, .inl ⟨1, _, rfl, rfl, rfl, rfl, rfl⟩, .inl ⟨2, _, rfl, rfl, rfl, rfl, rfl⟩, .inl ⟨36, _, rfl, rfl, rfl, rfl, (by simp [bytesC_append])⟩, trivial⟩⟩
          · refine awp_skip ?_
            repeat (first | refine thn_normal ?_ | refine thn_exit ?_ | refine thn_ret ?_ | refine inB_here ?_ | refine inB_other (by decide) ?_ | refine inB_normal ?_ | refine inB_ret ?_)
            exact ⟨(q2, X), ⟨(by omega), (by omega)⟩, Sub.lists [(0, 0), (1, 1), (2, 2), (3, 3)] rfl rfl ⟨⟨_, rfl, .sl _ _⟩, ⟨_, rfl, .val _⟩, ⟨_, rfl, .ptr rfl⟩, ⟨_, rfl, .row rfl⟩, ⟨_, rfl, .row rfl⟩, ⟨_, rfl, .row rfl⟩, trivial⟩ ⟨.inl ⟨0, _, rfl, rfl, ⟨rfl, .cons (.sl _ _) (.cons (.val _) .nil)⟩⟩, .inl ⟨1, _, rfl, rfl, rfl, rfl, rfl⟩, .inl ⟨2, _, rfl, rfl, rfl, rfl, rfl⟩, .inl ⟨3, _, rfl, rfl, rfl, rfl, rfl⟩, trivial⟩⟩
        · rintro ⟨q, X⟩ hokm
          replace hokm : q ≤ l.length ∧ X.length ≤ 3008 := hokm
          obtain ⟨hq, hXl⟩ := hokm
          show awp _ _ _ _ (mk [(1, .sl 1 (bytesC bs)), (2, .val (.int .i64 a)), (7, .ptr 0 0), (8, .row 1), (10, .row 2), (12, .row 3)] [(0, diceB l q), (1, .row 5 1 (bytesC (encHL ⟨m, su, ha⟩))), (2, .row 5 1 (bytesC (encCL c))), (3, .row 5 1 (bytesC X))] 4)
          refine awp_seq ?_
          refine awp_region (sys _ _ [20]) 4 84 mk_U rfl rfl ?_
          refine ch_s rfl .move rfl ?_
          refine ch_s rfl .move rfl ?_
          refine ch_z rfl (.buildSl sl22 z3 (by decide) rfl (by repeat' (first | exact DcsE.nil | apply DcsE.cons | exact DcE.bool | exact DcE.sl | exact DcE.int (by first | decide | exact i64_range (by omega) | exact u8_range (by omega) | assumption) | exact DcE.str (by first | decide | assumption | omega) | exact DcE.ptr | exact DcE.nilF | exact DcE.nilI)) rfl) rfl rfl rfl ?_
          refine ch_call (ps := [0]) false (of_fn l _ (by omega) [5, 1, 100, 30] (by simp) (by simp)) rfl (by repeat' (first | exact ArL.nil | apply ArL.cons | exact Ar.flat Ar0.val | exact Ar.flat Ar0.sl | exact Ar.ptr rfl | exact Ar.row rfl | exact Ar.part rfl (by first | omega | (simp only [List.length_append, List.length_cons, List.length_nil, List.length_take, List.length_drop, intsC_length, bytesC_length, strsC_length]; omega)) | exact Ar.flat Ar0.nils | exact Ar.elt | apply Ar.agg | exact Ar0L.nil | apply Ar0L.cons | exact Ar0.val | exact Ar0.sl | exact Ar0.nils)) (.cons' (List.mem_cons_self ..) (.cons .sl (.cons .val .nil)) rfl) rfl (by intro h; cases h) rfl (by intro h; first | (cases h; done) | exact trivial) ?_
          rintro _ _ ⟨x3, q3, rfl, hm3, hq3, rfl⟩ hokr hokx
          simp only [List.mem_cons, List.not_mem_nil, or_false] at hm3
          refine ch_call (ps := []) true (records2_fn X x3) rfl (by repeat' (first | exact ArL.nil | apply ArL.cons | exact Ar.flat Ar0.val | exact Ar.flat Ar0.sl | exact Ar.ptr rfl | exact Ar.row rfl | exact Ar.part rfl (by first | omega | (simp only [List.length_append, List.length_cons, List.length_nil, List.length_take, List.length_drop, intsC_length, bytesC_length, strsC_length]; omega)) | exact Ar.flat Ar0.nils | exact Ar.elt | apply Ar.agg | exact Ar0L.nil | apply Ar0L.cons | exact Ar0.val | exact Ar0.sl | exact Ar0.nils)) rfl rfl (by rintro - _ _ ⟨rfl, rfl⟩; exact ⟨by simp [flatD, flatDs], fun lb hlb => by simp at hlb; subst hlb; intro c hc; simp [bytesC] at hc; obtain ⟨x, -, rfl⟩ := hc; rfl⟩) rfl (by intro h; first | (cases h; done) | exact ⟨_, _, ⟨rfl, rfl⟩, by simp, by simp, by trivial, by simp⟩) ?_
          rintro _ _ ⟨rfl, rfl⟩ hokr hokx
          refine ch_s rfl .move rfl ?_
          refine ch_s rfl (.extract rfl) rfl ?_
          refine ch_s rfl (.extract rfl) rfl ?_
          refine ch_s rfl .assign rfl ?_
          refine ch_s rfl .assign rfl ?_
          refine ch_q ?_
          intro hU84
          repeat (first | refine thn_normal ?_ | refine thn_exit ?_ | refine thn_ret ?_ | refine inB_here ?_ | refine inB_other (by decide) ?_ | refine inB_normal ?_ | refine inB_ret ?_)
          refine awp_cut (ι := List UInt8) (fun (Y : List UInt8) => mk [(1, .sl 1 (bytesC bs)), (8, .sl 1 (bytesC (encHL ⟨m, su, ha⟩))), (10, .sl 1 (bytesC (encCL c))), (12, .sl 1 (bytesC X)), (13, .sl 1 (bytesC Y))] [] 0) (fun (Y : List UInt8) => Y.length ≤ 20000) ?_ ?_
          · refine awp_seq ?_
            refine awp_region (sys _ _ []) 84 108 hU84 rfl rfl ?_
            have hYr := recL_len x3 X
            obtain ⟨Y, hY⟩ : ∃ Y, recL x3 X = Y := ⟨_, rfl⟩
            rw [hY] at hYr ⊢
            refine ch_s rfl .move rfl ?_
            first | refine ch_s rfl (.len sl33.elem len_ints) rfl ?_ | refine ch_s rfl (.len sl33.elem len_rints) rfl ?_ | refine ch_s rfl (.len sl33.elem .part) rfl ?_ | refine ch_s rfl (.len sl33.elem len_bytes) rfl ?_ | refine ch_s rfl (.len sl33.elem len_rbytes) rfl ?_ | refine ch_s rfl (.len sl33.elem len_strs) rfl ?_ | refine ch_s rfl (.len sl33.elem len_rstrs) rfl ?_ | refine ch_s rfl (.len sl33.elem (.sl (by decide) (by assumption))) rfl ?_ | refine ch_s rfl (.len sl33.elem (.row (by decide) (by assumption))) rfl ?_
            refine ch_s rfl (.binOp bo_gtr) rfl ?_
            refine ch_q ?_
            intro hU108
            repeat (first | refine thn_normal ?_ | refine thn_exit ?_ | refine thn_ret ?_ | refine inB_here ?_ | refine inB_other (by decide) ?_ | refine inB_normal ?_ | refine inB_ret ?_)
            refine awp_cond rfl (fun h4 => ?_) (fun h4 => ?_)
            · replace h4 := of_decide_eq_true h4
              refine awp_seq ?_
              refine awp_region (sys _ _ []) 108 148 hU108 rfl rfl ?_
              refine ch_s rfl .move rfl ?_
              refine ch_s rfl .move rfl ?_
              refine ch_s rfl (.len sl33.elem len_rbytes) rfl ?_
              refine ch_call (ps := []) false (mod_fn a ((Y.length : Nat) : Int) (by omega) (by omega)) rfl (by repeat' (first | exact ArL.nil | apply ArL.cons | exact Ar.flat Ar0.val | exact Ar.flat Ar0.sl | exact Ar.ptr rfl | exact Ar.row rfl | exact Ar.part rfl (by first | omega | (simp only [List.length_append, List.length_cons, List.length_nil, List.length_take, List.length_drop, intsC_length, bytesC_length, strsC_length]; omega)) | exact Ar.flat Ar0.nils | exact Ar.elt | apply Ar.agg | exact Ar0L.nil | apply Ar0L.cons | exact Ar0.val | exact Ar0.sl | exact Ar0.nils)) rfl rfl (by intro h; cases h) rfl (by intro h; first | (cases h; done) | exact ⟨_, _, ⟨rfl, rfl⟩, by simp, by simp, by trivial, by simp⟩) ?_
              rintro _ _ ⟨rfl, rfl⟩ hokr hokx
              refine ch_s rfl .assign rfl ?_
              refine ch_q ?_
              intro hU148
              repeat (first | refine thn_normal ?_ | refine thn_exit ?_ | refine thn_ret ?_ | refine inB_here ?_ | refine inB_other (by decide) ?_ | refine inB_normal ?_ | refine inB_ret ?_)
              refine awp_seq ?_
              refine awp_region (sys _ _ []) 148 164 hU148 rfl rfl ?_
              have hmr := modV_range a ((Y.length : Nat) : Int) (by omega)
              obtain ⟨j, hj⟩ := Int.eq_ofNat_of_zero_le hmr.1
              rw [hj] at hmr ⊢
              have hjl : j < Y.length := by omega
              refine ch_s rfl .move rfl ?_
              refine ch_call (ps := [0]) false (next_fn l _ (by omega) 6 (by omega) (by omega)) rfl (by repeat' (first | exact ArL.nil | apply ArL.cons | exact Ar.flat Ar0.val | exact Ar.flat Ar0.sl | exact Ar.ptr rfl | exact Ar.row rfl | exact Ar.part rfl (by first | omega | (simp only [List.length_append, List.length_cons, List.length_nil, List.length_take, List.length_drop, intsC_length, bytesC_length, strsC_length]; omega)) | exact Ar.flat Ar0.nils | exact Ar.elt | apply Ar.agg | exact Ar0L.nil | apply Ar0L.cons | exact Ar0.val | exact Ar0.sl | exact Ar0.nils)) (.cons' (List.mem_cons_self ..) (.cons .sl (.cons .val .nil)) rfl) rfl (by intro h; cases h) rfl (by intro h; first | (cases h; done) | exact trivial) ?_
              rintro _ _ ⟨x4, q4, rfl, hx4, hy4, hq4, rfl⟩ hokr hokx
              refine ch_q ?_
              intro hU164
              repeat (first | refine thn_normal ?_ | refine thn_exit ?_ | refine thn_ret ?_ | refine inB_here ?_ | refine inB_other (by decide) ?_ | refine inB_normal ?_ | refine inB_ret ?_)
              refine awp_block ?_
              refine awp_seq ?_
              refine awp_region (sys _ _ []) 164 180 hU164 rfl rfl ?_
              refine ch_s rfl (.binOp bo_eql) rfl ?_
              refine ch_s rfl .assign rfl ?_
              refine ch_q ?_
              intro hU180
              repeat (first | refine thn_normal ?_ | refine thn_exit ?_ | refine thn_ret ?_ | refine inB_here ?_ | refine inB_other (by decide) ?_ | refine inB_normal ?_ | refine inB_ret ?_)
              refine awp_cond rfl (fun h5 => ?_) (fun h5 => ?_)
              · replace h5 := of_decide_eq_true h5
                refine awp_region (sys _ _ [204]) 180 244 hU180 rfl rfl ?_
                refine ch_s rfl .move rfl ?_
                refine ch_s rfl .move rfl ?_
                refine ch_s rfl .move rfl ?_
                refine ch_z rfl (.buildSl sl22 z3 (by decide) rfl (by repeat' (first | exact DcsE.nil | apply DcsE.cons | exact DcE.bool | exact DcE.sl | exact DcE.int (by first | decide | exact i64_range (by omega) | exact u8_range (by omega) | assumption) | exact DcE.str (by first | decide | assumption | omega) | exact DcE.ptr | exact DcE.nilF | exact DcE.nilI)) rfl) rfl rfl rfl ?_
                refine ch_call (ps := [0]) false (of_fn l _ (by omega) [0, 1, 2, 22, 255] (by simp) (by simp)) rfl (by repeat' (first | exact ArL.nil | apply ArL.cons | exact Ar.flat Ar0.val | exact Ar.flat Ar0.sl | exact Ar.ptr rfl | exact Ar.row rfl | exact Ar.part rfl (by first | omega | (simp only [List.length_append, List.length_cons, List.length_nil, List.length_take, List.length_drop, intsC_length, bytesC_length, strsC_length]; omega)) | exact Ar.flat Ar0.nils | exact Ar.elt | apply Ar.agg | exact Ar0L.nil | apply Ar0L.cons | exact Ar0.val | exact Ar0.sl | exact Ar0.nils)) (.cons' (List.mem_cons_self ..) (.cons .sl (.cons .val .nil)) rfl) rfl (by intro h; cases h) rfl (by intro h; first | (cases h; done) | exact trivial) ?_
                rintro _ _ ⟨x5, q5, rfl, hm5, hq5, rfl⟩ hokr hokx
                simp only [List.mem_cons, List.not_mem_nil, or_false] at hm5
                refine ch_s rfl (.conv (by kernel_rfl) (by kernel_rfl) (cv_u8 (by rw [und3]; rfl) und5 (by omega))) rfl ?_
                refine ch_s rfl (.idxR sl33 (j := j) rfl (by simp only [List.length_append, List.length_cons, List.length_nil, List.length_take, List.length_drop, intsC_length, bytesC_length, strsC_length]; omega)) rfl ?_
                first | refine ch_s rfl (.storeB ty5 rfl (Nat.le_of_ble_eq_true rfl) rfl) rfl ?_ | refine ch_s rfl (.storeR ty5 rfl (by simp only [List.length_append, List.length_cons, List.length_nil, List.length_take, List.length_drop, intsC_length, bytesC_length, strsC_length]; omega) (by repeat' (first | exact DcsE.nil | apply DcsE.cons | exact DcE.bool | exact DcE.sl | exact DcE.int (by first | decide | exact i64_range (by omega) | exact u8_range (by omega) | assumption) | exact DcE.str (by first | decide | assumption | omega) | exact DcE.ptr | exact DcE.nilF | exact DcE.nilI))) rfl ?_
                refine ch_q ?_
                intro hU244
                repeat (first | refine thn_normal ?_ | refine thn_exit ?_ | refine thn_ret ?_ | refine inB_here ?_ | refine inB_other (by decide) ?_ | refine inB_normal ?_ | refine inB_ret ?_)
                exact ⟨(Y.take j ++ [UInt8.ofNat x5.toNat] ++ Y.drop (j + 1)), (by (try simp only [List.length_append, List.length_take, List.length_drop, List.length_cons, List.length_nil]); omega), Sub.lists [] rfl rfl ⟨⟨_, rfl, .sl _ _⟩, ⟨_, rfl, .frzR rfl (look_ne rfl) rfl⟩, ⟨_, rfl, .frzR rfl (look_ne rfl) rfl⟩, ⟨_, rfl, .frzR rfl (look_ne rfl) rfl⟩, ⟨_, rfl, .frzR rfl (look_ne rfl) (bytesC_set hjl (by omega))⟩, trivial⟩ trivial⟩
              · replace h5 := of_decide_eq_false h5
                refine awp_seq ?_
                refine awp_region (sys _ _ []) 180 196 hU180 rfl rfl ?_
                refine ch_s rfl (.binOp bo_eql) rfl ?_
                refine ch_s rfl .assign rfl ?_
                refine ch_q ?_
                intro hU196
                repeat (first | refine thn_normal ?_ | refine thn_exit ?_ | refine thn_ret ?_ | refine inB_here ?_ | refine inB_other (by decide) ?_ | refine inB_normal ?_ | refine inB_ret ?_)
                refine awp_cond rfl (fun h6 => ?_) (fun h6 => ?_)
                · replace h6 := of_decide_eq_true h6
                  refine awp_draw (sys _ _ []) (by kernel_rfl) [(2, 7), (6, 7)] 196 268 hU196 rfl rfl (by kernel_rfl) ?_
                  refine ch_s rfl .move rfl ?_
                  refine ch_s rfl .move rfl ?_
                  first | refine ch_s rfl (.sliS sl33 (by first | exact clen_i | exact clen_b | exact clen_s | assumption | exact clen_1) ⟨⟨_, _, _, rfl, rfl⟩, rfl⟩ (by omega)) rfl ?_ | refine ch_s rfl (.sliR sl33 (by first | exact clen_i | exact clen_b | exact clen_s | assumption | exact clen_1) ⟨⟨_, _, _, rfl, rfl⟩, rfl⟩ (by omega)) rfl ?_ | refine ch_s rfl (.sliP sl33 ⟨⟨_, _, _, rfl, rfl⟩, rfl⟩ (by omega)) rfl ?_
                  refine ch_s rfl .move rfl ?_
                  refine ch_s rfl .move rfl ?_
                  first | refine ch_s rfl (.binOp (bo_add (by omega))) rfl ?_ | refine ch_s rfl (.binOp bo_addw) rfl ?_
                  refine ch_s rfl (.sliR (l := j + 1) sl33 clen_b ⟨⟨_, _, _, rfl, (by omega)⟩, rfl⟩ (by omega)) rfl ?_
                  first | refine ch_s rfl (.append sl33 .row .row (by simp only [List.length_append, List.length_cons, List.length_nil, List.length_take, List.length_drop, intsC_length, bytesC_length, strsC_length]; omega)) rfl ?_ | refine ch_s rfl (.append sl33 .row .sl (by simp only [List.length_append, List.length_cons, List.length_nil, List.length_take, List.length_drop, intsC_length, bytesC_length, strsC_length]; omega)) rfl ?_ | refine ch_s rfl (.append sl33 .row (.part (by simp only [List.length_append, List.length_cons, List.length_nil, List.length_take, List.length_drop, intsC_length, bytesC_length, strsC_length]; omega)) (by simp only [List.length_append, List.length_cons, List.length_nil, List.length_take, List.length_drop, intsC_length, bytesC_length, strsC_length]; omega)) rfl ?_ | refine ch_s rfl (.append sl33 .row .nil (by simp only [List.length_append, List.length_cons, List.length_nil, List.length_take, List.length_drop, intsC_length, bytesC_length, strsC_length]; omega)) rfl ?_ | refine ch_s rfl (.append sl33 .nil .row (by simp only [List.length_append, List.length_cons, List.length_nil, List.length_take, List.length_drop, intsC_length, bytesC_length, strsC_length]; omega)) rfl ?_ | refine ch_s rfl (.append sl33 .nil .sl (by simp only [List.length_append, List.length_cons, List.length_nil, List.length_take, List.length_drop, intsC_length, bytesC_length, strsC_length]; omega)) rfl ?_ | refine ch_s rfl (.append sl33 .nil (.part (by simp only [List.length_append, List.length_cons, List.length_nil, List.length_take, List.length_drop, intsC_length, bytesC_length, strsC_length]; omega)) (by simp only [List.length_append, List.length_cons, List.length_nil, List.length_take, List.length_drop, intsC_length, bytesC_length, strsC_length]; omega)) rfl ?_ | refine ch_s rfl (.append sl33 .nil .nil (by simp only [List.length_append, List.length_cons, List.length_nil, List.length_take, List.length_drop, intsC_length, bytesC_length, strsC_length]; omega)) rfl ?_ | refine ch_s rfl (.append sl33 (.part (by simp only [List.length_append, List.length_cons, List.length_nil, List.length_take, List.length_drop, intsC_length, bytesC_length, strsC_length]; omega)) .row (by simp only [List.length_append, List.length_cons, List.length_nil, List.length_take, List.length_drop, intsC_length, bytesC_length, strsC_length]; omega)) rfl ?_ | refine ch_s rfl (.append sl33 (.part (by simp only [List.length_append, List.length_cons, List.length_nil, List.length_take, List.length_drop, intsC_length, bytesC_length, strsC_length]; omega)) .sl (by simp only [List.length_append, List.length_cons, List.length_nil, List.length_take, List.length_drop, intsC_length, bytesC_length, strsC_length]; omega)) rfl ?_ | refine ch_s rfl (.append sl33 (.part (by simp only [List.length_append, List.length_cons, List.length_nil, List.length_take, List.length_drop, intsC_length, bytesC_length, strsC_length]; omega)) (.part (by simp only [List.length_append, List.length_cons, List.length_nil, List.length_take, List.length_drop, intsC_length, bytesC_length, strsC_length]; omega)) (by simp only [List.length_append, List.length_cons, List.length_nil, List.length_take, List.length_drop, intsC_length, bytesC_length, strsC_length]; omega)) rfl ?_ | refine ch_s rfl (.append sl33 (.part (by simp only [List.length_append, List.length_cons, List.length_nil, List.length_take, List.length_drop, intsC_length, bytesC_length, strsC_length]; omega)) .nil (by simp only [List.length_append, List.length_cons, List.length_nil, List.length_take, List.length_drop, intsC_length, bytesC_length, strsC_length]; omega)) rfl ?_
                  refine ch_s rfl .assign rfl ?_
                  refine ch_q ?_
                  intro hU268
                  repeat (first | refine thn_normal ?_ | refine thn_exit ?_ | refine thn_ret ?_ | refine inB_here ?_ | refine inB_other (by decide) ?_ | refine inB_normal ?_ | refine inB_ret ?_)
                  exact ⟨(Y.take j ++ Y.drop (j + 1)), (by (try simp only [List.length_append, List.length_take, List.length_drop, List.length_cons, List.length_nil]); omega), Sub.lists [] rfl rfl ⟨⟨_, rfl, .sl _ _⟩, ⟨_, rfl, .frzR rfl (look_ne rfl) rfl⟩, ⟨_, rfl, .frzR rfl (look_ne rfl) rfl⟩, ⟨_, rfl, .frzR rfl (look_ne rfl) rfl⟩, ⟨_, rfl, .frzR rfl (look_ne rfl) bytesC_cut⟩, trivial⟩ trivial⟩
                · replace h6 := of_decide_eq_false h6
                  refine awp_seq ?_
                  refine awp_region (sys _ _ []) 196 212 hU196 rfl rfl ?_
                  refine ch_s rfl (.binOp bo_eql) rfl ?_
                  refine ch_s rfl .assign rfl ?_
                  refine ch_q ?_
                  intro hU212
                  repeat (first | refine thn_normal ?_ | refine thn_exit ?_ | refine thn_ret ?_ | refine inB_here ?_ | refine inB_other (by decide) ?_ | refine inB_normal ?_ | refine inB_ret ?_)
                  refine awp_cond rfl (fun h7 => ?_) (fun h7 => ?_)
                  · replace h7 := of_decide_eq_true h7
                    refine awp_region (sys _ _ []) 212 244 hU212 rfl rfl ?_
                    refine ch_s rfl .move rfl ?_
                    refine ch_s rfl .move rfl ?_
                    first | refine ch_s rfl (.sliS sl33 (by first | exact clen_i | exact clen_b | exact clen_s | assumption | exact clen_1) ⟨⟨_, _, _, rfl, rfl⟩, rfl⟩ (by omega)) rfl ?_ | refine ch_s rfl (.sliR sl33 (by first | exact clen_i | exact clen_b | exact clen_s | assumption | exact clen_1) ⟨⟨_, _, _, rfl, rfl⟩, rfl⟩ (by omega)) rfl ?_ | refine ch_s rfl (.sliP sl33 ⟨⟨_, _, _, rfl, rfl⟩, rfl⟩ (by omega)) rfl ?_
                    refine ch_s rfl .assign rfl ?_
                    refine ch_q ?_
                    intro hU244
                    repeat (first | refine thn_normal ?_ | refine thn_exit ?_ | refine thn_ret ?_ | refine inB_here ?_ | refine inB_other (by decide) ?_ | refine inB_normal ?_ | refine inB_ret ?_)
                    exact ⟨(Y.take j), (by (try simp only [List.length_append, List.length_take, List.length_drop, List.length_cons, List.length_nil]); omega), Sub.lists [] rfl rfl ⟨⟨_, rfl, .sl _ _⟩, ⟨_, rfl, .frzR rfl (look_ne rfl) rfl⟩, ⟨_, rfl, .frzR rfl (look_ne rfl) rfl⟩, ⟨_, rfl, .frzR rfl (look_ne rfl) rfl⟩, ⟨_, rfl, .frzP rfl (look_ne rfl) (by simp only [List.length_append, List.length_cons, List.length_nil, List.length_take, List.length_drop, intsC_length, bytesC_length, strsC_length]; omega) (bytesC_take Y j)⟩, trivial⟩ trivial⟩
                  · replace h7 := of_decide_eq_false h7
                    refine awp_skip ?_
                    repeat (first | refine thn_normal ?_ | refine thn_exit ?_ | refine thn_ret ?_ | refine inB_here ?_ | refine inB_other (by decide) ?_ | refine inB_normal ?_ | refine inB_ret ?_)
                    exact ⟨Y, (by (try simp only [List.length_append, List.length_take, List.length_drop, List.length_cons, List.length_nil]); omega), Sub.lists [] rfl rfl ⟨⟨_, rfl, .sl _ _⟩, ⟨_, rfl, .frzR rfl (look_ne rfl) rfl⟩, ⟨_, rfl, .frzR rfl (look_ne rfl) rfl⟩, ⟨_, rfl, .frzR rfl (look_ne rfl) rfl⟩, ⟨_, rfl, .frzR rfl (look_ne rfl) rfl⟩, trivial⟩ trivial⟩
            · replace h4 := of_decide_eq_false h4
              refine awp_skip ?_
              repeat (first | refine thn_normal ?_ | refine thn_exit ?_ | refine thn_ret ?_ | refine inB_here ?_ | refine inB_other (by decide) ?_ | refine inB_normal ?_ | refine inB_ret ?_)
              exact ⟨Y, (by (try simp only [List.length_append, List.length_take, List.length_drop, List.length_cons, List.length_nil]); omega), Sub.lists [] rfl rfl ⟨⟨_, rfl, .sl _ _⟩, ⟨_, rfl, .frzR rfl (look_ne rfl) rfl⟩, ⟨_, rfl, .frzR rfl (look_ne rfl) rfl⟩, ⟨_, rfl, .frzR rfl (look_ne rfl) rfl⟩, ⟨_, rfl, .frzR rfl (look_ne rfl) rfl⟩, trivial⟩ trivial⟩
          · rintro Y hokm
            replace hokm : Y.length ≤ 20000 := hokm
            obtain hYl := hokm
            show awp _ _ _ _ (mk [(1, .sl 1 (bytesC bs)), (8, .sl 1 (bytesC (encHL ⟨m, su, ha⟩))), (10, .sl 1 (bytesC (encCL c))), (12, .sl 1 (bytesC X)), (13, .sl 1 (bytesC Y))] [] 0)
            refine awp_seq ?_
            refine awp_region (sys _ _ [56, 80, 88]) 0 104 mk_U rfl rfl ?_
            refine ch_s rfl .move rfl ?_
            refine ch_s rfl .move rfl ?_
            refine ch_s rfl .move rfl ?_
            refine ch_s rfl .move rfl ?_
            refine ch_s rfl .move rfl ?_
            refine ch_s rfl (.buildSl sl33 z5 (by decide) rfl (by repeat' (first | exact DcsE.nil | apply DcsE.cons | exact DcE.bool | exact DcE.sl | exact DcE.int (by first | decide | exact i64_range (by omega) | exact u8_range (by omega) | assumption) | exact DcE.str (by first | decide | assumption | omega) | exact DcE.ptr | exact DcE.nilF | exact DcE.nilI)) rfl) rfl ?_
            refine ch_s rfl .move rfl ?_
            first | refine ch_z rfl (.append sl33 .row .row (by simp only [List.length_append, List.length_cons, List.length_nil, List.length_take, List.length_drop, intsC_length, bytesC_length, strsC_length]; omega)) rfl rfl rfl ?_ | refine ch_z rfl (.append sl33 .row .sl (by simp only [List.length_append, List.length_cons, List.length_nil, List.length_take, List.length_drop, intsC_length, bytesC_length, strsC_length]; omega)) rfl rfl rfl ?_ | refine ch_z rfl (.append sl33 .row (.part (by simp only [List.length_append, List.length_cons, List.length_nil, List.length_take, List.length_drop, intsC_length, bytesC_length, strsC_length]; omega)) (by simp only [List.length_append, List.length_cons, List.length_nil, List.length_take, List.length_drop, intsC_length, bytesC_length, strsC_length]; omega)) rfl rfl rfl ?_ | refine ch_z rfl (.append sl33 .row .nil (by simp only [List.length_append, List.length_cons, List.length_nil, List.length_take, List.length_drop, intsC_length, bytesC_length, strsC_length]; omega)) rfl rfl rfl ?_ | refine ch_z rfl (.append sl33 .nil .row (by simp only [List.length_append, List.length_cons, List.length_nil, List.length_take, List.length_drop, intsC_length, bytesC_length, strsC_length]; omega)) rfl rfl rfl ?_ | refine ch_z rfl (.append sl33 .nil .sl (by simp only [List.length_append, List.length_cons, List.length_nil, List.length_take, List.length_drop, intsC_length, bytesC_length, strsC_length]; omega)) rfl rfl rfl ?_ | refine ch_z rfl (.append sl33 .nil (.part (by simp only [List.length_append, List.length_cons, List.length_nil, List.length_take, List.length_drop, intsC_length, bytesC_length, strsC_length]; omega)) (by simp only [List.length_append, List.length_cons, List.length_nil, List.length_take, List.length_drop, intsC_length, bytesC_length, strsC_length]; omega)) rfl rfl rfl ?_ | refine ch_z rfl (.append sl33 .nil .nil (by simp only [List.length_append, List.length_cons, List.length_nil, List.length_take, List.length_drop, intsC_length, bytesC_length, strsC_length]; omega)) rfl rfl rfl ?_ | refine ch_z rfl (.append sl33 (.part (by simp only [List.length_append, List.length_cons, List.length_nil, List.length_take, List.length_drop, intsC_length, bytesC_length, strsC_length]; omega)) .row (by simp only [List.length_append, List.length_cons, List.length_nil, List.length_take, List.length_drop, intsC_length, bytesC_length, strsC_length]; omega)) rfl rfl rfl ?_ | refine ch_z rfl (.append sl33 (.part (by simp only [List.length_append, List.length_cons, List.length_nil, List.length_take, List.length_drop, intsC_length, bytesC_length, strsC_length]; omega)) .sl (by simp only [List.length_append, List.length_cons, List.length_nil, List.length_take, List.length_drop, intsC_length, bytesC_length, strsC_length]; omega)) rfl rfl rfl ?_ | refine ch_z rfl (.append sl33 (.part (by simp only [List.length_append, List.length_cons, List.length_nil, List.length_take, List.length_drop, intsC_length, bytesC_length, strsC_length]; omega)) (.part (by simp only [List.length_append, List.length_cons, List.length_nil, List.length_take, List.length_drop, intsC_length, bytesC_length, strsC_length]; omega)) (by simp only [List.length_append, List.length_cons, List.length_nil, List.length_take, List.length_drop, intsC_length, bytesC_length, strsC_length]; omega)) rfl rfl rfl ?_ | refine ch_z rfl (.append sl33 (.part (by simp only [List.length_append, List.length_cons, List.length_nil, List.length_take, List.length_drop, intsC_length, bytesC_length, strsC_length]; omega)) .nil (by simp only [List.length_append, List.length_cons, List.length_nil, List.length_take, List.length_drop, intsC_length, bytesC_length, strsC_length]; omega)) rfl rfl rfl ?_
            refine ch_s rfl (.buildSl sl33 z5 (by decide) rfl (by repeat' (first | exact DcsE.nil | apply DcsE.cons | exact DcE.bool | exact DcE.sl | exact DcE.int (by first | decide | exact i64_range (by omega) | exact u8_range (by omega) | assumption) | exact DcE.str (by first | decide | assumption | omega) | exact DcE.ptr | exact DcE.nilF | exact DcE.nilI)) rfl) rfl ?_
            refine ch_s rfl .move rfl ?_
            first | refine ch_z rfl (.append sl33 .row .row (by simp only [List.length_append, List.length_cons, List.length_nil, List.length_take, List.length_drop, intsC_length, bytesC_length, strsC_length]; omega)) rfl rfl rfl ?_ | refine ch_z rfl (.append sl33 .row .sl (by simp only [List.length_append, List.length_cons, List.length_nil, List.length_take, List.length_drop, intsC_length, bytesC_length, strsC_length]; omega)) rfl rfl rfl ?_ | refine ch_z rfl (.append sl33 .row (.part (by simp only [List.length_append, List.length_cons, List.length_nil, List.length_take, List.length_drop, intsC_length, bytesC_length, strsC_length]; omega)) (by simp only [List.length_append, List.length_cons, List.length_nil, List.length_take, List.length_drop, intsC_length, bytesC_length, strsC_length]; omega)) rfl rfl rfl ?_ | refine ch_z rfl (.append sl33 .row .nil (by simp only [List.length_append, List.length_cons, List.length_nil, List.length_take, List.length_drop, intsC_length, bytesC_length, strsC_length]; omega)) rfl rfl rfl ?_ | refine ch_z rfl (.append sl33 .nil .row (by simp only [List.length_append, List.length_cons, List.length_nil, List.length_take, List.length_drop, intsC_length, bytesC_length, strsC_length]; omega)) rfl rfl rfl ?_ | refine ch_z rfl (.append sl33 .nil .sl (by simp only [List.length_append, List.length_cons, List.length_nil, List.length_take, List.length_drop, intsC_length, bytesC_length, strsC_length]; omega)) rfl rfl rfl ?_ | refine ch_z rfl (.append sl33 .nil (.part (by simp only [List.length_append, List.length_cons, List.length_nil, List.length_take, List.length_drop, intsC_length, bytesC_length, strsC_length]; omega)) (by simp only [List.length_append, List.length_cons, List.length_nil, List.length_take, List.length_drop, intsC_length, bytesC_length, strsC_length]; omega)) rfl rfl rfl ?_ | refine ch_z rfl (.append sl33 .nil .nil (by simp only [List.length_append, List.length_cons, List.length_nil, List.length_take, List.length_drop, intsC_length, bytesC_length, strsC_length]; omega)) rfl rfl rfl ?_ | refine ch_z rfl (.append sl33 (.part (by simp only [List.length_append, List.length_cons, List.length_nil, List.length_take, List.length_drop, intsC_length, bytesC_length, strsC_length]; omega)) .row (by simp only [List.length_append, List.length_cons, List.length_nil, List.length_take, List.length_drop, intsC_length, bytesC_length, strsC_length]; omega)) rfl rfl rfl ?_ | refine ch_z rfl (.append sl33 (.part (by simp only [List.length_append, List.length_cons, List.length_nil, List.length_take, List.length_drop, intsC_length, bytesC_length, strsC_length]; omega)) .sl (by simp only [List.length_append, List.length_cons, List.length_nil, List.length_take, List.length_drop, intsC_length, bytesC_length, strsC_length]; omega)) rfl rfl rfl ?_ | refine ch_z rfl (.append sl33 (.part (by simp only [List.length_append, List.length_cons, List.length_nil, List.length_take, List.length_drop, intsC_length, bytesC_length, strsC_length]; omega)) (.part (by simp only [List.length_append, List.length_cons, List.length_nil, List.length_take, List.length_drop, intsC_length, bytesC_length, strsC_length]; omega)) (by simp only [List.length_append, List.length_cons, List.length_nil, List.length_take, List.length_drop, intsC_length, bytesC_length, strsC_length]; omega)) rfl rfl rfl ?_ | refine ch_z rfl (.append sl33 (.part (by simp only [List.length_append, List.length_cons, List.length_nil, List.length_take, List.length_drop, intsC_length, bytesC_length, strsC_length]; omega)) .nil (by simp only [List.length_append, List.length_cons, List.length_nil, List.length_take, List.length_drop, intsC_length, bytesC_length, strsC_length]; omega)) rfl rfl rfl ?_
            refine ch_z rfl (.buildSl sl44 z33 (by decide) rfl (by repeat' (first | exact DcsE.nil | apply DcsE.cons | exact DcE.bool | exact DcE.sl | exact DcE.int (by first | decide | exact i64_range (by omega) | exact u8_range (by omega) | assumption) | exact DcE.str (by first | decide | assumption | omega) | exact DcE.ptr | exact DcE.nilF | exact DcE.nilI)) rfl) rfl rfl rfl ?_
            refine ch_s rfl .assign rfl ?_
            refine ch_q ?_
            intro hU104
            repeat (first | refine thn_normal ?_ | refine thn_exit ?_ | refine thn_ret ?_ | refine inB_here ?_ | refine inB_other (by decide) ?_ | refine inB_normal ?_ | refine inB_ret ?_)
            refine awp_seq ?_
            refine awp_seq ?_
            refine awp_region (sys _ _ []) 104 112 hU104 rfl rfl ?_
            obtain ⟨items, hit⟩ : ∃ items, [(encHL ⟨m, su, ha⟩), (encCL c), X, Y, bs, 1 :: bs, 2 :: bs] = items := ⟨_, rfl⟩
            have hil : items.length = 7 := by rw [← hit]; rfl
            have hitems : ∀ x ∈ items, x.length ≤ 1000000000 := by
              rw [← hit]
              intro x hx
              simp only [List.mem_cons, List.not_mem_nil, or_false] at hx
              rcases hx with rfl | rfl | rfl | rfl | rfl | rfl | rfl <;> (try simp only [List.length_cons]) <;> omega
            rw [show ([.sl 1 (bytesC (encHL ⟨m, su, ha⟩)), .sl 1 (bytesC (encCL c)), .sl 1 (bytesC X), .sl 1 (bytesC Y), .sl 1 (bytesC bs), .sl 1 ([C.int .u8 1] ++ bytesC bs), .sl 1 ([C.int .u8 2] ++ bytesC bs)] : List C) = rowsC items by rw [← hit]; rfl]
            refine ch_s rfl .assign rfl ?_
            refine ch_q ?_
            intro hU112
            repeat (first | refine thn_normal ?_ | refine thn_exit ?_ | refine thn_ret ?_ | refine inB_here ?_ | refine inB_other (by decide) ?_ | refine inB_normal ?_ | refine inB_ret ?_)
            refine awp_block ?_
            refine awp_loop (ι := Nat) (fun (i : Nat) => mk [(16, .sl 1 (rowsC items)), (17, .val (.int .i64 (i : Nat)))] [] 0) (fun (i : Nat) => i ≤ items.length) (fun (i : Nat) => items.length - i) 0 ?_ ?_ ?_
            · exact Sub.lists [] rfl rfl ⟨⟨_, rfl, .sl _ _⟩, ⟨_, rfl, .val _⟩, trivial⟩ trivial
            · exact Nat.zero_le _
            · rintro i hokl
              replace hokl : i ≤ items.length := hokl
              obtain hi := hokl
              show awp _ _ _ _ (mk [(16, .sl 1 (rowsC items)), (17, .val (.int .i64 (i : Nat)))] [] 0)
              refine awp_seq ?_
              refine awp_seq ?_
              refine awp_region (sys _ _ []) 0 32 mk_U rfl rfl ?_
              refine ch_s rfl .move rfl ?_
              refine ch_s rfl .move rfl ?_
              refine ch_s rfl (.len sl44.elem len_rows) rfl ?_
              refine ch_s rfl (.binOp bo_lss) rfl ?_
              refine ch_q ?_
              intro hU32
              repeat (first | refine thn_normal ?_ | refine thn_exit ?_ | refine thn_ret ?_ | refine inB_here ?_ | refine inB_other (by decide) ?_ | refine inB_normal ?_ | refine inB_ret ?_)
              refine awp_cond rfl (fun h8 => ?_) (fun h8 => ?_)
              · replace h8 := of_decide_eq_true h8
                refine awp_skip ?_
                repeat (first | refine thn_normal ?_ | refine thn_exit ?_ | refine thn_ret ?_ | refine inB_here ?_ | refine inB_other (by decide) ?_ | refine inB_normal ?_ | refine inB_ret ?_)
                refine awp_seq ?_
                refine awp_block ?_
                refine awp_seq ?_
                refine awp_region (sys _ _ []) 32 144 hU32 rfl rfl ?_
                obtain ⟨x, hx⟩ : ∃ x, items[i]? = some x := ⟨items[i], List.getElem?_eq_getElem (by omega)⟩
                have hxl : x.length ≤ 1000000000 := hitems x (List.mem_of_getElem? hx)
                refine ch_s rfl .move rfl ?_
                refine ch_s rfl .move rfl ?_
                refine ch_s rfl (.idxS sl44 (j := i) rfl (by rw [rowsC_length]; omega)) rfl ?_
                refine ch_s rfl (.loadE1 ty33 (rows_elt hx)) rfl ?_
                refine ch_call (ps := []) false (capture_fn x) rfl (by repeat' (first | exact ArL.nil | apply ArL.cons | exact Ar.flat Ar0.val | exact Ar.flat Ar0.sl | exact Ar.ptr rfl | exact Ar.row rfl | exact Ar.part rfl (by first | omega | (simp only [List.length_append, List.length_cons, List.length_nil, List.length_take, List.length_drop, intsC_length, bytesC_length, strsC_length]; omega)) | exact Ar.flat Ar0.nils | exact Ar.elt | apply Ar.agg | exact Ar0L.nil | apply Ar0L.cons | exact Ar0.val | exact Ar0.sl | exact Ar0.nils)) rfl rfl (by intro h; cases h) rfl (by intro h; first | (cases h; done) | exact ⟨_, _, ⟨rfl, rfl⟩, by simp, by simp, by trivial, by simp⟩) ?_
                rintro _ _ ⟨rfl, rfl⟩ hokr hokx
                refine ch_s rfl .move rfl ?_
                refine ch_s rfl (.extract rfl) rfl ?_
                refine ch_s rfl (.extract rfl) rfl ?_
                refine ch_s rfl (.extract rfl) rfl ?_
                refine ch_s rfl (.alloc z24) rfl ?_
                refine ch_s rfl (.alloc z26) rfl ?_
                first | refine ch_s rfl (.storeB ty24 rfl (Nat.le_of_ble_eq_true rfl) rfl) rfl ?_ | refine ch_s rfl (.storeR ty24 rfl (by simp only [List.length_append, List.length_cons, List.length_nil, List.length_take, List.length_drop, intsC_length, bytesC_length, strsC_length]; omega) (by repeat' (first | exact DcsE.nil | apply DcsE.cons | exact DcE.bool | exact DcE.sl | exact DcE.int (by first | decide | exact i64_range (by omega) | exact u8_range (by omega) | assumption) | exact DcE.str (by first | decide | assumption | omega) | exact DcE.ptr | exact DcE.nilF | exact DcE.nilI))) rfl ?_
                first | refine ch_s rfl (.storeB ty26 rfl (Nat.le_of_ble_eq_true rfl) rfl) rfl ?_ | refine ch_s rfl (.storeR ty26 rfl (by simp only [List.length_append, List.length_cons, List.length_nil, List.length_take, List.length_drop, intsC_length, bytesC_length, strsC_length]; omega) (by repeat' (first | exact DcsE.nil | apply DcsE.cons | exact DcE.bool | exact DcE.sl | exact DcE.int (by first | decide | exact i64_range (by omega) | exact u8_range (by omega) | assumption) | exact DcE.str (by first | decide | assumption | omega) | exact DcE.ptr | exact DcE.nilF | exact DcE.nilI))) rfl ?_
                refine ch_s rfl .assign rfl ?_
                refine ch_q ?_
                intro hU144
                repeat (first | refine thn_normal ?_ | refine thn_exit ?_ | refine thn_ret ?_ | refine inB_here ?_ | refine inB_other (by decide) ?_ | refine inB_normal ?_ | refine inB_ret ?_)
                refine awp_seq ?_
                refine awp_region (sys _ _ []) 144 256 hU144 rfl rfl ?_
                refine ch_s rfl .move rfl ?_
                refine ch_s rfl .move rfl ?_
                refine ch_s rfl (.idxS sl44 (j := i) rfl (by rw [rowsC_length]; omega)) rfl ?_
                refine ch_s rfl (.loadE1 ty33 (rows_elt hx)) rfl ?_
                refine ch_call (ps := []) false (capture2_fn x) rfl (by repeat' (first | exact ArL.nil | apply ArL.cons | exact Ar.flat Ar0.val | exact Ar.flat Ar0.sl | exact Ar.ptr rfl | exact Ar.row rfl | exact Ar.part rfl (by first | omega | (simp only [List.length_append, List.length_cons, List.length_nil, List.length_take, List.length_drop, intsC_length, bytesC_length, strsC_length]; omega)) | exact Ar.flat Ar0.nils | exact Ar.elt | apply Ar.agg | exact Ar0L.nil | apply Ar0L.cons | exact Ar0.val | exact Ar0.sl | exact Ar0.nils)) rfl rfl (by intro h; cases h) rfl (by intro h; first | (cases h; done) | exact ⟨_, _, ⟨rfl, rfl⟩, by simp, by simp, by trivial, by simp⟩) ?_
                rintro _ _ ⟨rfl, rfl⟩ hokr hokx
                refine ch_s rfl .move rfl ?_
                refine ch_s rfl (.extract rfl) rfl ?_
                refine ch_s rfl (.extract rfl) rfl ?_
                refine ch_s rfl (.extract rfl) rfl ?_
                refine ch_s rfl (.alloc z24) rfl ?_
                refine ch_s rfl (.alloc z26) rfl ?_
                first | refine ch_s rfl (.storeB ty24 rfl (Nat.le_of_ble_eq_true rfl) rfl) rfl ?_ | refine ch_s rfl (.storeR ty24 rfl (by simp only [List.length_append, List.length_cons, List.length_nil, List.length_take, List.length_drop, intsC_length, bytesC_length, strsC_length]; omega) (by repeat' (first | exact DcsE.nil | apply DcsE.cons | exact DcE.bool | exact DcE.sl | exact DcE.int (by first | decide | exact i64_range (by omega) | exact u8_range (by omega) | assumption) | exact DcE.str (by first | decide | assumption | omega) | exact DcE.ptr | exact DcE.nilF | exact DcE.nilI))) rfl ?_
                first | refine ch_s rfl (.storeB ty26 rfl (Nat.le_of_ble_eq_true rfl) rfl) rfl ?_ | refine ch_s rfl (.storeR ty26 rfl (by simp only [List.length_append, List.length_cons, List.length_nil, List.length_take, List.length_drop, intsC_length, bytesC_length, strsC_length]; omega) (by repeat' (first | exact DcsE.nil | apply DcsE.cons | exact DcE.bool | exact DcE.sl | exact DcE.int (by first | decide | exact i64_range (by omega) | exact u8_range (by omega) | assumption) | exact DcE.str (by first | decide | assumption | omega) | exact DcE.ptr | exact DcE.nilF | exact DcE.nilI))) rfl ?_
                refine ch_s rfl .assign rfl ?_
                refine ch_q ?_
                intro hU256
                repeat (first | refine thn_normal ?_ | refine thn_exit ?_ | refine thn_ret ?_ | refine inB_here ?_ | refine inB_other (by decide) ?_ | refine inB_normal ?_ | refine inB_ret ?_)
                refine awp_seq ?_
                refine awp_region (sys _ _ []) 256 336 hU256 rfl rfl ?_
                refine ch_s rfl .move rfl ?_
                refine ch_s rfl .move rfl ?_
                refine ch_s rfl (.idxS sl44 (j := i) rfl (by rw [rowsC_length]; omega)) rfl ?_
                refine ch_s rfl (.loadE1 ty33 (rows_elt hx)) rfl ?_
                refine ch_call (ps := []) false (messages_fn x) rfl (by repeat' (first | exact ArL.nil | apply ArL.cons | exact Ar.flat Ar0.val | exact Ar.flat Ar0.sl | exact Ar.ptr rfl | exact Ar.row rfl | exact Ar.part rfl (by first | omega | (simp only [List.length_append, List.length_cons, List.length_nil, List.length_take, List.length_drop, intsC_length, bytesC_length, strsC_length]; omega)) | exact Ar.flat Ar0.nils | exact Ar.elt | apply Ar.agg | exact Ar0L.nil | apply Ar0L.cons | exact Ar0.val | exact Ar0.sl | exact Ar0.nils)) rfl rfl (by intro h; cases h) rfl (by intro h; first | (cases h; done) | exact ⟨_, _, ⟨rfl, rfl⟩, by simp, by simp, by trivial, by simp⟩) ?_
                rintro _ _ ⟨rfl, rfl⟩ hokr hokx
                refine ch_s rfl .move rfl ?_
                refine ch_s rfl (.extract rfl) rfl ?_
                refine ch_s rfl (.extract rfl) rfl ?_
                refine ch_s rfl .assign rfl ?_
                refine ch_s rfl .assign rfl ?_
                refine ch_q ?_
                intro hU336
                repeat (first | refine thn_normal ?_ | refine thn_exit ?_ | refine thn_ret ?_ | refine inB_here ?_ | refine inB_other (by decide) ?_ | refine inB_normal ?_ | refine inB_ret ?_)
                refine awp_seq ?_
                refine awp_region (sys _ _ []) 336 416 hU336 rfl rfl ?_
                refine ch_s rfl .move rfl ?_
                refine ch_s rfl .move rfl ?_
                refine ch_s rfl (.idxS sl44 (j := i) rfl (by rw [rowsC_length]; omega)) rfl ?_
                refine ch_s rfl (.loadE1 ty33 (rows_elt hx)) rfl ?_
                refine ch_call (ps := []) false (messages2_fn x) rfl (by repeat' (first | exact ArL.nil | apply ArL.cons | exact Ar.flat Ar0.val | exact Ar.flat Ar0.sl | exact Ar.ptr rfl | exact Ar.row rfl | exact Ar.part rfl (by first | omega | (simp only [List.length_append, List.length_cons, List.length_nil, List.length_take, List.length_drop, intsC_length, bytesC_length, strsC_length]; omega)) | exact Ar.flat Ar0.nils | exact Ar.elt | apply Ar.agg | exact Ar0L.nil | apply Ar0L.cons | exact Ar0.val | exact Ar0.sl | exact Ar0.nils)) rfl rfl (by intro h; cases h) rfl (by intro h; first | (cases h; done) | exact ⟨_, _, ⟨rfl, rfl⟩, by simp, by simp, by trivial, by simp⟩) ?_
                rintro _ _ ⟨rfl, rfl⟩ hokr hokx
                refine ch_s rfl .move rfl ?_
                refine ch_s rfl (.extract rfl) rfl ?_
                refine ch_s rfl (.extract rfl) rfl ?_
                refine ch_s rfl .assign rfl ?_
                refine ch_s rfl .assign rfl ?_
                refine ch_q ?_
                intro hU416
                repeat (first | refine thn_normal ?_ | refine thn_exit ?_ | refine thn_ret ?_ | refine inB_here ?_ | refine inB_other (by decide) ?_ | refine inB_normal ?_ | refine inB_ret ?_)
                refine awp_seq ?_
                refine awp_region (sys _ _ []) 416 688 hU416 rfl rfl ?_
                refine ch_s rfl .move rfl ?_
                refine ch_s rfl .move rfl ?_
                refine ch_s rfl (.idxS sl44 (j := i) rfl (by rw [rowsC_length]; omega)) rfl ?_
                refine ch_s rfl (.loadE1 ty33 (rows_elt hx)) rfl ?_
                refine ch_call (ps := []) false (decoded_fn x hxl) rfl (by repeat' (first | exact ArL.nil | apply ArL.cons | exact Ar.flat Ar0.val | exact Ar.flat Ar0.sl | exact Ar.ptr rfl | exact Ar.row rfl | exact Ar.part rfl (by first | omega | (simp only [List.length_append, List.length_cons, List.length_nil, List.length_take, List.length_drop, intsC_length, bytesC_length, strsC_length]; omega)) | exact Ar.flat Ar0.nils | exact Ar.elt | apply Ar.agg | exact Ar0L.nil | apply Ar0L.cons | exact Ar0.val | exact Ar0.sl | exact Ar0.nils)) rfl rfl (by intro h; cases h) rfl (by intro h; first | (cases h; done) | exact ⟨_, _, ⟨rfl, rfl⟩, by simp, by simp, by trivial, by simp⟩) ?_
                rintro _ _ ⟨rfl, rfl⟩ hokr hokx
                refine ch_s rfl (.unOp uo_not) rfl ?_
                refine ch_s rfl .move rfl ?_
                refine ch_g rfl rfl .move rfl ?_
                refine ch_g rfl rfl .move rfl ?_
                refine ch_g rfl rfl (.binOp (bo_neq_f (fun hh => hh rfl))) rfl ?_
                refine ch_s rfl .pick rfl ?_
                refine ch_s rfl .move rfl ?_
                first | refine ch_g rfl rfl (.loadBA ty26 (Nat.le_of_ble_eq_true rfl)) rfl ?_ | refine ch_g rfl rfl (.loadEA ty26 (by simp only [List.length_append, List.length_cons, List.length_nil, List.length_take, List.length_drop, intsC_length, bytesC_length, strsC_length]; omega)) rfl ?_ | refine ch_g rfl rfl (.loadRA ty26 (by simp only [List.length_append, List.length_cons, List.length_nil, List.length_take, List.length_drop, intsC_length, bytesC_length, strsC_length]; omega)) rfl ?_
                first | refine ch_g rfl rfl (.loadBA ty26 (Nat.le_of_ble_eq_true rfl)) rfl ?_ | refine ch_g rfl rfl (.loadEA ty26 (by simp only [List.length_append, List.length_cons, List.length_nil, List.length_take, List.length_drop, intsC_length, bytesC_length, strsC_length]; omega)) rfl ?_ | refine ch_g rfl rfl (.loadRA ty26 (by simp only [List.length_append, List.length_cons, List.length_nil, List.length_take, List.length_drop, intsC_length, bytesC_length, strsC_length]; omega)) rfl ?_
                refine ch_g rfl rfl (.binOpA rfl rfl ch_neq_f) rfl ?_
                refine ch_s rfl .pick rfl ?_
                refine ch_s rfl .move rfl ?_
                first | refine ch_g rfl rfl (.loadBA ty24 (Nat.le_of_ble_eq_true rfl)) rfl ?_ | refine ch_g rfl rfl (.loadEA ty24 (by simp only [List.length_append, List.length_cons, List.length_nil, List.length_take, List.length_drop, intsC_length, bytesC_length, strsC_length]; omega)) rfl ?_ | refine ch_g rfl rfl (.loadRA ty24 (by simp only [List.length_append, List.length_cons, List.length_nil, List.length_take, List.length_drop, intsC_length, bytesC_length, strsC_length]; omega)) rfl ?_
                first | refine ch_g rfl rfl (.loadBA ty24 (Nat.le_of_ble_eq_true rfl)) rfl ?_ | refine ch_g rfl rfl (.loadEA ty24 (by simp only [List.length_append, List.length_cons, List.length_nil, List.length_take, List.length_drop, intsC_length, bytesC_length, strsC_length]; omega)) rfl ?_ | refine ch_g rfl rfl (.loadRA ty24 (by simp only [List.length_append, List.length_cons, List.length_nil, List.length_take, List.length_drop, intsC_length, bytesC_length, strsC_length]; omega)) rfl ?_
                refine ch_callg (ps := []) false rfl (same_t (capD x).h (okM_cap x)) rfl (by repeat' (first | exact ArL.nil | apply ArL.cons | exact Ar.flat Ar0.val | exact Ar.flat Ar0.sl | exact Ar.ptr rfl | exact Ar.row rfl | exact Ar.part rfl (by first | omega | (simp only [List.length_append, List.length_cons, List.length_nil, List.length_take, List.length_drop, intsC_length, bytesC_length, strsC_length]; omega)) | exact Ar.flat Ar0.nils | exact Ar.elt | apply Ar.agg | exact Ar0L.nil | apply Ar0L.cons | exact Ar0.val | exact Ar0.sl | exact Ar0.nils)) rfl rfl (by intro h; cases h) rfl (by intro h; first | (cases h; done) | exact ⟨_, _, ⟨rfl, rfl⟩, by simp, by simp, by trivial, by simp⟩) ?_
                rintro _ _ ⟨rfl, rfl⟩ hokr hokx
                refine ch_g rfl rfl (.unOp uo_not) rfl ?_
                refine ch_s rfl .pick rfl ?_
                refine ch_s rfl .move rfl ?_
                refine ch_g rfl rfl .move rfl ?_
                refine ch_g rfl rfl .move rfl ?_
                refine ch_g rfl rfl (.binOp (bo_neq_f (fun hh => hh rfl))) rfl ?_
                refine ch_s rfl .pick rfl ?_
                refine ch_s rfl .move rfl ?_
                refine ch_g rfl rfl .move rfl ?_
                first | refine ch_g rfl rfl (.convS und33 und5 und9 .sl rfl) rfl ?_ | refine ch_g rfl rfl (.convS und33 und5 und9 .row rfl) rfl ?_ | refine ch_g rfl rfl (.convS und33 und5 und9 (.part (by omega)) rfl) rfl ?_
                refine ch_g rfl rfl .move rfl ?_
                first | refine ch_g rfl rfl (.convS und33 und5 und9 .sl rfl) rfl ?_ | refine ch_g rfl rfl (.convS und33 und5 und9 .row rfl) rfl ?_ | refine ch_g rfl rfl (.convS und33 und5 und9 (.part (by omega)) rfl) rfl ?_
                refine ch_g rfl rfl (.binOp (bo_sneq_f (fun hh => hh rfl))) rfl ?_
                refine ch_s rfl .pick rfl ?_
                refine ch_q ?_
                intro hU688
                repeat (first | refine thn_normal ?_ | refine thn_exit ?_ | refine thn_ret ?_ | refine inB_here ?_ | refine inB_other (by decide) ?_ | refine inB_normal ?_ | refine inB_ret ?_)
                refine awp_cond rfl (fun h9 => ?_) (fun h9 => ?_)
                · cases h9
                · refine awp_skip ?_
                  repeat (first | refine thn_normal ?_ | refine thn_exit ?_ | refine thn_ret ?_ | refine inB_here ?_ | refine inB_other (by decide) ?_ | refine inB_normal ?_ | refine inB_ret ?_)
                  refine awp_region (sys _ _ []) 688 712 hU688 rfl rfl ?_
                  refine ch_s rfl .move rfl ?_
                  first | refine ch_s rfl (.binOp (bo_add (by omega))) rfl ?_ | refine ch_s rfl (.binOp bo_addw) rfl ?_
                  refine ch_s rfl .assign rfl ?_
                  refine ch_q ?_
                  intro hU712
                  repeat (first | refine thn_normal ?_ | refine thn_exit ?_ | refine thn_ret ?_ | refine inB_here ?_ | refine inB_other (by decide) ?_ | refine inB_normal ?_ | refine inB_ret ?_)
                  refine ⟨i + 1, ?_, (by show i + 1 ≤ items.length; omega), Sub.lists [] rfl rfl ⟨⟨_, rfl, .sl _ _⟩, ⟨_, rfl, .val _⟩, trivial⟩ trivial⟩
                  show items.length - (i + 1) < items.length - i
                  omega
              · replace h8 := of_decide_eq_false h8
                refine awp_exit ?_
                repeat (first | refine thn_normal ?_ | refine thn_exit ?_ | refine thn_ret ?_ | refine inB_here ?_ | refine inB_other (by decide) ?_ | refine inB_normal ?_ | refine inB_ret ?_)
                refine awp_seq ?_
                refine awp_region (sys _ _ []) 32 48 hU32 rfl rfl ?_
                refine ch_call (ps := []) false (awake_fn) rfl (by repeat' (first | exact ArL.nil | apply ArL.cons | exact Ar.flat Ar0.val | exact Ar.flat Ar0.sl | exact Ar.ptr rfl | exact Ar.row rfl | exact Ar.part rfl (by first | omega | (simp only [List.length_append, List.length_cons, List.length_nil, List.length_take, List.length_drop, intsC_length, bytesC_length, strsC_length]; omega)) | exact Ar.flat Ar0.nils | exact Ar.elt | apply Ar.agg | exact Ar0L.nil | apply Ar0L.cons | exact Ar0.val | exact Ar0.sl | exact Ar0.nils)) rfl rfl (by intro h; cases h) rfl (by intro h; first | (cases h; done) | exact ⟨_, _, ⟨rfl, rfl⟩, by simp, by simp, by trivial, by simp⟩) ?_
                rintro _ _ ⟨rfl, rfl⟩ hokr hokx
                refine ch_s rfl .assign rfl ?_
                refine ch_q ?_
                intro hU48
                repeat (first | refine thn_normal ?_ | refine thn_exit ?_ | refine thn_ret ?_ | refine inB_here ?_ | refine inB_other (by decide) ?_ | refine inB_normal ?_ | refine inB_ret ?_)
                refine awp_ret ?_
                repeat (first | refine thn_normal ?_ | refine thn_exit ?_ | refine thn_ret ?_ | refine inB_here ?_ | refine inB_other (by decide) ?_ | refine inB_normal ?_ | refine inB_ret ?_)
                exact ⟨[_], _, [], [], .cons (.tmp rfl) .nil, ⟨rfl, rfl⟩, .val _, trivial, rfl, rfl, rfl, rfl⟩
  · refine awp_region (sys _ _ []) 8 72 hU8 rfl rfl ?_
    refine ch_s rfl .move rfl ?_
    refine ch_call (ps := []) false (light_f _ hL) rfl (by repeat' (first | exact ArL.nil | apply ArL.cons | exact Ar.flat Ar0.val | exact Ar.flat Ar0.sl | exact Ar.ptr rfl | exact Ar.row rfl | exact Ar.part rfl (by first | omega | (simp only [List.length_append, List.length_cons, List.length_nil, List.length_take, List.length_drop, intsC_length, bytesC_length, strsC_length]; omega)) | exact Ar.flat Ar0.nils | exact Ar.elt | apply Ar.agg | exact Ar0L.nil | apply Ar0L.cons | exact Ar0.val | exact Ar0.sl | exact Ar0.nils)) rfl rfl (by intro h; cases h) rfl (by intro h; first | (cases h; done) | exact ⟨_, _, ⟨rfl, rfl⟩, by simp, by simp, by trivial, by simp⟩) ?_
    rintro _ _ ⟨rfl, rfl⟩ hokr hokx
    refine ch_s rfl (.unOp uo_not) rfl ?_
    refine ch_s rfl .move rfl ?_
    refine ch_skip rfl rfl ?_
    refine ch_skip rfl rfl ?_
    refine ch_skip rfl rfl ?_
    refine ch_s rfl .pick rfl ?_
    refine ch_q ?_
    intro hU72
    repeat (first | refine thn_normal ?_ | refine thn_exit ?_ | refine thn_ret ?_ | refine inB_here ?_ | refine inB_other (by decide) ?_ | refine inB_normal ?_ | refine inB_ret ?_)
    refine awp_cond rfl (fun h10 => ?_) (fun h10 => ?_)
    · refine awp_seq ?_
      refine awp_region (sys _ _ []) 72 88 hU72 rfl rfl ?_
      refine ch_call (ps := []) false (awake_fn) rfl (by repeat' (first | exact ArL.nil | apply ArL.cons | exact Ar.flat Ar0.val | exact Ar.flat Ar0.sl | exact Ar.ptr rfl | exact Ar.row rfl | exact Ar.part rfl (by first | omega | (simp only [List.length_append, List.length_cons, List.length_nil, List.length_take, List.length_drop, intsC_length, bytesC_length, strsC_length]; omega)) | exact Ar.flat Ar0.nils | exact Ar.elt | apply Ar.agg | exact Ar0L.nil | apply Ar0L.cons | exact Ar0.val | exact Ar0.sl | exact Ar0.nils)) rfl rfl (by intro h; cases h) rfl (by intro h; first | (cases h; done) | exact ⟨_, _, ⟨rfl, rfl⟩, by simp, by simp, by trivial, by simp⟩) ?_
      rintro _ _ ⟨rfl, rfl⟩ hokr hokx
      refine ch_s rfl .assign rfl ?_
      refine ch_q ?_
      intro hU88
      repeat (first | refine thn_normal ?_ | refine thn_exit ?_ | refine thn_ret ?_ | refine inB_here ?_ | refine inB_other (by decide) ?_ | refine inB_normal ?_ | refine inB_ret ?_)
      refine awp_ret ?_
      repeat (first | refine thn_normal ?_ | refine thn_exit ?_ | refine thn_ret ?_ | refine inB_here ?_ | refine inB_other (by decide) ?_ | refine inB_normal ?_ | refine inB_ret ?_)
      exact ⟨[_], _, [], [], .cons (.tmp rfl) .nil, ⟨rfl, rfl⟩, .val _, trivial, rfl, rfl, rfl, rfl⟩
    · cases h10
end Go.Proofs.Ythjgcmifggdepaa
