/- HandshakeMade, by the engine. -/
import Derived.Test.YthjgcmifggdepaaX5
set_option linter.unusedVariables false
set_option linter.unusedSimpArgs false
namespace Go.Proofs.Ythjgcmifggdepaa
open Go.RowKit
theorem und5 : Try.prog.underlying 5 = some (.int .u8) := by kernel_rfl
theorem und9 : Try.prog.underlying 9 = some (.string) := by kernel_rfl
theorem und33 : Try.prog.underlying 33 = some (.slice 5) := by kernel_rfl
theorem light_t (l : List Int) (h : l.length ≤ 400) : Fn Try.prog 8 [.sl 1 (intsC l)] [] (fun r b => r = .val (.bool true) ∧ b = []) := (light_fn l).mono fun r b ⟨h1, h2⟩ => ⟨by rw [h1, decide_eq_true h], h2⟩
theorem light_f (l : List Int) (h : ¬ l.length ≤ 400) : Fn Try.prog 8 [.sl 1 (intsC l)] [] (fun r b => r = .val (.bool false) ∧ b = []) := (light_fn l).mono fun r b ⟨h1, h2⟩ => ⟨by rw [h1, decide_eq_false h], h2⟩
theorem same_t (a : Hl) (ha : okM a) : Fn Try.prog 27 [hD a, hD a] [] (fun r x => r = .val (.bool true) ∧ x = []) := (sameHello_fn a a ha ha).mono fun r b ⟨h1, h2⟩ => ⟨by rw [h1, sameHB_refl], h2⟩
theorem decode_fnD (l : List UInt8) (d : Dc) (hd : decD l = d) (hl : l.length ≤ 1000000000) : Fn Try.prog 31 [.sl 1 (bytesC l)] [] (decR d) := hd ▸ decode_fn l hl
theorem encH_0 {h : Hl} (he : encHE h = 0) : helloB h = true ∧ encHL h = rawH h := by
  unfold encHE at he
  unfold encHL
  cases hb : helloB h with
  | true => exact ⟨rfl, by rw [if_pos rfl]⟩
  | false => rw [hb] at he; simp at he
theorem encC_0 {c : Ch} (he : encCE c = 0) : choiceB c = true ∧ encCL c = rawC c := by
  unfold encCE at he
  unfold encCL
  cases hb : choiceB c with
  | true => exact ⟨rfl, by rw [if_pos rfl]⟩
  | false => rw [hb] at he; simp at he
theorem decH_more {h : Hl} (he : encHE h = 0) (rest : List UInt8) : decD (encHL h ++ rest) = ⟨h, zC, ((encHL h).length : Nat), 0⟩ := by
  obtain ⟨h1, h2⟩ := encH_0 he
  rw [h2, decD_rawH h1]
theorem decC_more {c : Ch} (he : encCE c = 0) (rest : List UInt8) : decD (encCL c ++ rest) = ⟨zH, c, ((encCL c).length : Nat), 0⟩ := by
  obtain ⟨h1, h2⟩ := encC_0 he
  rw [h2, decD_rawC h1]
  rfl
theorem encH_short {h : Hl} : (encHL h).length ≤ 1000 := by
  unfold encHL
  cases hb : helloB h with
  | false => simp
  | true =>
    rw [if_pos rfl, rawH_len]
    unfold helloB at hb
    simp only [Bool.and_eq_true, decide_eq_true_eq] at hb
    omega
theorem encC_short {c : Ch} : (encCL c).length ≤ 8 := by
  unfold encCL
  split
  · exact Nat.le_refl _
  · simp
theorem g26 : Try.prog.eqGuardType Try.prog.depth 26 = false := by kernel_rfl
theorem f26 : Try.prog.underlying 26 = some (.struct (Try.prog.fieldsOf 26)) := by kernel_rfl
theorem p26 : Try.prog.stoodInHeld 26 = false := by kernel_rfl
theorem ch_eq {a b c : Int} (w : World) : (Op.equalIn 10000 26 (.agg #[.int .i64 a, .int .i64 b, .int .i64 c]) (.agg #[.int .i64 a, .int .i64 b, .int .i64 c])).run Try.prog w = .ok true w := by
  have u3 := Try.underlying3
  have a3 := Try.isAgg3
  have z3 := Try.sizeOf3
  rw [show (10000 : Nat) = 9999 + 1 from rfl, run_equalIn_agg w 9999 26 _ _ f26 p26]
  simp only [Program.fieldsOf, Try.underlying26]
  go_simp
theorem ch_eql_t {X Y : Operand} {a b c : Int} : BO Try.prog .eql 26 X Y (.agg [.int .i64 a, .int .i64 b, .int .i64 c].toArray) (.agg [.int .i64 a, .int .i64 b, .int .i64 c].toArray) (.bool true) := fun w => by
  rw [Sem.run_bind, run_eqGuard_agg w _ 26 X Y _ _ g26]
  simp only [Result.andThen_ok, run_eql_struct, ch_eq]
theorem ch_neq_f {X Y : Operand} {a b c : Int} : BO Try.prog .neq 26 X Y (.agg [.int .i64 a, .int .i64 b, .int .i64 c].toArray) (.agg [.int .i64 a, .int .i64 b, .int .i64 c].toArray) (.bool false) := fun w => by
  rw [Sem.run_bind, run_eqGuard_agg w _ 26 X Y _ _ g26]
  simp only [Result.andThen_ok, run_neq_struct, ch_eq]
  rfl
set_option maxRecDepth 100000 in
set_option maxHeartbeats 800000 in
theorem made_fn (l : List Int) (h0 : Hl) (c0 : Ch) (hm0 : okM h0) : Fn Try.prog 3 [.sl 1 (intsC l), hD h0, cD c0] [] (fun r b => r = .val (.bool true) ∧ b = []) := by
  refine Fn.of Try.func3 rfl rfl rfl fun hok hokb w0 I ρ0 => ?_
  show awp _ ⟨w0, I, ρ0, 0, 88⟩ _ _ _
  refine awp_seq ?_
  refine awp_region (sys _ _ []) 0 24 mk_U rfl rfl ?_
  refine ch_s rfl (.box rfl) rfl ?_
  refine ch_s rfl (.box rfl) rfl ?_
  refine ch_s rfl .assign rfl ?_
  refine ch_q ?_
  intro hU24
  repeat (first | refine thn_normal ?_ | refine thn_exit ?_ | refine thn_ret ?_ | refine inB_here ?_ | refine inB_other (by decide) ?_ | refine inB_normal ?_ | refine inB_ret ?_)
  refine awp_seq ?_
  refine awp_seq ?_
  by_cases hL : l.length ≤ 400
  · refine awp_region (sys _ _ []) 24 128 hU24 rfl rfl ?_
    refine ch_s rfl .move rfl ?_
    refine ch_call (ps := []) false (light_t _ hL) rfl (by repeat' (first | exact ArL.nil | apply ArL.cons | exact Ar.flat Ar0.val | exact Ar.flat Ar0.sl | exact Ar.ptr rfl | exact Ar.row rfl | exact Ar.part rfl (by first | omega | (simp only [List.length_append, List.length_cons, List.length_nil, List.length_take, List.length_drop, intsC_length, bytesC_length, strsC_length]; omega)) | exact Ar.flat Ar0.nils | exact Ar.elt | apply Ar.agg | exact Ar0L.nil | apply Ar0L.cons | exact Ar0.val | exact Ar0.sl | exact Ar0.nils)) rfl rfl (by intro h; cases h) rfl (by intro h; first | (cases h; done) | exact ⟨_, _, ⟨rfl, rfl⟩, by simp, by simp, by trivial, by simp⟩) ?_
    rintro _ _ ⟨rfl, rfl⟩ hokr hokx
    refine ch_s rfl (.unOp uo_not) rfl ?_
    refine ch_s rfl .move rfl ?_
    first | refine ch_g rfl rfl (.fieldP fd24_1 ty22 (by decide)) rfl ?_ | refine ch_g rfl rfl (.fieldE fd24_1 ty22 (by decide) (by simp only [List.length_append, List.length_cons, List.length_nil, List.length_take, List.length_drop, intsC_length, bytesC_length, strsC_length]; omega)) rfl ?_
    first | refine ch_g rfl rfl (.loadB1 ty22 rfl) rfl ?_ | refine ch_g rfl rfl (.loadE1 ty22 (by first | rfl | assumption | exact ints_elt (by assumption) | exact ints_row' (by assumption) | exact bytes_elt (by assumption) | exact bytes_row' (by assumption) | exact strs_elt (by assumption))) rfl ?_ | refine ch_g rfl rfl (.loadR1 ty22 (by first | rfl | assumption | exact ints_elt (by assumption) | exact ints_row' (by assumption) | exact bytes_elt (by assumption) | exact bytes_row' (by assumption) | exact strs_elt (by assumption))) rfl ?_
    first | refine ch_g rfl rfl (.len sl22.elem len_ints) rfl ?_ | refine ch_g rfl rfl (.len sl22.elem len_rints) rfl ?_ | refine ch_g rfl rfl (.len sl22.elem .part) rfl ?_ | refine ch_g rfl rfl (.len sl22.elem len_bytes) rfl ?_ | refine ch_g rfl rfl (.len sl22.elem len_rbytes) rfl ?_ | refine ch_g rfl rfl (.len sl22.elem len_strs) rfl ?_ | refine ch_g rfl rfl (.len sl22.elem len_rstrs) rfl ?_ | refine ch_g rfl rfl (.len sl22.elem (.sl (by decide) (by assumption))) rfl ?_ | refine ch_g rfl rfl (.len sl22.elem (.row (by decide) (by assumption))) rfl ?_
    first | refine ch_g rfl rfl (.fieldP fd24_2 ty22 (by decide)) rfl ?_ | refine ch_g rfl rfl (.fieldE fd24_2 ty22 (by decide) (by simp only [List.length_append, List.length_cons, List.length_nil, List.length_take, List.length_drop, intsC_length, bytesC_length, strsC_length]; omega)) rfl ?_
    first | refine ch_g rfl rfl (.loadB1 ty22 rfl) rfl ?_ | refine ch_g rfl rfl (.loadE1 ty22 (by first | rfl | assumption | exact ints_elt (by assumption) | exact ints_row' (by assumption) | exact bytes_elt (by assumption) | exact bytes_row' (by assumption) | exact strs_elt (by assumption))) rfl ?_ | refine ch_g rfl rfl (.loadR1 ty22 (by first | rfl | assumption | exact ints_elt (by assumption) | exact ints_row' (by assumption) | exact bytes_elt (by assumption) | exact bytes_row' (by assumption) | exact strs_elt (by assumption))) rfl ?_
    first | refine ch_g rfl rfl (.len sl22.elem len_ints) rfl ?_ | refine ch_g rfl rfl (.len sl22.elem len_rints) rfl ?_ | refine ch_g rfl rfl (.len sl22.elem .part) rfl ?_ | refine ch_g rfl rfl (.len sl22.elem len_bytes) rfl ?_ | refine ch_g rfl rfl (.len sl22.elem len_rbytes) rfl ?_ | refine ch_g rfl rfl (.len sl22.elem len_strs) rfl ?_ | refine ch_g rfl rfl (.len sl22.elem len_rstrs) rfl ?_ | refine ch_g rfl rfl (.len sl22.elem (.sl (by decide) (by assumption))) rfl ?_ | refine ch_g rfl rfl (.len sl22.elem (.row (by decide) (by assumption))) rfl ?_
    first | refine ch_g rfl rfl (.binOp (bo_add (by omega))) rfl ?_ | refine ch_g rfl rfl (.binOp bo_addw) rfl ?_
    refine ch_g rfl rfl (.binOp bo_gtr) rfl ?_
    refine ch_s rfl .pick rfl ?_
    refine ch_q ?_
    intro hU128
    repeat (first | refine thn_normal ?_ | refine thn_exit ?_ | refine thn_ret ?_ | refine inB_here ?_ | refine inB_other (by decide) ?_ | refine inB_normal ?_ | refine inB_ret ?_)
    refine awp_cond rfl (fun h1 => ?_) (fun h1 => ?_)
    · replace h1 := of_decide_eq_true h1
      refine awp_seq ?_
      refine awp_region (sys _ _ []) 128 144 hU128 rfl rfl ?_
      refine ch_call (ps := []) false (awake_fn) rfl (by repeat' (first | exact ArL.nil | apply ArL.cons | exact Ar.flat Ar0.val | exact Ar.flat Ar0.sl | exact Ar.ptr rfl | exact Ar.row rfl | exact Ar.part rfl (by first | omega | (simp only [List.length_append, List.length_cons, List.length_nil, List.length_take, List.length_drop, intsC_length, bytesC_length, strsC_length]; omega)) | exact Ar.flat Ar0.nils | exact Ar.elt | apply Ar.agg | exact Ar0L.nil | apply Ar0L.cons | exact Ar0.val | exact Ar0.sl | exact Ar0.nils)) rfl rfl (by intro h; cases h) rfl (by intro h; first | (cases h; done) | exact ⟨_, _, ⟨rfl, rfl⟩, by simp, by simp, by trivial, by simp⟩) ?_
      rintro _ _ ⟨rfl, rfl⟩ hokr hokx
      refine ch_s rfl .assign rfl ?_
      refine ch_q ?_
      intro hU144
      repeat (first | refine thn_normal ?_ | refine thn_exit ?_ | refine thn_ret ?_ | refine inB_here ?_ | refine inB_other (by decide) ?_ | refine inB_normal ?_ | refine inB_ret ?_)
      refine awp_ret ?_
      repeat (first | refine thn_normal ?_ | refine thn_exit ?_ | refine thn_ret ?_ | refine inB_here ?_ | refine inB_other (by decide) ?_ | refine inB_normal ?_ | refine inB_ret ?_)
      exact ⟨[_], _, [], [], .cons (.tmp rfl) .nil, ⟨rfl, rfl⟩, .val _, trivial, rfl, rfl, rfl, rfl⟩
    · replace h1 := of_decide_eq_false h1
      refine awp_skip ?_
      repeat (first | refine thn_normal ?_ | refine thn_exit ?_ | refine thn_ret ?_ | refine inB_here ?_ | refine inB_other (by decide) ?_ | refine inB_normal ?_ | refine inB_ret ?_)
      refine awp_seq ?_
      refine awp_region (sys _ _ []) 128 152 hU128 rfl rfl ?_
      refine ch_s rfl .move rfl ?_
      refine ch_call (ps := []) false (roll_fn _) rfl (by repeat' (first | exact ArL.nil | apply ArL.cons | exact Ar.flat Ar0.val | exact Ar.flat Ar0.sl | exact Ar.ptr rfl | exact Ar.row rfl | exact Ar.part rfl (by first | omega | (simp only [List.length_append, List.length_cons, List.length_nil, List.length_take, List.length_drop, intsC_length, bytesC_length, strsC_length]; omega)) | exact Ar.flat Ar0.nils | exact Ar.elt | apply Ar.agg | exact Ar0L.nil | apply Ar0L.cons | exact Ar0.val | exact Ar0.sl | exact Ar0.nils)) rfl rfl (by intro h; cases h) rfl (by intro h; first | (cases h; done) | exact ⟨_, _, ⟨rfl, rfl⟩, by simp, by simp, by trivial, by simp⟩) ?_
      rintro _ _ ⟨rfl, rfl⟩ hokr hokx
      refine ch_s rfl .assign rfl ?_
      refine ch_q ?_
      intro hU152
      repeat (first | refine thn_normal ?_ | refine thn_exit ?_ | refine thn_ret ?_ | refine inB_here ?_ | refine inB_other (by decide) ?_ | refine inB_normal ?_ | refine inB_ret ?_)
      refine awp_seq ?_
      refine awp_regionL ?_
      refine AwpL.chain (sys _ _ []) 8 152 216 hU152 rfl rfl ?_
      refine ch_s rfl .move rfl ?_
      refine ch_call (ps := [136]) false (hello_fn l 0 (by omega)) rfl (by repeat' (first | exact ArL.nil | apply ArL.cons | exact Ar.flat Ar0.val | exact Ar.flat Ar0.sl | exact Ar.ptr rfl | exact Ar.row rfl | exact Ar.part rfl (by first | omega | (simp only [List.length_append, List.length_cons, List.length_nil, List.length_take, List.length_drop, intsC_length, bytesC_length, strsC_length]; omega)) | exact Ar.flat Ar0.nils | exact Ar.elt | apply Ar.agg | exact Ar0L.nil | apply Ar0L.cons | exact Ar0.val | exact Ar0.sl | exact Ar0.nils)) (.cons' (List.mem_cons_self ..) (.cons .sl (.cons .val .nil)) rfl) rfl (by intro h; cases h) rfl (by intro h; first | (cases h; done) | exact trivial) ?_
      rintro _ _ ⟨m, su, ha, q1, rfl, hm, hsl, hhl, hq1, rfl⟩ hokr hokx
      refine ch_s rfl .move rfl ?_
      refine ch_call (ps := [136]) false (choice_fn l _ (by omega)) rfl (by repeat' (first | exact ArL.nil | apply ArL.cons | exact Ar.flat Ar0.val | exact Ar.flat Ar0.sl | exact Ar.ptr rfl | exact Ar.row rfl | exact Ar.part rfl (by first | omega | (simp only [List.length_append, List.length_cons, List.length_nil, List.length_take, List.length_drop, intsC_length, bytesC_length, strsC_length]; omega)) | exact Ar.flat Ar0.nils | exact Ar.elt | apply Ar.agg | exact Ar0L.nil | apply Ar0L.cons | exact Ar0.val | exact Ar0.sl | exact Ar0.nils)) (.cons' (List.mem_cons_self ..) (.cons .sl (.cons .val .nil)) rfl) rfl (by intro h; cases h) rfl (by intro h; first | (cases h; done) | exact trivial) ?_
      rintro _ _ ⟨c, q2, rfl, hq2, rfl⟩ hokr hokx
      refine ch_s rfl (.alloc z24) rfl ?_
      refine ch_s rfl (.alloc z26) rfl ?_
      first | refine ch_s rfl (.storeB ty24 rfl (Nat.le_of_ble_eq_true rfl) rfl) rfl ?_ | refine ch_s rfl (.storeR ty24 rfl (by simp only [List.length_append, List.length_cons, List.length_nil, List.length_take, List.length_drop, intsC_length, bytesC_length, strsC_length]; omega) (by repeat' (first | exact DcsE.nil | apply DcsE.cons | exact DcE.bool | exact DcE.sl | exact DcE.int (by first | decide | exact i64_range (by omega) | exact u8_range (by omega) | assumption) | exact DcE.str (by first | decide | assumption | omega) | exact DcE.ptr | exact DcE.nilF | exact DcE.nilI))) rfl ?_
      first | refine ch_s rfl (.storeB ty26 rfl (Nat.le_of_ble_eq_true rfl) rfl) rfl ?_ | refine ch_s rfl (.storeR ty26 rfl (by simp only [List.length_append, List.length_cons, List.length_nil, List.length_take, List.length_drop, intsC_length, bytesC_length, strsC_length]; omega) (by repeat' (first | exact DcsE.nil | apply DcsE.cons | exact DcE.bool | exact DcE.sl | exact DcE.int (by first | decide | exact i64_range (by omega) | exact u8_range (by omega) | assumption) | exact DcE.str (by first | decide | assumption | omega) | exact DcE.ptr | exact DcE.nilF | exact DcE.nilI))) rfl ?_
      refine ch_l ?_
      intro hUc152_7
      refine AwpL.sub (Sub.frz (j := 160) rfl rfl) ?_
      refine AwpL.sub (Sub.frz (j := 161) rfl rfl) ?_
      refine AwpL.chain (sys _ _ []) 0 216 216 hUc152_7 rfl rfl ?_
      refine ch_l ?_
      intro hU216
      refine AwpL.fin ?_
      repeat (first | refine thn_normal ?_ | refine thn_exit ?_ | refine thn_ret ?_ | refine inB_here ?_ | refine inB_other (by decide) ?_ | refine inB_normal ?_ | refine inB_ret ?_)
      refine awp_seq ?_
      refine awp_seq ?_
      refine awp_region (sys _ _ []) 216 224 hU216 rfl rfl ?_
      refine ch_s rfl .assign rfl ?_
      refine ch_q ?_
      intro hU224
      repeat (first | refine thn_normal ?_ | refine thn_exit ?_ | refine thn_ret ?_ | refine inB_here ?_ | refine inB_other (by decide) ?_ | refine inB_normal ?_ | refine inB_ret ?_)
      refine awp_block ?_
      refine awp_loop (ι := Nat × Hl × Ch) (fun ((i, h, c) : Nat × Hl × Ch) => mk [(4, .ptr 0 0), (5, .ptr 1 0), (8, .ptr 2 0), (9, .ptr 3 0), (10, .val (.int .i64 (i : Nat)))] [(0, .box [.val (.int .i64 h0.most), .sl 1 (intsC h0.su), .sl 1 (intsC h0.ha)] 24), (1, .box [.val (.int .i64 c0.ver), .val (.int .i64 c0.suite), .val (.int .i64 c0.key)] 26), (2, .box [.val (.int .i64 h.most), .sl 1 (intsC h.su), .sl 1 (intsC h.ha)] 24), (3, .box [.val (.int .i64 c.ver), .val (.int .i64 c.suite), .val (.int .i64 c.key)] 26)] 4) (fun ((i, h, c) : Nat × Hl × Ch) => i ≤ 2 ∧ okM h) (fun ((i, h, c) : Nat × Hl × Ch) => 2 - i) (0, ⟨m, su, ha⟩, c) ?_ ?_ ?_
      · exact Sub.lists [(0, 0), (1, 8), (2, 184), (3, 192)] rfl rfl ⟨⟨_, rfl, .ptr rfl⟩, ⟨_, rfl, .ptr rfl⟩, ⟨_, rfl, .ptr rfl⟩, ⟨_, rfl, .ptr rfl⟩, ⟨_, rfl, .val _⟩, trivial⟩ ⟨.inl ⟨0, _, rfl, rfl, ⟨rfl, .cons (.val _) (.cons (.sl _ _) (.cons (.sl _ _) .nil))⟩⟩, .inl ⟨8, _, rfl, rfl, ⟨rfl, .cons (.val _) (.cons (.val _) (.cons (.val _) .nil))⟩⟩, .inl ⟨184, _, rfl, rfl, ⟨rfl, .cons (.val _) (.cons (.sl _ _) (.cons (.sl _ _) .nil))⟩⟩, .inl ⟨192, _, rfl, rfl, ⟨rfl, .cons (.val _) (.cons (.val _) (.cons (.val _) .nil))⟩⟩, trivial⟩
      · refine ⟨by omega, ?_⟩
        show -9223372036854775808 ≤ m ∧ m ≤ 9223372036854775807
        omega
      · rintro ⟨i, h, c⟩ hokl
        replace hokl : i ≤ 2 ∧ okM h := hokl
        obtain ⟨hi, hm'⟩ := hokl
        show awp _ _ _ _ (mk [(4, .ptr 0 0), (5, .ptr 1 0), (8, .ptr 2 0), (9, .ptr 3 0), (10, .val (.int .i64 (i : Nat)))] [(0, .box [.val (.int .i64 h0.most), .sl 1 (intsC h0.su), .sl 1 (intsC h0.ha)] 24), (1, .box [.val (.int .i64 c0.ver), .val (.int .i64 c0.suite), .val (.int .i64 c0.key)] 26), (2, .box [.val (.int .i64 h.most), .sl 1 (intsC h.su), .sl 1 (intsC h.ha)] 24), (3, .box [.val (.int .i64 c.ver), .val (.int .i64 c.suite), .val (.int .i64 c.key)] 26)] 4)
        refine awp_seq ?_
        refine awp_seq ?_
        refine awp_region (sys _ _ []) 4 20 mk_U rfl rfl ?_
        refine ch_s rfl .move rfl ?_
        refine ch_s rfl (.binOp bo_lss) rfl ?_
        refine ch_q ?_
        intro hU20
        repeat (first | refine thn_normal ?_ | refine thn_exit ?_ | refine thn_ret ?_ | refine inB_here ?_ | refine inB_other (by decide) ?_ | refine inB_normal ?_ | refine inB_ret ?_)
        refine awp_cond rfl (fun h2 => ?_) (fun h2 => ?_)
        · replace h2 := of_decide_eq_true h2
          refine awp_skip ?_
          repeat (first | refine thn_normal ?_ | refine thn_exit ?_ | refine thn_ret ?_ | refine inB_here ?_ | refine inB_other (by decide) ?_ | refine inB_normal ?_ | refine inB_ret ?_)
          refine awp_seq ?_
          refine awp_block ?_
          refine awp_seq ?_
          refine awp_region (sys _ _ []) 20 76 hU20 rfl rfl ?_
          first | refine ch_s rfl (.loadBA ty24 (Nat.le_of_ble_eq_true rfl)) rfl ?_ | refine ch_s rfl (.loadEA ty24 (by simp only [List.length_append, List.length_cons, List.length_nil, List.length_take, List.length_drop, intsC_length, bytesC_length, strsC_length]; omega)) rfl ?_ | refine ch_s rfl (.loadRA ty24 (by simp only [List.length_append, List.length_cons, List.length_nil, List.length_take, List.length_drop, intsC_length, bytesC_length, strsC_length]; omega)) rfl ?_
          refine ch_call (ps := []) false (encH_fn h (by assumption)) rfl (by repeat' (first | exact ArL.nil | apply ArL.cons | exact Ar.flat Ar0.val | exact Ar.flat Ar0.sl | exact Ar.ptr rfl | exact Ar.row rfl | exact Ar.part rfl (by first | omega | (simp only [List.length_append, List.length_cons, List.length_nil, List.length_take, List.length_drop, intsC_length, bytesC_length, strsC_length]; omega)) | exact Ar.flat Ar0.nils | exact Ar.elt | apply Ar.agg | exact Ar0L.nil | apply Ar0L.cons | exact Ar0.val | exact Ar0.sl | exact Ar0.nils)) rfl rfl (by intro h; cases h) rfl (by intro h; first | (cases h; done) | exact ⟨_, _, ⟨rfl, rfl⟩, by simp, by simp, by trivial, by simp⟩) ?_
          rintro _ _ ⟨rfl, rfl⟩ hokr hokx
          refine ch_s rfl .move rfl ?_
          refine ch_s rfl (.extract rfl) rfl ?_
          refine ch_s rfl (.extract rfl) rfl ?_
          refine ch_s rfl .assign rfl ?_
          refine ch_s rfl .assign rfl ?_
          refine ch_q ?_
          intro hU76
          repeat (first | refine thn_normal ?_ | refine thn_exit ?_ | refine thn_ret ?_ | refine inB_here ?_ | refine inB_other (by decide) ?_ | refine inB_normal ?_ | refine inB_ret ?_)
          refine awp_seq ?_
          refine awp_region (sys _ _ []) 76 132 hU76 rfl rfl ?_
          first | refine ch_s rfl (.loadBA ty24 (Nat.le_of_ble_eq_true rfl)) rfl ?_ | refine ch_s rfl (.loadEA ty24 (by simp only [List.length_append, List.length_cons, List.length_nil, List.length_take, List.length_drop, intsC_length, bytesC_length, strsC_length]; omega)) rfl ?_ | refine ch_s rfl (.loadRA ty24 (by simp only [List.length_append, List.length_cons, List.length_nil, List.length_take, List.length_drop, intsC_length, bytesC_length, strsC_length]; omega)) rfl ?_
          refine ch_call (ps := []) false (encH2_fn h (by assumption)) rfl (by repeat' (first | exact ArL.nil | apply ArL.cons | exact Ar.flat Ar0.val | exact Ar.flat Ar0.sl | exact Ar.ptr rfl | exact Ar.row rfl | exact Ar.part rfl (by first | omega | (simp only [List.length_append, List.length_cons, List.length_nil, List.length_take, List.length_drop, intsC_length, bytesC_length, strsC_length]; omega)) | exact Ar.flat Ar0.nils | exact Ar.elt | apply Ar.agg | exact Ar0L.nil | apply Ar0L.cons | exact Ar0.val | exact Ar0.sl | exact Ar0.nils)) rfl rfl (by intro h; cases h) rfl (by intro h; first | (cases h; done) | exact ⟨_, _, ⟨rfl, rfl⟩, by simp, by simp, by trivial, by simp⟩) ?_
          rintro _ _ ⟨rfl, rfl⟩ hokr hokx
          refine ch_s rfl .move rfl ?_
          refine ch_s rfl (.extract rfl) rfl ?_
          refine ch_s rfl (.extract rfl) rfl ?_
          refine ch_s rfl .assign rfl ?_
          refine ch_s rfl .assign rfl ?_
          refine ch_q ?_
          intro hU132
          repeat (first | refine thn_normal ?_ | refine thn_exit ?_ | refine thn_ret ?_ | refine inB_here ?_ | refine inB_other (by decide) ?_ | refine inB_normal ?_ | refine inB_ret ?_)
          refine awp_seq ?_
          refine awp_region (sys _ _ []) 132 188 hU132 rfl rfl ?_
          first | refine ch_s rfl (.loadBA ty26 (Nat.le_of_ble_eq_true rfl)) rfl ?_ | refine ch_s rfl (.loadEA ty26 (by simp only [List.length_append, List.length_cons, List.length_nil, List.length_take, List.length_drop, intsC_length, bytesC_length, strsC_length]; omega)) rfl ?_ | refine ch_s rfl (.loadRA ty26 (by simp only [List.length_append, List.length_cons, List.length_nil, List.length_take, List.length_drop, intsC_length, bytesC_length, strsC_length]; omega)) rfl ?_
          refine ch_call (ps := []) false (encC_fn c) rfl (by repeat' (first | exact ArL.nil | apply ArL.cons | exact Ar.flat Ar0.val | exact Ar.flat Ar0.sl | exact Ar.ptr rfl | exact Ar.row rfl | exact Ar.part rfl (by first | omega | (simp only [List.length_append, List.length_cons, List.length_nil, List.length_take, List.length_drop, intsC_length, bytesC_length, strsC_length]; omega)) | exact Ar.flat Ar0.nils | exact Ar.elt | apply Ar.agg | exact Ar0L.nil | apply Ar0L.cons | exact Ar0.val | exact Ar0.sl | exact Ar0.nils)) rfl rfl (by intro h; cases h) rfl (by intro h; first | (cases h; done) | exact ⟨_, _, ⟨rfl, rfl⟩, by simp, by simp, by trivial, by simp⟩) ?_
          rintro _ _ ⟨rfl, rfl⟩ hokr hokx
          refine ch_s rfl .move rfl ?_
          refine ch_s rfl (.extract rfl) rfl ?_
          refine ch_s rfl (.extract rfl) rfl ?_
          refine ch_s rfl .assign rfl ?_
          refine ch_s rfl .assign rfl ?_
          refine ch_q ?_
          intro hU188
          repeat (first | refine thn_normal ?_ | refine thn_exit ?_ | refine thn_ret ?_ | refine inB_here ?_ | refine inB_other (by decide) ?_ | refine inB_normal ?_ | refine inB_ret ?_)
          refine awp_seq ?_
          refine awp_region (sys _ _ []) 188 244 hU188 rfl rfl ?_
          first | refine ch_s rfl (.loadBA ty26 (Nat.le_of_ble_eq_true rfl)) rfl ?_ | refine ch_s rfl (.loadEA ty26 (by simp only [List.length_append, List.length_cons, List.length_nil, List.length_take, List.length_drop, intsC_length, bytesC_length, strsC_length]; omega)) rfl ?_ | refine ch_s rfl (.loadRA ty26 (by simp only [List.length_append, List.length_cons, List.length_nil, List.length_take, List.length_drop, intsC_length, bytesC_length, strsC_length]; omega)) rfl ?_
          refine ch_call (ps := []) false (encC2_fn c) rfl (by repeat' (first | exact ArL.nil | apply ArL.cons | exact Ar.flat Ar0.val | exact Ar.flat Ar0.sl | exact Ar.ptr rfl | exact Ar.row rfl | exact Ar.part rfl (by first | omega | (simp only [List.length_append, List.length_cons, List.length_nil, List.length_take, List.length_drop, intsC_length, bytesC_length, strsC_length]; omega)) | exact Ar.flat Ar0.nils | exact Ar.elt | apply Ar.agg | exact Ar0L.nil | apply Ar0L.cons | exact Ar0.val | exact Ar0.sl | exact Ar0.nils)) rfl rfl (by intro h; cases h) rfl (by intro h; first | (cases h; done) | exact ⟨_, _, ⟨rfl, rfl⟩, by simp, by simp, by trivial, by simp⟩) ?_
          rintro _ _ ⟨rfl, rfl⟩ hokr hokx
          refine ch_s rfl .move rfl ?_
          refine ch_s rfl (.extract rfl) rfl ?_
          refine ch_s rfl (.extract rfl) rfl ?_
          refine ch_s rfl .assign rfl ?_
          refine ch_s rfl .assign rfl ?_
          refine ch_q ?_
          intro hU244
          repeat (first | refine thn_normal ?_ | refine thn_exit ?_ | refine thn_ret ?_ | refine inB_here ?_ | refine inB_other (by decide) ?_ | refine inB_normal ?_ | refine inB_ret ?_)
          refine awp_seq ?_
          refine awp_seq ?_
          refine awp_region (sys _ _ []) 244 420 hU244 rfl rfl ?_
          refine ch_s rfl .move rfl ?_
          refine ch_s rfl .move rfl ?_
          refine ch_s rfl (.binOp (bo_neq_f (fun hh => hh rfl))) rfl ?_
          refine ch_s rfl .move rfl ?_
          refine ch_g rfl rfl .move rfl ?_
          first | refine ch_g rfl rfl (.convS und33 und5 und9 .sl rfl) rfl ?_ | refine ch_g rfl rfl (.convS und33 und5 und9 .row rfl) rfl ?_ | refine ch_g rfl rfl (.convS und33 und5 und9 (.part (by omega)) rfl) rfl ?_
          refine ch_g rfl rfl .move rfl ?_
          first | refine ch_g rfl rfl (.convS und33 und5 und9 .sl rfl) rfl ?_ | refine ch_g rfl rfl (.convS und33 und5 und9 .row rfl) rfl ?_ | refine ch_g rfl rfl (.convS und33 und5 und9 (.part (by omega)) rfl) rfl ?_
          refine ch_g rfl rfl (.binOp (bo_sneq_f (fun hh => hh rfl))) rfl ?_
          refine ch_s rfl .pick rfl ?_
          refine ch_s rfl .move rfl ?_
          refine ch_g rfl rfl .move rfl ?_
          refine ch_g rfl rfl .move rfl ?_
          refine ch_g rfl rfl (.binOp (bo_neq_f (fun hh => hh rfl))) rfl ?_
          refine ch_s rfl .pick rfl ?_
          refine ch_s rfl .move rfl ?_
          refine ch_g rfl rfl .move rfl ?_
          first | refine ch_g rfl rfl (.convS und33 und5 und9 .sl rfl) rfl ?_ | refine ch_g rfl rfl (.convS und33 und5 und9 .row rfl) rfl ?_ | refine ch_g rfl rfl (.convS und33 und5 und9 (.part (by omega)) rfl) rfl ?_
          refine ch_g rfl rfl .move rfl ?_
          first | refine ch_g rfl rfl (.convS und33 und5 und9 .sl rfl) rfl ?_ | refine ch_g rfl rfl (.convS und33 und5 und9 .row rfl) rfl ?_ | refine ch_g rfl rfl (.convS und33 und5 und9 (.part (by omega)) rfl) rfl ?_
          refine ch_g rfl rfl (.binOp (bo_sneq_f (fun hh => hh rfl))) rfl ?_
          refine ch_s rfl .pick rfl ?_
          refine ch_q ?_
          intro hU420
          repeat (first | refine thn_normal ?_ | refine thn_exit ?_ | refine thn_ret ?_ | refine inB_here ?_ | refine inB_other (by decide) ?_ | refine inB_normal ?_ | refine inB_ret ?_)
          refine awp_cond rfl (fun h3 => ?_) (fun h3 => ?_)
          · cases h3
          · refine awp_skip ?_
            repeat (first | refine thn_normal ?_ | refine thn_exit ?_ | refine thn_ret ?_ | refine inB_here ?_ | refine inB_other (by decide) ?_ | refine inB_normal ?_ | refine inB_ret ?_)
            refine awp_draw (sys _ _ []) (by kernel_rfl) [(0, 2), (0, 3), (1, 3), (2, 3)] 420 452 hU420 rfl rfl (by kernel_rfl) ?_
            first | refine ch_s rfl (.loadBA ty24 (Nat.le_of_ble_eq_true rfl)) rfl ?_ | refine ch_s rfl (.loadEA ty24 (by simp only [List.length_append, List.length_cons, List.length_nil, List.length_take, List.length_drop, intsC_length, bytesC_length, strsC_length]; omega)) rfl ?_ | refine ch_s rfl (.loadRA ty24 (by simp only [List.length_append, List.length_cons, List.length_nil, List.length_take, List.length_drop, intsC_length, bytesC_length, strsC_length]; omega)) rfl ?_
            first | refine ch_s rfl (.loadBA ty26 (Nat.le_of_ble_eq_true rfl)) rfl ?_ | refine ch_s rfl (.loadEA ty26 (by simp only [List.length_append, List.length_cons, List.length_nil, List.length_take, List.length_drop, intsC_length, bytesC_length, strsC_length]; omega)) rfl ?_ | refine ch_s rfl (.loadRA ty26 (by simp only [List.length_append, List.length_cons, List.length_nil, List.length_take, List.length_drop, intsC_length, bytesC_length, strsC_length]; omega)) rfl ?_
            first | refine ch_s rfl (.storeB ty24 rfl (Nat.le_of_ble_eq_true rfl) rfl) rfl ?_ | refine ch_s rfl (.storeR ty24 rfl (by simp only [List.length_append, List.length_cons, List.length_nil, List.length_take, List.length_drop, intsC_length, bytesC_length, strsC_length]; omega) (by repeat' (first | exact DcsE.nil | apply DcsE.cons | exact DcE.bool | exact DcE.sl | exact DcE.int (by first | decide | exact i64_range (by omega) | exact u8_range (by omega) | assumption) | exact DcE.str (by first | decide | assumption | omega) | exact DcE.ptr | exact DcE.nilF | exact DcE.nilI))) rfl ?_
            first | refine ch_s rfl (.storeB ty26 rfl (Nat.le_of_ble_eq_true rfl) rfl) rfl ?_ | refine ch_s rfl (.storeR ty26 rfl (by simp only [List.length_append, List.length_cons, List.length_nil, List.length_take, List.length_drop, intsC_length, bytesC_length, strsC_length]; omega) (by repeat' (first | exact DcsE.nil | apply DcsE.cons | exact DcE.bool | exact DcE.sl | exact DcE.int (by first | decide | exact i64_range (by omega) | exact u8_range (by omega) | assumption) | exact DcE.str (by first | decide | assumption | omega) | exact DcE.ptr | exact DcE.nilF | exact DcE.nilI))) rfl ?_
            refine ch_q ?_
            intro hU452
            repeat (first | refine thn_normal ?_ | refine thn_exit ?_ | refine thn_ret ?_ | refine inB_here ?_ | refine inB_other (by decide) ?_ | refine inB_normal ?_ | refine inB_ret ?_)
            refine awp_region (sys _ _ []) 452 476 hU452 rfl rfl ?_
            refine ch_s rfl .move rfl ?_
            first | refine ch_s rfl (.binOp (bo_add (by omega))) rfl ?_ | refine ch_s rfl (.binOp bo_addw) rfl ?_
            refine ch_s rfl .assign rfl ?_
            refine ch_q ?_
            intro hU476
            repeat (first | refine thn_normal ?_ | refine thn_exit ?_ | refine thn_ret ?_ | refine inB_here ?_ | refine inB_other (by decide) ?_ | refine inB_normal ?_ | refine inB_ret ?_)
            refine ⟨(i + 1, h0, c0), ?_, ⟨by omega, hm0⟩, Sub.lists [(0, 0), (1, 1), (2, 2), (3, 3)] rfl rfl ⟨⟨_, rfl, .ptr rfl⟩, ⟨_, rfl, .ptr rfl⟩, ⟨_, rfl, .ptr rfl⟩, ⟨_, rfl, .ptr rfl⟩, ⟨_, rfl, .val _⟩, trivial⟩ ⟨.inl ⟨0, _, rfl, rfl, ⟨rfl, .cons (.val _) (.cons (.sl _ _) (.cons (.sl _ _) .nil))⟩⟩, .inl ⟨1, _, rfl, rfl, ⟨rfl, .cons (.val _) (.cons (.val _) (.cons (.val _) .nil))⟩⟩, .inl ⟨2, _, rfl, rfl, ⟨rfl, .cons (.val _) (.cons (.sl _ _) (.cons (.sl _ _) .nil))⟩⟩, .inl ⟨3, _, rfl, rfl, ⟨rfl, .cons (.val _) (.cons (.val _) (.cons (.val _) .nil))⟩⟩, trivial⟩⟩
            show 2 - (i + 1) < 2 - i
            omega
        · replace h2 := of_decide_eq_false h2
          refine awp_exit ?_
          repeat (first | refine thn_normal ?_ | refine thn_exit ?_ | refine thn_ret ?_ | refine inB_here ?_ | refine inB_other (by decide) ?_ | refine inB_normal ?_ | refine inB_ret ?_)
          refine awp_seq ?_
          refine awp_region (sys _ _ []) 20 36 hU20 rfl rfl ?_
          refine ch_call (ps := []) false (awake_fn) rfl (by repeat' (first | exact ArL.nil | apply ArL.cons | exact Ar.flat Ar0.val | exact Ar.flat Ar0.sl | exact Ar.ptr rfl | exact Ar.row rfl | exact Ar.part rfl (by first | omega | (simp only [List.length_append, List.length_cons, List.length_nil, List.length_take, List.length_drop, intsC_length, bytesC_length, strsC_length]; omega)) | exact Ar.flat Ar0.nils | exact Ar.elt | apply Ar.agg | exact Ar0L.nil | apply Ar0L.cons | exact Ar0.val | exact Ar0.sl | exact Ar0.nils)) rfl rfl (by intro h; cases h) rfl (by intro h; first | (cases h; done) | exact ⟨_, _, ⟨rfl, rfl⟩, by simp, by simp, by trivial, by simp⟩) ?_
          rintro _ _ ⟨rfl, rfl⟩ hokr hokx
          refine ch_s rfl .assign rfl ?_
          refine ch_q ?_
          intro hU36
          repeat (first | refine thn_normal ?_ | refine thn_exit ?_ | refine thn_ret ?_ | refine inB_here ?_ | refine inB_other (by decide) ?_ | refine inB_normal ?_ | refine inB_ret ?_)
          refine awp_ret ?_
          repeat (first | refine thn_normal ?_ | refine thn_exit ?_ | refine thn_ret ?_ | refine inB_here ?_ | refine inB_other (by decide) ?_ | refine inB_normal ?_ | refine inB_ret ?_)
          exact ⟨[_], _, [], [], .cons (.tmp rfl) .nil, ⟨rfl, rfl⟩, .val _, trivial, rfl, rfl, rfl, rfl⟩
  · refine awp_region (sys _ _ []) 24 128 hU24 rfl rfl ?_
    refine ch_s rfl .move rfl ?_
    refine ch_call (ps := []) false (light_f _ hL) rfl (by repeat' (first | exact ArL.nil | apply ArL.cons | exact Ar.flat Ar0.val | exact Ar.flat Ar0.sl | exact Ar.ptr rfl | exact Ar.row rfl | exact Ar.part rfl (by first | omega | (simp only [List.length_append, List.length_cons, List.length_nil, List.length_take, List.length_drop, intsC_length, bytesC_length, strsC_length]; omega)) | exact Ar.flat Ar0.nils | exact Ar.elt | apply Ar.agg | exact Ar0L.nil | apply Ar0L.cons | exact Ar0.val | exact Ar0.sl | exact Ar0.nils)) rfl rfl (by intro h; cases h) rfl (by intro h; first | (cases h; done) | exact ⟨_, _, ⟨rfl, rfl⟩, by simp, by simp, by trivial, by simp⟩) ?_
    rintro _ _ ⟨rfl, rfl⟩ hokr hokx
    refine ch_s rfl (.unOp uo_not) rfl ?_
    refine ch_s rfl .move rfl ?_
    refine ch_skip rfl rfl ?_
    refine ch_skip rfl rfl ?_
    refine ch_skip rfl rfl ?_
    refine ch_skip rfl rfl ?_
    refine ch_skip rfl rfl ?_
    refine ch_skip rfl rfl ?_
    refine ch_skip rfl rfl ?_
    refine ch_skip rfl rfl ?_
    refine ch_s rfl .pick rfl ?_
    refine ch_q ?_
    intro hU128
    repeat (first | refine thn_normal ?_ | refine thn_exit ?_ | refine thn_ret ?_ | refine inB_here ?_ | refine inB_other (by decide) ?_ | refine inB_normal ?_ | refine inB_ret ?_)
    refine awp_cond rfl (fun h4 => ?_) (fun h4 => ?_)
    · refine awp_seq ?_
      refine awp_region (sys _ _ []) 128 144 hU128 rfl rfl ?_
      refine ch_call (ps := []) false (awake_fn) rfl (by repeat' (first | exact ArL.nil | apply ArL.cons | exact Ar.flat Ar0.val | exact Ar.flat Ar0.sl | exact Ar.ptr rfl | exact Ar.row rfl | exact Ar.part rfl (by first | omega | (simp only [List.length_append, List.length_cons, List.length_nil, List.length_take, List.length_drop, intsC_length, bytesC_length, strsC_length]; omega)) | exact Ar.flat Ar0.nils | exact Ar.elt | apply Ar.agg | exact Ar0L.nil | apply Ar0L.cons | exact Ar0.val | exact Ar0.sl | exact Ar0.nils)) rfl rfl (by intro h; cases h) rfl (by intro h; first | (cases h; done) | exact ⟨_, _, ⟨rfl, rfl⟩, by simp, by simp, by trivial, by simp⟩) ?_
      rintro _ _ ⟨rfl, rfl⟩ hokr hokx
      refine ch_s rfl .assign rfl ?_
      refine ch_q ?_
      intro hU144
      repeat (first | refine thn_normal ?_ | refine thn_exit ?_ | refine thn_ret ?_ | refine inB_here ?_ | refine inB_other (by decide) ?_ | refine inB_normal ?_ | refine inB_ret ?_)
      refine awp_ret ?_
      repeat (first | refine thn_normal ?_ | refine thn_exit ?_ | refine thn_ret ?_ | refine inB_here ?_ | refine inB_other (by decide) ?_ | refine inB_normal ?_ | refine inB_ret ?_)
      exact ⟨[_], _, [], [], .cons (.tmp rfl) .nil, ⟨rfl, rfl⟩, .val _, trivial, rfl, rfl, rfl, rfl⟩
    · cases h4
end Go.Proofs.Ythjgcmifggdepaa
