/- Suites, by the engine. -/
import Derived.Test.YthjgcmifggdepaaX2
set_option linter.unusedVariables false
set_option linter.unusedSimpArgs false
namespace Go.Proofs.Ythjgcmifggdepaa
open Go.RowKit
theorem und26 : Try.prog.underlying 26 = some (.struct ((match Try.prog.underlying 26 with | some (.struct f) => f | _ => #[]))) := by kernel_rfl
theorem pl26 : ((match Try.prog.underlying 26 with | some (.struct f) => f | _ => #[]) : Array Field).toList.map (fun f => (Try.prog.info? f.type).map fun i => (f.offset, i.size)) = [(0, 1), (1, 1), (2, 1)].map some := by kernel_rfl
theorem pl59 : ((match Try.prog.underlying 59 with | some (.struct f) => f | _ => #[]) : Array Field).toList.map (fun f => (Try.prog.info? f.type).map fun i => (f.offset, i.size)) = [(0, 1), (1, 1)].map some := by kernel_rfl
theorem ty26 : Ty Try.prog 26 true 3 := ⟨by kernel_rfl, by kernel_rfl⟩
theorem z26 : Zt Try.prog 26 [.int .i64 0, .int .i64 0, .int .i64 0] := ⟨(.agg #[.int .i64 0, .int .i64 0, .int .i64 0]), by kernel_rfl, rfl, by decide⟩
theorem z59 : Zt Try.prog 59 [.slice none 0 0, .int .i64 0] := ⟨(.agg #[.slice none 0 0, .int .i64 0]), by kernel_rfl, rfl, by decide⟩
theorem okB_dice {l : List Int} {p q : Nat} (h : okB (diceB l p)) : okB (diceB l q) := h
set_option maxRecDepth 100000 in
set_option maxHeartbeats 800000 in
theorem roll_fn (l : List Int) : Fn Try.prog 10 [.sl 1 (intsC l)] [] (fun r b => r = .ptr 0 0 ∧ b = [diceB l 0]) := by
  refine Fn.of Try.func10 rfl rfl rfl fun hok hokb w0 I ρ0 => ?_
  show awp _ ⟨w0, I, ρ0, 0, 6⟩ _ _ _
  refine awp_seq ?_
  refine awp_region (sys _ _ []) 0 8 mk_U rfl rfl ?_
  refine ch_s rfl .assign rfl ?_
  refine ch_q ?_
  intro hU8
  repeat (first | refine thn_normal ?_ | refine thn_exit ?_ | refine thn_ret ?_ | refine inB_here ?_ | refine inB_other (by decide) ?_ | refine inB_normal ?_ | refine inB_ret ?_)
  refine awp_seq ?_
  refine awp_region (sys _ _ []) 8 40 hU8 rfl rfl ?_
  refine ch_s rfl .move rfl ?_
  refine ch_s rfl (.build und59 pl59 z59 rfl rfl) rfl ?_
  refine ch_s rfl (.box rfl) rfl ?_
  refine ch_s rfl .assign rfl ?_
  refine ch_q ?_
  intro hU40
  repeat (first | refine thn_normal ?_ | refine thn_exit ?_ | refine thn_ret ?_ | refine inB_here ?_ | refine inB_other (by decide) ?_ | refine inB_normal ?_ | refine inB_ret ?_)
  refine awp_ret ?_
  repeat (first | refine thn_normal ?_ | refine thn_exit ?_ | refine thn_ret ?_ | refine inB_here ?_ | refine inB_other (by decide) ?_ | refine inB_normal ?_ | refine inB_ret ?_)
  refine ⟨[_], _, [_], [(0, 24)], .cons (.tmp rfl) .nil, ⟨rfl, rfl⟩, .ptr rfl, ⟨.inl ⟨24, _, rfl, rfl, ⟨rfl, .cons (.sl _ _) (.cons (.val _) .nil)⟩⟩, trivial⟩, rfl, rfl, rfl, rfl⟩
set_option maxRecDepth 100000 in
set_option maxHeartbeats 800000 in
theorem choice_fn (l : List Int) (p : Nat) (hp : p ≤ l.length) : Fn Try.prog 12 [.ptr 0 0] [diceB l p] (fun r b => ∃ (c : Ch) (q : Nat), r = .agg [.val (.int .i64 c.ver), .val (.int .i64 c.suite), .val (.int .i64 c.key)] ∧ q ≤ l.length ∧ b = [diceB l q]) := by
  refine Fn.of Try.func12 rfl rfl rfl fun hok hokb w0 I ρ0 => ?_
  show awp _ ⟨w0, I, ρ0, 1, 13⟩ _ _ _
  refine awp_seq ?_
  refine awp_region (sys _ _ []) 1 9 mk_U rfl rfl ?_
  refine ch_s rfl (.alloc z26) rfl ?_
  refine ch_q ?_
  intro hU9
  repeat (first | refine thn_normal ?_ | refine thn_exit ?_ | refine thn_ret ?_ | refine inB_here ?_ | refine inB_other (by decide) ?_ | refine inB_normal ?_ | refine inB_ret ?_)
  refine awp_seq ?_
  refine awp_region (sys _ _ [17, 41, 65]) 9 97 hU9 rfl rfl ?_
  refine ch_s rfl .move rfl ?_
  refine ch_z rfl (.buildSl sl22 z3 (by decide) rfl (by repeat' (first | exact DcsE.nil | apply DcsE.cons | exact DcE.bool | exact DcE.sl | exact DcE.int (by first | decide | exact i64_range (by omega) | exact u8_range (by omega) | assumption) | exact DcE.str (by first | decide | assumption | omega) | exact DcE.ptr | exact DcE.nilF | exact DcE.nilI)) rfl) rfl rfl rfl ?_
  refine ch_call (ps := [0]) false (of_fn _ _ (by omega) [3, 4, 1, 2, 3, 0, 5] (by simp) (by simp)) rfl (by repeat' (first | exact ArL.nil | apply ArL.cons | exact Ar.flat Ar0.val | exact Ar.flat Ar0.sl | exact Ar.ptr rfl | exact Ar.row rfl | exact Ar.part rfl (by first | omega | (simp only [List.length_append, List.length_cons, List.length_nil, List.length_take, List.length_drop, intsC_length, bytesC_length, strsC_length]; omega)) | exact Ar.flat Ar0.nils | exact Ar.elt | apply Ar.agg | exact Ar0L.nil | apply Ar0L.cons | exact Ar0.val | exact Ar0.sl | exact Ar0.nils)) (.cons' (List.mem_cons_self ..) (.cons .sl (.cons .val .nil)) rfl) rfl (by intro h; cases h) rfl (by intro h; first | (cases h; done) | exact ⟨_, _, ⟨_, 0, rfl, List.mem_cons_self .., by omega, rfl⟩, by simp, by simp, by trivial, fun lb hlb => by rw [List.mem_singleton.1 hlb]; exact okB_dice (hokb (diceB l p) (by simp))⟩) ?_
  rintro _ _ ⟨x1, q1, rfl, hm1, hq1, rfl⟩ hokr hokx
  refine ch_s rfl .move rfl ?_
  refine ch_z rfl (.buildSl sl22 z3 (by decide) rfl (by repeat' (first | exact DcsE.nil | apply DcsE.cons | exact DcE.bool | exact DcE.sl | exact DcE.int (by first | decide | exact i64_range (by omega) | exact u8_range (by omega) | assumption) | exact DcE.str (by first | decide | assumption | omega) | exact DcE.ptr | exact DcE.nilF | exact DcE.nilI)) rfl) rfl rfl rfl ?_
  refine ch_call (ps := [0]) false (of_fn _ _ (by omega) [10, 1, 65535, 16, 0, 65536, -1] (by simp) (by simp)) rfl (by repeat' (first | exact ArL.nil | apply ArL.cons | exact Ar.flat Ar0.val | exact Ar.flat Ar0.sl | exact Ar.ptr rfl | exact Ar.row rfl | exact Ar.part rfl (by first | omega | (simp only [List.length_append, List.length_cons, List.length_nil, List.length_take, List.length_drop, intsC_length, bytesC_length, strsC_length]; omega)) | exact Ar.flat Ar0.nils | exact Ar.elt | apply Ar.agg | exact Ar0L.nil | apply Ar0L.cons | exact Ar0.val | exact Ar0.sl | exact Ar0.nils)) (.cons' (List.mem_cons_self ..) (.cons .sl (.cons .val .nil)) rfl) rfl (by intro h; cases h) rfl (by intro h; first | (cases h; done) | exact ⟨_, _, ⟨_, 0, rfl, List.mem_cons_self .., by omega, rfl⟩, by simp, by simp, by trivial, fun lb hlb => by rw [List.mem_singleton.1 hlb]; exact okB_dice (hokb (diceB l p) (by simp))⟩) ?_
  rintro _ _ ⟨x2, q2, rfl, hm2, hq2, rfl⟩ hokr hokx
  refine ch_s rfl .move rfl ?_
  refine ch_z rfl (.buildSl sl22 z3 (by decide) rfl (by repeat' (first | exact DcsE.nil | apply DcsE.cons | exact DcE.bool | exact DcE.sl | exact DcE.int (by first | decide | exact i64_range (by omega) | exact u8_range (by omega) | assumption) | exact DcE.str (by first | decide | assumption | omega) | exact DcE.ptr | exact DcE.nilF | exact DcE.nilI)) rfl) rfl rfl rfl ?_
  refine ch_call (ps := [0]) false (of_fn _ _ (by omega) [7, 100, 2147483648, 0, 12, 2147483649, -1] (by simp) (by simp)) rfl (by repeat' (first | exact ArL.nil | apply ArL.cons | exact Ar.flat Ar0.val | exact Ar.flat Ar0.sl | exact Ar.ptr rfl | exact Ar.row rfl | exact Ar.part rfl (by first | omega | (simp only [List.length_append, List.length_cons, List.length_nil, List.length_take, List.length_drop, intsC_length, bytesC_length, strsC_length]; omega)) | exact Ar.flat Ar0.nils | exact Ar.elt | apply Ar.agg | exact Ar0L.nil | apply Ar0L.cons | exact Ar0.val | exact Ar0.sl | exact Ar0.nils)) (.cons' (List.mem_cons_self ..) (.cons .sl (.cons .val .nil)) rfl) rfl (by intro h; cases h) rfl (by intro h; first | (cases h; done) | exact ⟨_, _, ⟨_, 0, rfl, List.mem_cons_self .., by omega, rfl⟩, by simp, by simp, by trivial, fun lb hlb => by rw [List.mem_singleton.1 hlb]; exact okB_dice (hokb (diceB l p) (by simp))⟩) ?_
  rintro _ _ ⟨x3, q3, rfl, hm3, hq3, rfl⟩ hokr hokx
  refine ch_s rfl (.build und26 pl26 z26 rfl rfl) rfl ?_
  first | refine ch_s rfl (.storeB ty26 rfl (Nat.le_of_ble_eq_true rfl) rfl) rfl ?_ | refine ch_s rfl (.storeR ty26 rfl (by simp only [List.length_append, List.length_cons, List.length_nil, List.length_take, List.length_drop, intsC_length, bytesC_length, strsC_length]; omega) (by repeat' (first | exact DcsE.nil | apply DcsE.cons | exact DcE.bool | exact DcE.sl | exact DcE.int (by first | decide | exact i64_range (by omega) | exact u8_range (by omega) | assumption) | exact DcE.str (by first | decide | assumption | omega) | exact DcE.ptr | exact DcE.nilF | exact DcE.nilI))) rfl ?_
  refine ch_q ?_
  intro hU97
  repeat (first | refine thn_normal ?_ | refine thn_exit ?_ | refine thn_ret ?_ | refine inB_here ?_ | refine inB_other (by decide) ?_ | refine inB_normal ?_ | refine inB_ret ?_)
  refine awp_ret ?_
  repeat (first | refine thn_normal ?_ | refine thn_exit ?_ | refine thn_ret ?_ | refine inB_here ?_ | refine inB_other (by decide) ?_ | refine inB_normal ?_ | refine inB_ret ?_)
  refine ⟨[_], _, [_], [(0, 0)], .cons (.cellA rfl rfl ty26 rfl) .nil, ⟨⟨_, _, _⟩, _, rfl, ?_, rfl⟩, .agg (.cons (.val _) (.cons (.val _) (.cons (.val _) .nil))), ⟨.inl ⟨0, _, rfl, rfl, ⟨rfl, .cons (.sl _ _) (.cons (.val _) .nil)⟩⟩, trivial⟩, rfl, rfl, rfl, rfl⟩
  omega
theorem Bool.eq_false_of_not_eq_true' {b : Bool} (h : (!b) = true) : b = false := by cases b <;> simp_all
theorem Bool.eq_true_of_not_eq_false' {b : Bool} (h : (!b) = false) : b = true := by cases b <;> simp_all
theorem nodup_snoc {l : List Int} {x : Int} (h : l.Nodup) (hx : ¬ x ∈ l) : (l ++ [x]).Nodup := by
  rw [List.nodup_append]
  refine ⟨h, by simp, fun a ha b hb => ?_⟩
  rw [List.mem_singleton] at hb
  rw [hb]
  rintro rfl
  exact hx ha
set_option maxRecDepth 100000 in
set_option maxHeartbeats 800000 in
theorem suites_fn (l : List Int) (p : Nat) (hp : p ≤ l.length) : Fn Try.prog 29 [.ptr 0 0] [diceB l p] (fun r b => ∃ (q : Nat) (o : List Int), r = .row 1 ∧ q ≤ l.length ∧ o.Nodup ∧ (∀ y ∈ o, 1 ≤ y ∧ y ≤ 16) ∧ 1 ≤ o.length ∧ o.length ≤ 10 ∧ b = [diceB l q, .row 3 1 (intsC o)]) := by
  refine Fn.of Try.func29 rfl rfl rfl fun hok hokb w0 I ρ0 => ?_
  show awp _ ⟨w0, I, ρ0, 1, 29⟩ _ _ _
  refine awp_seq ?_
  refine awp_region (sys _ _ []) 1 9 mk_U rfl rfl ?_
  refine ch_s rfl .assign rfl ?_
  refine ch_q ?_
  intro hU9
  repeat (first | refine thn_normal ?_ | refine thn_exit ?_ | refine thn_ret ?_ | refine inB_here ?_ | refine inB_other (by decide) ?_ | refine inB_normal ?_ | refine inB_ret ?_)
  refine awp_seq ?_
  refine awp_region (sys _ _ []) 9 17 hU9 rfl rfl ?_
  refine ch_s rfl .assign rfl ?_
  refine ch_q ?_
  intro hU17
  repeat (first | refine thn_normal ?_ | refine thn_exit ?_ | refine thn_ret ?_ | refine inB_here ?_ | refine inB_other (by decide) ?_ | refine inB_normal ?_ | refine inB_ret ?_)
  refine awp_seq ?_
  refine awp_seq ?_
  refine awp_region (sys _ _ []) 17 49 hU17 rfl rfl ?_
  refine ch_s rfl .move rfl ?_
  refine ch_call (ps := [0]) false (next_fn _ _ (by omega) 9 (by omega) (by omega)) rfl (by repeat' (first | exact ArL.nil | apply ArL.cons | exact Ar.flat Ar0.val | exact Ar.flat Ar0.sl | exact Ar.ptr rfl | exact Ar.row rfl | exact Ar.part rfl (by first | omega | (simp only [List.length_append, List.length_cons, List.length_nil, List.length_take, List.length_drop, intsC_length, bytesC_length, strsC_length]; omega)) | exact Ar.flat Ar0.nils | exact Ar.elt | apply Ar.agg | exact Ar0L.nil | apply Ar0L.cons | exact Ar0.val | exact Ar0.sl | exact Ar0.nils)) (.cons' (List.mem_cons_self ..) (.cons .sl (.cons .val .nil)) rfl) rfl (by intro h; cases h) rfl (by intro h; first | (cases h; done) | exact ⟨_, _, ⟨0, 0, rfl, by omega, by omega, by omega, rfl⟩, by simp, by simp, by trivial, fun lb hlb => by rw [List.mem_singleton.1 hlb]; exact okB_dice (hokb (diceB l p) (by simp))⟩) ?_
  rintro _ _ ⟨x1, q1, rfl, hx1, hy1, hq1, rfl⟩ hokr hokx
  first | refine ch_s rfl (.binOp (bo_add (by omega))) rfl ?_ | refine ch_s rfl (.binOp bo_addw) rfl ?_
  refine ch_s rfl .assign rfl ?_
  refine ch_q ?_
  intro hU49
  repeat (first | refine thn_normal ?_ | refine thn_exit ?_ | refine thn_ret ?_ | refine inB_here ?_ | refine inB_other (by decide) ?_ | refine inB_normal ?_ | refine inB_ret ?_)
  refine awp_block ?_
  refine awp_loop (ι := Int × Nat × List Int) (fun ((j, q, out) : Int × Nat × List Int) => mk [(0, .ptr 0 0), (3, .row 1), (4, .val (.int .i64 j))] [(0, diceB l q), (1, .row 3 1 (intsC out))] 2) (fun ((j, q, out) : Int × Nat × List Int) => q ≤ l.length ∧ 0 ≤ j ∧ j ≤ 10 ∧ out.Nodup ∧ (∀ y ∈ out, 1 ≤ y ∧ y ≤ 16) ∧ (out.length : Int) + j ≤ 10 ∧ (out = [] → 1 ≤ j)) (fun ((j, q, out) : Int × Nat × List Int) => j.toNat) (2 + x1, q1, []) ?_ ?_ ?_
  · exact Sub.lists [(0, 0)] rfl rfl ⟨⟨_, rfl, .ptr rfl⟩, ⟨_, rfl, .nil rfl⟩, ⟨_, rfl, .val _⟩, trivial⟩ ⟨.inl ⟨0, _, rfl, rfl, ⟨rfl, .cons (.sl _ _) (.cons (.val _) .nil)⟩⟩, .inr ⟨rfl, _, _, rfl⟩, trivial⟩
  · exact ⟨by omega, by omega, by omega, by simp, by simp, by simp; omega, fun _ => by omega⟩
  · rintro ⟨j, q, out⟩ hokl
    replace hokl : q ≤ l.length ∧ 0 ≤ j ∧ j ≤ 10 ∧ out.Nodup ∧ (∀ y ∈ out, 1 ≤ y ∧ y ≤ 16) ∧ (out.length : Int) + j ≤ 10 ∧ (out = [] → 1 ≤ j) := hokl
    obtain ⟨hq, hj1, hj2, hnd, hrg, hol, hoe⟩ := hokl
    show awp _ _ _ _ (mk [(0, .ptr 0 0), (3, .row 1), (4, .val (.int .i64 j))] [(0, diceB l q), (1, .row 3 1 (intsC out))] 2)
    refine awp_seq ?_
    refine awp_seq ?_
    refine awp_region (sys _ _ []) 2 18 mk_U rfl rfl ?_
    refine ch_s rfl .move rfl ?_
    refine ch_s rfl (.binOp bo_gtr) rfl ?_
    refine ch_q ?_
    intro hU18
    repeat (first | refine thn_normal ?_ | refine thn_exit ?_ | refine thn_ret ?_ | refine inB_here ?_ | refine inB_other (by decide) ?_ | refine inB_normal ?_ | refine inB_ret ?_)
    refine awp_cond rfl (fun h1 => ?_) (fun h1 => ?_)
    · replace h1 := of_decide_eq_true h1
      refine awp_skip ?_
      repeat (first | refine thn_normal ?_ | refine thn_exit ?_ | refine thn_ret ?_ | refine inB_here ?_ | refine inB_other (by decide) ?_ | refine inB_normal ?_ | refine inB_ret ?_)
      refine awp_seq ?_
      refine awp_block ?_
      refine awp_seq ?_
      refine awp_region (sys _ _ []) 18 50 hU18 rfl rfl ?_
      refine ch_s rfl .move rfl ?_
      refine ch_call (ps := [0]) false (next_fn _ _ (by omega) 16 (by omega) (by omega)) rfl (by repeat' (first | exact ArL.nil | apply ArL.cons | exact Ar.flat Ar0.val | exact Ar.flat Ar0.sl | exact Ar.ptr rfl | exact Ar.row rfl | exact Ar.part rfl (by first | omega | (simp only [List.length_append, List.length_cons, List.length_nil, List.length_take, List.length_drop, intsC_length, bytesC_length, strsC_length]; omega)) | exact Ar.flat Ar0.nils | exact Ar.elt | apply Ar.agg | exact Ar0L.nil | apply Ar0L.cons | exact Ar0.val | exact Ar0.sl | exact Ar0.nils)) (.cons' (List.mem_cons_self ..) (.cons .sl (.cons .val .nil)) rfl) rfl (by intro h; cases h) rfl (by intro h; first | (cases h; done) | exact ⟨_, _, ⟨0, 0, rfl, by omega, by omega, by omega, rfl⟩, by simp, by simp, by trivial, fun lb hlb => by rw [List.mem_singleton.1 hlb]; exact okB_dice (hokb (diceB l p) (by simp))⟩) ?_
      rintro _ _ ⟨x2, q2, rfl, hx2, hy2, hq2, rfl⟩ hokr hokx
      first | refine ch_s rfl (.binOp (bo_add (by omega))) rfl ?_ | refine ch_s rfl (.binOp bo_addw) rfl ?_
      refine ch_s rfl .assign rfl ?_
      refine ch_q ?_
      intro hU50
      repeat (first | refine thn_normal ?_ | refine thn_exit ?_ | refine thn_ret ?_ | refine inB_here ?_ | refine inB_other (by decide) ?_ | refine inB_normal ?_ | refine inB_ret ?_)
      refine awp_seq ?_
      refine awp_region (sys _ _ []) 50 82 hU50 rfl rfl ?_
      refine ch_s rfl .move rfl ?_
      refine ch_s rfl .move rfl ?_
      refine ch_call (ps := []) true (has_fn _ _) rfl (by repeat' (first | exact ArL.nil | apply ArL.cons | exact Ar.flat Ar0.val | exact Ar.flat Ar0.sl | exact Ar.ptr rfl | exact Ar.row rfl | exact Ar.part rfl (by first | omega | (simp only [List.length_append, List.length_cons, List.length_nil, List.length_take, List.length_drop, intsC_length, bytesC_length, strsC_length]; omega)) | exact Ar.flat Ar0.nils | exact Ar.elt | apply Ar.agg | exact Ar0L.nil | apply Ar0L.cons | exact Ar0.val | exact Ar0.sl | exact Ar0.nils)) rfl rfl (by rintro - _ _ ⟨rfl, rfl⟩; exact ⟨by trivial, by simp⟩) rfl (by intro h; first | (cases h; done) | exact ⟨_, _, ⟨rfl, rfl⟩, by simp, by simp, by trivial, by simp⟩) ?_
      rintro _ _ ⟨rfl, rfl⟩ hokr hokx
      refine ch_s rfl (.unOp uo_not) rfl ?_
      refine ch_q ?_
      intro hU82
      repeat (first | refine thn_normal ?_ | refine thn_exit ?_ | refine thn_ret ?_ | refine inB_here ?_ | refine inB_other (by decide) ?_ | refine inB_normal ?_ | refine inB_ret ?_)
      refine awp_cond rfl (fun h2 => ?_) (fun h2 => ?_)
      · have hbn : decide (_ ∈ out) = false := Bool.eq_false_of_not_eq_true' h2
        refine awp_region (sys _ _ []) 82 122 hU82 rfl rfl ?_
        refine ch_s rfl .move rfl ?_
        refine ch_s rfl .move rfl ?_
        refine ch_s rfl (.buildSl sl22 z3 (by decide) rfl (by repeat' (first | exact DcsE.nil | apply DcsE.cons | exact DcE.bool | exact DcE.sl | exact DcE.int (by first | decide | exact i64_range (by omega) | exact u8_range (by omega) | assumption) | exact DcE.str (by first | decide | assumption | omega) | exact DcE.ptr | exact DcE.nilF | exact DcE.nilI)) rfl) rfl ?_
        first | refine ch_s rfl (.append sl22 .row .row (by simp only [List.length_append, List.length_cons, List.length_nil, List.length_take, List.length_drop, intsC_length, bytesC_length, strsC_length]; omega)) rfl ?_ | refine ch_s rfl (.append sl22 .row .sl (by simp only [List.length_append, List.length_cons, List.length_nil, List.length_take, List.length_drop, intsC_length, bytesC_length, strsC_length]; omega)) rfl ?_ | refine ch_s rfl (.append sl22 .row (.part (by simp only [List.length_append, List.length_cons, List.length_nil, List.length_take, List.length_drop, intsC_length, bytesC_length, strsC_length]; omega)) (by simp only [List.length_append, List.length_cons, List.length_nil, List.length_take, List.length_drop, intsC_length, bytesC_length, strsC_length]; omega)) rfl ?_ | refine ch_s rfl (.append sl22 .row .nil (by simp only [List.length_append, List.length_cons, List.length_nil, List.length_take, List.length_drop, intsC_length, bytesC_length, strsC_length]; omega)) rfl ?_ | refine ch_s rfl (.append sl22 .nil .row (by simp only [List.length_append, List.length_cons, List.length_nil, List.length_take, List.length_drop, intsC_length, bytesC_length, strsC_length]; omega)) rfl ?_ | refine ch_s rfl (.append sl22 .nil .sl (by simp only [List.length_append, List.length_cons, List.length_nil, List.length_take, List.length_drop, intsC_length, bytesC_length, strsC_length]; omega)) rfl ?_ | refine ch_s rfl (.append sl22 .nil (.part (by simp only [List.length_append, List.length_cons, List.length_nil, List.length_take, List.length_drop, intsC_length, bytesC_length, strsC_length]; omega)) (by simp only [List.length_append, List.length_cons, List.length_nil, List.length_take, List.length_drop, intsC_length, bytesC_length, strsC_length]; omega)) rfl ?_ | refine ch_s rfl (.append sl22 .nil .nil (by simp only [List.length_append, List.length_cons, List.length_nil, List.length_take, List.length_drop, intsC_length, bytesC_length, strsC_length]; omega)) rfl ?_ | refine ch_s rfl (.append sl22 (.part (by simp only [List.length_append, List.length_cons, List.length_nil, List.length_take, List.length_drop, intsC_length, bytesC_length, strsC_length]; omega)) .row (by simp only [List.length_append, List.length_cons, List.length_nil, List.length_take, List.length_drop, intsC_length, bytesC_length, strsC_length]; omega)) rfl ?_ | refine ch_s rfl (.append sl22 (.part (by simp only [List.length_append, List.length_cons, List.length_nil, List.length_take, List.length_drop, intsC_length, bytesC_length, strsC_length]; omega)) .sl (by simp only [List.length_append, List.length_cons, List.length_nil, List.length_take, List.length_drop, intsC_length, bytesC_length, strsC_length]; omega)) rfl ?_ | refine ch_s rfl (.append sl22 (.part (by simp only [List.length_append, List.length_cons, List.length_nil, List.length_take, List.length_drop, intsC_length, bytesC_length, strsC_length]; omega)) (.part (by simp only [List.length_append, List.length_cons, List.length_nil, List.length_take, List.length_drop, intsC_length, bytesC_length, strsC_length]; omega)) (by simp only [List.length_append, List.length_cons, List.length_nil, List.length_take, List.length_drop, intsC_length, bytesC_length, strsC_length]; omega)) rfl ?_ | refine ch_s rfl (.append sl22 (.part (by simp only [List.length_append, List.length_cons, List.length_nil, List.length_take, List.length_drop, intsC_length, bytesC_length, strsC_length]; omega)) .nil (by simp only [List.length_append, List.length_cons, List.length_nil, List.length_take, List.length_drop, intsC_length, bytesC_length, strsC_length]; omega)) rfl ?_
        refine ch_s rfl .assign rfl ?_
        refine ch_q ?_
        intro hU122
        repeat (first | refine thn_normal ?_ | refine thn_exit ?_ | refine thn_ret ?_ | refine inB_here ?_ | refine inB_other (by decide) ?_ | refine inB_normal ?_ | refine inB_ret ?_)
        refine awp_region (sys _ _ []) 122 146 hU122 rfl rfl ?_
        refine ch_s rfl .move rfl ?_
        first | refine ch_s rfl (.binOp (bo_sub (by omega))) rfl ?_ | refine ch_s rfl (.binOp bo_subw) rfl ?_
        refine ch_s rfl .assign rfl ?_
        refine ch_q ?_
        intro hU146
        repeat (first | refine thn_normal ?_ | refine thn_exit ?_ | refine thn_ret ?_ | refine inB_here ?_ | refine inB_other (by decide) ?_ | refine inB_normal ?_ | refine inB_ret ?_)
        refine ⟨(j - 1, q2, out ++ [1 + x2]), ?_, ⟨(by omega), (by omega), (by omega), nodup_snoc hnd (of_decide_eq_false hbn), (fun y hy => by rcases List.mem_append.1 hy with hy | hy; exact hrg y hy; simp at hy; omega), (by rw [List.length_append, List.length_singleton]; omega), (by simp)⟩, Sub.lists [(0, 0), (1, 106)] rfl rfl ⟨⟨_, rfl, .ptr rfl⟩, ⟨_, rfl, .row rfl⟩, ⟨_, rfl, .val _⟩, trivial⟩ ⟨.inl ⟨0, _, rfl, rfl, ⟨rfl, .cons (.sl _ _) (.cons (.val _) .nil)⟩⟩, .inl ⟨106, _, rfl, rfl, ⟨rfl, rfl, (by rw [intsC_append]; rfl)⟩⟩, trivial⟩⟩
        show (j - 1).toNat < j.toNat
        omega
      · have hbn : decide (_ ∈ out) = true := Bool.eq_true_of_not_eq_false' h2
        refine awp_skip ?_
        repeat (first | refine thn_normal ?_ | refine thn_exit ?_ | refine thn_ret ?_ | refine inB_here ?_ | refine inB_other (by decide) ?_ | refine inB_normal ?_ | refine inB_ret ?_)
        refine awp_region (sys _ _ []) 82 106 hU82 rfl rfl ?_
        refine ch_s rfl .move rfl ?_
        first | refine ch_s rfl (.binOp (bo_sub (by omega))) rfl ?_ | refine ch_s rfl (.binOp bo_subw) rfl ?_
        refine ch_s rfl .assign rfl ?_
        refine ch_q ?_
        intro hU106
        repeat (first | refine thn_normal ?_ | refine thn_exit ?_ | refine thn_ret ?_ | refine inB_here ?_ | refine inB_other (by decide) ?_ | refine inB_normal ?_ | refine inB_ret ?_)
        refine ⟨(j - 1, q2, out), ?_, ⟨(by omega), (by omega), (by omega), hnd, hrg, (by omega), (fun h => by rw [h] at hbn; simp at hbn)⟩, Sub.lists [(0, 0), (1, 1)] rfl rfl ⟨⟨_, rfl, .ptr rfl⟩, ⟨_, rfl, .row rfl⟩, ⟨_, rfl, .val _⟩, trivial⟩ ⟨.inl ⟨0, _, rfl, rfl, ⟨rfl, .cons (.sl _ _) (.cons (.val _) .nil)⟩⟩, .inl ⟨1, _, rfl, rfl, ⟨rfl, rfl, rfl⟩⟩, trivial⟩⟩
        show (j - 1).toNat < j.toNat
        omega
    · replace h1 := of_decide_eq_false h1
      refine awp_exit ?_
      repeat (first | refine thn_normal ?_ | refine thn_exit ?_ | refine thn_ret ?_ | refine inB_here ?_ | refine inB_other (by decide) ?_ | refine inB_normal ?_ | refine inB_ret ?_)
      refine awp_seq ?_
      refine awp_seq ?_
      refine awp_region (sys _ _ []) 18 34 hU18 rfl rfl ?_
      have hl1 : 1 ≤ out.length := by
        rcases Nat.eq_zero_or_pos out.length with h0 | h0
        · have := hoe (List.eq_nil_of_length_eq_zero h0); omega
        · exact h0
      refine ch_s rfl .move rfl ?_
      refine ch_call (ps := [0]) false (one_fn _ _ (by omega) 4 (by omega) (by omega)) rfl (by repeat' (first | exact ArL.nil | apply ArL.cons | exact Ar.flat Ar0.val | exact Ar.flat Ar0.sl | exact Ar.ptr rfl | exact Ar.row rfl | exact Ar.part rfl (by first | omega | (simp only [List.length_append, List.length_cons, List.length_nil, List.length_take, List.length_drop, intsC_length, bytesC_length, strsC_length]; omega)) | exact Ar.flat Ar0.nils | exact Ar.elt | apply Ar.agg | exact Ar0L.nil | apply Ar0L.cons | exact Ar0.val | exact Ar0.sl | exact Ar0.nils)) (.cons' (List.mem_cons_self ..) (.cons .sl (.cons .val .nil)) rfl) rfl (by intro h; cases h) rfl (by intro h; first | (cases h; done) | exact ⟨_, _, ⟨true, 0, rfl, by omega, rfl⟩, by simp, by simp, by trivial, fun lb hlb => by rw [List.mem_singleton.1 hlb]; exact okB_dice (hokb (diceB l p) (by simp))⟩) ?_
      rintro _ _ ⟨b1, q1, rfl, hq1, rfl⟩ hokr hokx
      refine ch_q ?_
      intro hU34
      repeat (first | refine thn_normal ?_ | refine thn_exit ?_ | refine thn_ret ?_ | refine inB_here ?_ | refine inB_other (by decide) ?_ | refine inB_normal ?_ | refine inB_ret ?_)
      refine awp_cond rfl (fun h3 => ?_) (fun h3 => ?_)
      · refine awp_region (sys _ _ []) 34 58 hU34 rfl rfl ?_
        refine ch_s rfl .move rfl ?_
        refine ch_call (ps := []) true (sort_fn out (by omega)) rfl (by repeat' (first | exact ArL.nil | apply ArL.cons | exact Ar.flat Ar0.val | exact Ar.flat Ar0.sl | exact Ar.ptr rfl | exact Ar.row rfl | exact Ar.part rfl (by first | omega | (simp only [List.length_append, List.length_cons, List.length_nil, List.length_take, List.length_drop, intsC_length, bytesC_length, strsC_length]; omega)) | exact Ar.flat Ar0.nils | exact Ar.elt | apply Ar.agg | exact Ar0L.nil | apply Ar0L.cons | exact Ar0.val | exact Ar0.sl | exact Ar0.nils)) rfl rfl (by rintro - _ _ ⟨o, rfl, hpm, rfl⟩; exact ⟨by trivial, fun lb hlb => by simp at hlb; subst hlb; intro c hc; simp [intsC, bytesC] at hc; obtain ⟨x, -, rfl⟩ := hc; rfl⟩) rfl (by intro h; cases h) ?_
        rintro _ _ ⟨o, rfl, hpm, rfl⟩ hokr hokx
        refine ch_s rfl .assign rfl ?_
        refine ch_q ?_
        intro hU58
        repeat (first | refine thn_normal ?_ | refine thn_exit ?_ | refine thn_ret ?_ | refine inB_here ?_ | refine inB_other (by decide) ?_ | refine inB_normal ?_ | refine inB_ret ?_)
        refine awp_seq ?_
        refine awp_region (sys _ _ []) 58 74 hU58 rfl rfl ?_
        refine ch_s rfl .move rfl ?_
        refine ch_s rfl .assign rfl ?_
        refine ch_q ?_
        intro hU74
        repeat (first | refine thn_normal ?_ | refine thn_exit ?_ | refine thn_ret ?_ | refine inB_here ?_ | refine inB_other (by decide) ?_ | refine inB_normal ?_ | refine inB_ret ?_)
        refine awp_ret ?_
        repeat (first | refine thn_normal ?_ | refine thn_exit ?_ | refine thn_ret ?_ | refine inB_here ?_ | refine inB_other (by decide) ?_ | refine inB_normal ?_ | refine inB_ret ?_)
        refine ⟨[_], _, [_, _], [(0, 0), (1, 42)], .cons (.tmp rfl) .nil, ⟨q1, o, rfl, hq1, hpm.nodup_iff.2 hnd, (fun y hy => hrg y (hpm.mem_iff.1 hy)), (by rw [hpm.length_eq]; exact hl1), (by rw [hpm.length_eq]; omega), rfl⟩, .row rfl, ⟨.inl ⟨0, _, rfl, rfl, ⟨rfl, .cons (.sl _ _) (.cons (.val _) .nil)⟩⟩, .inl ⟨42, _, rfl, rfl, ⟨rfl, rfl, rfl⟩⟩, trivial⟩, rfl, rfl, rfl, rfl⟩
      · refine awp_skip ?_
        repeat (first | refine thn_normal ?_ | refine thn_exit ?_ | refine thn_ret ?_ | refine inB_here ?_ | refine inB_other (by decide) ?_ | refine inB_normal ?_ | refine inB_ret ?_)
        refine awp_seq ?_
        refine awp_region (sys _ _ []) 34 50 hU34 rfl rfl ?_
        refine ch_s rfl .move rfl ?_
        refine ch_s rfl .assign rfl ?_
        refine ch_q ?_
        intro hU50
        repeat (first | refine thn_normal ?_ | refine thn_exit ?_ | refine thn_ret ?_ | refine inB_here ?_ | refine inB_other (by decide) ?_ | refine inB_normal ?_ | refine inB_ret ?_)
        refine awp_ret ?_
        repeat (first | refine thn_normal ?_ | refine thn_exit ?_ | refine thn_ret ?_ | refine inB_here ?_ | refine inB_other (by decide) ?_ | refine inB_normal ?_ | refine inB_ret ?_)
        refine ⟨[_], _, [_, _], [(0, 0), (1, 1)], .cons (.tmp rfl) .nil, ⟨q1, out, rfl, hq1, hnd, hrg, hl1, (by omega), rfl⟩, .row rfl, ⟨.inl ⟨0, _, rfl, rfl, ⟨rfl, .cons (.sl _ _) (.cons (.val _) .nil)⟩⟩, .inl ⟨1, _, rfl, rfl, ⟨rfl, rfl, rfl⟩⟩, trivial⟩, rfl, rfl, rfl, rfl⟩
end Go.Proofs.Ythjgcmifggdepaa
