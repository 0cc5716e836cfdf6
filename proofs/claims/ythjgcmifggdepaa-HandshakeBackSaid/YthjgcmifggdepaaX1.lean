/- The dice, by the engine. -/
import Derived.Test.YthjgcmifggdepaaED
import Derived.Test.YthjgcmifggdepaaDice
import Derived.Test.YthjgcmifggdepaaH22
set_option linter.unusedVariables false
set_option linter.unusedSimpArgs false
namespace Go.Proofs.Ythjgcmifggdepaa
open Go.RowKit
theorem und59 : Try.prog.underlying 59 = some (.struct ((match Try.prog.underlying 59 with | some (.struct f) => f | _ => #[]))) := by kernel_rfl
theorem fd59_0 : Fd Try.prog 59 0 0 22 := ⟨_, (match Try.prog.underlying 59 with | some (.struct f) => f | _ => #[])[0]!, und59, by kernel_rfl, by kernel_rfl, by kernel_rfl⟩
theorem fd59_1 : Fd Try.prog 59 1 1 3 := ⟨_, (match Try.prog.underlying 59 with | some (.struct f) => f | _ => #[])[1]!, und59, by kernel_rfl, by kernel_rfl, by kernel_rfl⟩
theorem ty22 : Ty Try.prog 22 false 1 := ⟨by kernel_rfl, by kernel_rfl⟩
theorem ty3 : Ty Try.prog 3 false 1 := ⟨by kernel_rfl, by kernel_rfl⟩
theorem z3 : Zt Try.prog 3 [.int .i64 0] := ⟨(.int .i64 0), by kernel_rfl, rfl, by decide⟩
/-- The dice: where they stand. -/
abbrev diceB (l : List Int) (p : Nat) : LB := .box [.sl 1 (intsC l), .val (.int .i64 (p : Nat))] 59
theorem modE {x k : Int} (hk : 1 ≤ k) : (x.tmod k + k).tmod k = modV x k := by
  have m1 := Int.lt_tmod_of_pos x (b := k) (by omega)
  unfold modV
  rw [Int.tmod_eq_emod_of_nonneg (by omega), Int.add_emod_right]
set_option maxRecDepth 100000 in
set_option maxHeartbeats 800000 in
theorem mod_fn (x k : Int) (hk : 1 ≤ k) (hk2 : k ≤ 4000000000) : Fn Try.prog 20 [.val (.int .i64 x), .val (.int .i64 k)] [] (fun r b => r = .val (.int .i64 (modV x k)) ∧ b = []) := by
  have m1 := Int.lt_tmod_of_pos x (b := k) (by omega)
  have m2 := Int.tmod_lt_of_pos x (b := k) (by omega)
  refine Fn.of Try.func20 rfl rfl rfl fun hok hokb w0 I ρ0 => ?_
  show awp _ ⟨w0, I, ρ0, 0, 14⟩ _ _ _
  refine awp_seq ?_
  refine awp_region (sys _ _ []) 0 8 mk_U rfl rfl ?_
  refine ch_s rfl .assign rfl ?_
  refine ch_q ?_
  intro hU8
  repeat (first | refine thn_normal ?_ | refine thn_exit ?_ | refine thn_ret ?_ | refine inB_here ?_ | refine inB_other (by decide) ?_ | refine inB_normal ?_ | refine inB_ret ?_)
  refine awp_seq ?_
  refine awp_seq ?_
  refine awp_region (sys _ _ []) 8 24 hU8 rfl rfl ?_
  refine ch_s rfl .move rfl ?_
  refine ch_s rfl (.binOp bo_lss) rfl ?_
  refine ch_q ?_
  intro hU24
  repeat (first | refine thn_normal ?_ | refine thn_exit ?_ | refine thn_ret ?_ | refine inB_here ?_ | refine inB_other (by decide) ?_ | refine inB_normal ?_ | refine inB_ret ?_)
  refine awp_cond rfl (fun h1 => ?_) (fun h1 => ?_)
  · replace h1 := of_decide_eq_true h1
    refine awp_seq ?_
    refine awp_region (sys _ _ []) 24 32 hU24 rfl rfl ?_
    refine ch_s rfl .assign rfl ?_
    refine ch_q ?_
    intro hU32
    repeat (first | refine thn_normal ?_ | refine thn_exit ?_ | refine thn_ret ?_ | refine inB_here ?_ | refine inB_other (by decide) ?_ | refine inB_normal ?_ | refine inB_ret ?_)
    refine awp_ret ?_
    repeat (first | refine thn_normal ?_ | refine thn_exit ?_ | refine thn_ret ?_ | refine inB_here ?_ | refine inB_other (by decide) ?_ | refine inB_normal ?_ | refine inB_ret ?_)
    refine ⟨[_], _, [], [], .cons (.tmp rfl) .nil, ⟨?_, rfl⟩, .val _, trivial, rfl, rfl, rfl, rfl⟩
    first | (exfalso; omega) | (rw [modE hk])
  · replace h1 := of_decide_eq_false h1
    refine awp_skip ?_
    repeat (first | refine thn_normal ?_ | refine thn_exit ?_ | refine thn_ret ?_ | refine inB_here ?_ | refine inB_other (by decide) ?_ | refine inB_normal ?_ | refine inB_ret ?_)
    refine awp_seq ?_
    refine awp_region (sys _ _ []) 24 88 hU24 rfl rfl ?_
    refine ch_s rfl .move rfl ?_
    refine ch_s rfl .move rfl ?_
    refine ch_s rfl (.binOp (bo_rem (by omega))) rfl ?_
    refine ch_s rfl .move rfl ?_
    first | refine ch_s rfl (.binOp (bo_add (by omega))) rfl ?_ | refine ch_s rfl (.binOp bo_addw) rfl ?_
    refine ch_s rfl .move rfl ?_
    refine ch_s rfl (.binOp (bo_rem (by omega))) rfl ?_
    refine ch_s rfl .assign rfl ?_
    refine ch_q ?_
    intro hU88
    repeat (first | refine thn_normal ?_ | refine thn_exit ?_ | refine thn_ret ?_ | refine inB_here ?_ | refine inB_other (by decide) ?_ | refine inB_normal ?_ | refine inB_ret ?_)
    refine awp_ret ?_
    repeat (first | refine thn_normal ?_ | refine thn_exit ?_ | refine thn_ret ?_ | refine inB_here ?_ | refine inB_other (by decide) ?_ | refine inB_normal ?_ | refine inB_ret ?_)
    refine ⟨[_], _, [], [], .cons (.tmp rfl) .nil, ⟨?_, rfl⟩, .val _, trivial, rfl, rfl, rfl, rfl⟩
    first | (exfalso; omega) | (rw [modE hk])
set_option maxRecDepth 100000 in
set_option maxHeartbeats 800000 in
theorem next_fn (l : List Int) (p : Nat) (hp : p ≤ l.length) (k : Int) (hk : 1 ≤ k) (hk2 : k ≤ 4000000000) : Fn Try.prog 21 [.ptr 0 0, .val (.int .i64 k)] [diceB l p] (fun r b => ∃ (x : Int) (q : Nat), r = .val (.int .i64 x) ∧ 0 ≤ x ∧ x < k ∧ q ≤ l.length ∧ b = [diceB l q]) := by
  refine Fn.of Try.func21 rfl rfl rfl fun hok hokb w0 I ρ0 => ?_
  show awp _ ⟨w0, I, ρ0, 1, 35⟩ _ _ _
  refine awp_seq ?_
  refine awp_region (sys _ _ []) 1 9 mk_U rfl rfl ?_
  refine ch_s rfl .assign rfl ?_
  refine ch_q ?_
  intro hU9
  repeat (first | refine thn_normal ?_ | refine thn_exit ?_ | refine thn_ret ?_ | refine inB_here ?_ | refine inB_other (by decide) ?_ | refine inB_normal ?_ | refine inB_ret ?_)
  refine awp_seq ?_
  refine awp_seq ?_
  refine awp_draw (sys _ _ []) (by kernel_rfl) [] 9 89 hU9 rfl rfl (by kernel_rfl) ?_
  have hlen := okB_len (hokb (diceB l p) (by simp))
  refine ch_s rfl .move rfl ?_
  first | refine ch_s rfl .nilP rfl ?_ | refine ch_s rfl .nilE rfl ?_
  first | refine ch_s rfl (.fieldP fd59_1 ty3 (by decide)) rfl ?_ | refine ch_s rfl (.fieldE fd59_1 ty3 (by decide) (by simp only [List.length_append, List.length_cons, List.length_nil, List.length_take, List.length_drop, intsC_length, bytesC_length, strsC_length]; omega)) rfl ?_
  first | refine ch_s rfl (.loadB1 ty3 rfl) rfl ?_ | refine ch_s rfl (.loadE1 ty3 (by first | rfl | assumption | exact ints_elt (by assumption) | exact ints_row' (by assumption) | exact bytes_elt (by assumption) | exact bytes_row' (by assumption) | exact strs_elt (by assumption))) rfl ?_ | refine ch_s rfl (.loadR1 ty3 (by first | rfl | assumption | exact ints_elt (by assumption) | exact ints_row' (by assumption) | exact bytes_elt (by assumption) | exact bytes_row' (by assumption) | exact strs_elt (by assumption))) rfl ?_
  refine ch_s rfl .move rfl ?_
  first | refine ch_s rfl .nilP rfl ?_ | refine ch_s rfl .nilE rfl ?_
  first | refine ch_s rfl (.fieldP fd59_0 ty22 (by decide)) rfl ?_ | refine ch_s rfl (.fieldE fd59_0 ty22 (by decide) (by simp only [List.length_append, List.length_cons, List.length_nil, List.length_take, List.length_drop, intsC_length, bytesC_length, strsC_length]; omega)) rfl ?_
  first | refine ch_s rfl (.loadB1 ty22 rfl) rfl ?_ | refine ch_s rfl (.loadE1 ty22 (by first | rfl | assumption | exact ints_elt (by assumption) | exact ints_row' (by assumption) | exact bytes_elt (by assumption) | exact bytes_row' (by assumption) | exact strs_elt (by assumption))) rfl ?_ | refine ch_s rfl (.loadR1 ty22 (by first | rfl | assumption | exact ints_elt (by assumption) | exact ints_row' (by assumption) | exact bytes_elt (by assumption) | exact bytes_row' (by assumption) | exact strs_elt (by assumption))) rfl ?_
  first | refine ch_s rfl (.len sl22.elem len_ints) rfl ?_ | refine ch_s rfl (.len sl22.elem len_rints) rfl ?_ | refine ch_s rfl (.len sl22.elem .part) rfl ?_ | refine ch_s rfl (.len sl22.elem len_bytes) rfl ?_ | refine ch_s rfl (.len sl22.elem len_rbytes) rfl ?_ | refine ch_s rfl (.len sl22.elem len_strs) rfl ?_ | refine ch_s rfl (.len sl22.elem len_rstrs) rfl ?_ | refine ch_s rfl (.len sl22.elem (.sl (by decide) (by assumption))) rfl ?_ | refine ch_s rfl (.len sl22.elem (.row (by decide) (by assumption))) rfl ?_
  refine ch_s rfl (.binOp bo_geq) rfl ?_
  refine ch_q ?_
  intro hU89
  repeat (first | refine thn_normal ?_ | refine thn_exit ?_ | refine thn_ret ?_ | refine inB_here ?_ | refine inB_other (by decide) ?_ | refine inB_normal ?_ | refine inB_ret ?_)
  refine awp_cond rfl (fun h1 => ?_) (fun h1 => ?_)
  · replace h1 := of_decide_eq_true h1
    refine awp_seq ?_
    refine awp_region (sys _ _ []) 89 97 hU89 rfl rfl ?_
    refine ch_s rfl .assign rfl ?_
    refine ch_q ?_
    intro hU97
    repeat (first | refine thn_normal ?_ | refine thn_exit ?_ | refine thn_ret ?_ | refine inB_here ?_ | refine inB_other (by decide) ?_ | refine inB_normal ?_ | refine inB_ret ?_)
    refine awp_ret ?_
    repeat (first | refine thn_normal ?_ | refine thn_exit ?_ | refine thn_ret ?_ | refine inB_here ?_ | refine inB_other (by decide) ?_ | refine inB_normal ?_ | refine inB_ret ?_)
    refine ⟨[_], _, [_], [(0, 0)], .cons (.tmp rfl) .nil, ⟨0, p, rfl, (by omega), (by omega), hp, rfl⟩, .val _, ⟨.inl ⟨0, _, rfl, rfl, ⟨rfl, .cons (.sl _ _) (.cons (.val _) .nil)⟩⟩, trivial⟩, rfl, rfl, rfl, rfl⟩
  · replace h1 := of_decide_eq_false h1
    refine awp_skip ?_
    repeat (first | refine thn_normal ?_ | refine thn_exit ?_ | refine thn_ret ?_ | refine inB_here ?_ | refine inB_other (by decide) ?_ | refine inB_normal ?_ | refine inB_ret ?_)
    refine awp_seq ?_
    refine awp_region (sys _ _ []) 89 153 hU89 rfl rfl ?_
    obtain ⟨y, hy⟩ := ints_get' (l := l) (k := p) (by omega)
    refine ch_s rfl .move rfl ?_
    first | refine ch_s rfl .nilP rfl ?_ | refine ch_s rfl .nilE rfl ?_
    first | refine ch_s rfl (.fieldP fd59_1 ty3 (by decide)) rfl ?_ | refine ch_s rfl (.fieldE fd59_1 ty3 (by decide) (by simp only [List.length_append, List.length_cons, List.length_nil, List.length_take, List.length_drop, intsC_length, bytesC_length, strsC_length]; omega)) rfl ?_
    first | refine ch_s rfl (.loadB1 ty3 rfl) rfl ?_ | refine ch_s rfl (.loadE1 ty3 (by first | rfl | assumption | exact ints_elt (by assumption) | exact ints_row' (by assumption) | exact bytes_elt (by assumption) | exact bytes_row' (by assumption) | exact strs_elt (by assumption))) rfl ?_ | refine ch_s rfl (.loadR1 ty3 (by first | rfl | assumption | exact ints_elt (by assumption) | exact ints_row' (by assumption) | exact bytes_elt (by assumption) | exact bytes_row' (by assumption) | exact strs_elt (by assumption))) rfl ?_
    first | refine ch_s rfl (.binOp (bo_add (by omega))) rfl ?_ | refine ch_s rfl (.binOp bo_addw) rfl ?_
    first | refine ch_s rfl .nilP rfl ?_ | refine ch_s rfl .nilE rfl ?_
    first | refine ch_s rfl (.fieldP fd59_1 ty3 (by decide)) rfl ?_ | refine ch_s rfl (.fieldE fd59_1 ty3 (by decide) (by simp only [List.length_append, List.length_cons, List.length_nil, List.length_take, List.length_drop, intsC_length, bytesC_length, strsC_length]; omega)) rfl ?_
    first | refine ch_s rfl (.storeB ty3 rfl (Nat.le_of_ble_eq_true rfl) rfl) rfl ?_ | refine ch_s rfl (.storeR ty3 rfl (by simp only [List.length_append, List.length_cons, List.length_nil, List.length_take, List.length_drop, intsC_length, bytesC_length, strsC_length]; omega) (by repeat' (first | exact DcsE.nil | apply DcsE.cons | exact DcE.bool | exact DcE.sl | exact DcE.int (by first | decide | exact i64_range (by omega) | exact u8_range (by omega) | assumption) | exact DcE.str (by first | decide | assumption | omega) | exact DcE.ptr | exact DcE.nilF | exact DcE.nilI))) rfl ?_
    refine ch_q ?_
    intro hU153
    repeat (first | refine thn_normal ?_ | refine thn_exit ?_ | refine thn_ret ?_ | refine inB_here ?_ | refine inB_other (by decide) ?_ | refine inB_normal ?_ | refine inB_ret ?_)
    refine awp_seq ?_
    refine awp_draw (sys _ _ []) (by kernel_rfl) [(3, 12), (7, 12), (9, 12), (10, 12)] 153 265 hU153 rfl rfl (by kernel_rfl) ?_
    refine ch_s rfl .move rfl ?_
    first | refine ch_s rfl .nilP rfl ?_ | refine ch_s rfl .nilE rfl ?_
    first | refine ch_s rfl (.fieldP fd59_0 ty22 (by decide)) rfl ?_ | refine ch_s rfl (.fieldE fd59_0 ty22 (by decide) (by simp only [List.length_append, List.length_cons, List.length_nil, List.length_take, List.length_drop, intsC_length, bytesC_length, strsC_length]; omega)) rfl ?_
    first | refine ch_s rfl (.loadB1 ty22 rfl) rfl ?_ | refine ch_s rfl (.loadE1 ty22 (by first | rfl | assumption | exact ints_elt (by assumption) | exact ints_row' (by assumption) | exact bytes_elt (by assumption) | exact bytes_row' (by assumption) | exact strs_elt (by assumption))) rfl ?_ | refine ch_s rfl (.loadR1 ty22 (by first | rfl | assumption | exact ints_elt (by assumption) | exact ints_row' (by assumption) | exact bytes_elt (by assumption) | exact bytes_row' (by assumption) | exact strs_elt (by assumption))) rfl ?_
    refine ch_s rfl .move rfl ?_
    first | refine ch_s rfl .nilP rfl ?_ | refine ch_s rfl .nilE rfl ?_
    first | refine ch_s rfl (.fieldP fd59_1 ty3 (by decide)) rfl ?_ | refine ch_s rfl (.fieldE fd59_1 ty3 (by decide) (by simp only [List.length_append, List.length_cons, List.length_nil, List.length_take, List.length_drop, intsC_length, bytesC_length, strsC_length]; omega)) rfl ?_
    first | refine ch_s rfl (.loadB1 ty3 rfl) rfl ?_ | refine ch_s rfl (.loadE1 ty3 (by first | rfl | assumption | exact ints_elt (by assumption) | exact ints_row' (by assumption) | exact bytes_elt (by assumption) | exact bytes_row' (by assumption) | exact strs_elt (by assumption))) rfl ?_ | refine ch_s rfl (.loadR1 ty3 (by first | rfl | assumption | exact ints_elt (by assumption) | exact ints_row' (by assumption) | exact bytes_elt (by assumption) | exact bytes_row' (by assumption) | exact strs_elt (by assumption))) rfl ?_
    first | refine ch_s rfl (.binOp (bo_sub (by omega))) rfl ?_ | refine ch_s rfl (.binOp bo_subw) rfl ?_
    refine ch_s rfl (.idxS sl22 (j := p) (by omega) (by rw [intsC_length]; omega)) rfl ?_
    first | refine ch_s rfl (.loadB1 ty3 rfl) rfl ?_ | refine ch_s rfl (.loadE1 ty3 (by first | rfl | assumption | exact ints_elt (by assumption) | exact ints_row' (by assumption) | exact bytes_elt (by assumption) | exact bytes_row' (by assumption) | exact strs_elt (by assumption))) rfl ?_ | refine ch_s rfl (.loadR1 ty3 (by first | rfl | assumption | exact ints_elt (by assumption) | exact ints_row' (by assumption) | exact bytes_elt (by assumption) | exact bytes_row' (by assumption) | exact strs_elt (by assumption))) rfl ?_
    refine ch_s rfl .move rfl ?_
    refine ch_call (ps := []) false (mod_fn _ _ (by omega) (by omega)) rfl (by repeat' (first | exact ArL.nil | apply ArL.cons | exact Ar.flat Ar0.val | exact Ar.flat Ar0.sl | exact Ar.ptr rfl | exact Ar.row rfl | exact Ar.part rfl (by first | omega | (simp only [List.length_append, List.length_cons, List.length_nil, List.length_take, List.length_drop, intsC_length, bytesC_length, strsC_length]; omega)) | exact Ar.flat Ar0.nils | exact Ar.elt | apply Ar.agg | exact Ar0L.nil | apply Ar0L.cons | exact Ar0.val | exact Ar0.sl | exact Ar0.nils)) rfl rfl (by intro h; cases h) rfl (by intro h; first | (cases h; done) | exact ⟨_, _, ⟨rfl, rfl⟩, by simp, by simp, by trivial, by simp⟩) ?_
    rintro _ _ ⟨rfl, rfl⟩ hokr hokx
    refine ch_s rfl .assign rfl ?_
    refine ch_q ?_
    intro hU265
    repeat (first | refine thn_normal ?_ | refine thn_exit ?_ | refine thn_ret ?_ | refine inB_here ?_ | refine inB_other (by decide) ?_ | refine inB_normal ?_ | refine inB_ret ?_)
    refine awp_ret ?_
    repeat (first | refine thn_normal ?_ | refine thn_exit ?_ | refine thn_ret ?_ | refine inB_here ?_ | refine inB_other (by decide) ?_ | refine inB_normal ?_ | refine inB_ret ?_)
    have hm := modV_range y k hk
    refine ⟨[_], _, [_], [(0, 0)], .cons (.tmp rfl) .nil, ⟨_, p + 1, rfl, hm.1, hm.2, (by omega), rfl⟩, .val _, ⟨.inl ⟨0, _, rfl, rfl, ⟨rfl, .cons (.sl _ _) (.cons (.val _) .nil)⟩⟩, trivial⟩, rfl, rfl, rfl, rfl⟩
set_option maxRecDepth 100000 in
set_option maxHeartbeats 800000 in
theorem one_fn (l : List Int) (p : Nat) (hp : p ≤ l.length) (k : Int) (hk : 1 ≤ k) (hk2 : k ≤ 4000000000) : Fn Try.prog 17 [.ptr 0 0, .val (.int .i64 k)] [diceB l p] (fun r b => ∃ (x : Bool) (q : Nat), r = .val (.bool x) ∧ q ≤ l.length ∧ b = [diceB l q]) := by
  refine Fn.of Try.func17 rfl rfl rfl fun hok hokb w0 I ρ0 => ?_
  show awp _ ⟨w0, I, ρ0, 1, 11⟩ _ _ _
  refine awp_seq ?_
  refine awp_region (sys _ _ []) 1 9 mk_U rfl rfl ?_
  refine ch_s rfl .assign rfl ?_
  refine ch_q ?_
  intro hU9
  repeat (first | refine thn_normal ?_ | refine thn_exit ?_ | refine thn_ret ?_ | refine inB_here ?_ | refine inB_other (by decide) ?_ | refine inB_normal ?_ | refine inB_ret ?_)
  refine awp_seq ?_
  refine awp_region (sys _ _ []) 9 65 hU9 rfl rfl ?_
  refine ch_s rfl .move rfl ?_
  refine ch_s rfl .move rfl ?_
  refine ch_call (ps := [0]) false (next_fn _ _ (by omega) k (by omega) (by omega)) rfl (by repeat' (first | exact ArL.nil | apply ArL.cons | exact Ar.flat Ar0.val | exact Ar.flat Ar0.sl | exact Ar.ptr rfl | exact Ar.row rfl | exact Ar.part rfl (by first | omega | (simp only [List.length_append, List.length_cons, List.length_nil, List.length_take, List.length_drop, intsC_length, bytesC_length, strsC_length]; omega)) | exact Ar.flat Ar0.nils | exact Ar.elt | apply Ar.agg | exact Ar0L.nil | apply Ar0L.cons | exact Ar0.val | exact Ar0.sl | exact Ar0.nils)) (.cons' (List.mem_cons_self ..) (.cons .sl (.cons .val .nil)) rfl) rfl (by intro h; cases h) rfl (by intro h; first | (cases h; done) | exact ⟨_, _, ⟨0, 0, rfl, by omega, by omega, by omega, rfl⟩, by simp, by simp, by trivial, fun lb hlb => by rw [List.mem_singleton.1 hlb]; exact hokb _ (by simp)⟩) ?_
  rintro _ _ ⟨x, q, rfl, hx0, hxk, hq, rfl⟩ hokr hokx
  refine ch_s rfl .move rfl ?_
  first | refine ch_s rfl (.binOp (bo_sub (by omega))) rfl ?_ | refine ch_s rfl (.binOp bo_subw) rfl ?_
  refine ch_s rfl (.binOp bo_eql) rfl ?_
  refine ch_s rfl .assign rfl ?_
  refine ch_q ?_
  intro hU65
  repeat (first | refine thn_normal ?_ | refine thn_exit ?_ | refine thn_ret ?_ | refine inB_here ?_ | refine inB_other (by decide) ?_ | refine inB_normal ?_ | refine inB_ret ?_)
  refine awp_ret ?_
  repeat (first | refine thn_normal ?_ | refine thn_exit ?_ | refine thn_ret ?_ | refine inB_here ?_ | refine inB_other (by decide) ?_ | refine inB_normal ?_ | refine inB_ret ?_)
  refine ⟨[_], _, [_], [(0, 0)], .cons (.tmp rfl) .nil, ⟨_, q, rfl, hq, rfl⟩, .val _, ⟨.inl ⟨0, _, rfl, rfl, ⟨rfl, .cons (.sl _ _) (.cons (.val _) .nil)⟩⟩, trivial⟩, rfl, rfl, rfl, rfl⟩
set_option maxRecDepth 100000 in
set_option maxHeartbeats 800000 in
theorem of_fn (l : List Int) (p : Nat) (hp : p ≤ l.length) (vs : List Int) (hv : 0 < vs.length) (hv2 : vs.length ≤ 1000) : Fn Try.prog 19 [.ptr 0 0, .sl 1 (intsC vs)] [diceB l p] (fun r b => ∃ (x : Int) (q : Nat), r = .val (.int .i64 x) ∧ x ∈ vs ∧ q ≤ l.length ∧ b = [diceB l q]) := by
  refine Fn.of Try.func19 rfl rfl rfl fun hok hokb w0 I ρ0 => ?_
  show awp _ ⟨w0, I, ρ0, 1, 12⟩ _ _ _
  refine awp_seq ?_
  refine awp_region (sys _ _ []) 1 9 mk_U rfl rfl ?_
  refine ch_s rfl .assign rfl ?_
  refine ch_q ?_
  intro hU9
  repeat (first | refine thn_normal ?_ | refine thn_exit ?_ | refine thn_ret ?_ | refine inB_here ?_ | refine inB_other (by decide) ?_ | refine inB_normal ?_ | refine inB_ret ?_)
  refine awp_seq ?_
  refine awp_region (sys _ _ []) 9 73 hU9 rfl rfl ?_
  refine ch_s rfl .move rfl ?_
  refine ch_s rfl .move rfl ?_
  refine ch_s rfl .move rfl ?_
  first | refine ch_s rfl (.len sl22.elem len_ints) rfl ?_ | refine ch_s rfl (.len sl22.elem len_rints) rfl ?_ | refine ch_s rfl (.len sl22.elem .part) rfl ?_ | refine ch_s rfl (.len sl22.elem len_bytes) rfl ?_ | refine ch_s rfl (.len sl22.elem len_rbytes) rfl ?_ | refine ch_s rfl (.len sl22.elem len_strs) rfl ?_ | refine ch_s rfl (.len sl22.elem len_rstrs) rfl ?_ | refine ch_s rfl (.len sl22.elem (.sl (by decide) (by assumption))) rfl ?_ | refine ch_s rfl (.len sl22.elem (.row (by decide) (by assumption))) rfl ?_
  refine ch_call (ps := [0]) false (next_fn _ _ (by omega) (vs.length : Int) (by omega) (by omega)) rfl (by repeat' (first | exact ArL.nil | apply ArL.cons | exact Ar.flat Ar0.val | exact Ar.flat Ar0.sl | exact Ar.ptr rfl | exact Ar.row rfl | exact Ar.part rfl (by first | omega | (simp only [List.length_append, List.length_cons, List.length_nil, List.length_take, List.length_drop, intsC_length, bytesC_length, strsC_length]; omega)) | exact Ar.flat Ar0.nils | exact Ar.elt | apply Ar.agg | exact Ar0L.nil | apply Ar0L.cons | exact Ar0.val | exact Ar0.sl | exact Ar0.nils)) (.cons' (List.mem_cons_self ..) (.cons .sl (.cons .val .nil)) rfl) rfl (by intro h; cases h) rfl (by intro h; first | (cases h; done) | exact ⟨_, _, ⟨0, 0, rfl, by omega, by omega, by omega, rfl⟩, by simp, by simp, by trivial, fun lb hlb => by rw [List.mem_singleton.1 hlb]; exact hokb _ (by simp)⟩) ?_
  rintro _ _ ⟨x, q, rfl, hx0, hxk, hq, rfl⟩ hokr hokx
  obtain ⟨z, rfl⟩ := Int.eq_ofNat_of_zero_le hx0
  obtain ⟨y, hy⟩ := ints_get' (l := vs) (k := z) (by omega)
  refine ch_s rfl (.idxS sl22 (j := z) rfl (by rw [intsC_length]; omega)) rfl ?_
  first | refine ch_s rfl (.loadB1 ty3 rfl) rfl ?_ | refine ch_s rfl (.loadE1 ty3 (by first | rfl | assumption | exact ints_elt (by assumption) | exact ints_row' (by assumption) | exact bytes_elt (by assumption) | exact bytes_row' (by assumption) | exact strs_elt (by assumption))) rfl ?_ | refine ch_s rfl (.loadR1 ty3 (by first | rfl | assumption | exact ints_elt (by assumption) | exact ints_row' (by assumption) | exact bytes_elt (by assumption) | exact bytes_row' (by assumption) | exact strs_elt (by assumption))) rfl ?_
  refine ch_s rfl .assign rfl ?_
  refine ch_q ?_
  intro hU73
  repeat (first | refine thn_normal ?_ | refine thn_exit ?_ | refine thn_ret ?_ | refine inB_here ?_ | refine inB_other (by decide) ?_ | refine inB_normal ?_ | refine inB_ret ?_)
  refine awp_ret ?_
  repeat (first | refine thn_normal ?_ | refine thn_exit ?_ | refine thn_ret ?_ | refine inB_here ?_ | refine inB_other (by decide) ?_ | refine inB_normal ?_ | refine inB_ret ?_)
  refine ⟨[_], _, [_], [(0, 0)], .cons (.tmp rfl) .nil, ⟨_, q, rfl, List.mem_of_getElem? hy, hq, rfl⟩, .val _, ⟨.inl ⟨0, _, rfl, rfl, ⟨rfl, .cons (.sl _ _) (.cons (.val _) .nil)⟩⟩, trivial⟩, rfl, rfl, rfl, rfl⟩
set_option maxRecDepth 100000 in
set_option maxHeartbeats 800000 in
theorem light_fn (l : List Int) : Fn Try.prog 8 [.sl 1 (intsC l)] [] (fun r b => r = .val (.bool (decide (l.length ≤ 400))) ∧ b = []) := by
  refine Fn.of Try.func8 rfl rfl rfl fun hok hokb w0 I ρ0 => ?_
  show awp _ ⟨w0, I, ρ0, 0, 6⟩ _ _ _
  refine awp_seq ?_
  refine awp_region (sys _ _ []) 0 8 mk_U rfl rfl ?_
  refine ch_s rfl .assign rfl ?_
  refine ch_q ?_
  intro hU8
  repeat (first | refine thn_normal ?_ | refine thn_exit ?_ | refine thn_ret ?_ | refine inB_here ?_ | refine inB_other (by decide) ?_ | refine inB_normal ?_ | refine inB_ret ?_)
  refine awp_seq ?_
  refine awp_region (sys _ _ []) 8 40 hU8 rfl rfl ?_
  refine ch_s rfl .move rfl ?_
  first | refine ch_s rfl (.len sl22.elem len_ints) rfl ?_ | refine ch_s rfl (.len sl22.elem len_rints) rfl ?_ | refine ch_s rfl (.len sl22.elem .part) rfl ?_ | refine ch_s rfl (.len sl22.elem len_bytes) rfl ?_ | refine ch_s rfl (.len sl22.elem len_rbytes) rfl ?_ | refine ch_s rfl (.len sl22.elem len_strs) rfl ?_ | refine ch_s rfl (.len sl22.elem len_rstrs) rfl ?_ | refine ch_s rfl (.len sl22.elem (.sl (by decide) (by assumption))) rfl ?_ | refine ch_s rfl (.len sl22.elem (.row (by decide) (by assumption))) rfl ?_
  refine ch_s rfl (.binOp bo_leq) rfl ?_
  refine ch_s rfl .assign rfl ?_
  refine ch_q ?_
  intro hU40
  repeat (first | refine thn_normal ?_ | refine thn_exit ?_ | refine thn_ret ?_ | refine inB_here ?_ | refine inB_other (by decide) ?_ | refine inB_normal ?_ | refine inB_ret ?_)
  refine awp_ret ?_
  repeat (first | refine thn_normal ?_ | refine thn_exit ?_ | refine thn_ret ?_ | refine inB_here ?_ | refine inB_other (by decide) ?_ | refine inB_normal ?_ | refine inB_ret ?_)
  refine ⟨[_], _, [], [], .cons (.tmp rfl) .nil, ⟨?_, rfl⟩, .val _, trivial, rfl, rfl, rfl, rfl⟩
  congr 2
  simp
  omega
set_option maxRecDepth 100000 in
set_option maxHeartbeats 800000 in
theorem has_fn (l : List Int) (x : Int) : Fn Try.prog 41 [.sl 1 (intsC l), .val (.int .i64 x)] [] (fun r b => r = .val (.bool (decide (x ∈ l))) ∧ b = []) := by
  refine Fn.of Try.func41 rfl rfl rfl fun hok hokb w0 I ρ0 => ?_
  show awp _ ⟨w0, I, ρ0, 0, 18⟩ _ _ _
  refine awp_seq ?_
  refine awp_region (sys _ _ []) 0 8 mk_U rfl rfl ?_
  obtain ⟨hlen, hoks⟩ := okD_len hok
  refine ch_s rfl .assign rfl ?_
  refine ch_q ?_
  intro hU8
  repeat (first | refine thn_normal ?_ | refine thn_exit ?_ | refine thn_ret ?_ | refine inB_here ?_ | refine inB_other (by decide) ?_ | refine inB_normal ?_ | refine inB_ret ?_)
  refine awp_seq ?_
  refine awp_seq ?_
  refine awp_region (sys _ _ []) 8 16 hU8 rfl rfl ?_
  refine ch_s rfl .assign rfl ?_
  refine ch_q ?_
  intro hU16
  repeat (first | refine thn_normal ?_ | refine thn_exit ?_ | refine thn_ret ?_ | refine inB_here ?_ | refine inB_other (by decide) ?_ | refine inB_normal ?_ | refine inB_ret ?_)
  refine awp_block ?_
  refine awp_loop (ι := Nat) (fun (k : Nat) => mk [(0, .sl 1 (intsC l)), (1, .val (.int .i64 x)), (5, .val (.int .i64 (k : Nat)))] [] 0) (fun (k : Nat) => k ≤ l.length ∧ ∀ (j : Nat) y, j < k → l[j]? = some y → y ≠ x) (fun (k : Nat) => l.length - k) 0 ?_ ?_ ?_
  · exact Sub.lists [] rfl rfl ⟨⟨_, rfl, .sl _ _⟩, ⟨_, rfl, .val _⟩, ⟨_, rfl, .val _⟩, trivial⟩ trivial
  · exact ⟨by omega, fun j y h => absurd h (by omega)⟩
  · rintro k hokl
    replace hokl : k ≤ l.length ∧ ∀ (j : Nat) y, j < k → l[j]? = some y → y ≠ x := hokl
    obtain ⟨hk, hn⟩ := hokl
    show awp _ _ _ _ (mk [(0, .sl 1 (intsC l)), (1, .val (.int .i64 x)), (5, .val (.int .i64 (k : Nat)))] [] 0)
    refine awp_seq ?_
    refine awp_seq ?_
    refine awp_region (sys _ _ []) 0 32 mk_U rfl rfl ?_
    refine ch_s rfl .move rfl ?_
    refine ch_s rfl .move rfl ?_
    first | refine ch_s rfl (.len sl22.elem len_ints) rfl ?_ | refine ch_s rfl (.len sl22.elem len_rints) rfl ?_ | refine ch_s rfl (.len sl22.elem .part) rfl ?_ | refine ch_s rfl (.len sl22.elem len_bytes) rfl ?_ | refine ch_s rfl (.len sl22.elem len_rbytes) rfl ?_ | refine ch_s rfl (.len sl22.elem len_strs) rfl ?_ | refine ch_s rfl (.len sl22.elem len_rstrs) rfl ?_ | refine ch_s rfl (.len sl22.elem (.sl (by decide) (by assumption))) rfl ?_ | refine ch_s rfl (.len sl22.elem (.row (by decide) (by assumption))) rfl ?_
    refine ch_s rfl (.binOp bo_lss) rfl ?_
    refine ch_q ?_
    intro hU32
    repeat (first | refine thn_normal ?_ | refine thn_exit ?_ | refine thn_ret ?_ | refine inB_here ?_ | refine inB_other (by decide) ?_ | refine inB_normal ?_ | refine inB_ret ?_)
    refine awp_cond rfl (fun h1 => ?_) (fun h1 => ?_)
    · replace h1 := of_decide_eq_true h1
      refine awp_skip ?_
      repeat (first | refine thn_normal ?_ | refine thn_exit ?_ | refine thn_ret ?_ | refine inB_here ?_ | refine inB_other (by decide) ?_ | refine inB_normal ?_ | refine inB_ret ?_)
      refine awp_seq ?_
      refine awp_block ?_
      refine awp_seq ?_
      refine awp_region (sys _ _ []) 32 80 hU32 rfl rfl ?_
      obtain ⟨y, hy⟩ := ints_get' (l := l) (k := k) (by omega)
      refine ch_s rfl .move rfl ?_
      refine ch_s rfl .move rfl ?_
      first | refine ch_s rfl (.idxS sl22 rfl (by simp only [List.length_append, List.length_cons, List.length_nil, List.length_take, List.length_drop, intsC_length, bytesC_length, strsC_length]; omega)) rfl ?_ | refine ch_s rfl (.idxR sl22 rfl (by simp only [List.length_append, List.length_cons, List.length_nil, List.length_take, List.length_drop, intsC_length, bytesC_length, strsC_length]; omega)) rfl ?_ | refine ch_s rfl (.idxP sl22 rfl (by omega)) rfl ?_
      first | refine ch_s rfl (.loadB1 ty3 rfl) rfl ?_ | refine ch_s rfl (.loadE1 ty3 (by first | rfl | assumption | exact ints_elt (by assumption) | exact ints_row' (by assumption) | exact bytes_elt (by assumption) | exact bytes_row' (by assumption) | exact strs_elt (by assumption))) rfl ?_ | refine ch_s rfl (.loadR1 ty3 (by first | rfl | assumption | exact ints_elt (by assumption) | exact ints_row' (by assumption) | exact bytes_elt (by assumption) | exact bytes_row' (by assumption) | exact strs_elt (by assumption))) rfl ?_
      refine ch_s rfl .move rfl ?_
      refine ch_s rfl (.binOp bo_eql) rfl ?_
      refine ch_q ?_
      intro hU80
      repeat (first | refine thn_normal ?_ | refine thn_exit ?_ | refine thn_ret ?_ | refine inB_here ?_ | refine inB_other (by decide) ?_ | refine inB_normal ?_ | refine inB_ret ?_)
      refine awp_cond rfl (fun h2 => ?_) (fun h2 => ?_)
      · replace h2 := of_decide_eq_true h2
        refine awp_seq ?_
        refine awp_region (sys _ _ []) 80 88 hU80 rfl rfl ?_
        refine ch_s rfl .assign rfl ?_
        refine ch_q ?_
        intro hU88
        repeat (first | refine thn_normal ?_ | refine thn_exit ?_ | refine thn_ret ?_ | refine inB_here ?_ | refine inB_other (by decide) ?_ | refine inB_normal ?_ | refine inB_ret ?_)
        refine awp_ret ?_
        repeat (first | refine thn_normal ?_ | refine thn_exit ?_ | refine thn_ret ?_ | refine inB_here ?_ | refine inB_other (by decide) ?_ | refine inB_normal ?_ | refine inB_ret ?_)
        refine ⟨[_], _, [], [], .cons (.tmp rfl) .nil, ⟨?_, rfl⟩, .val _, trivial, rfl, rfl, rfl, rfl⟩
        congr 2
        first | exact (decide_eq_true (by subst h2; exact List.mem_of_getElem? hy)).symm | exact (decide_eq_false (fun hm => by obtain ⟨j, hj, e⟩ := List.getElem_of_mem hm; exact hn j l[j] (by omega) (List.getElem?_eq_getElem hj) e)).symm
      · replace h2 := of_decide_eq_false h2
        refine awp_skip ?_
        repeat (first | refine thn_normal ?_ | refine thn_exit ?_ | refine thn_ret ?_ | refine inB_here ?_ | refine inB_other (by decide) ?_ | refine inB_normal ?_ | refine inB_ret ?_)
        refine awp_region (sys _ _ []) 80 104 hU80 rfl rfl ?_
        refine ch_s rfl .move rfl ?_
        first | refine ch_s rfl (.binOp (bo_add (by omega))) rfl ?_ | refine ch_s rfl (.binOp bo_addw) rfl ?_
        refine ch_s rfl .assign rfl ?_
        refine ch_q ?_
        intro hU104
        repeat (first | refine thn_normal ?_ | refine thn_exit ?_ | refine thn_ret ?_ | refine inB_here ?_ | refine inB_other (by decide) ?_ | refine inB_normal ?_ | refine inB_ret ?_)
        refine ⟨k + 1, ?_, ⟨by omega, fun j z hj hz => ?_⟩, Sub.lists [] rfl rfl ⟨⟨_, rfl, .sl _ _⟩, ⟨_, rfl, .val _⟩, ⟨_, rfl, .val _⟩, trivial⟩ trivial⟩
        · show l.length - (k + 1) < l.length - k
          omega
        · by_cases e : j = k
          · subst e
            rw [hy] at hz
            injection hz with hz
            rw [← hz]; exact h2
          · exact hn j z (by omega) hz
    · replace h1 := of_decide_eq_false h1
      refine awp_exit ?_
      repeat (first | refine thn_normal ?_ | refine thn_exit ?_ | refine thn_ret ?_ | refine inB_here ?_ | refine inB_other (by decide) ?_ | refine inB_normal ?_ | refine inB_ret ?_)
      refine awp_seq ?_
      refine awp_region (sys _ _ []) 32 40 hU32 rfl rfl ?_
      refine ch_s rfl .assign rfl ?_
      refine ch_q ?_
      intro hU40
      repeat (first | refine thn_normal ?_ | refine thn_exit ?_ | refine thn_ret ?_ | refine inB_here ?_ | refine inB_other (by decide) ?_ | refine inB_normal ?_ | refine inB_ret ?_)
      refine awp_ret ?_
      repeat (first | refine thn_normal ?_ | refine thn_exit ?_ | refine thn_ret ?_ | refine inB_here ?_ | refine inB_other (by decide) ?_ | refine inB_normal ?_ | refine inB_ret ?_)
      refine ⟨[_], _, [], [], .cons (.tmp rfl) .nil, ⟨?_, rfl⟩, .val _, trivial, rfl, rfl, rfl, rfl⟩
      congr 2
      first | exact (decide_eq_true (by subst h2; exact List.mem_of_getElem? hy)).symm | exact (decide_eq_false (fun hm => by obtain ⟨j, hj, e⟩ := List.getElem_of_mem hm; exact hn j l[j] (by omega) (List.getElem?_eq_getElem hj) e)).symm
set_option maxRecDepth 100000 in
set_option maxHeartbeats 800000 in
theorem some_fn (l : List Int) (p : Nat) (hp : p ≤ l.length) (lo hi : Int) (h1' : 0 ≤ lo) (h2' : lo ≤ hi) (h3' : hi ≤ 1000) : Fn Try.prog 30 [.ptr 0 0, .val (.int .i64 lo), .val (.int .i64 hi)] [diceB l p] (fun r b => ∃ (q : Nat) (out : List Int), r = .row 1 ∧ q ≤ l.length ∧ Asc lo hi out ∧ (out.length : Int) ≤ hi + 1 - lo ∧ b = [diceB l q, .row 3 1 (intsC out)]) := by
  refine Fn.of Try.func30 rfl rfl rfl fun hok hokb w0 I ρ0 => ?_
  show awp _ ⟨w0, I, ρ0, 1, 23⟩ _ _ _
  refine awp_seq ?_
  refine awp_region (sys _ _ []) 1 9 mk_U rfl rfl ?_
  refine ch_s rfl .assign rfl ?_
  refine ch_q ?_
  intro hU9
  repeat (first | refine thn_normal ?_ | refine thn_exit ?_ | refine thn_ret ?_ | refine inB_here ?_ | refine inB_other (by decide) ?_ | refine inB_normal ?_ | refine inB_ret ?_)
  refine awp_seq ?_
  refine awp_region (sys _ _ []) 9 17 hU9 rfl rfl ?_
  refine ch_s rfl .assign rfl ?_
  refine ch_q ?_
  intro hU17
  repeat (first | refine thn_normal ?_ | refine thn_exit ?_ | refine thn_ret ?_ | refine inB_here ?_ | refine inB_other (by decide) ?_ | refine inB_normal ?_ | refine inB_ret ?_)
  refine awp_seq ?_
  refine awp_seq ?_
  refine awp_region (sys _ _ []) 17 33 hU17 rfl rfl ?_
  refine ch_s rfl .move rfl ?_
  refine ch_s rfl .assign rfl ?_
  refine ch_q ?_
  intro hU33
  repeat (first | refine thn_normal ?_ | refine thn_exit ?_ | refine thn_ret ?_ | refine inB_here ?_ | refine inB_other (by decide) ?_ | refine inB_normal ?_ | refine inB_ret ?_)
  refine awp_block ?_
  refine awp_loop (ι := Int × Nat × List Int) (fun ((i, q, out) : Int × Nat × List Int) => mk [(0, .ptr 0 0), (1, .val (.int .i64 lo)), (2, .val (.int .i64 hi)), (7, .row 1), (8, .val (.int .i64 i))] [(0, diceB l q), (1, .row 3 1 (intsC out))] 2) (fun ((i, q, out) : Int × Nat × List Int) => q ≤ l.length ∧ lo ≤ i ∧ i ≤ hi + 1 ∧ Asc lo (i - 1) out ∧ (out.length : Int) ≤ i - lo) (fun ((i, q, out) : Int × Nat × List Int) => (hi + 1 - i).toNat) (lo, p, []) ?_ ?_ ?_
  · exact Sub.lists [(0, 0)] rfl rfl ⟨⟨_, rfl, .ptr rfl⟩, ⟨_, rfl, .val _⟩, ⟨_, rfl, .val _⟩, ⟨_, rfl, .nil rfl⟩, ⟨_, rfl, .val _⟩, trivial⟩ ⟨.inl ⟨0, _, rfl, rfl, ⟨rfl, .cons (.sl _ _) (.cons (.val _) .nil)⟩⟩, .inr ⟨rfl, _, _, rfl⟩, trivial⟩
  · exact ⟨hp, by omega, by omega, ⟨by simp, by simp⟩, by simp⟩
  · rintro ⟨i, q, out⟩ hokl
    replace hokl : q ≤ l.length ∧ lo ≤ i ∧ i ≤ hi + 1 ∧ Asc lo (i - 1) out ∧ (out.length : Int) ≤ i - lo := hokl
    obtain ⟨hq, hi1, hi2, hA, hol⟩ := hokl
    show awp _ _ _ _ (mk [(0, .ptr 0 0), (1, .val (.int .i64 lo)), (2, .val (.int .i64 hi)), (7, .row 1), (8, .val (.int .i64 i))] [(0, diceB l q), (1, .row 3 1 (intsC out))] 2)
    refine awp_seq ?_
    refine awp_seq ?_
    refine awp_region (sys _ _ []) 2 26 mk_U rfl rfl ?_
    refine ch_s rfl .move rfl ?_
    refine ch_s rfl .move rfl ?_
    refine ch_s rfl (.binOp bo_leq) rfl ?_
    refine ch_q ?_
    intro hU26
    repeat (first | refine thn_normal ?_ | refine thn_exit ?_ | refine thn_ret ?_ | refine inB_here ?_ | refine inB_other (by decide) ?_ | refine inB_normal ?_ | refine inB_ret ?_)
    refine awp_cond rfl (fun h1 => ?_) (fun h1 => ?_)
    · replace h1 := of_decide_eq_true h1
      refine awp_skip ?_
      repeat (first | refine thn_normal ?_ | refine thn_exit ?_ | refine thn_ret ?_ | refine inB_here ?_ | refine inB_other (by decide) ?_ | refine inB_normal ?_ | refine inB_ret ?_)
      refine awp_seq ?_
      refine awp_block ?_
      refine awp_seq ?_
      refine awp_region (sys _ _ []) 26 50 hU26 rfl rfl ?_
      refine ch_s rfl .move rfl ?_
      refine ch_call (ps := [0]) false (next_fn _ _ (by omega) 2 (by omega) (by omega)) rfl (by repeat' (first | exact ArL.nil | apply ArL.cons | exact Ar.flat Ar0.val | exact Ar.flat Ar0.sl | exact Ar.ptr rfl | exact Ar.row rfl | exact Ar.part rfl (by first | omega | (simp only [List.length_append, List.length_cons, List.length_nil, List.length_take, List.length_drop, intsC_length, bytesC_length, strsC_length]; omega)) | exact Ar.flat Ar0.nils | exact Ar.elt | apply Ar.agg | exact Ar0L.nil | apply Ar0L.cons | exact Ar0.val | exact Ar0.sl | exact Ar0.nils)) (.cons' (List.mem_cons_self ..) (.cons .sl (.cons .val .nil)) rfl) rfl (by intro h; cases h) rfl (by intro h; first | (cases h; done) | exact ⟨_, _, ⟨0, 0, rfl, by omega, by omega, by omega, rfl⟩, by simp, by simp, by trivial, fun lb hlb => by rw [List.mem_singleton.1 hlb]; exact hokb _ (by simp)⟩) ?_
      rintro _ _ ⟨x, q', rfl, hx0, hxk, hq', rfl⟩ hokr hokx
      refine ch_s rfl (.binOp bo_eql) rfl ?_
      refine ch_q ?_
      intro hU50
      repeat (first | refine thn_normal ?_ | refine thn_exit ?_ | refine thn_ret ?_ | refine inB_here ?_ | refine inB_other (by decide) ?_ | refine inB_normal ?_ | refine inB_ret ?_)
      refine awp_cond rfl (fun h2 => ?_) (fun h2 => ?_)
      · replace h2 := of_decide_eq_true h2
        refine awp_region (sys _ _ []) 50 90 hU50 rfl rfl ?_
        refine ch_s rfl .move rfl ?_
        refine ch_s rfl .move rfl ?_
        refine ch_s rfl (.buildSl sl22 z3 (by decide) rfl (by repeat' (first | exact DcsE.nil | apply DcsE.cons | exact DcE.bool | exact DcE.sl | exact DcE.int (by first | decide | exact i64_range (by omega) | exact u8_range (by omega) | assumption) | exact DcE.str (by first | decide | assumption | omega) | exact DcE.ptr | exact DcE.nilF | exact DcE.nilI)) rfl) rfl ?_
        first | refine ch_s rfl (.append sl22 .row .row (by simp only [List.length_append, List.length_cons, List.length_nil, List.length_take, List.length_drop, intsC_length, bytesC_length, strsC_length]; omega)) rfl ?_ | refine ch_s rfl (.append sl22 .row .sl (by simp only [List.length_append, List.length_cons, List.length_nil, List.length_take, List.length_drop, intsC_length, bytesC_length, strsC_length]; omega)) rfl ?_ | refine ch_s rfl (.append sl22 .row (.part (by simp only [List.length_append, List.length_cons, List.length_nil, List.length_take, List.length_drop, intsC_length, bytesC_length, strsC_length]; omega)) (by simp only [List.length_append, List.length_cons, List.length_nil, List.length_take, List.length_drop, intsC_length, bytesC_length, strsC_length]; omega)) rfl ?_ | refine ch_s rfl (.append sl22 .row .nil (by simp only [List.length_append, List.length_cons, List.length_nil, List.length_take, List.length_drop, intsC_length, bytesC_length, strsC_length]; omega)) rfl ?_ | refine ch_s rfl (.append sl22 .nil .row (by simp only [List.length_append, List.length_cons, List.length_nil, List.length_take, List.length_drop, intsC_length, bytesC_length, strsC_length]; omega)) rfl ?_ | refine ch_s rfl (.append sl22 .nil .sl (by simp only [List.length_append, List.length_cons, List.length_nil, List.length_take, List.length_drop, intsC_length, bytesC_length, strsC_length]; omega)) rfl ?_ | refine ch_s rfl (.append sl22 .nil (.part (by simp only [List.length_append, List.length_cons, List.length_nil, List.length_take, List.length_drop, intsC_length, bytesC_length, strsC_length]; omega)) (by simp only [List.length_append, List.length_cons, List.length_nil, List.length_take, List.length_drop, intsC_length, bytesC_length, strsC_length]; omega)) rfl ?_ | refine ch_s rfl (.append sl22 .nil .nil (by simp only [List.length_append, List.length_cons, List.length_nil, List.length_take, List.length_drop, intsC_length, bytesC_length, strsC_length]; omega)) rfl ?_ | refine ch_s rfl (.append sl22 (.part (by simp only [List.length_append, List.length_cons, List.length_nil, List.length_take, List.length_drop, intsC_length, bytesC_length, strsC_length]; omega)) .row (by simp only [List.length_append, List.length_cons, List.length_nil, List.length_take, List.length_drop, intsC_length, bytesC_length, strsC_length]; omega)) rfl ?_ | refine ch_s rfl (.append sl22 (.part (by simp only [List.length_append, List.length_cons, List.length_nil, List.length_take, List.length_drop, intsC_length, bytesC_length, strsC_length]; omega)) .sl (by simp only [List.length_append, List.length_cons, List.length_nil, List.length_take, List.length_drop, intsC_length, bytesC_length, strsC_length]; omega)) rfl ?_ | refine ch_s rfl (.append sl22 (.part (by simp only [List.length_append, List.length_cons, List.length_nil, List.length_take, List.length_drop, intsC_length, bytesC_length, strsC_length]; omega)) (.part (by simp only [List.length_append, List.length_cons, List.length_nil, List.length_take, List.length_drop, intsC_length, bytesC_length, strsC_length]; omega)) (by simp only [List.length_append, List.length_cons, List.length_nil, List.length_take, List.length_drop, intsC_length, bytesC_length, strsC_length]; omega)) rfl ?_ | refine ch_s rfl (.append sl22 (.part (by simp only [List.length_append, List.length_cons, List.length_nil, List.length_take, List.length_drop, intsC_length, bytesC_length, strsC_length]; omega)) .nil (by simp only [List.length_append, List.length_cons, List.length_nil, List.length_take, List.length_drop, intsC_length, bytesC_length, strsC_length]; omega)) rfl ?_
        refine ch_s rfl .assign rfl ?_
        refine ch_q ?_
        intro hU90
        repeat (first | refine thn_normal ?_ | refine thn_exit ?_ | refine thn_ret ?_ | refine inB_here ?_ | refine inB_other (by decide) ?_ | refine inB_normal ?_ | refine inB_ret ?_)
        refine awp_region (sys _ _ []) 90 114 hU90 rfl rfl ?_
        refine ch_s rfl .move rfl ?_
        first | refine ch_s rfl (.binOp (bo_add (by omega))) rfl ?_ | refine ch_s rfl (.binOp bo_addw) rfl ?_
        refine ch_s rfl .assign rfl ?_
        refine ch_q ?_
        intro hU114
        repeat (first | refine thn_normal ?_ | refine thn_exit ?_ | refine thn_ret ?_ | refine inB_here ?_ | refine inB_other (by decide) ?_ | refine inB_normal ?_ | refine inB_ret ?_)
        refine ⟨(i + 1, q', out ++ [i]), ?_, ⟨(by omega), (by omega), (by omega), (hA.snoc (by omega) (by omega)).up (by omega), (by rw [List.length_append, List.length_singleton]; omega)⟩, Sub.lists [(0, 0), (1, 74)] rfl rfl ⟨⟨_, rfl, .ptr rfl⟩, ⟨_, rfl, .val _⟩, ⟨_, rfl, .val _⟩, ⟨_, rfl, .row rfl⟩, ⟨_, rfl, .val _⟩, trivial⟩ ⟨.inl ⟨0, _, rfl, rfl, ⟨rfl, .cons (.sl _ _) (.cons (.val _) .nil)⟩⟩, .inl ⟨74, _, rfl, rfl, ⟨rfl, rfl, (by rw [intsC_append]; rfl)⟩⟩, trivial⟩⟩
        show (hi + 1 - (i + 1)).toNat < (hi + 1 - i).toNat
        omega
      · replace h2 := of_decide_eq_false h2
        refine awp_skip ?_
        repeat (first | refine thn_normal ?_ | refine thn_exit ?_ | refine thn_ret ?_ | refine inB_here ?_ | refine inB_other (by decide) ?_ | refine inB_normal ?_ | refine inB_ret ?_)
        refine awp_region (sys _ _ []) 50 74 hU50 rfl rfl ?_
        refine ch_s rfl .move rfl ?_
        first | refine ch_s rfl (.binOp (bo_add (by omega))) rfl ?_ | refine ch_s rfl (.binOp bo_addw) rfl ?_
        refine ch_s rfl .assign rfl ?_
        refine ch_q ?_
        intro hU74
        repeat (first | refine thn_normal ?_ | refine thn_exit ?_ | refine thn_ret ?_ | refine inB_here ?_ | refine inB_other (by decide) ?_ | refine inB_normal ?_ | refine inB_ret ?_)
        refine ⟨(i + 1, q', out), ?_, ⟨(by omega), (by omega), (by omega), hA.up (by omega), (by omega)⟩, Sub.lists [(0, 0), (1, 1)] rfl rfl ⟨⟨_, rfl, .ptr rfl⟩, ⟨_, rfl, .val _⟩, ⟨_, rfl, .val _⟩, ⟨_, rfl, .row rfl⟩, ⟨_, rfl, .val _⟩, trivial⟩ ⟨.inl ⟨0, _, rfl, rfl, ⟨rfl, .cons (.sl _ _) (.cons (.val _) .nil)⟩⟩, .inl ⟨1, _, rfl, rfl, ⟨rfl, rfl, rfl⟩⟩, trivial⟩⟩
        show (hi + 1 - (i + 1)).toNat < (hi + 1 - i).toNat
        omega
    · replace h1 := of_decide_eq_false h1
      refine awp_exit ?_
      repeat (first | refine thn_normal ?_ | refine thn_exit ?_ | refine thn_ret ?_ | refine inB_here ?_ | refine inB_other (by decide) ?_ | refine inB_normal ?_ | refine inB_ret ?_)
      refine awp_seq ?_
      refine awp_region (sys _ _ []) 26 42 hU26 rfl rfl ?_
      refine ch_s rfl .move rfl ?_
      refine ch_s rfl .assign rfl ?_
      refine ch_q ?_
      intro hU42
      repeat (first | refine thn_normal ?_ | refine thn_exit ?_ | refine thn_ret ?_ | refine inB_here ?_ | refine inB_other (by decide) ?_ | refine inB_normal ?_ | refine inB_ret ?_)
      refine awp_ret ?_
      repeat (first | refine thn_normal ?_ | refine thn_exit ?_ | refine thn_ret ?_ | refine inB_here ?_ | refine inB_other (by decide) ?_ | refine inB_normal ?_ | refine inB_ret ?_)
      refine ⟨[_], _, [_, _], [(0, 0), (1, 1)], .cons (.tmp rfl) .nil, ⟨q, out, rfl, hq, hA.up (by omega), (by omega), rfl⟩, .row rfl, ⟨.inl ⟨0, _, rfl, rfl, ⟨rfl, .cons (.sl _ _) (.cons (.val _) .nil)⟩⟩, .inl ⟨1, _, rfl, rfl, ⟨rfl, rfl, rfl⟩⟩, trivial⟩, rfl, rfl, rfl, rfl⟩
end Go.Proofs.Ythjgcmifggdepaa
