/- Sorting, by the engine. -/
import Derived.Test.YthjgcmifggdepaaX1
import Derived.Test.YthjgcmifggdepaaED
import Derived.Test.YthjgcmifggdepaaH24
set_option linter.unusedVariables false
set_option linter.unusedSimpArgs false
namespace Go.Proofs.Ythjgcmifggdepaa
open Go.RowKit

theorem perm_in {l out : List Int} {i k : Nat} {x : Int} (h : out.Perm (l.take i)) (hx : l[i]? = some x) : (out.take k ++ [x] ++ out.drop k).Perm (l.take (i + 1)) := by
  obtain ⟨hi, e⟩ := List.getElem?_eq_some_iff.1 hx
  rw [List.take_succ_eq_append_getElem hi, e]
  have h1 : (out.take k ++ [x] ++ out.drop k).Perm (x :: (out.take k ++ out.drop k)) := by
    rw [List.append_assoc]
    exact List.perm_middle
  rw [List.take_append_drop] at h1
  exact h1.trans ((List.Perm.cons x h).trans (List.perm_append_singleton x (l.take i)).symm)
theorem intsC_put (out : List Int) (k : Nat) (x : Int) : [] ++ ((intsC out).drop (0 * 1)).take ((k - 0) * 1) ++ [C.int .i64 x] ++ ((intsC out).drop (k * 1)).take ((out.length - k) * 1) = intsC (out.take k ++ [x] ++ out.drop k) := by
  simp [intsC, List.map_take, List.map_drop]
  rw [List.take_of_length_le (by simp)]
theorem str8_fn (c : Int) : Fn Try.prog 48 [.val (.int .i64 c)] [] (fun r b => r = .val (.int .i64 (str8S c)) ∧ b = []) := by
  refine Fn.data (.of Try.func48 rfl rfl) (fun k hk => by unfold men at hk; exact hk) fun ρ I w vs hI hr => ?_
  unfold RepL Rep at hr
  obtain ⟨u, us, rfl, rfl, hr⟩ := hr
  unfold RepL at hr
  subst hr
  refine (strength8_any c w).mono ?_
  rintro e w' ⟨rfl, hx⟩
  exact ⟨_, rfl, by unfold Rep; rfl, hx⟩
set_option maxRecDepth 100000 in
set_option maxHeartbeats 800000 in
theorem sort_fn (l : List Int) (hl : l.length ≤ 1000) : Fn Try.prog 42 [.sl 1 (intsC l)] [] (fun r b => ∃ o : List Int, r = .row 0 ∧ o.Perm l ∧ b = [.row 3 1 (intsC o)]) := by
  refine Fn.of Try.func42 rfl rfl rfl fun hok hokb w0 I ρ0 => ?_
  show awp _ ⟨w0, I, ρ0, 0, 48⟩ _ _ _
  refine awp_seq ?_
  refine awp_region (sys _ _ []) 0 8 mk_U rfl rfl ?_
  obtain ⟨hlen, hoks⟩ := okD_len hok
  refine ch_s rfl .assign rfl ?_
  refine ch_q ?_
  intro hU8
  repeat (first | refine thn_normal ?_ | refine thn_exit ?_ | refine thn_ret ?_ | refine inB_here ?_ | refine inB_other (by decide) ?_ | refine inB_normal ?_ | refine inB_ret ?_)
  refine awp_seq ?_
  refine awp_region (sys _ _ []) 8 16 hU8 rfl rfl ?_
  refine ch_s rfl .assign rfl ?_
  refine ch_q ?_
  intro hU16
  repeat (first | refine thn_normal ?_ | refine thn_exit ?_ | refine thn_ret ?_ | refine inB_here ?_ | refine inB_other (by decide) ?_ | refine inB_normal ?_ | refine inB_ret ?_)
  refine awp_seq ?_
  refine awp_seq ?_
  refine awp_region (sys _ _ []) 16 24 hU16 rfl rfl ?_
  refine ch_s rfl .assign rfl ?_
  refine ch_q ?_
  intro hU24
  repeat (first | refine thn_normal ?_ | refine thn_exit ?_ | refine thn_ret ?_ | refine inB_here ?_ | refine inB_other (by decide) ?_ | refine inB_normal ?_ | refine inB_ret ?_)
  refine awp_block ?_
  refine awp_loop (ι := Nat × List Int) (fun ((i, out) : Nat × List Int) => mk [(0, .sl 1 (intsC l)), (3, .row 0), (4, .val (.int .i64 (i : Nat)))] [(0, .row 3 1 (intsC out))] 1) (fun ((i, out) : Nat × List Int) => i ≤ l.length ∧ out.Perm (l.take i)) (fun ((i, out) : Nat × List Int) => l.length - i) (0, []) ?_ ?_ ?_
  · exact Sub.lists [] rfl rfl ⟨⟨_, rfl, .sl _ _⟩, ⟨_, rfl, .nil rfl⟩, ⟨_, rfl, .val _⟩, trivial⟩ ⟨.inr ⟨rfl, _, _, rfl⟩, trivial⟩
  · exact ⟨by omega, by simp⟩
  · rintro ⟨i, out⟩ hokl
    replace hokl : i ≤ l.length ∧ out.Perm (l.take i) := hokl
    obtain ⟨hi, hp⟩ := hokl
    show awp _ _ _ _ (mk [(0, .sl 1 (intsC l)), (3, .row 0), (4, .val (.int .i64 (i : Nat)))] [(0, .row 3 1 (intsC out))] 1)
    have hol : out.length = i := by rw [hp.length_eq, List.length_take]; omega
    refine awp_seq ?_
    refine awp_seq ?_
    refine awp_region (sys _ _ []) 1 33 mk_U rfl rfl ?_
    refine ch_s rfl .move rfl ?_
    refine ch_s rfl .move rfl ?_
    first | refine ch_s rfl (.len sl22.elem len_ints) rfl ?_ | refine ch_s rfl (.len sl22.elem len_rints) rfl ?_ | refine ch_s rfl (.len sl22.elem .part) rfl ?_ | refine ch_s rfl (.len sl22.elem len_bytes) rfl ?_ | refine ch_s rfl (.len sl22.elem len_rbytes) rfl ?_ | refine ch_s rfl (.len sl22.elem len_strs) rfl ?_ | refine ch_s rfl (.len sl22.elem len_rstrs) rfl ?_ | refine ch_s rfl (.len sl22.elem (.sl (by decide) (by assumption))) rfl ?_ | refine ch_s rfl (.len sl22.elem (.row (by decide) (by assumption))) rfl ?_
    refine ch_s rfl (.binOp bo_lss) rfl ?_
    refine ch_q ?_
    intro hU33
    repeat (first | refine thn_normal ?_ | refine thn_exit ?_ | refine thn_ret ?_ | refine inB_here ?_ | refine inB_other (by decide) ?_ | refine inB_normal ?_ | refine inB_ret ?_)
    refine awp_cond rfl (fun h1 => ?_) (fun h1 => ?_)
    · replace h1 := of_decide_eq_true h1
      refine awp_skip ?_
      repeat (first | refine thn_normal ?_ | refine thn_exit ?_ | refine thn_ret ?_ | refine inB_here ?_ | refine inB_other (by decide) ?_ | refine inB_normal ?_ | refine inB_ret ?_)
      refine awp_seq ?_
      refine awp_block ?_
      refine awp_seq ?_
      refine awp_region (sys _ _ []) 33 57 hU33 rfl rfl ?_
      refine ch_s rfl .move rfl ?_
      first | refine ch_s rfl (.len sl22.elem len_ints) rfl ?_ | refine ch_s rfl (.len sl22.elem len_rints) rfl ?_ | refine ch_s rfl (.len sl22.elem .part) rfl ?_ | refine ch_s rfl (.len sl22.elem len_bytes) rfl ?_ | refine ch_s rfl (.len sl22.elem len_rbytes) rfl ?_ | refine ch_s rfl (.len sl22.elem len_strs) rfl ?_ | refine ch_s rfl (.len sl22.elem len_rstrs) rfl ?_ | refine ch_s rfl (.len sl22.elem (.sl (by decide) (by assumption))) rfl ?_ | refine ch_s rfl (.len sl22.elem (.row (by decide) (by assumption))) rfl ?_
      refine ch_s rfl .assign rfl ?_
      refine ch_q ?_
      intro hU57
      repeat (first | refine thn_normal ?_ | refine thn_exit ?_ | refine thn_ret ?_ | refine inB_here ?_ | refine inB_other (by decide) ?_ | refine inB_normal ?_ | refine inB_ret ?_)
      refine awp_seq ?_
      refine awp_block ?_
      refine awp_loop (ι := Nat) (fun (k : Nat) => mk [(0, .sl 1 (intsC l)), (3, .row 0), (4, .val (.int .i64 (i : Nat))), (5, .val (.int .i64 (k : Nat)))] [(0, .row 3 1 (intsC out))] 1) (fun (k : Nat) => k ≤ out.length) (fun (k : Nat) => k) out.length ?_ ?_ ?_
      · exact Sub.lists [(0, 0)] rfl rfl ⟨⟨_, rfl, .sl _ _⟩, ⟨_, rfl, .row rfl⟩, ⟨_, rfl, .val _⟩, ⟨_, rfl, .val _⟩, trivial⟩ ⟨.inl ⟨0, _, rfl, rfl, rfl, rfl, rfl⟩, trivial⟩
      · exact Nat.le_refl _
      · rintro k hokl
        replace hokl : k ≤ out.length := hokl
        obtain hk := hokl
        show awp _ _ _ _ (mk [(0, .sl 1 (intsC l)), (3, .row 0), (4, .val (.int .i64 (i : Nat))), (5, .val (.int .i64 (k : Nat)))] [(0, .row 3 1 (intsC out))] 1)
        obtain ⟨x, hx⟩ := ints_get' (l := l) (k := i) (by omega)
        have hxr := ok_ints hoks hx
        refine awp_seq ?_
        refine awp_seq ?_
        by_cases hk0 : 0 < k
        · obtain ⟨y, hy⟩ := ints_get' (l := out) (k := k - 1) (by omega)
          refine awp_draw (sys _ _ []) (by kernel_rfl) [(6, 8), (7, 8), (6, 13), (7, 13), (8, 13), (11, 13), (12, 13)] 1 129 mk_U rfl rfl (by kernel_rfl) ?_
          refine ch_s rfl .move rfl ?_
          refine ch_s rfl (.binOp (bo_gtr_t (by omega))) rfl ?_
          refine ch_s rfl .move rfl ?_
          refine ch_g rfl rfl .move rfl ?_
          refine ch_g rfl rfl .move rfl ?_
          first | refine ch_g rfl rfl (.binOp (bo_sub (by omega))) rfl ?_ | refine ch_g rfl rfl (.binOp bo_subw) rfl ?_
          refine ch_g rfl rfl (.idxR sl22 (j := k - 1) (by omega) (by simp only [List.length_append, List.length_cons, List.length_nil, List.length_take, List.length_drop, intsC_length, bytesC_length, strsC_length]; omega)) rfl ?_
          first | refine ch_g rfl rfl (.loadB1 ty3 rfl) rfl ?_ | refine ch_g rfl rfl (.loadE1 ty3 (by first | rfl | assumption | exact ints_elt (by assumption) | exact ints_row' (by assumption) | exact bytes_elt (by assumption) | exact bytes_row' (by assumption) | exact strs_elt (by assumption))) rfl ?_ | refine ch_g rfl rfl (.loadR1 ty3 (by first | rfl | assumption | exact ints_elt (by assumption) | exact ints_row' (by assumption) | exact bytes_elt (by assumption) | exact bytes_row' (by assumption) | exact strs_elt (by assumption))) rfl ?_
          refine ch_callg (ps := []) false rfl (str8_fn _) rfl (by repeat' (first | exact ArL.nil | apply ArL.cons | exact Ar.flat Ar0.val | exact Ar.flat Ar0.sl | exact Ar.ptr rfl | exact Ar.row rfl | exact Ar.part rfl (by first | omega | (simp only [List.length_append, List.length_cons, List.length_nil, List.length_take, List.length_drop, intsC_length, bytesC_length, strsC_length]; omega)) | exact Ar.flat Ar0.nils | exact Ar.elt | apply Ar.agg | exact Ar0L.nil | apply Ar0L.cons | exact Ar0.val | exact Ar0.sl | exact Ar0.nils)) rfl rfl (by intro h; cases h) rfl (by intro h; first | (cases h; done) | exact ⟨_, _, ⟨rfl, rfl⟩, by simp, by simp, by trivial, by simp⟩) ?_
          rintro _ _ ⟨rfl, rfl⟩ hokr hokx
          refine ch_g rfl rfl .move rfl ?_
          refine ch_g rfl rfl .move rfl ?_
          refine ch_g rfl rfl (.idxS sl22 (j := i) rfl (by simp only [List.length_append, List.length_cons, List.length_nil, List.length_take, List.length_drop, intsC_length, bytesC_length, strsC_length]; omega)) rfl ?_
          first | refine ch_g rfl rfl (.loadB1 ty3 rfl) rfl ?_ | refine ch_g rfl rfl (.loadE1 ty3 (by first | rfl | assumption | exact ints_elt (by assumption) | exact ints_row' (by assumption) | exact bytes_elt (by assumption) | exact bytes_row' (by assumption) | exact strs_elt (by assumption))) rfl ?_ | refine ch_g rfl rfl (.loadR1 ty3 (by first | rfl | assumption | exact ints_elt (by assumption) | exact ints_row' (by assumption) | exact bytes_elt (by assumption) | exact bytes_row' (by assumption) | exact strs_elt (by assumption))) rfl ?_
          refine ch_callg (ps := []) false rfl (str8_fn _) rfl (by repeat' (first | exact ArL.nil | apply ArL.cons | exact Ar.flat Ar0.val | exact Ar.flat Ar0.sl | exact Ar.ptr rfl | exact Ar.row rfl | exact Ar.part rfl (by first | omega | (simp only [List.length_append, List.length_cons, List.length_nil, List.length_take, List.length_drop, intsC_length, bytesC_length, strsC_length]; omega)) | exact Ar.flat Ar0.nils | exact Ar.elt | apply Ar.agg | exact Ar0L.nil | apply Ar0L.cons | exact Ar0.val | exact Ar0.sl | exact Ar0.nils)) rfl rfl (by intro h; cases h) rfl (by intro h; first | (cases h; done) | exact ⟨_, _, ⟨rfl, rfl⟩, by simp, by simp, by trivial, by simp⟩) ?_
          rintro _ _ ⟨rfl, rfl⟩ hokr hokx
          refine ch_g rfl rfl (.binOp bo_lss) rfl ?_
          refine ch_s rfl .pick rfl ?_
          refine ch_q ?_
          intro hU129
          repeat (first | refine thn_normal ?_ | refine thn_exit ?_ | refine thn_ret ?_ | refine inB_here ?_ | refine inB_other (by decide) ?_ | refine inB_normal ?_ | refine inB_ret ?_)
          refine awp_cond rfl (fun h2 => ?_) (fun h2 => ?_)
          · refine awp_skip ?_
            repeat (first | refine thn_normal ?_ | refine thn_exit ?_ | refine thn_ret ?_ | refine inB_here ?_ | refine inB_other (by decide) ?_ | refine inB_normal ?_ | refine inB_ret ?_)
            refine awp_block ?_
            refine awp_region (sys _ _ []) 129 153 hU129 rfl rfl ?_
            refine ch_s rfl .move rfl ?_
            first | refine ch_s rfl (.binOp (bo_sub (by omega))) rfl ?_ | refine ch_s rfl (.binOp bo_subw) rfl ?_
            refine ch_s rfl .assign rfl ?_
            refine ch_q ?_
            intro hU153
            repeat (first | refine thn_normal ?_ | refine thn_exit ?_ | refine thn_ret ?_ | refine inB_here ?_ | refine inB_other (by decide) ?_ | refine inB_normal ?_ | refine inB_ret ?_)
            refine ⟨k - 1, ?_, ?_, Sub.lists [(0, 0)] rfl rfl ⟨⟨_, rfl, .sl _ _⟩, ⟨_, rfl, .row rfl⟩, ⟨_, rfl, .val _⟩, ⟨_, rfl, ?_⟩, trivial⟩ ⟨.inl ⟨0, _, rfl, rfl, rfl, rfl, rfl⟩, trivial⟩⟩
            · show k - 1 < k
              omega
            · show k - 1 ≤ out.length
              omega
            · have e : ((k - 1 : Nat) : Int) = (k : Int) - 1 := by omega
              rw [e]
              exact .val _
          · refine awp_exit ?_
            repeat (first | refine thn_normal ?_ | refine thn_exit ?_ | refine thn_ret ?_ | refine inB_here ?_ | refine inB_other (by decide) ?_ | refine inB_normal ?_ | refine inB_ret ?_)
            refine awp_draw (sys _ _ []) (by kernel_rfl) [(0, 4), (3, 4), (0, 10), (3, 10), (4, 10), (7, 10), (8, 10), (9, 10), (0, 14), (3, 14), (4, 14), (7, 14), (8, 14), (9, 14), (10, 14), (13, 14)] 129 257 hU129 rfl rfl (by kernel_rfl) ?_
            refine ch_s rfl (.buildSl sl22 z3 (by decide) rfl (by repeat' (first | exact DcsE.nil | apply DcsE.cons | exact DcE.bool | exact DcE.sl | exact DcE.int (by first | decide | exact i64_range (by omega) | exact u8_range (by omega) | assumption) | exact DcE.str (by first | decide | assumption | omega) | exact DcE.ptr | exact DcE.nilF | exact DcE.nilI)) rfl) rfl ?_
            refine ch_s rfl .move rfl ?_
            refine ch_s rfl .move rfl ?_
            first | refine ch_s rfl (.sliS sl22 (by first | exact clen_i | exact clen_b | exact clen_s | assumption | exact clen_1) ⟨⟨_, _, _, rfl, rfl⟩, rfl⟩ (by omega)) rfl ?_ | refine ch_s rfl (.sliR sl22 (by first | exact clen_i | exact clen_b | exact clen_s | assumption | exact clen_1) ⟨⟨_, _, _, rfl, rfl⟩, rfl⟩ (by omega)) rfl ?_ | refine ch_s rfl (.sliP sl22 ⟨⟨_, _, _, rfl, rfl⟩, rfl⟩ (by omega)) rfl ?_
            first | refine ch_s rfl (.append sl22 .row .row (by simp only [List.length_append, List.length_cons, List.length_nil, List.length_take, List.length_drop, intsC_length, bytesC_length, strsC_length]; omega)) rfl ?_ | refine ch_s rfl (.append sl22 .row .sl (by simp only [List.length_append, List.length_cons, List.length_nil, List.length_take, List.length_drop, intsC_length, bytesC_length, strsC_length]; omega)) rfl ?_ | refine ch_s rfl (.append sl22 .row (.part (by simp only [List.length_append, List.length_cons, List.length_nil, List.length_take, List.length_drop, intsC_length, bytesC_length, strsC_length]; omega)) (by simp only [List.length_append, List.length_cons, List.length_nil, List.length_take, List.length_drop, intsC_length, bytesC_length, strsC_length]; omega)) rfl ?_ | refine ch_s rfl (.append sl22 .row .nil (by simp only [List.length_append, List.length_cons, List.length_nil, List.length_take, List.length_drop, intsC_length, bytesC_length, strsC_length]; omega)) rfl ?_ | refine ch_s rfl (.append sl22 .nil .row (by simp only [List.length_append, List.length_cons, List.length_nil, List.length_take, List.length_drop, intsC_length, bytesC_length, strsC_length]; omega)) rfl ?_ | refine ch_s rfl (.append sl22 .nil .sl (by simp only [List.length_append, List.length_cons, List.length_nil, List.length_take, List.length_drop, intsC_length, bytesC_length, strsC_length]; omega)) rfl ?_ | refine ch_s rfl (.append sl22 .nil (.part (by simp only [List.length_append, List.length_cons, List.length_nil, List.length_take, List.length_drop, intsC_length, bytesC_length, strsC_length]; omega)) (by simp only [List.length_append, List.length_cons, List.length_nil, List.length_take, List.length_drop, intsC_length, bytesC_length, strsC_length]; omega)) rfl ?_ | refine ch_s rfl (.append sl22 .nil .nil (by simp only [List.length_append, List.length_cons, List.length_nil, List.length_take, List.length_drop, intsC_length, bytesC_length, strsC_length]; omega)) rfl ?_ | refine ch_s rfl (.append sl22 (.part (by simp only [List.length_append, List.length_cons, List.length_nil, List.length_take, List.length_drop, intsC_length, bytesC_length, strsC_length]; omega)) .row (by simp only [List.length_append, List.length_cons, List.length_nil, List.length_take, List.length_drop, intsC_length, bytesC_length, strsC_length]; omega)) rfl ?_ | refine ch_s rfl (.append sl22 (.part (by simp only [List.length_append, List.length_cons, List.length_nil, List.length_take, List.length_drop, intsC_length, bytesC_length, strsC_length]; omega)) .sl (by simp only [List.length_append, List.length_cons, List.length_nil, List.length_take, List.length_drop, intsC_length, bytesC_length, strsC_length]; omega)) rfl ?_ | refine ch_s rfl (.append sl22 (.part (by simp only [List.length_append, List.length_cons, List.length_nil, List.length_take, List.length_drop, intsC_length, bytesC_length, strsC_length]; omega)) (.part (by simp only [List.length_append, List.length_cons, List.length_nil, List.length_take, List.length_drop, intsC_length, bytesC_length, strsC_length]; omega)) (by simp only [List.length_append, List.length_cons, List.length_nil, List.length_take, List.length_drop, intsC_length, bytesC_length, strsC_length]; omega)) rfl ?_ | refine ch_s rfl (.append sl22 (.part (by simp only [List.length_append, List.length_cons, List.length_nil, List.length_take, List.length_drop, intsC_length, bytesC_length, strsC_length]; omega)) .nil (by simp only [List.length_append, List.length_cons, List.length_nil, List.length_take, List.length_drop, intsC_length, bytesC_length, strsC_length]; omega)) rfl ?_
            refine ch_s rfl .move rfl ?_
            refine ch_s rfl .move rfl ?_
            first | refine ch_s rfl (.idxS sl22 rfl (by simp only [List.length_append, List.length_cons, List.length_nil, List.length_take, List.length_drop, intsC_length, bytesC_length, strsC_length]; omega)) rfl ?_ | refine ch_s rfl (.idxR sl22 rfl (by simp only [List.length_append, List.length_cons, List.length_nil, List.length_take, List.length_drop, intsC_length, bytesC_length, strsC_length]; omega)) rfl ?_ | refine ch_s rfl (.idxP sl22 rfl (by omega)) rfl ?_
            first | refine ch_s rfl (.loadB1 ty3 rfl) rfl ?_ | refine ch_s rfl (.loadE1 ty3 (by first | rfl | assumption | exact ints_elt (by assumption) | exact ints_row' (by assumption) | exact bytes_elt (by assumption) | exact bytes_row' (by assumption) | exact strs_elt (by assumption))) rfl ?_ | refine ch_s rfl (.loadR1 ty3 (by first | rfl | assumption | exact ints_elt (by assumption) | exact ints_row' (by assumption) | exact bytes_elt (by assumption) | exact bytes_row' (by assumption) | exact strs_elt (by assumption))) rfl ?_
            refine ch_s rfl (.buildSl sl22 z3 (by decide) rfl (by repeat' (first | exact DcsE.nil | apply DcsE.cons | exact DcE.bool | exact DcE.sl | exact DcE.int (by first | decide | exact i64_range (by omega) | exact u8_range (by omega) | assumption) | exact DcE.str (by first | decide | assumption | omega) | exact DcE.ptr | exact DcE.nilF | exact DcE.nilI)) rfl) rfl ?_
            first | refine ch_s rfl (.append sl22 .row .row (by simp only [List.length_append, List.length_cons, List.length_nil, List.length_take, List.length_drop, intsC_length, bytesC_length, strsC_length]; omega)) rfl ?_ | refine ch_s rfl (.append sl22 .row .sl (by simp only [List.length_append, List.length_cons, List.length_nil, List.length_take, List.length_drop, intsC_length, bytesC_length, strsC_length]; omega)) rfl ?_ | refine ch_s rfl (.append sl22 .row (.part (by simp only [List.length_append, List.length_cons, List.length_nil, List.length_take, List.length_drop, intsC_length, bytesC_length, strsC_length]; omega)) (by simp only [List.length_append, List.length_cons, List.length_nil, List.length_take, List.length_drop, intsC_length, bytesC_length, strsC_length]; omega)) rfl ?_ | refine ch_s rfl (.append sl22 .row .nil (by simp only [List.length_append, List.length_cons, List.length_nil, List.length_take, List.length_drop, intsC_length, bytesC_length, strsC_length]; omega)) rfl ?_ | refine ch_s rfl (.append sl22 .nil .row (by simp only [List.length_append, List.length_cons, List.length_nil, List.length_take, List.length_drop, intsC_length, bytesC_length, strsC_length]; omega)) rfl ?_ | refine ch_s rfl (.append sl22 .nil .sl (by simp only [List.length_append, List.length_cons, List.length_nil, List.length_take, List.length_drop, intsC_length, bytesC_length, strsC_length]; omega)) rfl ?_ | refine ch_s rfl (.append sl22 .nil (.part (by simp only [List.length_append, List.length_cons, List.length_nil, List.length_take, List.length_drop, intsC_length, bytesC_length, strsC_length]; omega)) (by simp only [List.length_append, List.length_cons, List.length_nil, List.length_take, List.length_drop, intsC_length, bytesC_length, strsC_length]; omega)) rfl ?_ | refine ch_s rfl (.append sl22 .nil .nil (by simp only [List.length_append, List.length_cons, List.length_nil, List.length_take, List.length_drop, intsC_length, bytesC_length, strsC_length]; omega)) rfl ?_ | refine ch_s rfl (.append sl22 (.part (by simp only [List.length_append, List.length_cons, List.length_nil, List.length_take, List.length_drop, intsC_length, bytesC_length, strsC_length]; omega)) .row (by simp only [List.length_append, List.length_cons, List.length_nil, List.length_take, List.length_drop, intsC_length, bytesC_length, strsC_length]; omega)) rfl ?_ | refine ch_s rfl (.append sl22 (.part (by simp only [List.length_append, List.length_cons, List.length_nil, List.length_take, List.length_drop, intsC_length, bytesC_length, strsC_length]; omega)) .sl (by simp only [List.length_append, List.length_cons, List.length_nil, List.length_take, List.length_drop, intsC_length, bytesC_length, strsC_length]; omega)) rfl ?_ | refine ch_s rfl (.append sl22 (.part (by simp only [List.length_append, List.length_cons, List.length_nil, List.length_take, List.length_drop, intsC_length, bytesC_length, strsC_length]; omega)) (.part (by simp only [List.length_append, List.length_cons, List.length_nil, List.length_take, List.length_drop, intsC_length, bytesC_length, strsC_length]; omega)) (by simp only [List.length_append, List.length_cons, List.length_nil, List.length_take, List.length_drop, intsC_length, bytesC_length, strsC_length]; omega)) rfl ?_ | refine ch_s rfl (.append sl22 (.part (by simp only [List.length_append, List.length_cons, List.length_nil, List.length_take, List.length_drop, intsC_length, bytesC_length, strsC_length]; omega)) .nil (by simp only [List.length_append, List.length_cons, List.length_nil, List.length_take, List.length_drop, intsC_length, bytesC_length, strsC_length]; omega)) rfl ?_
            refine ch_s rfl .move rfl ?_
            refine ch_s rfl .move rfl ?_
            first | refine ch_s rfl (.sliS sl22 (by first | exact clen_i | exact clen_b | exact clen_s | assumption | exact clen_1) ⟨⟨_, _, _, rfl, rfl⟩, rfl⟩ (by omega)) rfl ?_ | refine ch_s rfl (.sliR sl22 (by first | exact clen_i | exact clen_b | exact clen_s | assumption | exact clen_1) ⟨⟨_, _, _, rfl, rfl⟩, rfl⟩ (by omega)) rfl ?_ | refine ch_s rfl (.sliP sl22 ⟨⟨_, _, _, rfl, rfl⟩, rfl⟩ (by omega)) rfl ?_
            first | refine ch_s rfl (.append sl22 .row .row (by simp only [List.length_append, List.length_cons, List.length_nil, List.length_take, List.length_drop, intsC_length, bytesC_length, strsC_length]; omega)) rfl ?_ | refine ch_s rfl (.append sl22 .row .sl (by simp only [List.length_append, List.length_cons, List.length_nil, List.length_take, List.length_drop, intsC_length, bytesC_length, strsC_length]; omega)) rfl ?_ | refine ch_s rfl (.append sl22 .row (.part (by simp only [List.length_append, List.length_cons, List.length_nil, List.length_take, List.length_drop, intsC_length, bytesC_length, strsC_length]; omega)) (by simp only [List.length_append, List.length_cons, List.length_nil, List.length_take, List.length_drop, intsC_length, bytesC_length, strsC_length]; omega)) rfl ?_ | refine ch_s rfl (.append sl22 .row .nil (by simp only [List.length_append, List.length_cons, List.length_nil, List.length_take, List.length_drop, intsC_length, bytesC_length, strsC_length]; omega)) rfl ?_ | refine ch_s rfl (.append sl22 .nil .row (by simp only [List.length_append, List.length_cons, List.length_nil, List.length_take, List.length_drop, intsC_length, bytesC_length, strsC_length]; omega)) rfl ?_ | refine ch_s rfl (.append sl22 .nil .sl (by simp only [List.length_append, List.length_cons, List.length_nil, List.length_take, List.length_drop, intsC_length, bytesC_length, strsC_length]; omega)) rfl ?_ | refine ch_s rfl (.append sl22 .nil (.part (by simp only [List.length_append, List.length_cons, List.length_nil, List.length_take, List.length_drop, intsC_length, bytesC_length, strsC_length]; omega)) (by simp only [List.length_append, List.length_cons, List.length_nil, List.length_take, List.length_drop, intsC_length, bytesC_length, strsC_length]; omega)) rfl ?_ | refine ch_s rfl (.append sl22 .nil .nil (by simp only [List.length_append, List.length_cons, List.length_nil, List.length_take, List.length_drop, intsC_length, bytesC_length, strsC_length]; omega)) rfl ?_ | refine ch_s rfl (.append sl22 (.part (by simp only [List.length_append, List.length_cons, List.length_nil, List.length_take, List.length_drop, intsC_length, bytesC_length, strsC_length]; omega)) .row (by simp only [List.length_append, List.length_cons, List.length_nil, List.length_take, List.length_drop, intsC_length, bytesC_length, strsC_length]; omega)) rfl ?_ | refine ch_s rfl (.append sl22 (.part (by simp only [List.length_append, List.length_cons, List.length_nil, List.length_take, List.length_drop, intsC_length, bytesC_length, strsC_length]; omega)) .sl (by simp only [List.length_append, List.length_cons, List.length_nil, List.length_take, List.length_drop, intsC_length, bytesC_length, strsC_length]; omega)) rfl ?_ | refine ch_s rfl (.append sl22 (.part (by simp only [List.length_append, List.length_cons, List.length_nil, List.length_take, List.length_drop, intsC_length, bytesC_length, strsC_length]; omega)) (.part (by simp only [List.length_append, List.length_cons, List.length_nil, List.length_take, List.length_drop, intsC_length, bytesC_length, strsC_length]; omega)) (by simp only [List.length_append, List.length_cons, List.length_nil, List.length_take, List.length_drop, intsC_length, bytesC_length, strsC_length]; omega)) rfl ?_ | refine ch_s rfl (.append sl22 (.part (by simp only [List.length_append, List.length_cons, List.length_nil, List.length_take, List.length_drop, intsC_length, bytesC_length, strsC_length]; omega)) .nil (by simp only [List.length_append, List.length_cons, List.length_nil, List.length_take, List.length_drop, intsC_length, bytesC_length, strsC_length]; omega)) rfl ?_
            refine ch_s rfl .assign rfl ?_
            refine ch_q ?_
            intro hU257
            repeat (first | refine thn_normal ?_ | refine thn_exit ?_ | refine thn_ret ?_ | refine inB_here ?_ | refine inB_other (by decide) ?_ | refine inB_normal ?_ | refine inB_ret ?_)
            refine awp_region (sys _ _ []) 257 281 hU257 rfl rfl ?_
            refine ch_s rfl .move rfl ?_
            first | refine ch_s rfl (.binOp (bo_add (by omega))) rfl ?_ | refine ch_s rfl (.binOp bo_addw) rfl ?_
            refine ch_s rfl .assign rfl ?_
            refine ch_q ?_
            intro hU281
            repeat (first | refine thn_normal ?_ | refine thn_exit ?_ | refine thn_ret ?_ | refine inB_here ?_ | refine inB_other (by decide) ?_ | refine inB_normal ?_ | refine inB_ret ?_)
            refine ⟨(i + 1, out.take k ++ [x] ++ out.drop k), ?_, ⟨by omega, perm_in hp hx⟩, Sub.lists [(0, 241)] rfl rfl ⟨⟨_, rfl, .sl _ _⟩, ⟨_, rfl, .row rfl⟩, ⟨_, rfl, .val _⟩, trivial⟩ ⟨.inl ⟨241, _, rfl, rfl, rfl, rfl, intsC_put out k x⟩, trivial⟩⟩
            show l.length - (i + 1) < l.length - i
            omega
        · refine awp_draw (sys _ _ []) (by kernel_rfl) [(6, 8), (7, 8), (6, 13), (7, 13), (8, 13), (11, 13), (12, 13)] 1 129 mk_U rfl rfl (by kernel_rfl) ?_
          refine ch_s rfl .move rfl ?_
          refine ch_s rfl (.binOp (bo_gtr_f (by omega))) rfl ?_
          refine ch_s rfl .move rfl ?_
          refine ch_skip rfl rfl ?_
          refine ch_skip rfl rfl ?_
          refine ch_skip rfl rfl ?_
          refine ch_skip rfl rfl ?_
          refine ch_skip rfl rfl ?_
          refine ch_skip rfl rfl ?_
          refine ch_skip rfl rfl ?_
          refine ch_skip rfl rfl ?_
          refine ch_skip rfl rfl ?_
          refine ch_skip rfl rfl ?_
          refine ch_skip rfl rfl ?_
          refine ch_skip rfl rfl ?_
          refine ch_s rfl .pick rfl ?_
          refine ch_q ?_
          intro hU129
          repeat (first | refine thn_normal ?_ | refine thn_exit ?_ | refine thn_ret ?_ | refine inB_here ?_ | refine inB_other (by decide) ?_ | refine inB_normal ?_ | refine inB_ret ?_)
          refine awp_cond rfl (fun h3 => ?_) (fun h3 => ?_)
          · cases h3
          · refine awp_exit ?_
            repeat (first | refine thn_normal ?_ | refine thn_exit ?_ | refine thn_ret ?_ | refine inB_here ?_ | refine inB_other (by decide) ?_ | refine inB_normal ?_ | refine inB_ret ?_)
            refine awp_draw (sys _ _ []) (by kernel_rfl) [(0, 4), (3, 4), (0, 10), (3, 10), (4, 10), (7, 10), (8, 10), (9, 10), (0, 14), (3, 14), (4, 14), (7, 14), (8, 14), (9, 14), (10, 14), (13, 14)] 129 257 hU129 rfl rfl (by kernel_rfl) ?_
            refine ch_s rfl (.buildSl sl22 z3 (by decide) rfl (by repeat' (first | exact DcsE.nil | apply DcsE.cons | exact DcE.bool | exact DcE.sl | exact DcE.int (by first | decide | exact i64_range (by omega) | exact u8_range (by omega) | assumption) | exact DcE.str (by first | decide | assumption | omega) | exact DcE.ptr | exact DcE.nilF | exact DcE.nilI)) rfl) rfl ?_
            refine ch_s rfl .move rfl ?_
            refine ch_s rfl .move rfl ?_
            first | refine ch_s rfl (.sliS sl22 (by first | exact clen_i | exact clen_b | exact clen_s | assumption | exact clen_1) ⟨⟨_, _, _, rfl, rfl⟩, rfl⟩ (by omega)) rfl ?_ | refine ch_s rfl (.sliR sl22 (by first | exact clen_i | exact clen_b | exact clen_s | assumption | exact clen_1) ⟨⟨_, _, _, rfl, rfl⟩, rfl⟩ (by omega)) rfl ?_ | refine ch_s rfl (.sliP sl22 ⟨⟨_, _, _, rfl, rfl⟩, rfl⟩ (by omega)) rfl ?_
            first | refine ch_s rfl (.append sl22 .row .row (by simp only [List.length_append, List.length_cons, List.length_nil, List.length_take, List.length_drop, intsC_length, bytesC_length, strsC_length]; omega)) rfl ?_ | refine ch_s rfl (.append sl22 .row .sl (by simp only [List.length_append, List.length_cons, List.length_nil, List.length_take, List.length_drop, intsC_length, bytesC_length, strsC_length]; omega)) rfl ?_ | refine ch_s rfl (.append sl22 .row (.part (by simp only [List.length_append, List.length_cons, List.length_nil, List.length_take, List.length_drop, intsC_length, bytesC_length, strsC_length]; omega)) (by simp only [List.length_append, List.length_cons, List.length_nil, List.length_take, List.length_drop, intsC_length, bytesC_length, strsC_length]; omega)) rfl ?_ | refine ch_s rfl (.append sl22 .row .nil (by simp only [List.length_append, List.length_cons, List.length_nil, List.length_take, List.length_drop, intsC_length, bytesC_length, strsC_length]; omega)) rfl ?_ | refine ch_s rfl (.append sl22 .nil .row (by simp only [List.length_append, List.length_cons, List.length_nil, List.length_take, List.length_drop, intsC_length, bytesC_length, strsC_length]; omega)) rfl ?_ | refine ch_s rfl (.append sl22 .nil .sl (by simp only [List.length_append, List.length_cons, List.length_nil, List.length_take, List.length_drop, intsC_length, bytesC_length, strsC_length]; omega)) rfl ?_ | refine ch_s rfl (.append sl22 .nil (.part (by simp only [List.length_append, List.length_cons, List.length_nil, List.length_take, List.length_drop, intsC_length, bytesC_length, strsC_length]; omega)) (by simp only [List.length_append, List.length_cons, List.length_nil, List.length_take, List.length_drop, intsC_length, bytesC_length, strsC_length]; omega)) rfl ?_ | refine ch_s rfl (.append sl22 .nil .nil (by simp only [List.length_append, List.length_cons, List.length_nil, List.length_take, List.length_drop, intsC_length, bytesC_length, strsC_length]; omega)) rfl ?_ | refine ch_s rfl (.append sl22 (.part (by simp only [List.length_append, List.length_cons, List.length_nil, List.length_take, List.length_drop, intsC_length, bytesC_length, strsC_length]; omega)) .row (by simp only [List.length_append, List.length_cons, List.length_nil, List.length_take, List.length_drop, intsC_length, bytesC_length, strsC_length]; omega)) rfl ?_ | refine ch_s rfl (.append sl22 (.part (by simp only [List.length_append, List.length_cons, List.length_nil, List.length_take, List.length_drop, intsC_length, bytesC_length, strsC_length]; omega)) .sl (by simp only [List.length_append, List.length_cons, List.length_nil, List.length_take, List.length_drop, intsC_length, bytesC_length, strsC_length]; omega)) rfl ?_ | refine ch_s rfl (.append sl22 (.part (by simp only [List.length_append, List.length_cons, List.length_nil, List.length_take, List.length_drop, intsC_length, bytesC_length, strsC_length]; omega)) (.part (by simp only [List.length_append, List.length_cons, List.length_nil, List.length_take, List.length_drop, intsC_length, bytesC_length, strsC_length]; omega)) (by simp only [List.length_append, List.length_cons, List.length_nil, List.length_take, List.length_drop, intsC_length, bytesC_length, strsC_length]; omega)) rfl ?_ | refine ch_s rfl (.append sl22 (.part (by simp only [List.length_append, List.length_cons, List.length_nil, List.length_take, List.length_drop, intsC_length, bytesC_length, strsC_length]; omega)) .nil (by simp only [List.length_append, List.length_cons, List.length_nil, List.length_take, List.length_drop, intsC_length, bytesC_length, strsC_length]; omega)) rfl ?_
            refine ch_s rfl .move rfl ?_
            refine ch_s rfl .move rfl ?_
            first | refine ch_s rfl (.idxS sl22 rfl (by simp only [List.length_append, List.length_cons, List.length_nil, List.length_take, List.length_drop, intsC_length, bytesC_length, strsC_length]; omega)) rfl ?_ | refine ch_s rfl (.idxR sl22 rfl (by simp only [List.length_append, List.length_cons, List.length_nil, List.length_take, List.length_drop, intsC_length, bytesC_length, strsC_length]; omega)) rfl ?_ | refine ch_s rfl (.idxP sl22 rfl (by omega)) rfl ?_
            first | refine ch_s rfl (.loadB1 ty3 rfl) rfl ?_ | refine ch_s rfl (.loadE1 ty3 (by first | rfl | assumption | exact ints_elt (by assumption) | exact ints_row' (by assumption) | exact bytes_elt (by assumption) | exact bytes_row' (by assumption) | exact strs_elt (by assumption))) rfl ?_ | refine ch_s rfl (.loadR1 ty3 (by first | rfl | assumption | exact ints_elt (by assumption) | exact ints_row' (by assumption) | exact bytes_elt (by assumption) | exact bytes_row' (by assumption) | exact strs_elt (by assumption))) rfl ?_
            refine ch_s rfl (.buildSl sl22 z3 (by decide) rfl (by repeat' (first | exact DcsE.nil | apply DcsE.cons | exact DcE.bool | exact DcE.sl | exact DcE.int (by first | decide | exact i64_range (by omega) | exact u8_range (by omega) | assumption) | exact DcE.str (by first | decide | assumption | omega) | exact DcE.ptr | exact DcE.nilF | exact DcE.nilI)) rfl) rfl ?_
            first | refine ch_s rfl (.append sl22 .row .row (by simp only [List.length_append, List.length_cons, List.length_nil, List.length_take, List.length_drop, intsC_length, bytesC_length, strsC_length]; omega)) rfl ?_ | refine ch_s rfl (.append sl22 .row .sl (by simp only [List.length_append, List.length_cons, List.length_nil, List.length_take, List.length_drop, intsC_length, bytesC_length, strsC_length]; omega)) rfl ?_ | refine ch_s rfl (.append sl22 .row (.part (by simp only [List.length_append, List.length_cons, List.length_nil, List.length_take, List.length_drop, intsC_length, bytesC_length, strsC_length]; omega)) (by simp only [List.length_append, List.length_cons, List.length_nil, List.length_take, List.length_drop, intsC_length, bytesC_length, strsC_length]; omega)) rfl ?_ | refine ch_s rfl (.append sl22 .row .nil (by simp only [List.length_append, List.length_cons, List.length_nil, List.length_take, List.length_drop, intsC_length, bytesC_length, strsC_length]; omega)) rfl ?_ | refine ch_s rfl (.append sl22 .nil .row (by simp only [List.length_append, List.length_cons, List.length_nil, List.length_take, List.length_drop, intsC_length, bytesC_length, strsC_length]; omega)) rfl ?_ | refine ch_s rfl (.append sl22 .nil .sl (by simp only [List.length_append, List.length_cons, List.length_nil, List.length_take, List.length_drop, intsC_length, bytesC_length, strsC_length]; omega)) rfl ?_ | refine ch_s rfl (.append sl22 .nil (.part (by simp only [List.length_append, List.length_cons, List.length_nil, List.length_take, List.length_drop, intsC_length, bytesC_length, strsC_length]; omega)) (by simp only [List.length_append, List.length_cons, List.length_nil, List.length_take, List.length_drop, intsC_length, bytesC_length, strsC_length]; omega)) rfl ?_ | refine ch_s rfl (.append sl22 .nil .nil (by simp only [List.length_append, List.length_cons, List.length_nil, List.length_take, List.length_drop, intsC_length, bytesC_length, strsC_length]; omega)) rfl ?_ | refine ch_s rfl (.append sl22 (.part (by simp only [List.length_append, List.length_cons, List.length_nil, List.length_take, List.length_drop, intsC_length, bytesC_length, strsC_length]; omega)) .row (by simp only [List.length_append, List.length_cons, List.length_nil, List.length_take, List.length_drop, intsC_length, bytesC_length, strsC_length]; omega)) rfl ?_ | refine ch_s rfl (.append sl22 (.part (by simp only [List.length_append, List.length_cons, List.length_nil, List.length_take, List.length_drop, intsC_length, bytesC_length, strsC_length]; omega)) .sl (by simp only [List.length_append, List.length_cons, List.length_nil, List.length_take, List.length_drop, intsC_length, bytesC_length, strsC_length]; omega)) rfl ?_ | refine ch_s rfl (.append sl22 (.part (by simp only [List.length_append, List.length_cons, List.length_nil, List.length_take, List.length_drop, intsC_length, bytesC_length, strsC_length]; omega)) (.part (by simp only [List.length_append, List.length_cons, List.length_nil, List.length_take, List.length_drop, intsC_length, bytesC_length, strsC_length]; omega)) (by simp only [List.length_append, List.length_cons, List.length_nil, List.length_take, List.length_drop, intsC_length, bytesC_length, strsC_length]; omega)) rfl ?_ | refine ch_s rfl (.append sl22 (.part (by simp only [List.length_append, List.length_cons, List.length_nil, List.length_take, List.length_drop, intsC_length, bytesC_length, strsC_length]; omega)) .nil (by simp only [List.length_append, List.length_cons, List.length_nil, List.length_take, List.length_drop, intsC_length, bytesC_length, strsC_length]; omega)) rfl ?_
            refine ch_s rfl .move rfl ?_
            refine ch_s rfl .move rfl ?_
            first | refine ch_s rfl (.sliS sl22 (by first | exact clen_i | exact clen_b | exact clen_s | assumption | exact clen_1) ⟨⟨_, _, _, rfl, rfl⟩, rfl⟩ (by omega)) rfl ?_ | refine ch_s rfl (.sliR sl22 (by first | exact clen_i | exact clen_b | exact clen_s | assumption | exact clen_1) ⟨⟨_, _, _, rfl, rfl⟩, rfl⟩ (by omega)) rfl ?_ | refine ch_s rfl (.sliP sl22 ⟨⟨_, _, _, rfl, rfl⟩, rfl⟩ (by omega)) rfl ?_
            first | refine ch_s rfl (.append sl22 .row .row (by simp only [List.length_append, List.length_cons, List.length_nil, List.length_take, List.length_drop, intsC_length, bytesC_length, strsC_length]; omega)) rfl ?_ | refine ch_s rfl (.append sl22 .row .sl (by simp only [List.length_append, List.length_cons, List.length_nil, List.length_take, List.length_drop, intsC_length, bytesC_length, strsC_length]; omega)) rfl ?_ | refine ch_s rfl (.append sl22 .row (.part (by simp only [List.length_append, List.length_cons, List.length_nil, List.length_take, List.length_drop, intsC_length, bytesC_length, strsC_length]; omega)) (by simp only [List.length_append, List.length_cons, List.length_nil, List.length_take, List.length_drop, intsC_length, bytesC_length, strsC_length]; omega)) rfl ?_ | refine ch_s rfl (.append sl22 .row .nil (by simp only [List.length_append, List.length_cons, List.length_nil, List.length_take, List.length_drop, intsC_length, bytesC_length, strsC_length]; omega)) rfl ?_ | refine ch_s rfl (.append sl22 .nil .row (by simp only [List.length_append, List.length_cons, List.length_nil, List.length_take, List.length_drop, intsC_length, bytesC_length, strsC_length]; omega)) rfl ?_ | refine ch_s rfl (.append sl22 .nil .sl (by simp only [List.length_append, List.length_cons, List.length_nil, List.length_take, List.length_drop, intsC_length, bytesC_length, strsC_length]; omega)) rfl ?_ | refine ch_s rfl (.append sl22 .nil (.part (by simp only [List.length_append, List.length_cons, List.length_nil, List.length_take, List.length_drop, intsC_length, bytesC_length, strsC_length]; omega)) (by simp only [List.length_append, List.length_cons, List.length_nil, List.length_take, List.length_drop, intsC_length, bytesC_length, strsC_length]; omega)) rfl ?_ | refine ch_s rfl (.append sl22 .nil .nil (by simp only [List.length_append, List.length_cons, List.length_nil, List.length_take, List.length_drop, intsC_length, bytesC_length, strsC_length]; omega)) rfl ?_ | refine ch_s rfl (.append sl22 (.part (by simp only [List.length_append, List.length_cons, List.length_nil, List.length_take, List.length_drop, intsC_length, bytesC_length, strsC_length]; omega)) .row (by simp only [List.length_append, List.length_cons, List.length_nil, List.length_take, List.length_drop, intsC_length, bytesC_length, strsC_length]; omega)) rfl ?_ | refine ch_s rfl (.append sl22 (.part (by simp only [List.length_append, List.length_cons, List.length_nil, List.length_take, List.length_drop, intsC_length, bytesC_length, strsC_length]; omega)) .sl (by simp only [List.length_append, List.length_cons, List.length_nil, List.length_take, List.length_drop, intsC_length, bytesC_length, strsC_length]; omega)) rfl ?_ | refine ch_s rfl (.append sl22 (.part (by simp only [List.length_append, List.length_cons, List.length_nil, List.length_take, List.length_drop, intsC_length, bytesC_length, strsC_length]; omega)) (.part (by simp only [List.length_append, List.length_cons, List.length_nil, List.length_take, List.length_drop, intsC_length, bytesC_length, strsC_length]; omega)) (by simp only [List.length_append, List.length_cons, List.length_nil, List.length_take, List.length_drop, intsC_length, bytesC_length, strsC_length]; omega)) rfl ?_ | refine ch_s rfl (.append sl22 (.part (by simp only [List.length_append, List.length_cons, List.length_nil, List.length_take, List.length_drop, intsC_length, bytesC_length, strsC_length]; omega)) .nil (by simp only [List.length_append, List.length_cons, List.length_nil, List.length_take, List.length_drop, intsC_length, bytesC_length, strsC_length]; omega)) rfl ?_
            refine ch_s rfl .assign rfl ?_
            refine ch_q ?_
            intro hU257
            repeat (first | refine thn_normal ?_ | refine thn_exit ?_ | refine thn_ret ?_ | refine inB_here ?_ | refine inB_other (by decide) ?_ | refine inB_normal ?_ | refine inB_ret ?_)
            refine awp_region (sys _ _ []) 257 281 hU257 rfl rfl ?_
            refine ch_s rfl .move rfl ?_
            first | refine ch_s rfl (.binOp (bo_add (by omega))) rfl ?_ | refine ch_s rfl (.binOp bo_addw) rfl ?_
            refine ch_s rfl .assign rfl ?_
            refine ch_q ?_
            intro hU281
            repeat (first | refine thn_normal ?_ | refine thn_exit ?_ | refine thn_ret ?_ | refine inB_here ?_ | refine inB_other (by decide) ?_ | refine inB_normal ?_ | refine inB_ret ?_)
            refine ⟨(i + 1, out.take k ++ [x] ++ out.drop k), ?_, ⟨by omega, perm_in hp hx⟩, Sub.lists [(0, 241)] rfl rfl ⟨⟨_, rfl, .sl _ _⟩, ⟨_, rfl, .row rfl⟩, ⟨_, rfl, .val _⟩, trivial⟩ ⟨.inl ⟨241, _, rfl, rfl, rfl, rfl, intsC_put out k x⟩, trivial⟩⟩
            show l.length - (i + 1) < l.length - i
            omega
    · replace h1 := of_decide_eq_false h1
      refine awp_exit ?_
      repeat (first | refine thn_normal ?_ | refine thn_exit ?_ | refine thn_ret ?_ | refine inB_here ?_ | refine inB_other (by decide) ?_ | refine inB_normal ?_ | refine inB_ret ?_)
      refine awp_seq ?_
      refine awp_region (sys _ _ []) 33 49 hU33 rfl rfl ?_
      refine ch_s rfl .move rfl ?_
      refine ch_s rfl .assign rfl ?_
      refine ch_q ?_
      intro hU49
      repeat (first | refine thn_normal ?_ | refine thn_exit ?_ | refine thn_ret ?_ | refine inB_here ?_ | refine inB_other (by decide) ?_ | refine inB_normal ?_ | refine inB_ret ?_)
      refine awp_ret ?_
      repeat (first | refine thn_normal ?_ | refine thn_exit ?_ | refine thn_ret ?_ | refine inB_here ?_ | refine inB_other (by decide) ?_ | refine inB_normal ?_ | refine inB_ret ?_)
      refine ⟨[_], _, [_], [(0, 0)], .cons (.tmp rfl) .nil, ⟨out, rfl, (by rw [List.take_of_length_le (by omega)] at hp; exact hp), rfl⟩, .row rfl, ⟨.inl ⟨0, _, rfl, rfl, rfl, rfl, rfl⟩, trivial⟩, rfl, rfl, rfl, rfl⟩
end Go.Proofs.Ythjgcmifggdepaa
