import Derived.Test.YtbpchmikjiinpaaGreatPC
import Derived.Test.YtbpchmikjiinpaaGreatP1
set_option linter.unusedVariables false
set_option linter.unusedSimpArgs false
namespace Go.Proofs.YtbpchmikjiinpaaGreat
theorem J4.l1 {s:(List Am)} {f:Am->Option (Bool)} {x8_1:Int} {f_p:Am->Option (Bool)} (h_f:∀ (x0:Am),Ez (f x0) (f_p x0)):Ez (Bo.l1 s f x8_1) (Bo.l1 s f_p x8_1):=by
 unfold Bo.l1
 repeat' (with_reducible first | assumption | apply Ez.bind_ | apply Ez.cond_ | apply Ez.up_ | apply h_f | exact Ez.refl | intro _)
theorem J4 {s:(List Am)} {f:Am->Option (Bool)} {f_p:Am->Option (Bool)} (h_f:∀ (x0:Am),Ez (f x0) (f_p x0)):Ez (Bo s f) (Bo s f_p):=by
 unfold Bo
 repeat' (with_reducible first | assumption | apply Ez.bind_ | apply Ez.cond_ | apply Ez.up_ | apply h_f | apply J4.l1 | (refine Ez.lp (fun _=>?_) _) | exact Ez.refl | intro _)
theorem m_ref01_copies.l1 {rec:(List Ae)->Option ((List Ae))} {l:(List Ae)} {i_1:Int} {out_1:List Ae} {rec_p:(List Ae)->Option ((List Ae))} (h_rec:∀ (x0:(List Ae)),Ez (rec x0) (rec_p x0)):Ez (Cz.l1 rec l i_1 out_1) (Cz.l1 rec_p l i_1 out_1):=by
 unfold Cz.l1
 repeat' (with_reducible first | assumption | apply Ez.bind_ | apply Ez.cond_ | apply Ez.up_ | apply h_rec | exact Ez.refl | intro _)
theorem m_ref01_copies.F {rec:(List Ae)->Option ((List Ae))} {l:(List Ae)} {rec_p:(List Ae)->Option ((List Ae))} (h_rec:∀ (x0:(List Ae)),Ez (rec x0) (rec_p x0)):Ez (Cz.F rec l) (Cz.F rec_p l):=by
 unfold Cz.F
 repeat' (with_reducible first | assumption | apply Ez.bind_ | apply Ez.cond_ | apply Ez.up_ | apply h_rec | apply m_ref01_copies.l1 | (refine Ez.lp (fun _=>?_) _) | exact Ez.refl | intro _)
theorem Xb:Vp (fun rec (x:(List Ae))=>Cz.F (fun l=>rec l) x):=fun p q h a=>by
 apply m_ref01_copies.F
 intros
 apply h
theorem m_ref01_formed.l2 {rec:Ae->Option (Bool)} {v:Ae} {i_2:Int} {rec_p:Ae->Option (Bool)} (h_rec:∀ (x0:Ae),Ez (rec x0) (rec_p x0)):Ez (By.l2 rec v i_2) (By.l2 rec_p v i_2):=by
 unfold By.l2
 repeat' (with_reducible first | assumption | apply Ez.bind_ | apply Ez.cond_ | apply Ez.up_ | apply h_rec | exact Ez.refl | intro _)
theorem m_ref01_formed.j1 {rec:Ae->Option (Bool)} {v:Ae} {x38_1:Bool} {rec_p:Ae->Option (Bool)} (h_rec:∀ (x0:Ae),Ez (rec x0) (rec_p x0)):Ez (By.j1 rec v x38_1) (By.j1 rec_p v x38_1):=by
 unfold By.j1
 repeat' (with_reducible first | assumption | apply Ez.bind_ | apply Ez.cond_ | apply Ez.up_ | apply h_rec | apply m_ref01_formed.l2 | (refine Ez.lp (fun _=>?_) _) | exact Ez.refl | intro _)
theorem m_ref01_formed.F {rec:Ae->Option (Bool)} {v:Ae} {rec_p:Ae->Option (Bool)} (h_rec:∀ (x0:Ae),Ez (rec x0) (rec_p x0)):Ez (By.F rec v) (By.F rec_p v):=by
 unfold By.F
 repeat' (with_reducible first | assumption | apply Ez.bind_ | apply Ez.cond_ | apply Ez.up_ | apply h_rec | apply m_ref01_formed.j1 | exact Ez.refl | intro _)
theorem Wi:Vp (fun rec (x:Ae)=>By.F (fun v=>rec v) x):=fun p q h a=>by
 apply m_ref01_formed.F
 intros
 apply h
theorem m_ref01_depth.l1 {rec:Ae->Option (Int)} {v:Ae} {d_1:Int} {i_1:Int} {rec_p:Ae->Option (Int)} (h_rec:∀ (x0:Ae),Ez (rec x0) (rec_p x0)):Ez (C5.l1 rec v d_1 i_1) (C5.l1 rec_p v d_1 i_1):=by
 unfold C5.l1
 repeat' (with_reducible first | assumption | apply Ez.bind_ | apply Ez.cond_ | apply Ez.up_ | apply h_rec | exact Ez.refl | intro _)
theorem m_ref01_depth.F {rec:Ae->Option (Int)} {v:Ae} {rec_p:Ae->Option (Int)} (h_rec:∀ (x0:Ae),Ez (rec x0) (rec_p x0)):Ez (C5.F rec v) (C5.F rec_p v):=by
 unfold C5.F
 repeat' (with_reducible first | assumption | apply Ez.bind_ | apply Ez.cond_ | apply Ez.up_ | apply h_rec | apply m_ref01_depth.l1 | (refine Ez.lp (fun _=>?_) _) | exact Ez.refl | intro _)
theorem Yr:Vp (fun rec (x:Ae)=>C5.F (fun v=>rec v) x):=fun p q h a=>by
 apply m_ref01_depth.F
 intros
 apply h
theorem m_ref01_put.l1 {rec:Ae->Option ((List UInt8))} {v:Ae} {i_1:Int} {b_1:List UInt8} {rec_p:Ae->Option ((List UInt8))} (h_rec:∀ (x0:Ae),Ez (rec x0) (rec_p x0)):Ez (Du.l1 rec v i_1 b_1) (Du.l1 rec_p v i_1 b_1):=by
 unfold Du.l1
 repeat' (with_reducible first | assumption | apply Ez.bind_ | apply Ez.cond_ | apply Ez.up_ | apply h_rec | exact Ez.refl | intro _)
theorem m_ref01_put.F {rec:Ae->Option ((List UInt8))} {v:Ae} {rec_p:Ae->Option ((List UInt8))} (h_rec:∀ (x0:Ae),Ez (rec x0) (rec_p x0)):Ez (Du.F rec v) (Du.F rec_p v):=by
 unfold Du.F
 repeat' (with_reducible first | assumption | apply Ez.bind_ | apply Ez.cond_ | apply Ez.up_ | apply h_rec | apply m_ref01_put.l1 | (refine Ez.lp (fun _=>?_) _) | exact Ez.refl | intro _)
theorem bF:Vp (fun rec (x:Ae)=>Du.F (fun v=>rec v) x):=fun p q h a=>by
 apply m_ref01_put.F
 intros
 apply h
theorem M5.l1 {s:(List Int)} {f:Int->Option (Bool)} {x8_1:Int} {f_p:Int->Option (Bool)} (h_f:∀ (x0:Int),Ez (f x0) (f_p x0)):Ez (Bz.l1 s f x8_1) (Bz.l1 s f_p x8_1):=by
 unfold Bz.l1
 repeat' (with_reducible first | assumption | apply Ez.bind_ | apply Ez.cond_ | apply Ez.up_ | apply h_f | exact Ez.refl | intro _)
theorem M5 {s:(List Int)} {f:Int->Option (Bool)} {f_p:Int->Option (Bool)} (h_f:∀ (x0:Int),Ez (f x0) (f_p x0)):Ez (Bz s f) (Bz s f_p):=by
 unfold Bz
 repeat' (with_reducible first | assumption | apply Ez.bind_ | apply Ez.cond_ | apply Ez.up_ | apply h_f | apply M5.l1 | (refine Ez.lp (fun _=>?_) _) | exact Ez.refl | intro _)
theorem Lm {cmp:Aa->Aa->Option (Int)}:Vp (fun rec (x:List Aa×Int×Int×Int)=>Ai.F (fun data a b limit=>rec (data,a,b,limit)) x.1 x.2.1 x.2.2.1 x.2.2.2 cmp):=fun p q h a=>by
 show Ez (Ai.F _ _ _ _ _ _) (Ai.F _ _ _ _ _ _)
 unfold Ai.F
 refine Ez.lp (fun _=>?_) _
 unfold Ai.l1 Ai.j2 Ai.j3 Ai.j4 Ai.j5 Ai.j6
 repeat' (with_reducible first | exact Ez.refl | apply Ez.cond_ | apply Ez.bind_ | apply Ez.up_ | apply h | intro _)
theorem Hb.l1 {s:(List Aa)} {f:Aa->Option (Bool)} {x8_1:Int} {f_p:Aa->Option (Bool)} (h_f:∀ (x0:Aa),Ez (f x0) (f_p x0)):Ez (Bc.l1 s f x8_1) (Bc.l1 s f_p x8_1):=by
 unfold Bc.l1
 repeat' (with_reducible first | assumption | apply Ez.bind_ | apply Ez.cond_ | apply Ez.up_ | apply h_f | exact Ez.refl | intro _)
theorem Hb {s:(List Aa)} {f:Aa->Option (Bool)} {f_p:Aa->Option (Bool)} (h_f:∀ (x0:Aa),Ez (f x0) (f_p x0)):Ez (Bc s f) (Bc s f_p):=by
 unfold Bc
 repeat' (with_reducible first | assumption | apply Ez.bind_ | apply Ez.cond_ | apply Ez.up_ | apply h_f | apply Hb.l1 | (refine Ez.lp (fun _=>?_) _) | exact Ez.refl | intro _)
theorem J0.l1 {del:Aa->Option (Bool)} {i_1:Int} {j_1:Int} {s_1:List Aa} {del_p:Aa->Option (Bool)} (h_del:∀ (x0:Aa),Ez (del x0) (del_p x0)):Ez (A9.l1 del i_1 j_1 s_1) (A9.l1 del_p i_1 j_1 s_1):=by
 unfold A9.l1
 repeat' (with_reducible first | assumption | apply Ez.bind_ | apply Ez.cond_ | apply Ez.up_ | apply h_del | exact Ez.refl | intro _)
theorem J0 {s:List Aa} {del:Aa->Option (Bool)} {del_p:Aa->Option (Bool)} (h_del:∀ (x0:Aa),Ez (del x0) (del_p x0)):Ez (A9 s del) (A9 s del_p):=by
 unfold A9
 repeat' (with_reducible first | assumption | apply Ez.bind_ | apply Ez.cond_ | apply Ez.up_ | apply h_del | apply Hb | apply J0.l1 | (refine Ez.lp (fun _=>?_) _) | exact Ez.refl | intro _)
theorem K6.l1 {s:(List Bf)} {f:Bf->Option (Bool)} {x8_1:Int} {f_p:Bf->Option (Bool)} (h_f:∀ (x0:Bf),Ez (f x0) (f_p x0)):Ez (Bw.l1 s f x8_1) (Bw.l1 s f_p x8_1):=by
 unfold Bw.l1
 repeat' (with_reducible first | assumption | apply Ez.bind_ | apply Ez.cond_ | apply Ez.up_ | apply h_f | exact Ez.refl | intro _)
theorem K6 {s:(List Bf)} {f:Bf->Option (Bool)} {f_p:Bf->Option (Bool)} (h_f:∀ (x0:Bf),Ez (f x0) (f_p x0)):Ez (Bw s f) (Bw s f_p):=by
 unfold Bw
 repeat' (with_reducible first | assumption | apply Ez.bind_ | apply Ez.cond_ | apply Ez.up_ | apply h_f | apply K6.l1 | (refine Ez.lp (fun _=>?_) _) | exact Ez.refl | intro _)
theorem J3.l1 {s:(List Ad)} {f:Ad->Option (Bool)} {x8_1:Int} {f_p:Ad->Option (Bool)} (h_f:∀ (x0:Ad),Ez (f x0) (f_p x0)):Ez (Bp.l1 s f x8_1) (Bp.l1 s f_p x8_1):=by
 unfold Bp.l1
 repeat' (with_reducible first | assumption | apply Ez.bind_ | apply Ez.cond_ | apply Ez.up_ | apply h_f | exact Ez.refl | intro _)
theorem J3 {s:(List Ad)} {f:Ad->Option (Bool)} {f_p:Ad->Option (Bool)} (h_f:∀ (x0:Ad),Ez (f x0) (f_p x0)):Ez (Bp s f) (Bp s f_p):=by
 unfold Bp
 repeat' (with_reducible first | assumption | apply Ez.bind_ | apply Ez.cond_ | apply Ez.up_ | apply h_f | apply J3.l1 | (refine Ez.lp (fun _=>?_) _) | exact Ez.refl | intro _)
end Go.Proofs.YtbpchmikjiinpaaGreat
