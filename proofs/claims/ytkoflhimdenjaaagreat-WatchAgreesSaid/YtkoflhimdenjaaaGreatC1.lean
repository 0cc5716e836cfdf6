import Derived.Test.YtkoflhimdenjaaaGreatPC
import Derived.Test.YtkoflhimdenjaaaGreatP1
set_option linter.unusedVariables false
set_option linter.unusedSimpArgs false
namespace Go.Proofs.YtkoflhimdenjaaaGreat
theorem Je.l1 {s:(List Am)} {f:Am->Option (Bool)} {x8_1:Int} {f_p:Am->Option (Bool)} (h_f:∀ (x0:Am),Fe (f x0) (f_p x0)):Fe (Bm.l1 s f x8_1) (Bm.l1 s f_p x8_1):=by
 unfold Bm.l1
 repeat' (with_reducible first | assumption | apply Fe.bind_ | apply Fe.cond_ | apply Fe.up_ | apply h_f | exact Fe.refl | intro _)
theorem Je {s:(List Am)} {f:Am->Option (Bool)} {f_p:Am->Option (Bool)} (h_f:∀ (x0:Am),Fe (f x0) (f_p x0)):Fe (Bm s f) (Bm s f_p):=by
 unfold Bm
 repeat' (with_reducible first | assumption | apply Fe.bind_ | apply Fe.cond_ | apply Fe.up_ | apply h_f | apply Je.l1 | (refine Fe.lp (fun _=>?_) _) | exact Fe.refl | intro _)
theorem m_ref01_copies.l1 {rec:(List Ai)->Option ((List Ai))} {l:(List Ai)} {i_1:Int} {out_1:List Ai} {rec_p:(List Ai)->Option ((List Ai))} (h_rec:∀ (x0:(List Ai)),Fe (rec x0) (rec_p x0)):Fe (C0.l1 rec l i_1 out_1) (C0.l1 rec_p l i_1 out_1):=by
 unfold C0.l1
 repeat' (with_reducible first | assumption | apply Fe.bind_ | apply Fe.cond_ | apply Fe.up_ | apply h_rec | exact Fe.refl | intro _)
theorem m_ref01_copies.F {rec:(List Ai)->Option ((List Ai))} {l:(List Ai)} {rec_p:(List Ai)->Option ((List Ai))} (h_rec:∀ (x0:(List Ai)),Fe (rec x0) (rec_p x0)):Fe (C0.F rec l) (C0.F rec_p l):=by
 unfold C0.F
 repeat' (with_reducible first | assumption | apply Fe.bind_ | apply Fe.cond_ | apply Fe.up_ | apply h_rec | apply m_ref01_copies.l1 | (refine Fe.lp (fun _=>?_) _) | exact Fe.refl | intro _)
theorem V3:Uz (fun rec (x:(List Ai))=>C0.F (fun l=>rec l) x):=fun p q h a=>by
 apply m_ref01_copies.F
 intros
 apply h
theorem m_ref01_formed.l2 {rec:Ai->Option (Bool)} {v:Ai} {i_2:Int} {rec_p:Ai->Option (Bool)} (h_rec:∀ (x0:Ai),Fe (rec x0) (rec_p x0)):Fe (Bz.l2 rec v i_2) (Bz.l2 rec_p v i_2):=by
 unfold Bz.l2
 repeat' (with_reducible first | assumption | apply Fe.bind_ | apply Fe.cond_ | apply Fe.up_ | apply h_rec | exact Fe.refl | intro _)
theorem m_ref01_formed.j1 {rec:Ai->Option (Bool)} {v:Ai} {x38_1:Bool} {rec_p:Ai->Option (Bool)} (h_rec:∀ (x0:Ai),Fe (rec x0) (rec_p x0)):Fe (Bz.j1 rec v x38_1) (Bz.j1 rec_p v x38_1):=by
 unfold Bz.j1
 repeat' (with_reducible first | assumption | apply Fe.bind_ | apply Fe.cond_ | apply Fe.up_ | apply h_rec | apply m_ref01_formed.l2 | (refine Fe.lp (fun _=>?_) _) | exact Fe.refl | intro _)
theorem m_ref01_formed.F {rec:Ai->Option (Bool)} {v:Ai} {rec_p:Ai->Option (Bool)} (h_rec:∀ (x0:Ai),Fe (rec x0) (rec_p x0)):Fe (Bz.F rec v) (Bz.F rec_p v):=by
 unfold Bz.F
 repeat' (with_reducible first | assumption | apply Fe.bind_ | apply Fe.cond_ | apply Fe.up_ | apply h_rec | apply m_ref01_formed.j1 | exact Fe.refl | intro _)
theorem Vm:Uz (fun rec (x:Ai)=>Bz.F (fun v=>rec v) x):=fun p q h a=>by
 apply m_ref01_formed.F
 intros
 apply h
theorem m_ref01_depth.l1 {rec:Ai->Option (Int)} {v:Ai} {d_1:Int} {i_1:Int} {rec_p:Ai->Option (Int)} (h_rec:∀ (x0:Ai),Fe (rec x0) (rec_p x0)):Fe (Db.l1 rec v d_1 i_1) (Db.l1 rec_p v d_1 i_1):=by
 unfold Db.l1
 repeat' (with_reducible first | assumption | apply Fe.bind_ | apply Fe.cond_ | apply Fe.up_ | apply h_rec | exact Fe.refl | intro _)
theorem m_ref01_depth.F {rec:Ai->Option (Int)} {v:Ai} {rec_p:Ai->Option (Int)} (h_rec:∀ (x0:Ai),Fe (rec x0) (rec_p x0)):Fe (Db.F rec v) (Db.F rec_p v):=by
 unfold Db.F
 repeat' (with_reducible first | assumption | apply Fe.bind_ | apply Fe.cond_ | apply Fe.up_ | apply h_rec | apply m_ref01_depth.l1 | (refine Fe.lp (fun _=>?_) _) | exact Fe.refl | intro _)
theorem Xa:Uz (fun rec (x:Ai)=>Db.F (fun v=>rec v) x):=fun p q h a=>by
 apply m_ref01_depth.F
 intros
 apply h
theorem m_ref01_put.l1 {rec:Ai->Option ((List UInt8))} {v:Ai} {i_1:Int} {b_1:List UInt8} {rec_p:Ai->Option ((List UInt8))} (h_rec:∀ (x0:Ai),Fe (rec x0) (rec_p x0)):Fe (Dt.l1 rec v i_1 b_1) (Dt.l1 rec_p v i_1 b_1):=by
 unfold Dt.l1
 repeat' (with_reducible first | assumption | apply Fe.bind_ | apply Fe.cond_ | apply Fe.up_ | apply h_rec | exact Fe.refl | intro _)
theorem m_ref01_put.F {rec:Ai->Option ((List UInt8))} {v:Ai} {rec_p:Ai->Option ((List UInt8))} (h_rec:∀ (x0:Ai),Fe (rec x0) (rec_p x0)):Fe (Dt.F rec v) (Dt.F rec_p v):=by
 unfold Dt.F
 repeat' (with_reducible first | assumption | apply Fe.bind_ | apply Fe.cond_ | apply Fe.up_ | apply h_rec | apply m_ref01_put.l1 | (refine Fe.lp (fun _=>?_) _) | exact Fe.refl | intro _)
theorem bF:Uz (fun rec (x:Ai)=>Dt.F (fun v=>rec v) x):=fun p q h a=>by
 apply m_ref01_put.F
 intros
 apply h
theorem L9.l1 {s:(List Int)} {f:Int->Option (Bool)} {x8_1:Int} {f_p:Int->Option (Bool)} (h_f:∀ (x0:Int),Fe (f x0) (f_p x0)):Fe (By.l1 s f x8_1) (By.l1 s f_p x8_1):=by
 unfold By.l1
 repeat' (with_reducible first | assumption | apply Fe.bind_ | apply Fe.cond_ | apply Fe.up_ | apply h_f | exact Fe.refl | intro _)
theorem L9 {s:(List Int)} {f:Int->Option (Bool)} {f_p:Int->Option (Bool)} (h_f:∀ (x0:Int),Fe (f x0) (f_p x0)):Fe (By s f) (By s f_p):=by
 unfold By
 repeat' (with_reducible first | assumption | apply Fe.bind_ | apply Fe.cond_ | apply Fe.up_ | apply h_f | apply L9.l1 | (refine Fe.lp (fun _=>?_) _) | exact Fe.refl | intro _)
theorem Km {cmp:Aa->Aa->Option (Int)}:Uz (fun rec (x:List Aa×Int×Int×Int)=>Aj.F (fun data a b limit=>rec (data,a,b,limit)) x.1 x.2.1 x.2.2.1 x.2.2.2 cmp):=fun p q h a=>by
 show Fe (Aj.F _ _ _ _ _ _) (Aj.F _ _ _ _ _ _)
 unfold Aj.F
 refine Fe.lp (fun _=>?_) _
 unfold Aj.l1 Aj.j2 Aj.j3 Aj.j4 Aj.j5 Aj.j6
 repeat' (with_reducible first | exact Fe.refl | apply Fe.cond_ | apply Fe.bind_ | apply Fe.up_ | apply h | intro _)
theorem Gy.l1 {s:(List Aa)} {f:Aa->Option (Bool)} {x8_1:Int} {f_p:Aa->Option (Bool)} (h_f:∀ (x0:Aa),Fe (f x0) (f_p x0)):Fe (Bf.l1 s f x8_1) (Bf.l1 s f_p x8_1):=by
 unfold Bf.l1
 repeat' (with_reducible first | assumption | apply Fe.bind_ | apply Fe.cond_ | apply Fe.up_ | apply h_f | exact Fe.refl | intro _)
theorem Gy {s:(List Aa)} {f:Aa->Option (Bool)} {f_p:Aa->Option (Bool)} (h_f:∀ (x0:Aa),Fe (f x0) (f_p x0)):Fe (Bf s f) (Bf s f_p):=by
 unfold Bf
 repeat' (with_reducible first | assumption | apply Fe.bind_ | apply Fe.cond_ | apply Fe.up_ | apply h_f | apply Gy.l1 | (refine Fe.lp (fun _=>?_) _) | exact Fe.refl | intro _)
theorem Jd.l1 {del:Aa->Option (Bool)} {i_1:Int} {j_1:Int} {s_1:List Aa} {del_p:Aa->Option (Bool)} (h_del:∀ (x0:Aa),Fe (del x0) (del_p x0)):Fe (Bc.l1 del i_1 j_1 s_1) (Bc.l1 del_p i_1 j_1 s_1):=by
 unfold Bc.l1
 repeat' (with_reducible first | assumption | apply Fe.bind_ | apply Fe.cond_ | apply Fe.up_ | apply h_del | exact Fe.refl | intro _)
theorem Jd {s:List Aa} {del:Aa->Option (Bool)} {del_p:Aa->Option (Bool)} (h_del:∀ (x0:Aa),Fe (del x0) (del_p x0)):Fe (Bc s del) (Bc s del_p):=by
 unfold Bc
 repeat' (with_reducible first | assumption | apply Fe.bind_ | apply Fe.cond_ | apply Fe.up_ | apply h_del | apply Gy | apply Jd.l1 | (refine Fe.lp (fun _=>?_) _) | exact Fe.refl | intro _)
end Go.Proofs.YtkoflhimdenjaaaGreat
