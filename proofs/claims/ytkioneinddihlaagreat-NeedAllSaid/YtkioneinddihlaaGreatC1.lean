import Derived.Test.YtkioneinddihlaaGreatPC
import Derived.Test.YtkioneinddihlaaGreatP1
set_option linter.unusedVariables false
set_option linter.unusedSimpArgs false
namespace Go.Proofs.YtkioneinddihlaaGreat
theorem Jp {cmp:Aa->Aa->Option (Int)}:S4 (fun rec (x:List Aa×Int×Int×Int)=>Aj.F (fun data a b limit=>rec (data,a,b,limit)) x.1 x.2.1 x.2.2.1 x.2.2.2 cmp):=fun p q h a=>by
 show Fh (Aj.F _ _ _ _ _ _) (Aj.F _ _ _ _ _ _)
 unfold Aj.F
 refine Fh.lp (fun _=>?_) _
 unfold Aj.l1 Aj.j2 Aj.j3 Aj.j4 Aj.j5 Aj.j6
 repeat' (with_reducible first | exact Fh.refl | apply Fh.cond_ | apply Fh.bind_ | apply Fh.up_ | apply h | intro _)
theorem m_ref01_copies.l1 {rec:(List Ai)->Option ((List Ai))} {l:(List Ai)} {i_1:Int} {out_1:List Ai} {rec_p:(List Ai)->Option ((List Ai))} (h_rec:∀ (x0:(List Ai)),Fh (rec x0) (rec_p x0)):Fh (C9.l1 rec l i_1 out_1) (C9.l1 rec_p l i_1 out_1):=by
 unfold C9.l1
 repeat' (with_reducible first | assumption | apply Fh.bind_ | apply Fh.cond_ | apply Fh.up_ | apply h_rec | exact Fh.refl | intro _)
theorem m_ref01_copies.F {rec:(List Ai)->Option ((List Ai))} {l:(List Ai)} {rec_p:(List Ai)->Option ((List Ai))} (h_rec:∀ (x0:(List Ai)),Fh (rec x0) (rec_p x0)):Fh (C9.F rec l) (C9.F rec_p l):=by
 unfold C9.F
 repeat' (with_reducible first | assumption | apply Fh.bind_ | apply Fh.cond_ | apply Fh.up_ | apply h_rec | apply m_ref01_copies.l1 | (refine Fh.lp (fun _=>?_) _) | exact Fh.refl | intro _)
theorem T3:S4 (fun rec (x:(List Ai))=>C9.F (fun l=>rec l) x):=fun p q h a=>by
 apply m_ref01_copies.F
 intros
 apply h
theorem m_ref01_formed.l2 {rec:Ai->Option (Bool)} {v:Ai} {i_2:Int} {rec_p:Ai->Option (Bool)} (h_rec:∀ (x0:Ai),Fh (rec x0) (rec_p x0)):Fh (B0.l2 rec v i_2) (B0.l2 rec_p v i_2):=by
 unfold B0.l2
 repeat' (with_reducible first | assumption | apply Fh.bind_ | apply Fh.cond_ | apply Fh.up_ | apply h_rec | exact Fh.refl | intro _)
theorem m_ref01_formed.j1 {rec:Ai->Option (Bool)} {v:Ai} {x38_1:Bool} {rec_p:Ai->Option (Bool)} (h_rec:∀ (x0:Ai),Fh (rec x0) (rec_p x0)):Fh (B0.j1 rec v x38_1) (B0.j1 rec_p v x38_1):=by
 unfold B0.j1
 repeat' (with_reducible first | assumption | apply Fh.bind_ | apply Fh.cond_ | apply Fh.up_ | apply h_rec | apply m_ref01_formed.l2 | (refine Fh.lp (fun _=>?_) _) | exact Fh.refl | intro _)
theorem m_ref01_formed.F {rec:Ai->Option (Bool)} {v:Ai} {rec_p:Ai->Option (Bool)} (h_rec:∀ (x0:Ai),Fh (rec x0) (rec_p x0)):Fh (B0.F rec v) (B0.F rec_p v):=by
 unfold B0.F
 repeat' (with_reducible first | assumption | apply Fh.bind_ | apply Fh.cond_ | apply Fh.up_ | apply h_rec | apply m_ref01_formed.j1 | exact Fh.refl | intro _)
theorem T9:S4 (fun rec (x:Ai)=>B0.F (fun v=>rec v) x):=fun p q h a=>by
 apply m_ref01_formed.F
 intros
 apply h
theorem m_ref01_depth.l1 {rec:Ai->Option (Int)} {v:Ai} {d_1:Int} {i_1:Int} {rec_p:Ai->Option (Int)} (h_rec:∀ (x0:Ai),Fh (rec x0) (rec_p x0)):Fh (Dh.l1 rec v d_1 i_1) (Dh.l1 rec_p v d_1 i_1):=by
 unfold Dh.l1
 repeat' (with_reducible first | assumption | apply Fh.bind_ | apply Fh.cond_ | apply Fh.up_ | apply h_rec | exact Fh.refl | intro _)
theorem m_ref01_depth.F {rec:Ai->Option (Int)} {v:Ai} {rec_p:Ai->Option (Int)} (h_rec:∀ (x0:Ai),Fh (rec x0) (rec_p x0)):Fh (Dh.F rec v) (Dh.F rec_p v):=by
 unfold Dh.F
 repeat' (with_reducible first | assumption | apply Fh.bind_ | apply Fh.cond_ | apply Fh.up_ | apply h_rec | apply m_ref01_depth.l1 | (refine Fh.lp (fun _=>?_) _) | exact Fh.refl | intro _)
theorem Wh:S4 (fun rec (x:Ai)=>Dh.F (fun v=>rec v) x):=fun p q h a=>by
 apply m_ref01_depth.F
 intros
 apply h
theorem m_ref01_put.l1 {rec:Ai->Option ((List UInt8))} {v:Ai} {i_1:Int} {b_1:List UInt8} {rec_p:Ai->Option ((List UInt8))} (h_rec:∀ (x0:Ai),Fh (rec x0) (rec_p x0)):Fh (Du.l1 rec v i_1 b_1) (Du.l1 rec_p v i_1 b_1):=by
 unfold Du.l1
 repeat' (with_reducible first | assumption | apply Fh.bind_ | apply Fh.cond_ | apply Fh.up_ | apply h_rec | exact Fh.refl | intro _)
theorem m_ref01_put.F {rec:Ai->Option ((List UInt8))} {v:Ai} {rec_p:Ai->Option ((List UInt8))} (h_rec:∀ (x0:Ai),Fh (rec x0) (rec_p x0)):Fh (Du.F rec v) (Du.F rec_p v):=by
 unfold Du.F
 repeat' (with_reducible first | assumption | apply Fh.bind_ | apply Fh.cond_ | apply Fh.up_ | apply h_rec | apply m_ref01_put.l1 | (refine Fh.lp (fun _=>?_) _) | exact Fh.refl | intro _)
theorem Zc:S4 (fun rec (x:Ai)=>Du.F (fun v=>rec v) x):=fun p q h a=>by
 apply m_ref01_put.F
 intros
 apply h
theorem Lv.l1 {s:(List Int)} {f:Int->Option (Bool)} {x8_1:Int} {f_p:Int->Option (Bool)} (h_f:∀ (x0:Int),Fh (f x0) (f_p x0)):Fh (B2.l1 s f x8_1) (B2.l1 s f_p x8_1):=by
 unfold B2.l1
 repeat' (with_reducible first | assumption | apply Fh.bind_ | apply Fh.cond_ | apply Fh.up_ | apply h_f | exact Fh.refl | intro _)
theorem Lv {s:(List Int)} {f:Int->Option (Bool)} {f_p:Int->Option (Bool)} (h_f:∀ (x0:Int),Fh (f x0) (f_p x0)):Fh (B2 s f) (B2 s f_p):=by
 unfold B2
 repeat' (with_reducible first | assumption | apply Fh.bind_ | apply Fh.cond_ | apply Fh.up_ | apply h_f | apply Lv.l1 | (refine Fh.lp (fun _=>?_) _) | exact Fh.refl | intro _)
theorem Jr.l1 {s:(List Bp)} {f:Bp->Option (Bool)} {x8_1:Int} {f_p:Bp->Option (Bool)} (h_f:∀ (x0:Bp),Fh (f x0) (f_p x0)):Fh (Bw.l1 s f x8_1) (Bw.l1 s f_p x8_1):=by
 unfold Bw.l1
 repeat' (with_reducible first | assumption | apply Fh.bind_ | apply Fh.cond_ | apply Fh.up_ | apply h_f | exact Fh.refl | intro _)
theorem Jr {s:(List Bp)} {f:Bp->Option (Bool)} {f_p:Bp->Option (Bool)} (h_f:∀ (x0:Bp),Fh (f x0) (f_p x0)):Fh (Bw s f) (Bw s f_p):=by
 unfold Bw
 repeat' (with_reducible first | assumption | apply Fh.bind_ | apply Fh.cond_ | apply Fh.up_ | apply h_f | apply Jr.l1 | (refine Fh.lp (fun _=>?_) _) | exact Fh.refl | intro _)
theorem Jb.l1 {s:(List Ae)} {f:Ae->Option (Bool)} {x8_1:Int} {f_p:Ae->Option (Bool)} (h_f:∀ (x0:Ae),Fh (f x0) (f_p x0)):Fh (Bq.l1 s f x8_1) (Bq.l1 s f_p x8_1):=by
 unfold Bq.l1
 repeat' (with_reducible first | assumption | apply Fh.bind_ | apply Fh.cond_ | apply Fh.up_ | apply h_f | exact Fh.refl | intro _)
theorem Jb {s:(List Ae)} {f:Ae->Option (Bool)} {f_p:Ae->Option (Bool)} (h_f:∀ (x0:Ae),Fh (f x0) (f_p x0)):Fh (Bq s f) (Bq s f_p):=by
 unfold Bq
 repeat' (with_reducible first | assumption | apply Fh.bind_ | apply Fh.cond_ | apply Fh.up_ | apply h_f | apply Jb.l1 | (refine Fh.lp (fun _=>?_) _) | exact Fh.refl | intro _)
theorem It.l1 {s:(List Ac)} {f:Ac->Option (Bool)} {x8_1:Int} {f_p:Ac->Option (Bool)} (h_f:∀ (x0:Ac),Fh (f x0) (f_p x0)):Fh (Bc.l1 s f x8_1) (Bc.l1 s f_p x8_1):=by
 unfold Bc.l1
 repeat' (with_reducible first | assumption | apply Fh.bind_ | apply Fh.cond_ | apply Fh.up_ | apply h_f | exact Fh.refl | intro _)
theorem It {s:(List Ac)} {f:Ac->Option (Bool)} {f_p:Ac->Option (Bool)} (h_f:∀ (x0:Ac),Fh (f x0) (f_p x0)):Fh (Bc s f) (Bc s f_p):=by
 unfold Bc
 repeat' (with_reducible first | assumption | apply Fh.bind_ | apply Fh.cond_ | apply Fh.up_ | apply h_f | apply It.l1 | (refine Fh.lp (fun _=>?_) _) | exact Fh.refl | intro _)
end Go.Proofs.YtkioneinddihlaaGreat
