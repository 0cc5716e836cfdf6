import Derived.Test.YtbpchmikjiinpaaGreatT1
import Derived.Test.YtbpchmikjiinpaaGreatEU
import Derived.Test.YtbpchmikjiinpaaGreatA1
import Derived.Test.YtbpchmikjiinpaaGreatA6
import Derived.Test.YtbpchmikjiinpaaGreatA7
import Derived.Test.YtbpchmikjiinpaaGreatA8
import Derived.Test.YtbpchmikjiinpaaGreatA9
import Derived.Test.YtbpchmikjiinpaaGreatA10
import Derived.Test.YtbpchmikjiinpaaGreatA12
set_option linter.unusedVariables false
set_option linter.unusedSimpArgs false
set_option maxRecDepth 100000
set_option maxHeartbeats 40000000
namespace Go.Proofs.YtbpchmikjiinpaaGreat
open Go.RowKit
theorem Qd {l r} (G:Ex l=some r):Fn Tryz.prog 70 0 [.sl 11 (Aj Aa.enc l)] [] (fun d' b'=>d'=.tup [.row 0,vk r.2]/\b'=[.row 26 11 (Aj Aa.enc r.1)]):=by
 unfold Ex at G
 refine Dx 0 30 Tryz.func70 fun _ _ _=>?_
 refine Bt 4 fun B G=>?_
 refine G7 (fun (x10_1:Int)=>mk [(0,.sl 11 (Aj Aa.enc l)),(8,.sl 11 (Aj Aa.enc l)),(9,.val (.int .i64 (l.length:Int))),(10,vk x10_1)] [] 0) G (B9 []) ?_
 rintro x10_1 m1 o1 G hn1
 unfold Ex.l1 at G
 refine D4 (.l 2 (.e 2)) fun _ B G=>?_
 obtain⟨y_2,hy_2,G⟩:=Ak G
 refine F6 (rd:=[]) (ps:=[]) (gs:=[]) false rfl (Kd hy_2) rfl rfl (.cons .sl .nil) rfl rfl (by intro h; cases h) rfl (by intro h; first | (cases h; done) | exact⟨_,_,⟨rfl,rfl⟩,by simp,by simp⟩) ?_
 rintro _ _ ⟨rfl,rfl⟩
 refine Bt 1 fun B G=>?_
 obtain⟨y_3,hy_3,G⟩:=Ak G
 refine P5 [16] [16] [] false (@K3 y_2 (fun x0 x1=>H6 x0 x1) (fun x0 x1 y h=>@Tb x0 x1 y h) _ hy_3) ?_
 refine Bt 1 fun B G=>?_
 obtain⟨y_4,hy_4,G⟩:=Ak G
 refine F6 (rd:=[16]) (ps:=[]) (gs:=[16]) false rfl (Jn hy_4) rfl rfl (.cons (.rowK rfl) .nil) ⟨_,_,_,rfl,.head _,rfl,rfl⟩ rfl (by intro h; cases h) rfl (by intro h; first | (cases h; done) | exact⟨_,_,⟨rfl,rfl⟩,by simp,by simp⟩) ?_
 rintro _ _ ⟨rfl,rfl⟩
 exact Cf
instance aRs:Wk 70:=⟨_,@Qd⟩
theorem Li {at' e r} (G:Bm at' e=some r):Fn Tryz.prog 41 0 [.agg (Aa.dv at'),.agg (Ad.dv e)] [] (fun d' b'=>d'=.tup [.row 0,vk r.2]/\b'=[.row 26 11 (Aj Aa.enc r.1)]):=by
 unfold Bm at G
 refine Dx 0 95 Tryz.func41 fun _ _ _=>?_
 refine Bt 2 fun B G=>?_
 obtain⟨y,hy,G⟩:=Ak G
 refine F6 (rd:=[]) (ps:=[]) (gs:=[]) false rfl (T3 hy) rfl rfl (.cons (.agg (.cons .val (.cons .val (.cons .val (.cons .val (.cons .val (.cons .val (.cons .val (.cons .val (.cons .val (.cons .val (.cons .val .nil)))))))))))) .nil) rfl rfl (by intro h; cases h) rfl (by intro h; first | (cases h; done) | exact⟨_,_,⟨rfl,rfl⟩,by simp,by simp⟩) ?_
 rintro _ _ ⟨rfl,rfl⟩
 refine Bt 0 fun B G=>?_
 refine Ba (ι:=Int) (fun (errno_1:Int)=>mk [(3,.ptr 0 0),(6,.ptr 1 0),(7,vk errno_1)] [(0,.box (Ad.dv e) 43),(1,.box [vk y.1.at_.Source,ws y.1.at_.Host,vk y.1.at_.Machine,vk y.1.at_.Day,vk y.1.at_.Confidence,vk y.1.at_.Kind,ws y.1.at_.Subject,vk y.1.at_.Use.Alg,vk y.1.at_.Use.Bits,vk y.1.at_.Number,ws y.1.at_.Text,.row 2] 126),(2,.row 26 11 (Aj Aa.enc y.1.l))] 3) (fun (errno_1:Int)=>Bm.j1 e y errno_1=some r) ?_ ?_
 exact Cf
 rintro errno_1 G
 unfold Bm.j1 at G
 refine D4 (.l 2 (.e 2)) fun _ B G=>?_
 refine L1 Hh Lt S8 ?_
 refine Bt 0 fun B G=>?_
 obtain⟨y_3,hy_3,G⟩:=Ak G
 refine F6 (rd:=[1,2]) (ps:=[1]) (gs:=[2]) false rfl (Gg hy_3) rfl rfl (.cons (.ptr rfl) (.cons .val (.cons (.agg (.cons .val (.cons .val .nil))) (.cons .val .nil)))) ⟨_,_,_,rfl,.head _,⟨_,rfl,(by repeat' (first | exact Nk.nil | apply Nk.cons | exact Ag.val | exact Ag.sl | exact Ag.nils | exact Ag.ptr rfl | exact Ag.rowK rfl))⟩,⟨_,_,_,rfl,.tail _ (.head _),rfl,rfl⟩⟩ rfl (by intro h; cases h) rfl (by intro h; first | (cases h; done) | exact⟨_,_,⟨rfl,rfl⟩,by simp,by simp⟩) ?_
 rintro _ _ ⟨rfl,rfl⟩
 refine Bt 1 fun B G=>?_
 refine L1 Hh Lt S8 ?_
 refine Bt 0 fun B G=>?_
 obtain⟨y_4,hy_4,G⟩:=Ak G
 refine F6 (rd:=[1,51]) (ps:=[1]) (gs:=[51]) false rfl (Gg hy_4) rfl rfl (.cons (.ptr rfl) (.cons .val (.cons (.agg (.cons .val (.cons .val .nil))) (.cons .val .nil)))) ⟨_,_,_,rfl,.head _,⟨_,rfl,(by repeat' (first | exact Nk.nil | apply Nk.cons | exact Ag.val | exact Ag.sl | exact Ag.nils | exact Ag.ptr rfl | exact Ag.rowK rfl))⟩,⟨_,_,_,rfl,.tail _ (.head _),rfl,rfl⟩⟩ rfl (by intro h; cases h) rfl (by intro h; first | (cases h; done) | exact⟨_,_,⟨rfl,rfl⟩,by simp,by simp⟩) ?_
 rintro _ _ ⟨rfl,rfl⟩
 refine Bt 3 fun B G=>?_
 refine G7 (fun ((x41_2,p_2,p_2_2,p_2_3,p_2_4,p_2_5,p_2_6,p_2_7,p_2_8,p_2_9,p_2_10,p_2_11,l_2):Int×Int×ByteArray×Int×Int×Int×Int×ByteArray×Int×Int×Int×ByteArray×List Aa)=>mk [(3,.ptr 0 0),(6,.ptr 1 0),(39,.sl 1 (Aj eI e.Suites)),(40,.val (.int .i64 (e.Suites.length:Int))),(41,vk x41_2)] [(0,.box (Ad.dv e) 43),(1,.box [vk p_2,ws p_2_2,vk p_2_3,vk p_2_4,vk p_2_5,vk p_2_6,ws p_2_7,vk p_2_8,vk p_2_9,vk p_2_10,ws p_2_11,.row 2] 126),(2,.row 26 11 (Aj Aa.enc l_2))] 3) G (B9 [(0,0),(1,1),(2,91)]) ?_
 rintro⟨x41_2,p_2,p_2_2,p_2_3,p_2_4,p_2_5,p_2_6,p_2_7,p_2_8,p_2_9,p_2_10,p_2_11,l_2⟩ m2 o2 G hn2
 unfold Bm.l2 at G
 refine I9 2 fun B G=>?_
 refine Jf rfl G (fun _ G=>?_) fun _ G=>?_
 refine Bt 7 fun _ _ B G=>?_
 refine L1 Hh Lt S8 ?_
 refine Bt 0 fun B G=>?_
 obtain⟨y_5,hy_5,G⟩:=Ak G
 refine F6 (rd:=[1,2]) (ps:=[1]) (gs:=[2]) false rfl (Gg hy_5) rfl rfl (.cons (.ptr rfl) (.cons .val (.cons (.agg (.cons .val (.cons .val .nil))) (.cons .val .nil)))) ⟨_,_,_,rfl,.head _,⟨_,rfl,(by repeat' (first | exact Nk.nil | apply Nk.cons | exact Ag.val | exact Ag.sl | exact Ag.nils | exact Ag.ptr rfl | exact Ag.rowK rfl))⟩,⟨_,_,_,rfl,.tail _ (.head _),rfl,rfl⟩⟩ rfl (by intro h; cases h) rfl (by intro h; first | (cases h; done) | exact⟨_,_,⟨rfl,rfl⟩,by simp,by simp⟩) ?_
 rintro _ _ ⟨rfl,rfl⟩
 exact Cf
 refine Bt 4 fun B G=>?_
 refine G7 (fun ((x53_3,p_3,p_3_2,p_3_3,p_3_4,p_3_5,p_3_6,p_3_7,p_3_8,p_3_9,p_3_10,p_3_11,l_3):Int×Int×ByteArray×Int×Int×Int×Int×ByteArray×Int×Int×Int×ByteArray×List Aa)=>mk [(3,.ptr 0 0),(6,.ptr 1 0),(51,.sl 4 (Aj Am.enc e.Identities)),(52,.val (.int .i64 (e.Identities.length:Int))),(53,vk x53_3)] [(0,.box (Ad.dv e) 43),(1,.box [vk p_3,ws p_3_2,vk p_3_3,vk p_3_4,vk p_3_5,vk p_3_6,ws p_3_7,vk p_3_8,vk p_3_9,vk p_3_10,ws p_3_11,.row 2] 126),(2,.row 26 11 (Aj Aa.enc l_3))] 3) G (B9 [(0,0),(1,1),(2,2)]) ?_
 rintro⟨x53_3,p_3,p_3_2,p_3_3,p_3_4,p_3_5,p_3_6,p_3_7,p_3_8,p_3_9,p_3_10,p_3_11,l_3⟩ m3 o3 G hn3
 unfold Bm.l3 at G
 refine I9 2 fun B G=>?_
 refine Jf rfl G (fun _ G=>?_) fun _ G=>?_
 refine Bt 7 fun _ _ B G=>?_
 obtain⟨y_6,hy_6,G⟩:=Ak G
 refine F6 (rd:=[1,2]) (ps:=[1]) (gs:=[2]) false rfl (Gg hy_6) rfl rfl (.cons (.ptr rfl) (.cons .val (.cons (.agg (.cons .val (.cons .val .nil))) (.cons .val .nil)))) ⟨_,_,_,rfl,.head _,⟨_,rfl,(by repeat' (first | exact Nk.nil | apply Nk.cons | exact Ag.val | exact Ag.sl | exact Ag.nils | exact Ag.ptr rfl | exact Ag.rowK rfl))⟩,⟨_,_,_,rfl,.tail _ (.head _),rfl,rfl⟩⟩ rfl (by intro h; cases h) rfl (by intro h; first | (cases h; done) | exact⟨_,_,⟨rfl,rfl⟩,by simp,by simp⟩) ?_
 rintro _ _ ⟨rfl,rfl⟩
 exact Cf
 refine Bt 4 fun B G=>?_
 refine G7 (fun ((x67_4,p_4,p_4_2,p_4_3,p_4_4,p_4_5,p_4_6,p_4_7,p_4_8,p_4_9,p_4_10,p_4_11,l_4):Int×Int×ByteArray×Int×Int×Int×Int×ByteArray×Int×Int×Int×ByteArray×List Aa)=>mk [(3,.ptr 0 0),(6,.ptr 1 0),(65,.sl 1 (Aj eI e.Anchors)),(66,.val (.int .i64 (e.Anchors.length:Int))),(67,vk x67_4)] [(0,.box (Ad.dv e) 43),(1,.box [vk p_4,ws p_4_2,vk p_4_3,vk p_4_4,vk p_4_5,vk p_4_6,ws p_4_7,vk p_4_8,vk p_4_9,vk p_4_10,ws p_4_11,.row 2] 126),(2,.row 26 11 (Aj Aa.enc l_4))] 3) G (B9 [(0,0),(1,1),(2,2)]) ?_
 rintro⟨x67_4,p_4,p_4_2,p_4_3,p_4_4,p_4_5,p_4_6,p_4_7,p_4_8,p_4_9,p_4_10,p_4_11,l_4⟩ m4 o4 G hn4
 unfold Bm.l4 at G
 refine I9 2 fun B G=>?_
 refine Jf rfl G (fun _ G=>?_) fun _ G=>?_
 refine Bt 7 fun _ _ B G=>?_
 refine L1 Hh Lt S8 ?_
 refine Bt 0 fun B G=>?_
 obtain⟨y_7,hy_7,G⟩:=Ak G
 refine F6 (rd:=[1,2]) (ps:=[1]) (gs:=[2]) false rfl (Gg hy_7) rfl rfl (.cons (.ptr rfl) (.cons .val (.cons (.agg (.cons .val (.cons .val .nil))) (.cons .val .nil)))) ⟨_,_,_,rfl,.head _,⟨_,rfl,(by repeat' (first | exact Nk.nil | apply Nk.cons | exact Ag.val | exact Ag.sl | exact Ag.nils | exact Ag.ptr rfl | exact Ag.rowK rfl))⟩,⟨_,_,_,rfl,.tail _ (.head _),rfl,rfl⟩⟩ rfl (by intro h; cases h) rfl (by intro h; first | (cases h; done) | exact⟨_,_,⟨rfl,rfl⟩,by simp,by simp⟩) ?_
 rintro _ _ ⟨rfl,rfl⟩
 exact Cf
 refine Bt 4 fun B G=>?_
 refine G7 (fun ((x79_5,p_5,p_5_2,p_5_3,p_5_4,p_5_5,p_5_6,p_5_7,p_5_8,p_5_9,p_5_10,p_5_11,l_5):Int×Int×ByteArray×Int×Int×Int×Int×ByteArray×Int×Int×Int×ByteArray×List Aa)=>mk [(6,.ptr 0 0),(77,.sl 1 (Aj eI e.Hashes)),(78,.val (.int .i64 (e.Hashes.length:Int))),(79,vk x79_5)] [(0,.box [vk p_5,ws p_5_2,vk p_5_3,vk p_5_4,vk p_5_5,vk p_5_6,ws p_5_7,vk p_5_8,vk p_5_9,vk p_5_10,ws p_5_11,.row 1] 126),(1,.row 26 11 (Aj Aa.enc l_5))] 2) G (B9 [(0,1),(1,2)]) ?_
 rintro⟨x79_5,p_5,p_5_2,p_5_3,p_5_4,p_5_5,p_5_6,p_5_7,p_5_8,p_5_9,p_5_10,p_5_11,l_5⟩ m5 o5 G hn5
 unfold Bm.l5 at G
 refine I9 2 fun B G=>?_
 refine Jf rfl G (fun _ G=>?_) fun _ G=>?_
 refine Bt 7 fun _ _ B G=>?_
 refine L1 Hh Lt S8 ?_
 obtain⟨y_8,hy_8,G⟩:=Ak G
 refine F6 (rd:=[0,1]) (ps:=[0]) (gs:=[1]) false rfl (Gg hy_8) rfl rfl (.cons (.ptr rfl) (.cons .val (.cons (.agg (.cons .val (.cons .val .nil))) (.cons .val .nil)))) ⟨_,_,_,rfl,.head _,⟨_,rfl,(by repeat' (first | exact Nk.nil | apply Nk.cons | exact Ag.val | exact Ag.sl | exact Ag.nils | exact Ag.ptr rfl | exact Ag.rowK rfl))⟩,⟨_,_,_,rfl,.tail _ (.head _),rfl,rfl⟩⟩ rfl (by intro h; cases h) rfl (by intro h; first | (cases h; done) | exact⟨_,_,⟨rfl,rfl⟩,by simp,by simp⟩) ?_
 rintro _ _ ⟨rfl,rfl⟩
 exact Cf
 refine Bt 2 fun B G=>?_
 obtain⟨y_9,hy_9,G⟩:=Ak G
 refine F6 (rd:=[1]) (ps:=[]) (gs:=[]) true rfl (Qd hy_9) rfl rfl (.cons (.row rfl (.head _) rfl) .nil) rfl rfl (by rintro - _ _ ⟨rfl,rfl⟩; exact⟨by simp [J6,Mb],fb_⟩) rfl (by intro h; first | (cases h; done) | exact⟨_,_,⟨rfl,rfl⟩,by simp,by simp⟩) ?_
 rintro _ _ ⟨rfl,rfl⟩
 exact Cf
instance aQw:Wk 41:=⟨_,@Li⟩
theorem Lj {e at' r} (G:Hc e at'=some r):Fn Tryz.prog 15 0 [.agg (Ad.dv e),.agg (Aa.dv at')] [] (fun d' b'=>d'=.tup [.row 0,vk r.2]/\b'=[.row 26 11 (Aj Aa.enc r.1)]):=by
 unfold Hc at G
 refine Dx 0 11 Tryz.func15 fun _ _ _=>?_
 refine Bt 2 fun B G=>?_
 obtain⟨y,hy,G⟩:=Ak G
 refine F6 (rd:=[]) (ps:=[]) (gs:=[]) false rfl (Li hy) rfl rfl (.cons (.agg (.cons .val (.cons .val (.cons .val (.cons .val (.cons .val (.cons .val (.cons .val (.cons .val (.cons .val (.cons .val (.cons .val .nil)))))))))))) (.cons (.agg (.cons .val (.cons .val (.cons .val (.cons .sl (.cons .val (.cons .sl (.cons .sl (.cons .sl (.cons .val .nil)))))))))) .nil)) rfl rfl (by intro h; cases h) rfl (by intro h; first | (cases h; done) | exact⟨_,_,⟨rfl,rfl⟩,by simp,by simp⟩) ?_
 rintro _ _ ⟨rfl,rfl⟩
 exact Cf
instance aQ8:Wk 15:=⟨_,@Lj⟩
theorem Y5 {e at' r} (G:Io e at'=some r):Fn Tryz.prog 16 0 [.agg (Ad.dv e),.agg (Aa.dv at')] [] (fun d' b'=>d'=.tup [.sl 11 (Aj Aa.enc r.1),vk r.2]/\b'=[]):=by
 unfold Io at G
 refine Dx 0 11 Tryz.func16 fun _ _ _=>?_
 exact Cf
instance aPt:Wk 16:=⟨_,@Y5⟩
theorem nW {f r} (G:P4 f=some r):Fn Tryz.prog 42 0 [.agg (Aa.dv f)] [] (fun d' b'=>d'=.agg (Dp.dv r)/\b'=[]):=by
 unfold P4 at G
 refine Dx 0 16 Tryz.func42 fun _ _ _=>?_
 refine Bt 2 fun B G=>?_
 refine L1 aJi aLu z87 ?_
 exact Cf
instance aRh:Wk 42:=⟨_,@nW⟩
theorem Py {x' c0 r} (G:Hd x' c0=some r):Fn Tryz.prog 44 0 [.agg (Aa.dv x'),.elt (([.mp (U5 Vy vB c0)]:List C).drop 0)] [] (fun d' b'=>d'=.val (.bool r)/\b'=[]):=by
 unfold Hd at G
 refine Dx 0 8 Tryz.func44 fun _ _ _=>?_
 refine Bt 1 fun B G=>?_
 refine Au <| Bb (Df _ _ []) (by kernel_rfl) [0,0,2,7,15] 16 56 B rfl rfl (by kernel_rfl) ?_
 refine Et rfl rfl (En aJ1 (c:=.mp (U5 Vy vB c0)) rfl) rfl rfl ?_
 refine Bt 1 fun y _ B G=>?_
 refine Mn (rd:=[]) rfl rfl (aAw (f:=Vy) (g:=vB) (l:=c0) (key:=y) (z:=false) uQ xF zv4 rfl rfl) rfl rfl (fun _=>⟨_,rfl⟩) ?_
 rintro _ rfl
 exact Cf
instance aRn:Wk 44:=⟨_,@Py⟩
theorem Jy {s:(List Aa)} {f:Aa->Option (Bool)} {f_c0:(List (Dp×Bool))} (hf_f:∀ (x0:Aa) (y:Bool),f x0=some y->Fn Tryz.prog 44 0 [.agg (Aa.dv x0),.elt (([.mp (U5 Vy vB f_c0)]:List C).drop 0)] [] (fun d' b'=>d'=.val (.bool y)/\b'=[])) {r:Int} (G:Bc s f=some r):Fn Tryz.prog 71 0 [.sl 11 (Aj Aa.enc s),.clo 44 0 [.elt (([.mp (U5 Vy vB f_c0)]:List C).drop 0)]] [] (fun d' b'=>d'=vk r/\b'=[]):=by
 unfold Bc at G
 refine Dx 0 19 Tryz.func71 fun _ _ _=>?_
 refine Bt 4 fun B G=>?_
 refine G7 (fun (x8_1:Int)=>mk [(0,.sl 11 (Aj Aa.enc s)),(1,.clo 44 0 [.elt (([.mp (U5 Vy vB f_c0)]:List C).drop 0)]),(7,.val (.int .i64 (s.length:Int))),(8,vk x8_1)] [] 0) G (B9 []) ?_
 rintro x8_1 m1 o1 G hn1
 unfold Bc.l1 at G
 refine D4 (.r 2 (.e 7)) fun _ e _ B G=>?_
 obtain⟨y,hy,G⟩:=Ak G
 refine Cm (rd:=[]) (ps:=[]) (gs:=[]) false rfl rfl (hf_f e _ hy) rfl rfl (.cons (.agg (.cons .val (.cons .val (.cons .val (.cons .val (.cons .val (.cons .val (.cons .val (.cons .val (.cons .val (.cons .val (.cons .val .nil)))))))))))) (.cons .elt .nil)) rfl rfl (by intro h; cases h) rfl rfl rfl rfl ?_
 exact Cf
theorem Im {s:List Aa} {del:Aa->Option (Bool)} {del_c0:(List (Dp×Bool))} (hf_del:∀ (x0:Aa) (y:Bool),del x0=some y->Fn Tryz.prog 44 0 [.agg (Aa.dv x0),.elt (([.mp (U5 Vy vB del_c0)]:List C).drop 0)] [] (fun d' b'=>d'=.val (.bool y)/\b'=[])) {r:(List Aa)} (G:A9 s del=some r):Fn Tryz.prog 43 0 [.row 0,.clo 44 0 [.elt (([.mp (U5 Vy vB del_c0)]:List C).drop 0)]] [.row 26 11 (Aj Aa.enc s)] (fun d' b'=>d'=.row 0/\b'=[.row 26 11 (Aj Aa.enc r)]):=by
 unfold A9 at G
 refine Dx 1 42 Tryz.func43 fun _ _ _=>?_
 refine Bt 2 fun B G=>?_
 obtain⟨y,hy,G⟩:=Ak G
 refine P5 [0] [] [] true (@Jy s del del_c0 hf_del _ hy) ?_
 refine Md (.l 2 (.e 4)) fun _ B G=>?_
 refine G7 (fun ((i_1,j_1,s_1):Int×Int×List Aa)=>mk [(0,.row 0),(1,.clo 44 0 [.elt (([.mp (U5 Vy vB del_c0)]:List C).drop 0)]),(5,vk i_1),(6,vk j_1)] [(0,.row 26 11 (Aj Aa.enc s_1))] 1) G (B9 [(0,0)]) ?_
 rintro⟨i_1,j_1,s_1⟩ m1 o1 G hn1
 unfold A9.l1 at G
 refine I9 2 fun B G=>?_
 refine Jf rfl G (fun _ G=>?_) fun _ G=>?_
 refine Bt 1 fun B G=>?_
 refine Ba (ι:=Int×List Aa) (fun ((i_2,s_2):Int×List Aa)=>mk [(0,.row 0),(1,.clo 44 0 [.elt (([.mp (U5 Vy vB del_c0)]:List C).drop 0)]),(5,vk i_2),(6,vk j_1)] [(0,.row 26 11 (Aj Aa.enc s_2))] 1) (fun ((i_2,s_2):Int×List Aa)=>A9.j2 j_1 i_2 s_2=some o1) ?_ ?_
 refine Bt 5 fun e _ B G=>?_
 obtain⟨y_2,hy_2,G⟩:=Ak G
 refine Cm (rd:=[]) (ps:=[]) (gs:=[]) false rfl rfl (hf_del e _ hy_2) rfl rfl (.cons (.agg (.cons .val (.cons .val (.cons .val (.cons .val (.cons .val (.cons .val (.cons .val (.cons .val (.cons .val (.cons .val (.cons .val .nil)))))))))))) (.cons .elt .nil)) rfl rfl (by intro h; cases h) rfl rfl rfl rfl ?_
 refine Md (.r 0 (.e 2)) fun _ _ he_2 B G=>?_
 refine Vn I8 he_2 (x':=e) ?_
 exact Cf
 rintro⟨i_2,s_2⟩ G
 unfold A9.j2 at G
 exact Hf
 refine Bt 3 fun _ _ B G=>?_
 obtain⟨l_2,hl_2,G⟩:=Ak G
 refine Mn (rd:=[0]) rfl rfl (pF (f:=Aa.enc) (a:=(i_1:Int).toNat) (m:=(((s_1.length:Int):Int).toNat - (i_1:Int).toNat)) (z0:=(Aa.mk 0 (⟨#[]⟩:ByteArray) 0 0 0 0 (⟨#[]⟩:ByteArray) (Aq.mk 0 0) 0 (⟨#[]⟩:ByteArray))) Pz Aa.enc_len (aDg (ck:=[none,none,none,none,none,none,none,none,none,none,none]) eH (.cons .int (.cons .str (.cons .int (.cons .int (.cons .int (.cons .int (.cons .str (.cons .int (.cons .int (.cons .int (.cons .str .nil)))))))))))) (.head _) hl_2) rfl rfl (fun _=>⟨_,rfl⟩) ?_
 rintro _ rfl
 refine Bt 2 fun _ hl_3 B G=>?_
 refine Ew (σ':=mk [(4,.part 0 (((0:Int).toNat) * 11) ((i_1:Int).toNat - (0:Int).toNat))] [(0,.row 26 11 (Aj Aa.enc l_2))] 1) (B9 [(0,0)]) ?_
 refine Ew (σ':=mk [(4,.row 0)] [(0,.row 26 11 (Aj Aa.enc (l_2.take ((i_1:Int).toNat - (0:Int).toNat))))] 1) (aI8 4 0 Aa.enc_len (aK7 (Nat.le_add_left _ _) (Re hl_3)) rfl rfl rfl rfl) ?_
 exact Cf
theorem L8 {e at' l r} (G:Ee e at' l=some r):Fn Tryz.prog 17 0 [.agg (Ad.dv e),.agg (Aa.dv at'),.sl 11 (Aj Aa.enc l)] [] (fun d' b'=>d'=.tup [.row 0,vk r.2]/\b'=[.row 26 11 (Aj Aa.enc r.1)]):=by
 unfold Ee at G
 refine Dx 0 36 Tryz.func17 fun _ _ _=>?_
 refine Bt 2 fun B G=>?_
 obtain⟨y,hy,G⟩:=Ak G
 refine F6 (rd:=[]) (ps:=[]) (gs:=[]) false rfl (Lj hy) rfl rfl (.cons (.agg (.cons .val (.cons .val (.cons .val (.cons .sl (.cons .val (.cons .sl (.cons .sl (.cons .sl (.cons .val .nil)))))))))) (.cons (.agg (.cons .val (.cons .val (.cons .val (.cons .val (.cons .val (.cons .val (.cons .val (.cons .val (.cons .val (.cons .val (.cons .val .nil)))))))))))) .nil)) rfl rfl (by intro h; cases h) rfl (by intro h; first | (cases h; done) | exact⟨_,_,⟨rfl,rfl⟩,by simp,by simp⟩) ?_
 rintro _ _ ⟨rfl,rfl⟩
 refine Md (.l 2 (.e 2)) fun _ B G=>?_
 refine Mn (rd:=[]) rfl rfl .makeMap rfl rfl (fun _=>⟨_,rfl⟩) ?_
 rintro _ rfl
 refine Bt 3 fun B G=>?_
 refine G7 (fun ((x25_1,m_1):Int×(List (Dp×Bool)))=>mk [(8,.row 0),(10,.ptr 1 0),(23,.sl 11 (Aj Aa.enc l)),(24,.val (.int .i64 (l.length:Int))),(25,vk x25_1)] [(0,.row 26 11 (Aj Aa.enc y.1)),(1,.box [.row 2] 85),(2,.map (U5 Vy vB m_1))] 3) G ((by exact O5.lists [(0,48),(1,120),(2,112)] rfl rfl ⟨⟨_,rfl,.row rfl⟩,⟨_,rfl,.ptr rfl⟩,⟨_,rfl,.sl _ _⟩,⟨_,rfl,.val _⟩,⟨_,rfl,.val _⟩,trivial⟩ ⟨.inl ⟨48,_,rfl,rfl,⟨rfl,rfl,rfl⟩⟩,.inl ⟨120,_,rfl,rfl,⟨rfl,.cons (.row rfl) .nil⟩⟩,.inl ⟨112,_,rfl,rfl,rfl⟩,trivial⟩)) ?_
 rintro⟨x25_1,m_1⟩ m1 o1 G hn1
 unfold Ee.l1 at G
 refine I9 2 fun B G=>?_
 refine Jf rfl G (fun _ G=>?_) fun _ G=>?_
 refine Bt 6 fun _ _ B G=>?_
 refine Bb (Df _ _ []) (by kernel_rfl) [0,0,2,7] 43 75 B rfl rfl (by kernel_rfl) ?_
 refine Bt 1 fun y_2 _ B G=>?_
 refine Mn (rd:=[2]) rfl rfl (wY (f:=Vy) (g:=vB) (l:=m_1) (key:=y_2) (v:=true) uQ xF rfl rfl (.head _)) rfl rfl (fun _=>⟨_,rfl⟩) ?_
 rintro _ rfl
 refine Bt 1 fun B G=>?_
 obtain rfl:=oi_ G
 exact⟨((W (x25_1 + 1),Ma m_1 y_2 true),m1),aOx _,hn1,(by exact O5.lists [(0,0),(1,1),(2,2)] rfl rfl ⟨⟨_,rfl,.row rfl⟩,⟨_,rfl,.ptr rfl⟩,⟨_,rfl,.sl _ _⟩,⟨_,rfl,.val _⟩,⟨_,rfl,.val _⟩,trivial⟩ ⟨.inl ⟨0,_,rfl,rfl,⟨rfl,rfl,rfl⟩⟩,.inl ⟨1,_,rfl,rfl,⟨rfl,.cons (.row rfl) .nil⟩⟩,.inl ⟨2,_,rfl,rfl,rfl⟩,trivial⟩)⟩
 refine Bt 1 fun B G=>?_
 refine Au <| Ew (σ':=mk [(8,.row 0),(10,.ptr 1 0)] [(0,.row 26 11 (Aj Aa.enc y.1)),(1,.box [.mp (U5 Vy vB m_1)] 85)] 2) ((by exact O5.lists [(0,0),(1,1)] rfl rfl ⟨⟨_,rfl,.row rfl⟩,⟨_,rfl,.ptr rfl⟩,trivial⟩ ⟨.inl ⟨0,_,rfl,rfl,⟨rfl,rfl,rfl⟩⟩,.inl ⟨1,_,rfl,rfl,⟨rfl,.cons (.frzM rfl (Fr rfl)) .nil⟩⟩,trivial⟩)) ?_
 refine Ew (σ':=mk [(8,.row 0),(10,.elt (([.mp (U5 Vy vB m_1)]:List C).drop 0))] [(0,.row 26 11 (Aj Aa.enc y.1))] 1) ((by exact O5.lists [(0,0)] rfl rfl ⟨⟨_,rfl,.row rfl⟩,⟨_,rfl,.frzb (ks:=[none]) rfl (.cons .mp .nil) (Fr rfl)⟩,trivial⟩ ⟨.inl ⟨0,_,rfl,rfl,⟨rfl,rfl,rfl⟩⟩,trivial⟩)) ?_
 refine Bt 1 fun B G=>?_
 obtain⟨y_3,hy_3,G⟩:=Ak G
 refine F6 (rd:=[0]) (ps:=[]) (gs:=[0]) false rfl (@Im y.1 (fun x0=>Hd x0 m_1) m_1 (fun x0 y h=>@Py x0 m_1 y h) _ hy_3) rfl rfl (.cons (.rowK rfl) (.cons (.clo (.cons .elt .nil)) .nil)) ⟨_,_,_,rfl,.head _,rfl,rfl⟩ rfl (by intro h; cases h) rfl (by intro h; first | (cases h; done) | exact⟨_,_,⟨rfl,rfl⟩,by simp,by simp⟩) ?_
 rintro _ _ ⟨rfl,rfl⟩
 exact Cf
instance aR8:Wk 17:=⟨_,@L8⟩
theorem eD {l f r} (G:C9 l f=some r):Fn Tryz.prog 45 0 [.sl 11 (Aj Aa.enc l),.agg (Aa.dv f)] [] (fun d' b'=>d'=.val (.bool r)/\b'=[]):=by
 unfold C9 at G
 refine Dx 0 54 Tryz.func45 fun _ _ _=>?_
 refine Bt 4 fun B G=>?_
 refine G7 (fun (x9_1:Int)=>mk [(3,.ptr 0 0),(7,.sl 11 (Aj Aa.enc l)),(8,.val (.int .i64 (l.length:Int))),(9,vk x9_1)] [(0,.box (Aa.dv f) 26)] 1) G (B9 [(0,0)]) ?_
 rintro x9_1 m1 o1 G hn1
 unfold C9.l1 at G
 refine D4 (.r 2 (.e 6)) fun _ e _ B G=>?_
 refine Ba (ι:=Bool) (fun (x52_2:Bool)=>mk [(3,.ptr 0 0),(7,.sl 11 (Aj Aa.enc l)),(8,.val (.int .i64 (l.length:Int))),(9,vk x9_1),(52,.val (.bool x52_2))] [(0,.box (Aa.dv f) 26)] 1) (fun (x52_2:Bool)=>C9.j2 x9_1 x52_2=some o1) ?_ ?_
 refine Md (.r 1 (.r 0 (.r 0 (.e 0)))) fun _ _ h8 B G=>?_
 refine Et (Nn rfl rfl h8) rfl (Lg e.Use f.Use) rfl rfl ?_
 exact Cf
 rintro x52_2 G
 unfold C9.j2 at G
 exact Hf
instance aRl:Wk 45:=⟨_,@eD⟩
theorem Z9 {e at' l r} (G:Dd e at' l=some r):Fn Tryz.prog 18 0 [.agg (Ad.dv e),.agg (Aa.dv at'),.sl 11 (Aj Aa.enc l)] [] (fun d' b'=>d'=.tup [.sl 11 (Aj Aa.enc r.1),vk r.2]/\b'=[]):=by
 unfold Dd at G
 refine Dx 0 38 Tryz.func18 fun _ _ _=>?_
 refine Md (.l 5 (.e 5)) fun y _ _ B G=>?_
 refine G7 (fun ((x24_1,out_1):Int×List Aa)=>mk [(2,.sl 11 (Aj Aa.enc l)),(10,.row 0),(22,.sl 11 (Aj Aa.enc y.1)),(23,.val (.int .i64 (y.1.length:Int))),(24,vk x24_1)] [(0,.row 26 11 (Aj Aa.enc out_1))] 1) G (B9 []) ?_
 rintro⟨x24_1,out_1⟩ m1 o1 G hn1
 unfold Dd.l1 at G
 refine D4 (.r 2 (.e 1)) fun _ B G=>?_
 refine Ba (ι:=List Aa) (fun (out_2:List Aa)=>mk [(2,.sl 11 (Aj Aa.enc l)),(10,.row 0),(22,.sl 11 (Aj Aa.enc y.1)),(23,.val (.int .i64 (y.1.length:Int))),(24,vk x24_1)] [(0,.row 26 11 (Aj Aa.enc out_2))] 1) (fun (out_2:List Aa)=>Dd.j2 x24_1 out_2=some o1) ?_ ?_
 refine Md (.r 6 (.e 1)) fun e_2 _ _ _ _ B G=>?_
 refine Hj Pz eH I8 ([e_2]:List Aa) Aa.enc ?_
 exact Cf
 rintro out_2 G
 unfold Dd.j2 at G
 exact Hf
instance aQl:Wk 18:=⟨_,@Z9⟩
theorem Q7 {x' c0 c1 r} (G:Hv x' c0 c1=some r):Fn Tryz.prog 46 0 [.agg (Aa.dv x'),.elt (((Aa.ec c0):List C).drop 0),.elt (((Ad.ec c1):List C).drop 0)] [] (fun d' b'=>d'=.val (.bool r)/\b'=[]):=by
 unfold Hv at G
 refine Dx 0 15 Tryz.func46 fun _ _ _=>?_
 refine Bt 2 fun B G=>?_
 refine Et rfl rfl (Se nG yW (by decide) (aCt rfl)) rfl rfl ?_
 refine Et rfl rfl (En yW (c:=.int .i64 c0.Day) rfl) rfl rfl ?_
 refine Md (.r 0 (.e 0)) fun h2 B G=>?_
 refine Et (Nn rfl rfl h2) rfl (Ef aKs (cs2:=(Ad.ec c1)) rfl (aCt rfl)) rfl rfl ?_
 exact Cf
instance aRj:Wk 46:=⟨_,@Q7⟩
theorem H8 {s:(List Aa)} {f:Aa->Option (Bool)} {f_c0:Aa} {f_c1:Ad} (hf_f:∀ (x0:Aa) (y:Bool),f x0=some y->Fn Tryz.prog 46 0 [.agg (Aa.dv x0),.elt (((Aa.ec f_c0):List C).drop 0),.elt (((Ad.ec f_c1):List C).drop 0)] [] (fun d' b'=>d'=.val (.bool y)/\b'=[])) {r:Int} (G:Bc s f=some r):Fn Tryz.prog 71 0 [.sl 11 (Aj Aa.enc s),.clo 46 0 [.elt (((Aa.ec f_c0):List C).drop 0),.elt (((Ad.ec f_c1):List C).drop 0)]] [] (fun d' b'=>d'=vk r/\b'=[]):=by
 unfold Bc at G
 refine Dx 0 19 Tryz.func71 fun _ _ _=>?_
 refine Bt 4 fun B G=>?_
 refine G7 (fun (x8_1:Int)=>mk [(0,.sl 11 (Aj Aa.enc s)),(1,.clo 46 0 [.elt (((Aa.ec f_c0):List C).drop 0),.elt (((Ad.ec f_c1):List C).drop 0)]),(7,.val (.int .i64 (s.length:Int))),(8,vk x8_1)] [] 0) G (B9 []) ?_
 rintro x8_1 m1 o1 G hn1
 unfold Bc.l1 at G
 refine D4 (.r 2 (.e 7)) fun _ e _ B G=>?_
 obtain⟨y,hy,G⟩:=Ak G
 refine Cm (rd:=[]) (ps:=[]) (gs:=[]) false rfl rfl (hf_f e _ hy) rfl rfl (.cons (.agg (.cons .val (.cons .val (.cons .val (.cons .val (.cons .val (.cons .val (.cons .val (.cons .val (.cons .val (.cons .val (.cons .val .nil)))))))))))) (.cons .elt (.cons .elt .nil))) rfl rfl (by intro h; cases h) rfl rfl rfl rfl ?_
 exact Cf
theorem Hi {s:(List Aa)} {f:Aa->Option (Bool)} {f_c0:Aa} {f_c1:Ad} (hf_f:∀ (x0:Aa) (y:Bool),f x0=some y->Fn Tryz.prog 46 0 [.agg (Aa.dv x0),.elt (((Aa.ec f_c0):List C).drop 0),.elt (((Ad.ec f_c1):List C).drop 0)] [] (fun d' b'=>d'=.val (.bool y)/\b'=[])) {r:Bool} (G:Em s f=some r):Fn Tryz.prog 47 0 [.sl 11 (Aj Aa.enc s),.clo 46 0 [.elt (((Aa.ec f_c0):List C).drop 0),.elt (((Ad.ec f_c1):List C).drop 0)]] [] (fun d' b'=>d'=.val (.bool r)/\b'=[]):=by
 unfold Em at G
 refine Dx 0 9 Tryz.func47 fun _ _ _=>?_
 refine Bt 2 fun B G=>?_
 obtain⟨y,hy,G⟩:=Ak G
 refine Ni (@H8 s f f_c0 f_c1 hf_f _ hy) ?_
 exact Cf
theorem cJ {e at' l r} (G:Lf e at' l=some r):Fn Tryz.prog 19 0 [.agg (Ad.dv e),.agg (Aa.dv at'),.sl 11 (Aj Aa.enc l)] [] (fun d' b'=>d'=.tup [.val (.bool r.1),vk r.2]/\b'=[]):=by
 unfold Lf at G
 refine Dx 0 31 Tryz.func19 fun _ _ _=>?_
 refine Bt 2 fun B G=>?_
 obtain⟨y,hy,G⟩:=Ak G
 refine F6 (rd:=[]) (ps:=[]) (gs:=[]) false rfl (L8 hy) rfl rfl (.cons (.agg (.cons .val (.cons .val (.cons .val (.cons .sl (.cons .val (.cons .sl (.cons .sl (.cons .sl (.cons .val .nil)))))))))) (.cons (.agg (.cons .val (.cons .val (.cons .val (.cons .val (.cons .val (.cons .val (.cons .val (.cons .val (.cons .val (.cons .val (.cons .val .nil)))))))))))) (.cons .sl .nil))) rfl rfl (by intro h; cases h) rfl (by intro h; first | (cases h; done) | exact⟨_,_,⟨rfl,rfl⟩,by simp,by simp⟩) ?_
 rintro _ _ ⟨rfl,rfl⟩
 refine Md (.l 2 (.e 1)) fun _ B G=>?_
 refine Au <| Ew (σ':=mk [(2,.sl 11 (Aj Aa.enc l)),(3,.elt (((Ad.ec e):List C).drop 0)),(4,.elt (((Aa.ec at'):List C).drop 0)),(8,.row 0)] [(0,.row 26 11 (Aj Aa.enc y.1))] 1) ((by exact O5.lists [(0,56)] rfl rfl ⟨⟨_,rfl,.sl _ _⟩,⟨_,rfl,.frzb (ks:=[none,none,none,some 1,none,some 4,some 1,some 1,none]) rfl (.cons .str (.cons .int (.cons .int (.cons .sl (.cons .bool (.cons .sl (.cons .sl (.cons .sl (.cons .bool .nil))))))))) (Fr rfl)⟩,⟨_,rfl,.frzb (ks:=[none,none,none,none,none,none,none,none,none,none,none]) rfl (.cons .int (.cons .str (.cons .int (.cons .int (.cons .int (.cons .int (.cons .str (.cons .int (.cons .int (.cons .int (.cons .str .nil))))))))))) (Fr rfl)⟩,⟨_,rfl,.row rfl⟩,trivial⟩ ⟨.inl ⟨56,_,rfl,rfl,⟨rfl,rfl,rfl⟩⟩,trivial⟩)) ?_
 refine Md (.r 2 (.e 0)) fun _ B G=>?_
 obtain⟨y_2,hy_2,G⟩:=Ak G
 refine Ni (@Hi l (fun x0=>Hv x0 at' e) at' e (fun x0 y h=>@Q7 x0 at' e y h) _ hy_2) ?_
 exact Cf
instance aPo:Wk 19:=⟨_,@cJ⟩
end Go.Proofs.YtbpchmikjiinpaaGreat
