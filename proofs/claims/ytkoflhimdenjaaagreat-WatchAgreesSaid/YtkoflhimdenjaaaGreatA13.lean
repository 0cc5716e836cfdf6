import Derived.Test.YtkoflhimdenjaaaGreatT1
import Derived.Test.YtkoflhimdenjaaaGreatA1
import Derived.Test.YtkoflhimdenjaaaGreatA3
import Derived.Test.YtkoflhimdenjaaaGreatA7
import Derived.Test.YtkoflhimdenjaaaGreatA8
import Derived.Test.YtkoflhimdenjaaaGreatA9
import Derived.Test.YtkoflhimdenjaaaGreatA10
import Derived.Test.YtkoflhimdenjaaaGreatA12
set_option linter.unusedVariables false
set_option linter.unusedSimpArgs false
set_option maxRecDepth 100000
set_option maxHeartbeats 1600000
namespace Go.Proofs.YtkoflhimdenjaaaGreat
open Go.RowKit
theorem Vc (l:(List Aa)) (r:(List Aa)×Int) (G:D9 l=some r):Fn Tryz.prog 68 0 [.sl 11 (As Aa.enc l)] [] (fun d' b'=>d'=.tup [.row 0,vk r.2]/\b'=[.row 48 11 (As Aa.enc r.1)]):=by
 unfold D9 at G
 refine Fn.of Tryz.func68 rfl rfl rfl fun w0 I ρ0=>?_
 show B4 _ ⟨w0,I,ρ0,0,0,30⟩ _ _ _
 refine Bk 0 16 Ay fun B=>?_
 refine Ak <| Bk 16 40 B fun B=>?_
 refine Aq <| Jp (fun (x10_1:Int)=>mk [(0,.sl 11 (As Aa.enc l)),(8,.sl 11 (As Aa.enc l)),(9,.val (.int .i64 (l.length:Int))),(10,vk x10_1)] [] 0) G (Av []) ?_
 rintro x10_1 m1 o1 G hn1
 replace G:D9.l1 l x10_1=some o1:=G
 show B4 _ _ _ _ (mk _ _ _)
 unfold D9.l1 at G
 refine Bk 0 8 Ay fun B=>?_
 refine Ak <| Cr rfl G (fun h4 G=>?_) fun h4 G=>?_
 refine C9 ?_
 refine Ak <| Aq <| Ca 8 40 B ?_
 obtain⟨e,he,G⟩:=Ab G
 refine Aw ?_
 refine Wv he ?_
 refine Bi fun B=>?_
 refine Ca 40 64 B ?_
 refine Aw ?_
 obtain⟨y,hy,G⟩:=Ab G
 refine Dl (Sb _ _ hy) ?_
 refine Bi fun B=>?_
 refine Bk 64 80 B fun B=>?_
 refine Cr rfl G (fun h8 G=>?_) fun h8 G=>?_
 refine Bk 80 104 B fun B=>?_
 refine Fj ?_
 replace G:=Ce G hn1
 exact Ts
 refine C9 ?_
 refine Al (Ch _ _ []) 80 96 B rfl rfl ?_
 refine Bi fun B=>?_
 obtain rfl:=oi_ G
 exact⟨(W (x10_1 + 1),m1),aBj _,hn1,Av []⟩
 refine Jl ?_
 replace G:=Ce G hn1
 refine Ca 8 32 B ?_
 refine Aw ?_
 obtain⟨y_2,hy_2,G⟩:=Ab G
 refine H0 (rd:=[]) (ps:=[]) (gs:=[]) false rfl (Mk _ _ hy_2) rfl rfl (.cons .sl .nil) rfl rfl (by intro h; cases h) rfl (by intro h; first | (cases h; done) | exact⟨_,_,⟨rfl,rfl⟩,by simp,by simp⟩) ?_
 rintro _ _ ⟨rfl,rfl⟩
 refine Bi fun B=>?_
 refine Ca 32 48 B ?_
 refine Aw ?_
 obtain⟨y_3,hy_3,G⟩:=Ab G
 refine Ki [16] [16] [] false (Kc y_2 (fun x0 x1=>Hn x0 x1) (fun x0 x1 y h=>Yg x0 x1 y h) _ hy_3) ?_
 refine G9 fun B=>?_
 refine Ca 48 72 B ?_
 refine Aw ?_
 obtain⟨y_4,hy_4,G⟩:=Ab G
 refine H0 (rd:=[16]) (ps:=[]) (gs:=[16]) false rfl (L5 _ _ hy_4) rfl rfl (.cons (.rowK rfl) .nil) ⟨_,_,_,rfl,.head _,rfl,rfl⟩ rfl (by intro h; cases h) rfl (by intro h; first | (cases h; done) | exact⟨_,_,⟨rfl,rfl⟩,by simp,by simp⟩) ?_
 rintro _ _ ⟨rfl,rfl⟩
 refine Bi fun B=>?_
 refine Ak <| Bk 72 96 B fun B=>?_
 refine Cr rfl G (fun h15 G=>?_) fun h15 G=>?_
 refine Ca 96 112 B ?_
 exact Df
 refine C9 ?_
 refine Bk 96 120 B fun B=>?_
 refine Fj ?_
 obtain rfl:=oi_ G
 exact Ip [(0,56)] ⟨rfl,rfl⟩
theorem Oi (at':Aa) (e:Af) (r:(List Aa)×Int) (G:Be at' e=some r):Fn Tryz.prog 39 0 [.agg (Aa.dv at'),.agg (Af.dv e)] [] (fun d' b'=>d'=.tup [.row 0,vk r.2]/\b'=[.row 48 11 (As Aa.enc r.1)]):=by
 unfold Be at G
 refine Fn.of Tryz.func39 rfl rfl rfl fun w0 I ρ0=>?_
 show B4 _ ⟨w0,I,ρ0,0,0,95⟩ _ _ _
 refine Bk 0 32 Ay fun B=>?_
 refine Ca 32 88 B ?_
 refine Aw ?_
 obtain⟨y,hy,G⟩:=Ab G
 refine H0 (rd:=[]) (ps:=[]) (gs:=[]) false rfl (Zv _ _ hy) rfl rfl (.cons (.agg (.cons .val (.cons .val (.cons .val (.cons .val (.cons .val (.cons .val (.cons .val (.cons .val (.cons .val (.cons .val (.cons .val .nil)))))))))))) .nil) rfl rfl (by intro h; cases h) rfl (by intro h; first | (cases h; done) | exact⟨_,_,⟨rfl,rfl⟩,by simp,by simp⟩) ?_
 rintro _ _ ⟨rfl,rfl⟩
 refine Bi fun B=>?_
 refine Bs (ι:=Int) (fun (errno_1:Int)=>mk [(3,.ptr 0 0),(6,.ptr 1 0),(7,vk errno_1)] [(0,.box (Af.dv e) 43),(1,.box [vk y.1.at_.Source,ws y.1.at_.Host,vk y.1.at_.Machine,vk y.1.at_.Day,vk y.1.at_.Confidence,vk y.1.at_.Kind,ws y.1.at_.Subject,vk y.1.at_.Use.Alg,vk y.1.at_.Use.Bits,vk y.1.at_.Number,ws y.1.at_.Text,.row 2] 126),(2,.row 48 11 (As Aa.enc y.1.l))] 3) (fun (errno_1:Int)=>Be.j1 e y errno_1=some r) ?_ ?_
 refine Bk 88 104 B fun B=>?_
 refine Cr rfl G (fun h4 G=>?_) fun h4 G=>?_
 refine Al (Ch _ _ []) 104 128 B rfl rfl ?_
 refine Aw ?_
 obtain⟨y_2,hy_2,G⟩:=Ab G
 refine Dl (Xo _ _ hy_2) ?_
 refine Bi fun B=>?_
 exact⟨y_2,G,Av [(0,8),(1,40),(2,41)]⟩
 refine C9 ?_
 exact⟨y.2,G,Av [(0,8),(1,40),(2,41)]⟩
 rintro errno_1 G
 replace G:Be.j1 e y errno_1=some r:=G
 show B4 _ _ _ _ (mk _ _ _)
 unfold Be.j1 at G
 refine Ak <| Bk 3 19 Ay fun B=>?_
 refine Cr rfl G (fun h7 G=>?_) fun h7 G=>?_
 refine Ca 19 43 B ?_
 exact Df
 refine C9 ?_
 refine Ca 19 59 B ?_
 refine Aw ?_
 refine Mv Kv Qd X1 ?_
 refine Aw ?_
 obtain⟨y_3,hy_3,G⟩:=Ab G
 refine H0 (rd:=[1,2]) (ps:=[1]) (gs:=[2]) false rfl (Gx _ _ _ _ _ hy_3) rfl rfl (.cons (.ptr rfl) (.cons .val (.cons (.agg (.cons .val (.cons .val .nil))) (.cons .val .nil)))) ⟨_,_,_,rfl,.head _,⟨_,rfl,(by repeat' (first | exact Pu.nil | apply Pu.cons | exact Ag.val | exact Ag.sl | exact Ag.nils | exact Ag.ptr rfl | exact Ag.rowK rfl))⟩,⟨_,_,_,rfl,.tail _ (.head _),rfl,rfl⟩⟩ rfl (by intro h; cases h) rfl (by intro h; first | (cases h; done) | exact⟨_,_,⟨rfl,rfl⟩,by simp,by simp⟩) ?_
 rintro _ _ ⟨rfl,rfl⟩
 refine G9 fun B=>?_
 refine Ca 59 99 B ?_
 refine Aw ?_
 refine Mv Kv Qd X1 ?_
 refine Aw ?_
 obtain⟨y_4,hy_4,G⟩:=Ab G
 refine H0 (rd:=[1,51]) (ps:=[1]) (gs:=[51]) false rfl (Gx _ _ _ _ _ hy_4) rfl rfl (.cons (.ptr rfl) (.cons .val (.cons (.agg (.cons .val (.cons .val .nil))) (.cons .val .nil)))) ⟨_,_,_,rfl,.head _,⟨_,rfl,(by repeat' (first | exact Pu.nil | apply Pu.cons | exact Ag.val | exact Ag.sl | exact Ag.nils | exact Ag.ptr rfl | exact Ag.rowK rfl))⟩,⟨_,_,_,rfl,.tail _ (.head _),rfl,rfl⟩⟩ rfl (by intro h; cases h) rfl (by intro h; first | (cases h; done) | exact⟨_,_,⟨rfl,rfl⟩,by simp,by simp⟩) ?_
 rintro _ _ ⟨rfl,rfl⟩
 refine G9 fun B=>?_
 refine Ak <| Bk 99 131 B fun B=>?_
 refine Aq <| Jp (fun ((x41_2,p_2,p_2_2,p_2_3,p_2_4,p_2_5,p_2_6,p_2_7,p_2_8,p_2_9,p_2_10,p_2_11,l_2):Int×Int×ByteArray×Int×Int×Int×Int×ByteArray×Int×Int×Int×ByteArray×List Aa)=>mk [(3,.ptr 0 0),(6,.ptr 1 0),(39,.sl 1 (As eI e.Suites)),(40,.val (.int .i64 (e.Suites.length:Int))),(41,vk x41_2)] [(0,.box (Af.dv e) 43),(1,.box [vk p_2,ws p_2_2,vk p_2_3,vk p_2_4,vk p_2_5,vk p_2_6,ws p_2_7,vk p_2_8,vk p_2_9,vk p_2_10,ws p_2_11,.row 2] 126),(2,.row 48 11 (As Aa.enc l_2))] 3) G (Av [(0,0),(1,1),(2,91)]) ?_
 rintro⟨x41_2,p_2,p_2_2,p_2_3,p_2_4,p_2_5,p_2_6,p_2_7,p_2_8,p_2_9,p_2_10,p_2_11,l_2⟩ m2 o2 G hn2
 replace G:Be.l2 e x41_2 p_2 p_2_2 p_2_3 p_2_4 p_2_5 p_2_6 p_2_7 p_2_8 p_2_9 p_2_10 p_2_11 l_2=some o2:=G
 show B4 _ _ _ _ (mk _ _ _)
 unfold Be.l2 at G
 refine Bk 3 11 Ay fun B=>?_
 refine Ak <| Cr rfl G (fun h13 G=>?_) fun h13 G=>?_
 refine C9 ?_
 refine Ak <| Aq <| Ca 11 35 B ?_
 obtain⟨e_2,he_2,G⟩:=Ab G
 refine Aw ?_
 refine Rg he_2 ?_
 refine Bi fun B=>?_
 refine Al (Ch _ _ []) 35 67 B rfl rfl ?_
 refine Aw ?_
 refine Mv Kv Qd X1 ?_
 refine Aw ?_
 obtain⟨y_5,hy_5,G⟩:=Ab G
 refine H0 (rd:=[1,2]) (ps:=[1]) (gs:=[2]) false rfl (Gx _ _ _ _ _ hy_5) rfl rfl (.cons (.ptr rfl) (.cons .val (.cons (.agg (.cons .val (.cons .val .nil))) (.cons .val .nil)))) ⟨_,_,_,rfl,.head _,⟨_,rfl,(by repeat' (first | exact Pu.nil | apply Pu.cons | exact Ag.val | exact Ag.sl | exact Ag.nils | exact Ag.ptr rfl | exact Ag.rowK rfl))⟩,⟨_,_,_,rfl,.tail _ (.head _),rfl,rfl⟩⟩ rfl (by intro h; cases h) rfl (by intro h; first | (cases h; done) | exact⟨_,_,⟨rfl,rfl⟩,by simp,by simp⟩) ?_
 rintro _ _ ⟨rfl,rfl⟩
 refine G9 fun B=>?_
 refine Al (Ch _ _ []) 67 83 B rfl rfl ?_
 refine Bi fun B=>?_
 obtain rfl:=oi_ G
 exact⟨((W (x41_2 + 1),y_5.at_.Source,y_5.at_.Host,y_5.at_.Machine,y_5.at_.Day,y_5.at_.Confidence,y_5.at_.Kind,y_5.at_.Subject,y_5.at_.Use.Alg,y_5.at_.Use.Bits,y_5.at_.Number,y_5.at_.Text,y_5.l),m2),aBj _,hn2,Av [(0,0),(1,1),(2,59)]⟩
 refine Jl ?_
 replace G:=Ce G hn2
 refine Ak <| Bk 11 43 B fun B=>?_
 refine Aq <| Jp (fun ((x53_3,p_3,p_3_2,p_3_3,p_3_4,p_3_5,p_3_6,p_3_7,p_3_8,p_3_9,p_3_10,p_3_11,l_3):Int×Int×ByteArray×Int×Int×Int×Int×ByteArray×Int×Int×Int×ByteArray×List Aa)=>mk [(3,.ptr 0 0),(6,.ptr 1 0),(51,.sl 4 (As Am.enc e.Identities)),(52,.val (.int .i64 (e.Identities.length:Int))),(53,vk x53_3)] [(0,.box (Af.dv e) 43),(1,.box [vk p_3,ws p_3_2,vk p_3_3,vk p_3_4,vk p_3_5,vk p_3_6,ws p_3_7,vk p_3_8,vk p_3_9,vk p_3_10,ws p_3_11,.row 2] 126),(2,.row 48 11 (As Aa.enc l_3))] 3) G (Av [(0,0),(1,1),(2,2)]) ?_
 rintro⟨x53_3,p_3,p_3_2,p_3_3,p_3_4,p_3_5,p_3_6,p_3_7,p_3_8,p_3_9,p_3_10,p_3_11,l_3⟩ m3 o3 G hn3
 replace G:Be.l3 e x53_3 p_3 p_3_2 p_3_3 p_3_4 p_3_5 p_3_6 p_3_7 p_3_8 p_3_9 p_3_10 p_3_11 l_3=some o3:=G
 show B4 _ _ _ _ (mk _ _ _)
 unfold Be.l3 at G
 refine Bk 3 11 Ay fun B=>?_
 refine Ak <| Cr rfl G (fun h19 G=>?_) fun h19 G=>?_
 refine C9 ?_
 refine Ak <| Aq <| Ca 11 43 B ?_
 obtain⟨e_3,he_3,G⟩:=Ab G
 refine Aw ?_
 refine Wv he_3 ?_
 refine Bi fun B=>?_
 refine Al (Ch _ _ []) 43 91 B rfl rfl ?_
 refine Aw ?_
 obtain⟨y_6,hy_6,G⟩:=Ab G
 refine H0 (rd:=[1,2]) (ps:=[1]) (gs:=[2]) false rfl (Gx _ _ _ _ _ hy_6) rfl rfl (.cons (.ptr rfl) (.cons .val (.cons (.agg (.cons .val (.cons .val .nil))) (.cons .val .nil)))) ⟨_,_,_,rfl,.head _,⟨_,rfl,(by repeat' (first | exact Pu.nil | apply Pu.cons | exact Ag.val | exact Ag.sl | exact Ag.nils | exact Ag.ptr rfl | exact Ag.rowK rfl))⟩,⟨_,_,_,rfl,.tail _ (.head _),rfl,rfl⟩⟩ rfl (by intro h; cases h) rfl (by intro h; first | (cases h; done) | exact⟨_,_,⟨rfl,rfl⟩,by simp,by simp⟩) ?_
 rintro _ _ ⟨rfl,rfl⟩
 refine G9 fun B=>?_
 refine Al (Ch _ _ []) 91 107 B rfl rfl ?_
 refine Bi fun B=>?_
 obtain rfl:=oi_ G
 exact⟨((W (x53_3 + 1),y_6.at_.Source,y_6.at_.Host,y_6.at_.Machine,y_6.at_.Day,y_6.at_.Confidence,y_6.at_.Kind,y_6.at_.Subject,y_6.at_.Use.Alg,y_6.at_.Use.Bits,y_6.at_.Number,y_6.at_.Text,y_6.l),m3),aBj _,hn3,Av [(0,0),(1,1),(2,83)]⟩
 refine Jl ?_
 replace G:=Ce G hn3
 refine Ak <| Bk 11 43 B fun B=>?_
 refine Aq <| Jp (fun ((x67_4,p_4,p_4_2,p_4_3,p_4_4,p_4_5,p_4_6,p_4_7,p_4_8,p_4_9,p_4_10,p_4_11,l_4):Int×Int×ByteArray×Int×Int×Int×Int×ByteArray×Int×Int×Int×ByteArray×List Aa)=>mk [(3,.ptr 0 0),(6,.ptr 1 0),(65,.sl 1 (As eI e.Anchors)),(66,.val (.int .i64 (e.Anchors.length:Int))),(67,vk x67_4)] [(0,.box (Af.dv e) 43),(1,.box [vk p_4,ws p_4_2,vk p_4_3,vk p_4_4,vk p_4_5,vk p_4_6,ws p_4_7,vk p_4_8,vk p_4_9,vk p_4_10,ws p_4_11,.row 2] 126),(2,.row 48 11 (As Aa.enc l_4))] 3) G (Av [(0,0),(1,1),(2,2)]) ?_
 rintro⟨x67_4,p_4,p_4_2,p_4_3,p_4_4,p_4_5,p_4_6,p_4_7,p_4_8,p_4_9,p_4_10,p_4_11,l_4⟩ m4 o4 G hn4
 replace G:Be.l4 e x67_4 p_4 p_4_2 p_4_3 p_4_4 p_4_5 p_4_6 p_4_7 p_4_8 p_4_9 p_4_10 p_4_11 l_4=some o4:=G
 show B4 _ _ _ _ (mk _ _ _)
 unfold Be.l4 at G
 refine Bk 3 11 Ay fun B=>?_
 refine Ak <| Cr rfl G (fun h25 G=>?_) fun h25 G=>?_
 refine C9 ?_
 refine Ak <| Aq <| Ca 11 35 B ?_
 obtain⟨e_4,he_4,G⟩:=Ab G
 refine Aw ?_
 refine Rg he_4 ?_
 refine Bi fun B=>?_
 refine Al (Ch _ _ []) 35 67 B rfl rfl ?_
 refine Aw ?_
 refine Mv Kv Qd X1 ?_
 refine Aw ?_
 obtain⟨y_7,hy_7,G⟩:=Ab G
 refine H0 (rd:=[1,2]) (ps:=[1]) (gs:=[2]) false rfl (Gx _ _ _ _ _ hy_7) rfl rfl (.cons (.ptr rfl) (.cons .val (.cons (.agg (.cons .val (.cons .val .nil))) (.cons .val .nil)))) ⟨_,_,_,rfl,.head _,⟨_,rfl,(by repeat' (first | exact Pu.nil | apply Pu.cons | exact Ag.val | exact Ag.sl | exact Ag.nils | exact Ag.ptr rfl | exact Ag.rowK rfl))⟩,⟨_,_,_,rfl,.tail _ (.head _),rfl,rfl⟩⟩ rfl (by intro h; cases h) rfl (by intro h; first | (cases h; done) | exact⟨_,_,⟨rfl,rfl⟩,by simp,by simp⟩) ?_
 rintro _ _ ⟨rfl,rfl⟩
 refine G9 fun B=>?_
 refine Al (Ch _ _ []) 67 83 B rfl rfl ?_
 refine Bi fun B=>?_
 obtain rfl:=oi_ G
 exact⟨((W (x67_4 + 1),y_7.at_.Source,y_7.at_.Host,y_7.at_.Machine,y_7.at_.Day,y_7.at_.Confidence,y_7.at_.Kind,y_7.at_.Subject,y_7.at_.Use.Alg,y_7.at_.Use.Bits,y_7.at_.Number,y_7.at_.Text,y_7.l),m4),aBj _,hn4,Av [(0,0),(1,1),(2,59)]⟩
 refine Jl ?_
 replace G:=Ce G hn4
 refine Ak <| Bk 11 43 B fun B=>?_
 refine Aq <| Jp (fun ((x79_5,p_5,p_5_2,p_5_3,p_5_4,p_5_5,p_5_6,p_5_7,p_5_8,p_5_9,p_5_10,p_5_11,l_5):Int×Int×ByteArray×Int×Int×Int×Int×ByteArray×Int×Int×Int×ByteArray×List Aa)=>mk [(6,.ptr 0 0),(77,.sl 1 (As eI e.Hashes)),(78,.val (.int .i64 (e.Hashes.length:Int))),(79,vk x79_5)] [(0,.box [vk p_5,ws p_5_2,vk p_5_3,vk p_5_4,vk p_5_5,vk p_5_6,ws p_5_7,vk p_5_8,vk p_5_9,vk p_5_10,ws p_5_11,.row 1] 126),(1,.row 48 11 (As Aa.enc l_5))] 2) G (Av [(0,1),(1,2)]) ?_
 rintro⟨x79_5,p_5,p_5_2,p_5_3,p_5_4,p_5_5,p_5_6,p_5_7,p_5_8,p_5_9,p_5_10,p_5_11,l_5⟩ m5 o5 G hn5
 replace G:Be.l5 e x79_5 p_5 p_5_2 p_5_3 p_5_4 p_5_5 p_5_6 p_5_7 p_5_8 p_5_9 p_5_10 p_5_11 l_5=some o5:=G
 show B4 _ _ _ _ (mk _ _ _)
 unfold Be.l5 at G
 refine Bk 2 10 Ay fun B=>?_
 refine Ak <| Cr rfl G (fun h31 G=>?_) fun h31 G=>?_
 refine C9 ?_
 refine Ak <| Aq <| Ca 10 34 B ?_
 obtain⟨e_5,he_5,G⟩:=Ab G
 refine Aw ?_
 refine Rg he_5 ?_
 refine Bi fun B=>?_
 refine Al (Ch _ _ []) 34 66 B rfl rfl ?_
 refine Aw ?_
 refine Mv Kv Qd X1 ?_
 obtain⟨y_8,hy_8,G⟩:=Ab G
 refine H0 (rd:=[0,1]) (ps:=[0]) (gs:=[1]) false rfl (Gx _ _ _ _ _ hy_8) rfl rfl (.cons (.ptr rfl) (.cons .val (.cons (.agg (.cons .val (.cons .val .nil))) (.cons .val .nil)))) ⟨_,_,_,rfl,.head _,⟨_,rfl,(by repeat' (first | exact Pu.nil | apply Pu.cons | exact Ag.val | exact Ag.sl | exact Ag.nils | exact Ag.ptr rfl | exact Ag.rowK rfl))⟩,⟨_,_,_,rfl,.tail _ (.head _),rfl,rfl⟩⟩ rfl (by intro h; cases h) rfl (by intro h; first | (cases h; done) | exact⟨_,_,⟨rfl,rfl⟩,by simp,by simp⟩) ?_
 rintro _ _ ⟨rfl,rfl⟩
 refine G9 fun B=>?_
 refine Al (Ch _ _ []) 66 82 B rfl rfl ?_
 refine Bi fun B=>?_
 obtain rfl:=oi_ G
 exact⟨((W (x79_5 + 1),y_8.at_.Source,y_8.at_.Host,y_8.at_.Machine,y_8.at_.Day,y_8.at_.Confidence,y_8.at_.Kind,y_8.at_.Subject,y_8.at_.Use.Alg,y_8.at_.Use.Bits,y_8.at_.Number,y_8.at_.Text,y_8.l),m5),aBj _,hn5,Av [(0,0),(1,58)]⟩
 refine Jl ?_
 replace G:=Ce G hn5
 refine Ca 10 82 B ?_
 refine Aw ?_
 obtain⟨y_9,hy_9,G⟩:=Ab G
 refine H0 (rd:=[1]) (ps:=[]) (gs:=[]) true rfl (Vc _ _ hy_9) rfl rfl (.cons (.row rfl (.head _) rfl) .nil) rfl rfl (by rintro - _ _ ⟨rfl,rfl⟩; exact⟨by simp [Jq,L2],fb_⟩) rfl (by intro h; first | (cases h; done) | exact⟨_,_,⟨rfl,rfl⟩,by simp,by simp⟩) ?_
 rintro _ _ ⟨rfl,rfl⟩
 refine Bi fun B=>?_
 refine Fj ?_
 obtain rfl:=oi_ G
 exact Ip [(0,42)] ⟨rfl,rfl⟩
theorem Na (e:Af) (at':Aa) (r:(List Aa)×Int) (G:Fk e at'=some r):Fn Tryz.prog 13 0 [.agg (Af.dv e),.agg (Aa.dv at')] [] (fun d' b'=>d'=.tup [.row 0,vk r.2]/\b'=[.row 48 11 (As Aa.enc r.1)]):=by
 unfold Fk at G
 refine Fn.of Tryz.func13 rfl rfl rfl fun w0 I ρ0=>?_
 show B4 _ ⟨w0,I,ρ0,0,0,11⟩ _ _ _
 refine Bk 0 32 Ay fun B=>?_
 refine Ca 32 88 B ?_
 refine Aw ?_
 obtain⟨y,hy,G⟩:=Ab G
 refine H0 (rd:=[]) (ps:=[]) (gs:=[]) false rfl (Oi _ _ _ hy) rfl rfl (.cons (.agg (.cons .val (.cons .val (.cons .val (.cons .val (.cons .val (.cons .val (.cons .val (.cons .val (.cons .val (.cons .val (.cons .val .nil)))))))))))) (.cons (.agg (.cons .val (.cons .val (.cons .val (.cons .sl (.cons .val (.cons .sl (.cons .sl (.cons .sl (.cons .val .nil)))))))))) .nil)) rfl rfl (by intro h; cases h) rfl (by intro h; first | (cases h; done) | exact⟨_,_,⟨rfl,rfl⟩,by simp,by simp⟩) ?_
 rintro _ _ ⟨rfl,rfl⟩
 refine Bi fun B=>?_
 refine Fj ?_
 obtain rfl:=oi_ G
 exact Ip [(0,48)] ⟨rfl,rfl⟩
theorem bE (f:Aa) (r:Dq) (G:O1 f=some r):Fn Tryz.prog 42 0 [.agg (Aa.dv f)] [] (fun d' b'=>d'=.agg (Dq.dv r)/\b'=[]):=by
 unfold O1 at G
 refine Fn.of Tryz.func42 rfl rfl rfl fun w0 I ρ0=>?_
 show B4 _ ⟨w0,I,ρ0,0,0,16⟩ _ _ _
 refine Bk 0 16 Ay fun B=>?_
 refine Ca 16 128 B ?_
 refine Aw ?_
 refine Mv aFq aIe z91 ?_
 exact Df
theorem U6 (x':Aa) (c0:(List (Dq×Bool))) (r:Bool) (G:Gz x' c0=some r):Fn Tryz.prog 44 0 [.agg (Aa.dv x'),.elt (([.mp (Tx Va vB c0)]:List C).drop 0)] [] (fun d' b'=>d'=.val (.bool r)/\b'=[]):=by
 unfold Gz at G
 refine Fn.of Tryz.func44 rfl rfl rfl fun w0 I ρ0=>?_
 show B4 _ ⟨w0,I,ρ0,0,0,8⟩ _ _ _
 refine Bk 0 16 Ay fun B=>?_
 refine Ak <| Bu (Ch _ _ []) (by kernel_rfl) [0,0,2,7,15] 16 56 B rfl rfl (by kernel_rfl) ?_
 refine C1 rfl rfl (Da aEt (c:=.mp (Tx Va vB c0)) rfl) rfl rfl ?_
 refine Aw ?_
 obtain⟨y,hy,G⟩:=Ab G
 refine Dl (bE _ _ hy) ?_
 refine Lh (rd:=[]) rfl rfl (yY (f:=Va) (g:=vB) (l:=c0) (key:=y) (z:=false) uM rL zv4 rfl rfl) rfl rfl (fun _=>⟨_,rfl⟩) ?_
 rintro _ rfl
 exact Df
theorem I8 (s:(List Aa)) (f:Aa->Option (Bool)) (f_c0:(List (Dq×Bool))) (hf_f:∀ (x0:Aa) (y:Bool),f x0=some y->Fn Tryz.prog 44 0 [.agg (Aa.dv x0),.elt (([.mp (Tx Va vB f_c0)]:List C).drop 0)] [] (fun d' b'=>d'=.val (.bool y)/\b'=[])) (r:Int) (G:Bf s f=some r):Fn Tryz.prog 69 0 [.sl 11 (As Aa.enc s),.clo 44 0 [.elt (([.mp (Tx Va vB f_c0)]:List C).drop 0)]] [] (fun d' b'=>d'=vk r/\b'=[]):=by
 unfold Bf at G
 refine Fn.of Tryz.func69 rfl rfl rfl fun w0 I ρ0=>?_
 show B4 _ ⟨w0,I,ρ0,0,0,19⟩ _ _ _
 refine Bk 0 8 Ay fun B=>?_
 refine Ak <| Bk 8 32 B fun B=>?_
 refine Aq <| Jp (fun (x8_1:Int)=>mk [(0,.sl 11 (As Aa.enc s)),(1,.clo 44 0 [.elt (([.mp (Tx Va vB f_c0)]:List C).drop 0)]),(7,.val (.int .i64 (s.length:Int))),(8,vk x8_1)] [] 0) G (Av []) ?_
 rintro x8_1 m1 o1 G hn1
 replace G:Bf.l1 s f x8_1=some o1:=G
 show B4 _ _ _ _ (mk _ _ _)
 unfold Bf.l1 at G
 refine Bk 0 8 Ay fun B=>?_
 refine Ak <| Cr rfl G (fun h4 G=>?_) fun h4 G=>?_
 refine C9 ?_
 refine Ak <| Aq <| Bk 8 24 B fun B=>?_
 refine Ca 24 72 B ?_
 refine Aw ?_
 obtain⟨e,he,G⟩:=Ab G
 refine Aw ?_
 refine Wv he ?_
 obtain⟨y,hy,G⟩:=Ab G
 refine Cw (rd:=[]) (ps:=[]) (gs:=[]) false rfl rfl (hf_f e _ hy) rfl rfl (.cons (.agg (.cons .val (.cons .val (.cons .val (.cons .val (.cons .val (.cons .val (.cons .val (.cons .val (.cons .val (.cons .val (.cons .val .nil)))))))))))) (.cons .elt .nil)) rfl rfl (by intro h; cases h) rfl rfl rfl rfl ?_
 refine G9 fun B=>?_
 refine Cr rfl G (fun h7 G=>?_) fun h7 G=>?_
 refine Bk 72 88 B fun B=>?_
 refine Fj ?_
 replace G:=Ce G hn1
 exact Ts
 refine C9 ?_
 refine Al (Ch _ _ []) 72 88 B rfl rfl ?_
 refine Bi fun B=>?_
 obtain rfl:=oi_ G
 exact⟨(W (x8_1 + 1),m1),aBj _,hn1,Av []⟩
 refine Jl ?_
 replace G:=Ce G hn1
 refine Bk 8 16 B fun B=>?_
 exact K0
theorem Ic (s:List Aa) (del:Aa->Option (Bool)) (del_c0:(List (Dq×Bool))) (hf_del:∀ (x0:Aa) (y:Bool),del x0=some y->Fn Tryz.prog 44 0 [.agg (Aa.dv x0),.elt (([.mp (Tx Va vB del_c0)]:List C).drop 0)] [] (fun d' b'=>d'=.val (.bool y)/\b'=[])) (r:(List Aa)) (G:Bc s del=some r):Fn Tryz.prog 43 0 [.row 0,.clo 44 0 [.elt (([.mp (Tx Va vB del_c0)]:List C).drop 0)]] [.row 48 11 (As Aa.enc s)] (fun d' b'=>d'=.row 0/\b'=[.row 48 11 (As Aa.enc r)]):=by
 unfold Bc at G
 refine Fn.of Tryz.func43 rfl rfl rfl fun w0 I ρ0=>?_
 show B4 _ ⟨w0,I,ρ0,0,1,42⟩ _ _ _
 refine Bk 1 9 Ay fun B=>?_
 refine Ca 9 41 B ?_
 refine Aw ?_
 obtain⟨y,hy,G⟩:=Ab G
 refine Ki [0] [] [] true (I8 s del del_c0 hf_del _ hy) ?_
 refine Bi fun B=>?_
 refine Ak <| Bk 41 57 B fun B=>?_
 refine Cr rfl G (fun h4 G=>?_) fun h4 G=>?_
 refine Bk 57 73 B fun B=>?_
 refine Fj ?_
 obtain rfl:=oi_ G
 exact Ip [(0,0)] ⟨rfl,rfl⟩
 refine C9 ?_
 refine Ak <| Bk 57 81 B fun B=>?_
 refine Aq <| Jp (fun ((i_1,j_1,s_1):Int×Int×List Aa)=>mk [(0,.row 0),(1,.clo 44 0 [.elt (([.mp (Tx Va vB del_c0)]:List C).drop 0)]),(5,vk i_1),(6,vk j_1)] [(0,.row 48 11 (As Aa.enc s_1))] 1) G (Av [(0,0)]) ?_
 rintro⟨i_1,j_1,s_1⟩ m1 o1 G hn1
 replace G:Bc.l1 del i_1 j_1 s_1=some o1:=G
 show B4 _ _ _ _ (mk _ _ _)
 unfold Bc.l1 at G
 refine Ak <| Bk 1 33 Ay fun B=>?_
 refine Cr rfl G (fun h8 G=>?_) fun h8 G=>?_
 refine C9 ?_
 refine Bs (ι:=Int×List Aa) (fun ((i_2,s_2):Int×List Aa)=>mk [(0,.row 0),(1,.clo 44 0 [.elt (([.mp (Tx Va vB del_c0)]:List C).drop 0)]),(5,vk i_2),(6,vk j_1)] [(0,.row 48 11 (As Aa.enc s_2))] 1) (fun ((i_2,s_2):Int×List Aa)=>Bc.j2 j_1 i_2 s_2=some o1) ?_ ?_
 refine Aq <| Ca 33 81 B ?_
 refine Aw ?_
 obtain⟨e,he,G⟩:=Ab G
 refine Aw ?_
 refine Ln he ?_
 refine Bi fun B=>?_
 refine Ca 81 113 B ?_
 refine Aw ?_
 obtain⟨y_2,hy_2,G⟩:=Ab G
 refine Cw (rd:=[]) (ps:=[]) (gs:=[]) false rfl rfl (hf_del e _ hy_2) rfl rfl (.cons (.agg (.cons .val (.cons .val (.cons .val (.cons .val (.cons .val (.cons .val (.cons .val (.cons .val (.cons .val (.cons .val (.cons .val .nil)))))))))))) (.cons .elt .nil)) rfl rfl (by intro h; cases h) rfl rfl rfl rfl ?_
 refine Bi fun B=>?_
 refine Cr rfl G (fun h11 G=>?_) fun h11 G=>?_
 refine Ca 113 153 B ?_
 refine Aw ?_
 obtain⟨e_2,he_2,G⟩:=Ab G
 refine Aw ?_
 refine Uk K1 he_2 (x':=e) ?_
 refine G9 fun B=>?_
 refine Al (Ch _ _ []) 153 177 B rfl rfl ?_
 refine Bi fun B=>?_
 exact⟨(W (i_1 + 1),C2 s_1 ((i_1).toNat) e),G,Av [(0,0)]⟩
 refine C9 ?_
 exact⟨(i_1,s_1),G,Av [(0,0)]⟩
 rintro⟨i_2,s_2⟩ G
 replace G:Bc.j2 j_1 i_2 s_2=some o1:=G
 show B4 _ _ _ _ (mk _ _ _)
 unfold Bc.j2 at G
 refine Al (Ch _ _ []) 1 25 Ay rfl rfl ?_
 refine Bi fun B=>?_
 obtain rfl:=oi_ G
 exact⟨((i_2,W (j_1 + 1),s_2),m1),aBj _,hn1,Av [(0,0)]⟩
 refine Jl ?_
 replace G:=Ce G hn1
 refine Ca 33 65 B ?_
 refine Aw ?_
 obtain⟨l,hl,G⟩:=Ab G
 refine Gs (rd:=[0]) rfl rfl (W0 Ue Aa.enc_len hl) rfl rfl ?_
 obtain⟨l_2,hl_2,G⟩:=Ab G
 refine Lh (rd:=[0]) rfl rfl (nN (f:=Aa.enc) (a:=(i_1:Int).toNat) (m:=(((s_1.length:Int):Int).toNat - (i_1:Int).toNat)) (z0:=(Aa.mk 0 (⟨#[]⟩:ByteArray) 0 0 0 0 (⟨#[]⟩:ByteArray) (Ar.mk 0 0) 0 (⟨#[]⟩:ByteArray))) Ue Aa.enc_len (aAb (ck:=[none,none,none,none,none,none,none,none,none,none,none]) z48 (.cons .int (.cons .str (.cons .int (.cons .int (.cons .int (.cons .int (.cons .str (.cons .int (.cons .int (.cons .int (.cons .str .nil)))))))))))) (.head _) hl_2) rfl rfl (fun _=>⟨_,rfl⟩) ?_
 rintro _ rfl
 refine G9 fun B=>?_
 refine Ca 65 97 B ?_
 refine Aw ?_
 obtain⟨l_3,hl_3,G⟩:=Ab G
 refine Gs (rd:=[0]) rfl rfl (Wz Ue Aa.enc_len hl_3) rfl rfl ?_
 refine Bi fun B=>?_
 refine Ey (σ':=mk [(4,.part 0 (((0:Int).toNat) * 11) ((i_1:Int).toNat - (0:Int).toNat))] [(0,.row 48 11 (As Aa.enc l_2))] 1) (Av [(0,0)]) ?_
 refine Ey (σ':=mk [(4,.row 0)] [(0,.row 48 11 (As Aa.enc (l_2.take ((i_1:Int).toNat - (0:Int).toNat))))] 1) (aE2 4 0 Aa.enc_len (aIp (Nat.le_add_left _ _) (sQ hl_3)) rfl rfl rfl rfl) ?_
 refine Fj ?_
 obtain rfl:=oi_ G
 exact Ip [(0,0)] ⟨rfl,rfl⟩
theorem Nl (e:Af) (at':Aa) (l:(List Aa)) (r:(List Aa)×Int) (G:Dz e at' l=some r):Fn Tryz.prog 15 0 [.agg (Af.dv e),.agg (Aa.dv at'),.sl 11 (As Aa.enc l)] [] (fun d' b'=>d'=.tup [.row 0,vk r.2]/\b'=[.row 48 11 (As Aa.enc r.1)]):=by
 unfold Dz at G
 refine Fn.of Tryz.func15 rfl rfl rfl fun w0 I ρ0=>?_
 show B4 _ ⟨w0,I,ρ0,0,0,36⟩ _ _ _
 refine Bk 0 32 Ay fun B=>?_
 refine Ca 32 96 B ?_
 refine Aw ?_
 obtain⟨y,hy,G⟩:=Ab G
 refine H0 (rd:=[]) (ps:=[]) (gs:=[]) false rfl (Na _ _ _ hy) rfl rfl (.cons (.agg (.cons .val (.cons .val (.cons .val (.cons .sl (.cons .val (.cons .sl (.cons .sl (.cons .sl (.cons .val .nil)))))))))) (.cons (.agg (.cons .val (.cons .val (.cons .val (.cons .val (.cons .val (.cons .val (.cons .val (.cons .val (.cons .val (.cons .val (.cons .val .nil)))))))))))) .nil)) rfl rfl (by intro h; cases h) rfl (by intro h; first | (cases h; done) | exact⟨_,_,⟨rfl,rfl⟩,by simp,by simp⟩) ?_
 rintro _ _ ⟨rfl,rfl⟩
 refine Bi fun B=>?_
 refine Ak <| Bk 96 112 B fun B=>?_
 refine Cr rfl G (fun h4 G=>?_) fun h4 G=>?_
 refine Ca 112 136 B ?_
 exact Df
 refine C9 ?_
 refine Ca 112 136 B ?_
 refine Lh (rd:=[]) rfl rfl .makeMap rfl rfl (fun _=>⟨_,rfl⟩) ?_
 rintro _ rfl
 refine Bi fun B=>?_
 refine Ak <| Bk 136 160 B fun B=>?_
 refine Aq <| Jp (fun ((x25_1,m_1):Int×(List (Dq×Bool)))=>mk [(8,.row 0),(10,.ptr 1 0),(23,.sl 11 (As Aa.enc l)),(24,.val (.int .i64 (l.length:Int))),(25,vk x25_1)] [(0,.row 48 11 (As Aa.enc y.1)),(1,.box [.row 2] 89),(2,.map (Tx Va vB m_1))] 3) G ((by exact Pt.lists [(0,48),(1,120),(2,112)] rfl rfl ⟨⟨_,rfl,.row rfl⟩,⟨_,rfl,.ptr rfl⟩,⟨_,rfl,.sl _ _⟩,⟨_,rfl,.val _⟩,⟨_,rfl,.val _⟩,trivial⟩ ⟨.inl ⟨48,_,rfl,rfl,⟨rfl,rfl,rfl⟩⟩,.inl ⟨120,_,rfl,rfl,⟨rfl,.cons (.row rfl) .nil⟩⟩,.inl ⟨112,_,rfl,rfl,rfl⟩,trivial⟩)) ?_
 rintro⟨x25_1,m_1⟩ m1 o1 G hn1
 replace G:Dz.l1 l y x25_1 m_1=some o1:=G
 show B4 _ _ _ _ (mk _ _ _)
 unfold Dz.l1 at G
 refine Bk 3 11 Ay fun B=>?_
 refine Ak <| Cr rfl G (fun h9 G=>?_) fun h9 G=>?_
 refine C9 ?_
 refine Ak <| Aq <| Ca 11 43 B ?_
 obtain⟨e_2,he_2,G⟩:=Ab G
 refine Aw ?_
 refine Wv he_2 ?_
 refine Bi fun B=>?_
 refine Bu (Ch _ _ []) (by kernel_rfl) [0,0,2,7] 43 75 B rfl rfl (by kernel_rfl) ?_
 refine Aw ?_
 obtain⟨y_2,hy_2,G⟩:=Ab G
 refine Dl (bE _ _ hy_2) ?_
 refine Lh (rd:=[2]) rfl rfl (uS (f:=Va) (g:=vB) (l:=m_1) (key:=y_2) (v:=true) uM rL rfl rfl (.head _)) rfl rfl (fun _=>⟨_,rfl⟩) ?_
 rintro _ rfl
 refine G9 fun B=>?_
 refine Al (Ch _ _ []) 75 91 B rfl rfl ?_
 refine Bi fun B=>?_
 obtain rfl:=oi_ G
 exact⟨((W (x25_1 + 1),K5 m_1 y_2 true),m1),aBj _,hn1,(by exact Pt.lists [(0,0),(1,1),(2,2)] rfl rfl ⟨⟨_,rfl,.row rfl⟩,⟨_,rfl,.ptr rfl⟩,⟨_,rfl,.sl _ _⟩,⟨_,rfl,.val _⟩,⟨_,rfl,.val _⟩,trivial⟩ ⟨.inl ⟨0,_,rfl,rfl,⟨rfl,rfl,rfl⟩⟩,.inl ⟨1,_,rfl,rfl,⟨rfl,.cons (.row rfl) .nil⟩⟩,.inl ⟨2,_,rfl,rfl,rfl⟩,trivial⟩)⟩
 refine Jl ?_
 replace G:=Ce G hn1
 refine Ak <| Ey (σ':=mk [(8,.row 0),(10,.ptr 1 0)] [(0,.row 48 11 (As Aa.enc y.1)),(1,.box [.mp (Tx Va vB m_1)] 89)] 2) ((by exact Pt.lists [(0,0),(1,1)] rfl rfl ⟨⟨_,rfl,.row rfl⟩,⟨_,rfl,.ptr rfl⟩,trivial⟩ ⟨.inl ⟨0,_,rfl,rfl,⟨rfl,rfl,rfl⟩⟩,.inl ⟨1,_,rfl,rfl,⟨rfl,.cons (.frzM rfl (Fg rfl)) .nil⟩⟩,trivial⟩)) ?_
 refine Ey (σ':=mk [(8,.row 0),(10,.elt (([.mp (Tx Va vB m_1)]:List C).drop 0))] [(0,.row 48 11 (As Aa.enc y.1))] 1) ((by exact Pt.lists [(0,0)] rfl rfl ⟨⟨_,rfl,.row rfl⟩,⟨_,rfl,.frzb (ks:=[none]) rfl (.cons .mp .nil) (Fg rfl)⟩,trivial⟩ ⟨.inl ⟨0,_,rfl,rfl,⟨rfl,rfl,rfl⟩⟩,trivial⟩)) ?_
 refine Al (Ch _ _ []) 1 41 Ay rfl rfl ?_
 refine Aw ?_
 obtain⟨y_3,hy_3,G⟩:=Ab G
 refine H0 (rd:=[0]) (ps:=[]) (gs:=[0]) false rfl (Ic y.1 (fun x0=>Gz x0 m_1) m_1 (fun x0 y h=>U6 x0 m_1 y h) _ hy_3) rfl rfl (.cons (.rowK rfl) (.cons (.clo (.cons .elt .nil)) .nil)) ⟨_,_,_,rfl,.head _,rfl,rfl⟩ rfl (by intro h; cases h) rfl (by intro h; first | (cases h; done) | exact⟨_,_,⟨rfl,rfl⟩,by simp,by simp⟩) ?_
 rintro _ _ ⟨rfl,rfl⟩
 refine Bi fun B=>?_
 refine Fj ?_
 obtain rfl:=oi_ G
 exact Ip [(0,17)] ⟨rfl,rfl⟩
theorem Vi (x':Aa) (c0:Aa) (c1:Af) (r:Bool) (G:Gg x' c0 c1=some r):Fn Tryz.prog 40 0 [.agg (Aa.dv x'),.elt (((Aa.ec c0):List C).drop 0),.elt (((Af.ec c1):List C).drop 0)] [] (fun d' b'=>d'=.val (.bool r)/\b'=[]):=by
 unfold Gg at G
 refine Fn.of Tryz.func40 rfl rfl rfl fun w0 I ρ0=>?_
 show B4 _ ⟨w0,I,ρ0,0,0,15⟩ _ _ _
 refine Bk 0 16 Ay fun B=>?_
 refine Ca 16 104 B ?_
 refine Aw ?_
 refine C1 rfl rfl (Fa sP Sq (by decide) (aBe rfl)) rfl rfl ?_
 refine C1 rfl rfl (Da Sq (c:=.int .i64 c0.Day) rfl) rfl rfl ?_
 refine Aw ?_
 rcases Dj G with ⟨h2,G⟩ | ⟨h2,G⟩
 refine C1 (Dx rfl rfl h2) rfl (D4 aE4 (cs2:=(Af.ec c1)) rfl (aBe rfl)) rfl rfl ?_
 refine Aw ?_
 obtain⟨y,hy,G⟩:=Ab G
 refine Dl (K6 _ _ _ hy) ?_
 exact Df
 exact Df
theorem Hs (s:(List Aa)) (f:Aa->Option (Bool)) (f_c0:Aa) (f_c1:Af) (hf_f:∀ (x0:Aa) (y:Bool),f x0=some y->Fn Tryz.prog 40 0 [.agg (Aa.dv x0),.elt (((Aa.ec f_c0):List C).drop 0),.elt (((Af.ec f_c1):List C).drop 0)] [] (fun d' b'=>d'=.val (.bool y)/\b'=[])) (r:Int) (G:Bf s f=some r):Fn Tryz.prog 69 0 [.sl 11 (As Aa.enc s),.clo 40 0 [.elt (((Aa.ec f_c0):List C).drop 0),.elt (((Af.ec f_c1):List C).drop 0)]] [] (fun d' b'=>d'=vk r/\b'=[]):=by
 unfold Bf at G
 refine Fn.of Tryz.func69 rfl rfl rfl fun w0 I ρ0=>?_
 show B4 _ ⟨w0,I,ρ0,0,0,19⟩ _ _ _
 refine Bk 0 8 Ay fun B=>?_
 refine Ak <| Bk 8 32 B fun B=>?_
 refine Aq <| Jp (fun (x8_1:Int)=>mk [(0,.sl 11 (As Aa.enc s)),(1,.clo 40 0 [.elt (((Aa.ec f_c0):List C).drop 0),.elt (((Af.ec f_c1):List C).drop 0)]),(7,.val (.int .i64 (s.length:Int))),(8,vk x8_1)] [] 0) G (Av []) ?_
 rintro x8_1 m1 o1 G hn1
 replace G:Bf.l1 s f x8_1=some o1:=G
 show B4 _ _ _ _ (mk _ _ _)
 unfold Bf.l1 at G
 refine Bk 0 8 Ay fun B=>?_
 refine Ak <| Cr rfl G (fun h4 G=>?_) fun h4 G=>?_
 refine C9 ?_
 refine Ak <| Aq <| Bk 8 24 B fun B=>?_
 refine Ca 24 72 B ?_
 refine Aw ?_
 obtain⟨e,he,G⟩:=Ab G
 refine Aw ?_
 refine Wv he ?_
 obtain⟨y,hy,G⟩:=Ab G
 refine Cw (rd:=[]) (ps:=[]) (gs:=[]) false rfl rfl (hf_f e _ hy) rfl rfl (.cons (.agg (.cons .val (.cons .val (.cons .val (.cons .val (.cons .val (.cons .val (.cons .val (.cons .val (.cons .val (.cons .val (.cons .val .nil)))))))))))) (.cons .elt (.cons .elt .nil))) rfl rfl (by intro h; cases h) rfl rfl rfl rfl ?_
 refine G9 fun B=>?_
 refine Cr rfl G (fun h7 G=>?_) fun h7 G=>?_
 refine Bk 72 88 B fun B=>?_
 refine Fj ?_
 replace G:=Ce G hn1
 exact Ts
 refine C9 ?_
 refine Al (Ch _ _ []) 72 88 B rfl rfl ?_
 refine Bi fun B=>?_
 obtain rfl:=oi_ G
 exact⟨(W (x8_1 + 1),m1),aBj _,hn1,Av []⟩
 refine Jl ?_
 replace G:=Ce G hn1
 refine Bk 8 16 B fun B=>?_
 exact K0
theorem G4 (s:(List Aa)) (f:Aa->Option (Bool)) (f_c0:Aa) (f_c1:Af) (hf_f:∀ (x0:Aa) (y:Bool),f x0=some y->Fn Tryz.prog 40 0 [.agg (Aa.dv x0),.elt (((Aa.ec f_c0):List C).drop 0),.elt (((Af.ec f_c1):List C).drop 0)] [] (fun d' b'=>d'=.val (.bool y)/\b'=[])) (r:Bool) (G:C8 s f=some r):Fn Tryz.prog 41 0 [.sl 11 (As Aa.enc s),.clo 40 0 [.elt (((Aa.ec f_c0):List C).drop 0),.elt (((Af.ec f_c1):List C).drop 0)]] [] (fun d' b'=>d'=.val (.bool r)/\b'=[]):=by
 unfold C8 at G
 refine Fn.of Tryz.func41 rfl rfl rfl fun w0 I ρ0=>?_
 show B4 _ ⟨w0,I,ρ0,0,0,9⟩ _ _ _
 refine Bk 0 8 Ay fun B=>?_
 refine Ca 8 48 B ?_
 refine Aw ?_
 obtain⟨y,hy,G⟩:=Ab G
 refine Dl (Hs s f f_c0 f_c1 hf_f _ hy) ?_
 exact Df
theorem Sw (e:Af) (at':Aa) (l:(List Aa)) (r:Bool×Int) (G:F5 e at' l=some r):Fn Tryz.prog 14 0 [.agg (Af.dv e),.agg (Aa.dv at'),.sl 11 (As Aa.enc l)] [] (fun d' b'=>d'=.tup [.val (.bool r.1),vk r.2]/\b'=[]):=by
 unfold F5 at G
 refine Fn.of Tryz.func14 rfl rfl rfl fun w0 I ρ0=>?_
 show B4 _ ⟨w0,I,ρ0,0,0,31⟩ _ _ _
 refine Bk 0 32 Ay fun B=>?_
 refine Ca 32 104 B ?_
 refine Aw ?_
 obtain⟨y,hy,G⟩:=Ab G
 refine H0 (rd:=[]) (ps:=[]) (gs:=[]) false rfl (Nl _ _ _ _ hy) rfl rfl (.cons (.agg (.cons .val (.cons .val (.cons .val (.cons .sl (.cons .val (.cons .sl (.cons .sl (.cons .sl (.cons .val .nil)))))))))) (.cons (.agg (.cons .val (.cons .val (.cons .val (.cons .val (.cons .val (.cons .val (.cons .val (.cons .val (.cons .val (.cons .val (.cons .val .nil)))))))))))) (.cons .sl .nil))) rfl rfl (by intro h; cases h) rfl (by intro h; first | (cases h; done) | exact⟨_,_,⟨rfl,rfl⟩,by simp,by simp⟩) ?_
 rintro _ _ ⟨rfl,rfl⟩
 refine Bi fun B=>?_
 refine Ak <| Bk 104 120 B fun B=>?_
 refine Cr rfl G (fun h4 G=>?_) fun h4 G=>?_
 refine Ca 120 144 B ?_
 exact Df
 refine C9 ?_
 refine Ak <| Ey (σ':=mk [(2,.sl 11 (As Aa.enc l)),(3,.elt (((Af.ec e):List C).drop 0)),(4,.elt (((Aa.ec at'):List C).drop 0)),(8,.row 0)] [(0,.row 48 11 (As Aa.enc y.1))] 1) ((by exact Pt.lists [(0,56)] rfl rfl ⟨⟨_,rfl,.sl _ _⟩,⟨_,rfl,.frzb (ks:=[none,none,none,some 1,none,some 4,some 1,some 1,none]) rfl (.cons .str (.cons .int (.cons .int (.cons .sl (.cons .bool (.cons .sl (.cons .sl (.cons .sl (.cons .bool .nil))))))))) (Fg rfl)⟩,⟨_,rfl,.frzb (ks:=[none,none,none,none,none,none,none,none,none,none,none]) rfl (.cons .int (.cons .str (.cons .int (.cons .int (.cons .int (.cons .int (.cons .str (.cons .int (.cons .int (.cons .int (.cons .str .nil))))))))))) (Fg rfl)⟩,⟨_,rfl,.row rfl⟩,trivial⟩ ⟨.inl ⟨56,_,rfl,rfl,⟨rfl,rfl,rfl⟩⟩,trivial⟩)) ?_
 refine Al (Ch _ _ []) 1 17 Ay rfl rfl ?_
 refine Bi fun B=>?_
 refine Ca 17 105 B ?_
 refine Aw ?_
 rcases Dj G with ⟨h7,G⟩ | ⟨h7,G⟩
 refine Aw ?_
 obtain⟨y_2,hy_2,G⟩:=Ab G
 refine Dl (G4 l (fun x0=>Gg x0 at' e) at' e (fun x0 y h=>Vi x0 at' e y h) _ hy_2) ?_
 exact Df
 exact Df
theorem Ut (t:(List Int)) (r:Bool) (G:B1 t=some r):Fn Tryz.prog 3 0 [.sl 1 (As eI t)] [] (fun d' b'=>d'=.val (.bool r)/\b'=[]):=by
 unfold B1 at G
 refine Fn.of Tryz.func3 rfl rfl rfl fun w0 I ρ0=>?_
 show B4 _ ⟨w0,I,ρ0,0,0,127⟩ _ _ _
 refine Bk 0 8 Ay fun B=>?_
 refine Ak <| Ca 8 32 B ?_
 refine Aw ?_
 obtain⟨y,hy,G⟩:=Ab G
 refine Dl (fX _ _ hy) ?_
 refine Bi fun B=>?_
 refine Cr rfl G (fun h3 G=>?_) fun h3 G=>?_
 refine Ca 32 48 B ?_
 obtain⟨y_2,hy_2,G⟩:=Ab G
 refine Dl (P9 _ hy_2) ?_
 exact Df
 refine C9 ?_
 refine Ca 32 56 B ?_
 refine Aw ?_
 obtain⟨y_3,hy_3,G⟩:=Ab G
 refine H0 (rd:=[]) (ps:=[]) (gs:=[]) false rfl (gV _ _ hy_3) rfl rfl (.cons .sl .nil) rfl rfl (by intro h; cases h) rfl (by intro h; first | (cases h; done) | exact⟨_,_,⟨rfl,rfl⟩,by simp,by simp⟩) ?_
 rintro _ _ ⟨rfl,rfl⟩
 refine Bi fun B=>?_
 refine Ca 56 88 B ?_
 refine Aw ?_
 obtain⟨y_4,hy_4,G⟩:=Ab G
 refine Ki [40] [40] [] false (fQ _ _ hy_4) ?_
 refine Bi fun B=>?_
 refine Ca 88 152 B ?_
 refine Aw ?_
 obtain⟨l,hl,G⟩:=Ab G
 refine C1 rfl rfl (Mf oU Af.enc_len hl) rfl rfl ?_
 refine Mv Xz sC z31 ?_
 obtain⟨y_5,hy_5,G⟩:=Ab G
 refine Ki [40] [40] [] false (kF _ _ _ hy_5) ?_
 refine Bi fun B=>?_
 refine Ca 152 200 B ?_
 refine Aw ?_
 obtain⟨e,he,G⟩:=Ab G
 refine Aw ?_
 refine Wv he ?_
 refine Bi fun B=>?_
 refine Ca 200 272 B ?_
 refine Aw ?_
 obtain⟨y_6,hy_6,G⟩:=Ab G
 refine Dl (bP _ _ _ hy_6) ?_
 refine Bi fun B=>?_
 refine Ca 272 312 B ?_
 refine Aw ?_
 obtain⟨y_7,hy_7,G⟩:=Ab G
 refine Dl (dI _ _ _ hy_7) ?_
 refine Bi fun B=>?_
 refine Ca 312 376 B ?_
 refine Aw ?_
 obtain⟨y_8,hy_8,G⟩:=Ab G
 refine H0 (rd:=[]) (ps:=[]) (gs:=[]) false rfl (Na _ _ _ hy_8) rfl rfl (.cons (.agg (.cons .val (.cons .val (.cons .val (.cons .sl (.cons .val (.cons .sl (.cons .sl (.cons .sl (.cons .val .nil)))))))))) (.cons (.agg (.cons .val (.cons .val (.cons .val (.cons .val (.cons .val (.cons .val (.cons .val (.cons .val (.cons .val (.cons .val (.cons .val .nil)))))))))))) .nil)) rfl rfl (by intro h; cases h) rfl (by intro h; first | (cases h; done) | exact⟨_,_,⟨rfl,rfl⟩,by simp,by simp⟩) ?_
 rintro _ _ ⟨rfl,rfl⟩
 refine Bi fun B=>?_
 refine Ca 376 448 B ?_
 refine Aw ?_
 obtain⟨y_9,hy_9,G⟩:=Ab G
 refine Ki [328] [] [] true (Sw _ _ _ _ hy_9) ?_
 refine Bi fun B=>?_
 refine Ca 448 520 B ?_
 refine Aw ?_
 obtain⟨y_10,hy_10,G⟩:=Ab G
 refine H0 (rd:=[328]) (ps:=[]) (gs:=[]) true rfl (Nl _ _ _ _ hy_10) rfl rfl (.cons (.agg (.cons .val (.cons .val (.cons .val (.cons .sl (.cons .val (.cons .sl (.cons .sl (.cons .sl (.cons .val .nil)))))))))) (.cons (.agg (.cons .val (.cons .val (.cons .val (.cons .val (.cons .val (.cons .val (.cons .val (.cons .val (.cons .val (.cons .val (.cons .val .nil)))))))))))) (.cons (.row rfl (.head _) rfl) .nil))) rfl rfl (by rintro - _ _ ⟨rfl,rfl⟩; exact⟨by simp [Jq,L2],fb_⟩) rfl (by intro h; first | (cases h; done) | exact⟨_,_,⟨rfl,rfl⟩,by simp,by simp⟩) ?_
 rintro _ _ ⟨rfl,rfl⟩
 refine Bi fun B=>?_
 refine Ak <| Bs (ι:=Bool) (fun (x84_1:Bool)=>mk [(5,.ptr 0 0),(7,.ptr 1 0),(8,vk y_6.2),(9,.ptr 2 0),(10,.row 3),(84,.val (.bool x84_1))] [(0,.box (A7.dv y_5.1) 39),(1,.box (Bb.dv y_6.1) 31),(2,.box (Aa.dv y_7) 48),(3,.row 48 11 (As Aa.enc y_8.1))] 4) (fun (x84_1:Bool)=>B1.j1 y_5 y_6 y_7 y_8 x84_1=some r) ?_ ?_
 refine Al (Ch _ _ []) 520 680 B rfl rfl ?_
 refine Aw ?_
 rcases Dj G with ⟨h14,G⟩ | ⟨h14,G⟩
 refine Bi fun B=>?_
 exact⟨true,G,Av [(0,136),(1,248),(2,296),(3,328)]⟩
 refine Aw ?_
 rcases Dj G with ⟨h16,G⟩ | ⟨h16,G⟩
 refine Bi fun B=>?_
 exact⟨true,G,Av [(0,136),(1,248),(2,296),(3,328)]⟩
 refine Aw ?_
 rcases Dj G with ⟨h18,G⟩ | ⟨h18,G⟩
 refine Bi fun B=>?_
 exact⟨true,G,Av [(0,136),(1,248),(2,296),(3,328)]⟩
 refine Bi fun B=>?_
 exact⟨decide ((y_8.1.length:Int)=0),G,Av [(0,136),(1,248),(2,296),(3,328)]⟩
 rintro x84_1 G
 replace G:B1.j1 y_5 y_6 y_7 y_8 x84_1=some r:=G
 show B4 _ _ _ _ (mk _ _ _)
 unfold B1.j1 at G
 refine Cr rfl G (fun h21 G=>?_) fun h21 G=>?_
 refine Ca 4 12 Ay ?_
 exact Df
 refine C9 ?_
 refine Ak <| Bs (ι:=Bool) (fun (x106_2:Bool)=>mk [(7,.ptr 0 0),(9,.ptr 1 0),(10,.row 2),(106,.val (.bool x106_2))] [(0,.box (Bb.dv y_6.1) 31),(1,.box (Aa.dv y_7) 48),(2,.row 48 11 (As Aa.enc y_8.1))] 3) (fun (x106_2:Bool)=>B1.j2 y_6 y_7 y_8 x106_2=some r) ?_ ?_
 refine Al (Ch _ _ []) 4 180 Ay rfl rfl ?_
 refine Aw ?_
 rcases Dj G with ⟨h23,G⟩ | ⟨h23,G⟩
 refine Bi fun B=>?_
 exact⟨true,G,Av [(0,1),(1,2),(2,3)]⟩
 refine Aw ?_
 rcases Dj G with ⟨h25,G⟩ | ⟨h25,G⟩
 refine Bi fun B=>?_
 exact⟨true,G,Av [(0,1),(1,2),(2,3)]⟩
 refine Aw ?_
 rcases Dj G with ⟨h27,G⟩ | ⟨h27,G⟩
 refine Bi fun B=>?_
 exact⟨true,G,Av [(0,1),(1,2),(2,3)]⟩
 refine Aw ?_
 rcases Dj G with ⟨h29,G⟩ | ⟨h29,G⟩
 refine Bi fun B=>?_
 exact⟨true,G,Av [(0,1),(1,2),(2,3)]⟩
 refine Bi fun B=>?_
 exact⟨decide (y_5.1.Kind=10),G,Av [(0,1),(1,2),(2,3)]⟩
 rintro x106_2 G
 replace G:B1.j2 y_6 y_7 y_8 x106_2=some r:=G
 show B4 _ _ _ _ (mk _ _ _)
 unfold B1.j2 at G
 refine Cr rfl G (fun h32 G=>?_) fun h32 G=>?_
 refine Ca 3 19 Ay ?_
 obtain⟨y_11,hy_11,G⟩:=Ab G
 refine Dl (P9 _ hy_11) ?_
 exact Df
 refine C9 ?_
 refine Ak <| Bu (Ch _ _ []) (by kernel_rfl) [0,1,3,7,0,0,63,127,255,255,511,2047] 3 99 Ay rfl rfl (by kernel_rfl) ?_
 refine Aw ?_
 obtain⟨e_2,he_2,G⟩:=Ab G
 refine Aw ?_
 refine Wv he_2 ?_
 refine Aw ?_
 obtain⟨y_12,hy_12,G⟩:=Ab G
 refine Ki [2] [] [] true (Sw _ _ _ _ hy_12) ?_
 refine Bi fun B=>?_
 refine Ca 99 179 B ?_
 refine Aw ?_
 rcases Dj G with ⟨h35,G⟩ | ⟨h35,G⟩
 refine Aw ?_
 rcases Dj G with ⟨h36,G⟩ | ⟨h36,G⟩
 obtain⟨y_13,hy_13,G⟩:=Ab G
 refine Dl (P9 _ hy_13) ?_
 exact Df
 exact Df
 exact Df
end Go.Proofs.YtkoflhimdenjaaaGreat
