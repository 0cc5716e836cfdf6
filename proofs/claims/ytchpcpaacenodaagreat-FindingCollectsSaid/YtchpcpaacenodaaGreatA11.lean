import Derived.Test.YtchpcpaacenodaaGreatT1
import Derived.Test.YtchpcpaacenodaaGreatA1
import Derived.Test.YtchpcpaacenodaaGreatA2
import Derived.Test.YtchpcpaacenodaaGreatA6
import Derived.Test.YtchpcpaacenodaaGreatA7
import Derived.Test.YtchpcpaacenodaaGreatA10
set_option linter.unusedVariables false
set_option linter.unusedSimpArgs false
set_option maxRecDepth 100000
set_option maxHeartbeats 1600000
namespace Go.Proofs.YtchpcpaacenodaaGreat
open Go.RowKit
theorem R4 (at':Aa) (e:Av) (r:(List Aa)×Int) (G:Be at' e=some r):Fn Tryz.prog 16 0 [.agg (Aa.dv at'),.agg (Av.dv e)] [] (fun d' b'=>d'=.tup [.sl 11 (Aq Aa.enc r.1),vk r.2]/\b'=[]):=by
 unfold Be at G
 refine Fn.of Tryz.func16 rfl rfl rfl fun w0 I ρ0=>?_
 show B3 _ ⟨w0,I,ρ0,0,0,95⟩ _ _ _
 refine Bf 0 32 Ay fun B=>?_
 refine Cc 32 88 B ?_
 refine As ?_
 obtain⟨y,hy,G⟩:=Ab G
 refine F0 (rd:=[]) (ps:=[]) (gs:=[]) false rfl (Ly _ _ hy) rfl rfl (.cons (.agg (.cons .val (.cons .val (.cons .val (.cons .val (.cons .val (.cons .val (.cons .val (.cons .val (.cons .val (.cons .val (.cons .val .nil)))))))))))) .nil) rfl rfl (by intro h; cases h) rfl (by intro h; first | (cases h; done) | exact⟨_,_,⟨rfl,rfl⟩,by simp,by simp⟩) ?_
 rintro _ _ ⟨rfl,rfl⟩
 refine Bd fun B=>?_
 refine Bo (ι:=Int) (fun (errno_1:Int)=>mk [(3,.ptr 0 0),(6,.ptr 1 0),(7,vk errno_1)] [(0,.box (Av.dv e) 34),(1,.box [vk y.1.at_.Source,ws y.1.at_.Host,vk y.1.at_.Machine,vk y.1.at_.Day,vk y.1.at_.Confidence,vk y.1.at_.Kind,ws y.1.at_.Subject,vk y.1.at_.Use.Alg,vk y.1.at_.Use.Bits,vk y.1.at_.Number,ws y.1.at_.Text,.row 2] 82),(2,.row 30 11 (Aq Aa.enc y.1.l))] 3) (fun (errno_1:Int)=>Be.j1 e y errno_1=some r) ?_ ?_
 refine Bf 88 104 B fun B=>?_
 refine Cp rfl G (fun h4 G=>?_) fun h4 G=>?_
 refine Ak (B6 _ _ []) 104 128 B rfl rfl ?_
 refine As ?_
 obtain⟨y_2,hy_2,G⟩:=Ab G
 refine Dh (Xn _ _ hy_2) ?_
 refine Bd fun B=>?_
 exact⟨y_2,G,Ar [(0,8),(1,40),(2,41)]⟩
 refine C8 ?_
 exact⟨y.2,G,Ar [(0,8),(1,40),(2,41)]⟩
 rintro errno_1 G
 replace G:Be.j1 e y errno_1=some r:=G
 show B3 _ _ _ _ (mk _ _ _)
 unfold Be.j1 at G
 refine Aj <| Bf 3 19 Ay fun B=>?_
 refine Cp rfl G (fun h7 G=>?_) fun h7 G=>?_
 refine Cc 19 43 B ?_
 exact De
 refine C8 ?_
 refine Cc 19 59 B ?_
 refine As ?_
 refine Lq Hj Lc S6 ?_
 refine As ?_
 obtain⟨y_3,hy_3,G⟩:=Ab G
 refine F0 (rd:=[1,2]) (ps:=[1]) (gs:=[2]) false rfl (D9 _ _ _ _ _ hy_3) rfl rfl (.cons (.ptr rfl) (.cons .val (.cons (.agg (.cons .val (.cons .val .nil))) (.cons .val .nil)))) ⟨_,_,_,rfl,.head _,⟨_,rfl,(by repeat' (first | exact L2.nil | apply L2.cons | exact Ag.val | exact Ag.sl | exact Ag.nils | exact Ag.ptr rfl | exact Ag.rowK rfl))⟩,⟨_,_,_,rfl,.tail _ (.head _),rfl,rfl⟩⟩ rfl (by intro h; cases h) rfl (by intro h; first | (cases h; done) | exact⟨_,_,⟨rfl,rfl⟩,by simp,by simp⟩) ?_
 rintro _ _ ⟨rfl,rfl⟩
 refine Gh fun B=>?_
 refine Cc 59 99 B ?_
 refine As ?_
 refine Lq Hj Lc S6 ?_
 refine As ?_
 obtain⟨y_4,hy_4,G⟩:=Ab G
 refine F0 (rd:=[1,51]) (ps:=[1]) (gs:=[51]) false rfl (D9 _ _ _ _ _ hy_4) rfl rfl (.cons (.ptr rfl) (.cons .val (.cons (.agg (.cons .val (.cons .val .nil))) (.cons .val .nil)))) ⟨_,_,_,rfl,.head _,⟨_,rfl,(by repeat' (first | exact L2.nil | apply L2.cons | exact Ag.val | exact Ag.sl | exact Ag.nils | exact Ag.ptr rfl | exact Ag.rowK rfl))⟩,⟨_,_,_,rfl,.tail _ (.head _),rfl,rfl⟩⟩ rfl (by intro h; cases h) rfl (by intro h; first | (cases h; done) | exact⟨_,_,⟨rfl,rfl⟩,by simp,by simp⟩) ?_
 rintro _ _ ⟨rfl,rfl⟩
 refine Gh fun B=>?_
 refine Aj <| Bf 99 131 B fun B=>?_
 refine Ap <| Ji (fun ((x41_2,p_2,p_2_2,p_2_3,p_2_4,p_2_5,p_2_6,p_2_7,p_2_8,p_2_9,p_2_10,p_2_11,l_2):Int×Int×ByteArray×Int×Int×Int×Int×ByteArray×Int×Int×Int×ByteArray×List Aa)=>mk [(3,.ptr 0 0),(6,.ptr 1 0),(39,.sl 1 (Aq eI e.Suites)),(40,.val (.int .i64 (e.Suites.length:Int))),(41,vk x41_2)] [(0,.box (Av.dv e) 34),(1,.box [vk p_2,ws p_2_2,vk p_2_3,vk p_2_4,vk p_2_5,vk p_2_6,ws p_2_7,vk p_2_8,vk p_2_9,vk p_2_10,ws p_2_11,.row 2] 82),(2,.row 30 11 (Aq Aa.enc l_2))] 3) G (Ar [(0,0),(1,1),(2,91)]) ?_
 rintro⟨x41_2,p_2,p_2_2,p_2_3,p_2_4,p_2_5,p_2_6,p_2_7,p_2_8,p_2_9,p_2_10,p_2_11,l_2⟩ m2 o2 G hn2
 replace G:Be.l2 e x41_2 p_2 p_2_2 p_2_3 p_2_4 p_2_5 p_2_6 p_2_7 p_2_8 p_2_9 p_2_10 p_2_11 l_2=some o2:=G
 show B3 _ _ _ _ (mk _ _ _)
 unfold Be.l2 at G
 refine Bf 3 11 Ay fun B=>?_
 refine Aj <| Cp rfl G (fun h13 G=>?_) fun h13 G=>?_
 refine C8 ?_
 refine Aj <| Ap <| Cc 11 35 B ?_
 obtain⟨e_2,he_2,G⟩:=Ab G
 refine As ?_
 refine No he_2 ?_
 refine Bd fun B=>?_
 refine Ak (B6 _ _ []) 35 67 B rfl rfl ?_
 refine As ?_
 refine Lq Hj Lc S6 ?_
 refine As ?_
 obtain⟨y_5,hy_5,G⟩:=Ab G
 refine F0 (rd:=[1,2]) (ps:=[1]) (gs:=[2]) false rfl (D9 _ _ _ _ _ hy_5) rfl rfl (.cons (.ptr rfl) (.cons .val (.cons (.agg (.cons .val (.cons .val .nil))) (.cons .val .nil)))) ⟨_,_,_,rfl,.head _,⟨_,rfl,(by repeat' (first | exact L2.nil | apply L2.cons | exact Ag.val | exact Ag.sl | exact Ag.nils | exact Ag.ptr rfl | exact Ag.rowK rfl))⟩,⟨_,_,_,rfl,.tail _ (.head _),rfl,rfl⟩⟩ rfl (by intro h; cases h) rfl (by intro h; first | (cases h; done) | exact⟨_,_,⟨rfl,rfl⟩,by simp,by simp⟩) ?_
 rintro _ _ ⟨rfl,rfl⟩
 refine Gh fun B=>?_
 refine Ak (B6 _ _ []) 67 83 B rfl rfl ?_
 refine Bd fun B=>?_
 obtain rfl:=oi_ G
 exact⟨((W (x41_2 + 1),y_5.at_.Source,y_5.at_.Host,y_5.at_.Machine,y_5.at_.Day,y_5.at_.Confidence,y_5.at_.Kind,y_5.at_.Subject,y_5.at_.Use.Alg,y_5.at_.Use.Bits,y_5.at_.Number,y_5.at_.Text,y_5.l),m2),aCz _,hn2,Ar [(0,0),(1,1),(2,59)]⟩
 refine Je ?_
 replace G:=Cd G hn2
 refine Aj <| Bf 11 43 B fun B=>?_
 refine Ap <| Ji (fun ((x53_3,p_3,p_3_2,p_3_3,p_3_4,p_3_5,p_3_6,p_3_7,p_3_8,p_3_9,p_3_10,p_3_11,l_3):Int×Int×ByteArray×Int×Int×Int×Int×ByteArray×Int×Int×Int×ByteArray×List Aa)=>mk [(3,.ptr 0 0),(6,.ptr 1 0),(51,.sl 4 (Aq A9.enc e.Identities)),(52,.val (.int .i64 (e.Identities.length:Int))),(53,vk x53_3)] [(0,.box (Av.dv e) 34),(1,.box [vk p_3,ws p_3_2,vk p_3_3,vk p_3_4,vk p_3_5,vk p_3_6,ws p_3_7,vk p_3_8,vk p_3_9,vk p_3_10,ws p_3_11,.row 2] 82),(2,.row 30 11 (Aq Aa.enc l_3))] 3) G (Ar [(0,0),(1,1),(2,2)]) ?_
 rintro⟨x53_3,p_3,p_3_2,p_3_3,p_3_4,p_3_5,p_3_6,p_3_7,p_3_8,p_3_9,p_3_10,p_3_11,l_3⟩ m3 o3 G hn3
 replace G:Be.l3 e x53_3 p_3 p_3_2 p_3_3 p_3_4 p_3_5 p_3_6 p_3_7 p_3_8 p_3_9 p_3_10 p_3_11 l_3=some o3:=G
 show B3 _ _ _ _ (mk _ _ _)
 unfold Be.l3 at G
 refine Bf 3 11 Ay fun B=>?_
 refine Aj <| Cp rfl G (fun h19 G=>?_) fun h19 G=>?_
 refine C8 ?_
 refine Aj <| Ap <| Cc 11 43 B ?_
 obtain⟨e_3,he_3,G⟩:=Ab G
 refine As ?_
 refine gZ he_3 ?_
 refine Bd fun B=>?_
 refine Ak (B6 _ _ []) 43 91 B rfl rfl ?_
 refine As ?_
 obtain⟨y_6,hy_6,G⟩:=Ab G
 refine F0 (rd:=[1,2]) (ps:=[1]) (gs:=[2]) false rfl (D9 _ _ _ _ _ hy_6) rfl rfl (.cons (.ptr rfl) (.cons .val (.cons (.agg (.cons .val (.cons .val .nil))) (.cons .val .nil)))) ⟨_,_,_,rfl,.head _,⟨_,rfl,(by repeat' (first | exact L2.nil | apply L2.cons | exact Ag.val | exact Ag.sl | exact Ag.nils | exact Ag.ptr rfl | exact Ag.rowK rfl))⟩,⟨_,_,_,rfl,.tail _ (.head _),rfl,rfl⟩⟩ rfl (by intro h; cases h) rfl (by intro h; first | (cases h; done) | exact⟨_,_,⟨rfl,rfl⟩,by simp,by simp⟩) ?_
 rintro _ _ ⟨rfl,rfl⟩
 refine Gh fun B=>?_
 refine Ak (B6 _ _ []) 91 107 B rfl rfl ?_
 refine Bd fun B=>?_
 obtain rfl:=oi_ G
 exact⟨((W (x53_3 + 1),y_6.at_.Source,y_6.at_.Host,y_6.at_.Machine,y_6.at_.Day,y_6.at_.Confidence,y_6.at_.Kind,y_6.at_.Subject,y_6.at_.Use.Alg,y_6.at_.Use.Bits,y_6.at_.Number,y_6.at_.Text,y_6.l),m3),aCz _,hn3,Ar [(0,0),(1,1),(2,83)]⟩
 refine Je ?_
 replace G:=Cd G hn3
 refine Aj <| Bf 11 43 B fun B=>?_
 refine Ap <| Ji (fun ((x67_4,p_4,p_4_2,p_4_3,p_4_4,p_4_5,p_4_6,p_4_7,p_4_8,p_4_9,p_4_10,p_4_11,l_4):Int×Int×ByteArray×Int×Int×Int×Int×ByteArray×Int×Int×Int×ByteArray×List Aa)=>mk [(3,.ptr 0 0),(6,.ptr 1 0),(65,.sl 1 (Aq eI e.Anchors)),(66,.val (.int .i64 (e.Anchors.length:Int))),(67,vk x67_4)] [(0,.box (Av.dv e) 34),(1,.box [vk p_4,ws p_4_2,vk p_4_3,vk p_4_4,vk p_4_5,vk p_4_6,ws p_4_7,vk p_4_8,vk p_4_9,vk p_4_10,ws p_4_11,.row 2] 82),(2,.row 30 11 (Aq Aa.enc l_4))] 3) G (Ar [(0,0),(1,1),(2,2)]) ?_
 rintro⟨x67_4,p_4,p_4_2,p_4_3,p_4_4,p_4_5,p_4_6,p_4_7,p_4_8,p_4_9,p_4_10,p_4_11,l_4⟩ m4 o4 G hn4
 replace G:Be.l4 e x67_4 p_4 p_4_2 p_4_3 p_4_4 p_4_5 p_4_6 p_4_7 p_4_8 p_4_9 p_4_10 p_4_11 l_4=some o4:=G
 show B3 _ _ _ _ (mk _ _ _)
 unfold Be.l4 at G
 refine Bf 3 11 Ay fun B=>?_
 refine Aj <| Cp rfl G (fun h25 G=>?_) fun h25 G=>?_
 refine C8 ?_
 refine Aj <| Ap <| Cc 11 35 B ?_
 obtain⟨e_4,he_4,G⟩:=Ab G
 refine As ?_
 refine No he_4 ?_
 refine Bd fun B=>?_
 refine Ak (B6 _ _ []) 35 67 B rfl rfl ?_
 refine As ?_
 refine Lq Hj Lc S6 ?_
 refine As ?_
 obtain⟨y_7,hy_7,G⟩:=Ab G
 refine F0 (rd:=[1,2]) (ps:=[1]) (gs:=[2]) false rfl (D9 _ _ _ _ _ hy_7) rfl rfl (.cons (.ptr rfl) (.cons .val (.cons (.agg (.cons .val (.cons .val .nil))) (.cons .val .nil)))) ⟨_,_,_,rfl,.head _,⟨_,rfl,(by repeat' (first | exact L2.nil | apply L2.cons | exact Ag.val | exact Ag.sl | exact Ag.nils | exact Ag.ptr rfl | exact Ag.rowK rfl))⟩,⟨_,_,_,rfl,.tail _ (.head _),rfl,rfl⟩⟩ rfl (by intro h; cases h) rfl (by intro h; first | (cases h; done) | exact⟨_,_,⟨rfl,rfl⟩,by simp,by simp⟩) ?_
 rintro _ _ ⟨rfl,rfl⟩
 refine Gh fun B=>?_
 refine Ak (B6 _ _ []) 67 83 B rfl rfl ?_
 refine Bd fun B=>?_
 obtain rfl:=oi_ G
 exact⟨((W (x67_4 + 1),y_7.at_.Source,y_7.at_.Host,y_7.at_.Machine,y_7.at_.Day,y_7.at_.Confidence,y_7.at_.Kind,y_7.at_.Subject,y_7.at_.Use.Alg,y_7.at_.Use.Bits,y_7.at_.Number,y_7.at_.Text,y_7.l),m4),aCz _,hn4,Ar [(0,0),(1,1),(2,59)]⟩
 refine Je ?_
 replace G:=Cd G hn4
 refine Aj <| Bf 11 43 B fun B=>?_
 refine Ap <| Ji (fun ((x79_5,p_5,p_5_2,p_5_3,p_5_4,p_5_5,p_5_6,p_5_7,p_5_8,p_5_9,p_5_10,p_5_11,l_5):Int×Int×ByteArray×Int×Int×Int×Int×ByteArray×Int×Int×Int×ByteArray×List Aa)=>mk [(6,.ptr 0 0),(77,.sl 1 (Aq eI e.Hashes)),(78,.val (.int .i64 (e.Hashes.length:Int))),(79,vk x79_5)] [(0,.box [vk p_5,ws p_5_2,vk p_5_3,vk p_5_4,vk p_5_5,vk p_5_6,ws p_5_7,vk p_5_8,vk p_5_9,vk p_5_10,ws p_5_11,.row 1] 82),(1,.row 30 11 (Aq Aa.enc l_5))] 2) G (Ar [(0,1),(1,2)]) ?_
 rintro⟨x79_5,p_5,p_5_2,p_5_3,p_5_4,p_5_5,p_5_6,p_5_7,p_5_8,p_5_9,p_5_10,p_5_11,l_5⟩ m5 o5 G hn5
 replace G:Be.l5 e x79_5 p_5 p_5_2 p_5_3 p_5_4 p_5_5 p_5_6 p_5_7 p_5_8 p_5_9 p_5_10 p_5_11 l_5=some o5:=G
 show B3 _ _ _ _ (mk _ _ _)
 unfold Be.l5 at G
 refine Bf 2 10 Ay fun B=>?_
 refine Aj <| Cp rfl G (fun h31 G=>?_) fun h31 G=>?_
 refine C8 ?_
 refine Aj <| Ap <| Cc 10 34 B ?_
 obtain⟨e_5,he_5,G⟩:=Ab G
 refine As ?_
 refine No he_5 ?_
 refine Bd fun B=>?_
 refine Ak (B6 _ _ []) 34 66 B rfl rfl ?_
 refine As ?_
 refine Lq Hj Lc S6 ?_
 obtain⟨y_8,hy_8,G⟩:=Ab G
 refine F0 (rd:=[0,1]) (ps:=[0]) (gs:=[1]) false rfl (D9 _ _ _ _ _ hy_8) rfl rfl (.cons (.ptr rfl) (.cons .val (.cons (.agg (.cons .val (.cons .val .nil))) (.cons .val .nil)))) ⟨_,_,_,rfl,.head _,⟨_,rfl,(by repeat' (first | exact L2.nil | apply L2.cons | exact Ag.val | exact Ag.sl | exact Ag.nils | exact Ag.ptr rfl | exact Ag.rowK rfl))⟩,⟨_,_,_,rfl,.tail _ (.head _),rfl,rfl⟩⟩ rfl (by intro h; cases h) rfl (by intro h; first | (cases h; done) | exact⟨_,_,⟨rfl,rfl⟩,by simp,by simp⟩) ?_
 rintro _ _ ⟨rfl,rfl⟩
 refine Gh fun B=>?_
 refine Ak (B6 _ _ []) 66 82 B rfl rfl ?_
 refine Bd fun B=>?_
 obtain rfl:=oi_ G
 exact⟨((W (x79_5 + 1),y_8.at_.Source,y_8.at_.Host,y_8.at_.Machine,y_8.at_.Day,y_8.at_.Confidence,y_8.at_.Kind,y_8.at_.Subject,y_8.at_.Use.Alg,y_8.at_.Use.Bits,y_8.at_.Number,y_8.at_.Text,y_8.l),m5),aCz _,hn5,Ar [(0,0),(1,58)]⟩
 refine Je ?_
 replace G:=Cd G hn5
 refine Aj <| Fw (σ':=mk [(6,.ptr 0 0)] [(0,.box [vk p_5,ws p_5_2,vk p_5_3,vk p_5_4,vk p_5_5,vk p_5_6,ws p_5_7,vk p_5_8,vk p_5_9,vk p_5_10,ws p_5_11,.sl 11 (Aq Aa.enc l_5)] 82)] 1) (Ar [(0,0)]) ?_
 refine Ak (B6 _ _ []) 1 73 Ay rfl rfl ?_
 refine As ?_
 obtain⟨y_9,hy_9,G⟩:=Ab G
 refine Dh (Lx _ _ hy_9) ?_
 exact De
theorem Ve (f:Aa) (r:Int) (G:A1 f=some r):Fn Tryz.prog 71 0 [.agg (Aa.dv f)] [] (fun d' b'=>d'=vk r/\b'=[]):=by
 unfold A1 at G
 refine Fn.of Tryz.func71 rfl rfl rfl fun w0 I ρ0=>?_
 show B3 _ ⟨w0,I,ρ0,0,0,161⟩ _ _ _
 refine Bf 0 16 Ay fun B=>?_
 refine Aj <| Bo (ι:=Bool) (fun (x56_1:Bool)=>mk [(1,.ptr 0 0),(56,.val (.bool x56_1))] [(0,.box (Aa.dv f) 30)] 1) (fun (x56_1:Bool)=>A1.j1 f x56_1=some r) ?_ ?_
 refine Ak (B6 _ _ []) 16 416 B rfl rfl ?_
 refine As ?_
 rcases Dm G with ⟨h2,G⟩ | ⟨h2,G⟩
 refine Bd fun B=>?_
 exact⟨true,G,Ar [(0,0)]⟩
 refine As ?_
 rcases Dm G with ⟨h4,G⟩ | ⟨h4,G⟩
 refine Bd fun B=>?_
 exact⟨true,G,Ar [(0,0)]⟩
 refine As ?_
 obtain⟨y,hy,G⟩:=Ab G
 refine Dh (Jx _ _ hy) ?_
 refine As ?_
 rcases Dm G with ⟨h6,G⟩ | ⟨h6,G⟩
 refine Bd fun B=>?_
 exact⟨true,G,Ar [(0,0)]⟩
 refine As ?_
 rcases Dm G with ⟨h8,G⟩ | ⟨h8,G⟩
 refine Bd fun B=>?_
 exact⟨true,G,Ar [(0,0)]⟩
 refine As ?_
 rcases Dm G with ⟨h10,G⟩ | ⟨h10,G⟩
 refine Bd fun B=>?_
 exact⟨true,G,Ar [(0,0)]⟩
 refine As ?_
 rcases Dm G with ⟨h12,G⟩ | ⟨h12,G⟩
 refine Bd fun B=>?_
 exact⟨true,G,Ar [(0,0)]⟩
 refine As ?_
 rcases Dm G with ⟨h14,G⟩ | ⟨h14,G⟩
 refine Bd fun B=>?_
 exact⟨true,G,Ar [(0,0)]⟩
 refine As ?_
 rcases Dm G with ⟨h16,G⟩ | ⟨h16,G⟩
 refine Bd fun B=>?_
 exact⟨true,G,Ar [(0,0)]⟩
 refine As ?_
 rcases Dm G with ⟨h18,G⟩ | ⟨h18,G⟩
 refine Bd fun B=>?_
 exact⟨true,G,Ar [(0,0)]⟩
 refine As ?_
 obtain⟨y_2,hy_2,G⟩:=Ab G
 refine Dh (Jx _ _ hy_2) ?_
 refine Bd fun B=>?_
 exact⟨!y_2,G,Ar [(0,0)]⟩
 rintro x56_1 G
 replace G:A1.j1 f x56_1=some r:=G
 show B3 _ _ _ _ (mk _ _ _)
 unfold A1.j1 at G
 refine Cp rfl G (fun h21 G=>?_) fun h21 G=>?_
 refine Cc 1 9 Ay ?_
 exact De
 refine C8 ?_
 refine Aj <| Bn (B6 _ _ []) (by kernel_rfl) [0,1,0,7,0,16,48,0,128,384,15,1151,4095] 1 105 Ay rfl rfl (by kernel_rfl) ?_
 refine As ?_
 refine Lq Hj Lc S6 ?_
 refine C0 rfl rfl (O6 f.Use (Am.mk 0 0)) rfl rfl ?_
 refine Bd fun B=>?_
 refine Bf 105 113 B fun B=>?_
 refine Bo (ι:=Bool) (fun (ok_4:Bool)=>mk [(6,.val (.bool ok_4))] [] 0) (fun (ok_4:Bool)=>A1.j4 ok_4=some r) ?_ ?_
 refine Bf 113 129 B fun B=>?_
 refine Ap <| Bo (ι:=Bool) (fun (x69_2:Bool)=>mk [(1,.ptr 0 0),(3,.val (.bool (decide (f.Use=(Am.mk 0 0))))),(4,.val (.bool (decide (f.Number=0)))),(5,.val (.bool (decide (f.Text=(⟨#[]⟩:ByteArray))))),(6,.val (.bool false)),(68,vk f.Kind),(69,.val (.bool x69_2))] [(0,.box (Aa.dv f) 30)] 1) (fun (x69_2:Bool)=>A1.j2 f x69_2=some r) ?_ ?_
 refine Bf 129 145 B fun B=>?_
 refine Cp rfl G (fun h27 G=>?_) fun h27 G=>?_
 refine C8 ?_
 exact⟨decide (f.Kind=1),G,Ar [(0,0)]⟩
 refine Ak (B6 _ _ []) 145 161 B rfl rfl ?_
 refine Bd fun B=>?_
 exact⟨decide (f.Kind=8),G,Ar [(0,0)]⟩
 rintro x69_2 G
 replace G:A1.j2 f x69_2=some r:=G
 show B3 _ _ _ _ (mk _ _ _)
 unfold A1.j2 at G
 refine Cp rfl G (fun h29 G=>?_) fun h29 G=>?_
 refine Ak (B6 _ _ []) 1 81 Ay rfl rfl ?_
 refine As ?_
 obtain⟨y_3,hy_3,G⟩:=Ab G
 refine Dh (Mx _ _ hy_3) ?_
 refine As ?_
 rcases Dm G with ⟨h30,G⟩ | ⟨h30,G⟩
 refine As ?_
 rcases Dm G with ⟨h31,G⟩ | ⟨h31,G⟩
 refine Bd fun B=>?_
 exact⟨decide (f.Text=(⟨#[]⟩:ByteArray)),G,Ar []⟩
 refine Bd fun B=>?_
 exact⟨false,G,Ar []⟩
 refine Bd fun B=>?_
 exact⟨false,G,Ar []⟩
 refine Bf 1 17 Ay fun B=>?_
 refine Cp rfl G (fun h36 G=>?_) fun h36 G=>?_
 refine Ak (B6 _ _ []) 17 137 B rfl rfl ?_
 refine As ?_
 rcases Dm G with ⟨h37,G⟩ | ⟨h37,G⟩
 refine As ?_
 rcases Dm G with ⟨h38,G⟩ | ⟨h38,G⟩
 refine As ?_
 rcases Dm G with ⟨h39,G⟩ | ⟨h39,G⟩
 refine Bd fun B=>?_
 exact⟨decide (f.Text=(⟨#[]⟩:ByteArray)),G,Ar []⟩
 refine Bd fun B=>?_
 exact⟨false,G,Ar []⟩
 refine Bd fun B=>?_
 exact⟨false,G,Ar []⟩
 refine Bd fun B=>?_
 exact⟨false,G,Ar []⟩
 refine Bf 17 33 B fun B=>?_
 refine Cp rfl G (fun h45 G=>?_) fun h45 G=>?_
 refine Ak (B6 _ _ []) 33 169 B rfl rfl ?_
 refine As ?_
 obtain⟨y_4,hy_4,G⟩:=Ab G
 refine Dh (L8 _ _ hy_4) ?_
 refine As ?_
 rcases Dm G with ⟨h46,G⟩ | ⟨h46,G⟩
 refine As ?_
 rcases Dm G with ⟨h47,G⟩ | ⟨h47,G⟩
 refine As ?_
 rcases Dm G with ⟨h48,G⟩ | ⟨h48,G⟩
 refine Bd fun B=>?_
 exact⟨decide (f.Text=(⟨#[]⟩:ByteArray)),G,Ar []⟩
 refine Bd fun B=>?_
 exact⟨false,G,Ar []⟩
 refine Bd fun B=>?_
 exact⟨false,G,Ar []⟩
 refine Bd fun B=>?_
 exact⟨false,G,Ar []⟩
 refine Bo (ι:=Bool) (fun (x115_3:Bool)=>mk [(1,.ptr 0 0),(3,.val (.bool (decide (f.Use=(Am.mk 0 0))))),(4,.val (.bool (decide (f.Number=0)))),(5,.val (.bool (decide (f.Text=(⟨#[]⟩:ByteArray))))),(6,.val (.bool false)),(68,vk f.Kind),(115,.val (.bool x115_3))] [(0,.box (Aa.dv f) 30)] 1) (fun (x115_3:Bool)=>A1.j3 f x115_3=some r) ?_ ?_
 refine Bf 33 49 B fun B=>?_
 refine Cp rfl G (fun h54 G=>?_) fun h54 G=>?_
 refine C8 ?_
 exact⟨decide (f.Kind=4),G,Ar [(0,0)]⟩
 refine Ak (B6 _ _ []) 49 65 B rfl rfl ?_
 refine Bd fun B=>?_
 exact⟨decide (f.Kind=5),G,Ar [(0,0)]⟩
 rintro x115_3 G
 replace G:A1.j3 f x115_3=some r:=G
 show B3 _ _ _ _ (mk _ _ _)
 unfold A1.j3 at G
 refine Cp rfl G (fun h56 G=>?_) fun h56 G=>?_
 refine Ak (B6 _ _ []) 1 121 Ay rfl rfl ?_
 refine As ?_
 rcases Dm G with ⟨h57,G⟩ | ⟨h57,G⟩
 refine As ?_
 rcases Dm G with ⟨h58,G⟩ | ⟨h58,G⟩
 refine As ?_
 rcases Dm G with ⟨h59,G⟩ | ⟨h59,G⟩
 refine Bd fun B=>?_
 exact⟨decide (f.Text=(⟨#[]⟩:ByteArray)),G,Ar []⟩
 refine Bd fun B=>?_
 exact⟨false,G,Ar []⟩
 refine Bd fun B=>?_
 exact⟨false,G,Ar []⟩
 refine Bd fun B=>?_
 exact⟨false,G,Ar []⟩
 refine Bf 1 17 Ay fun B=>?_
 refine Cp rfl G (fun h65 G=>?_) fun h65 G=>?_
 refine Ak (B6 _ _ []) 17 137 B rfl rfl ?_
 refine As ?_
 rcases Dm G with ⟨h66,G⟩ | ⟨h66,G⟩
 refine As ?_
 rcases Dm G with ⟨h67,G⟩ | ⟨h67,G⟩
 refine As ?_
 rcases Dm G with ⟨h68,G⟩ | ⟨h68,G⟩
 refine Bd fun B=>?_
 exact⟨decide (f.Text=(⟨#[]⟩:ByteArray)),G,Ar []⟩
 refine Bd fun B=>?_
 exact⟨false,G,Ar []⟩
 refine Bd fun B=>?_
 exact⟨false,G,Ar []⟩
 refine Bd fun B=>?_
 exact⟨false,G,Ar []⟩
 refine Bf 17 33 B fun B=>?_
 refine Cp rfl G (fun h74 G=>?_) fun h74 G=>?_
 refine Ak (B6 _ _ []) 33 113 B rfl rfl ?_
 refine As ?_
 rcases Dm G with ⟨h75,G⟩ | ⟨h75,G⟩
 refine As ?_
 rcases Dm G with ⟨h76,G⟩ | ⟨h76,G⟩
 refine As ?_
 obtain⟨y_5,hy_5,G⟩:=Ab G
 refine Dh (Jx _ _ hy_5) ?_
 refine Bd fun B=>?_
 exact⟨y_5,G,Ar []⟩
 refine Bd fun B=>?_
 exact⟨false,G,Ar []⟩
 refine Bd fun B=>?_
 exact⟨false,G,Ar []⟩
 refine C8 ?_
 exact⟨false,G,Ar []⟩
 rintro ok_4 G
 replace G:A1.j4 ok_4=some r:=G
 show B3 _ _ _ _ (mk _ _ _)
 unfold A1.j4 at G
 refine Aj <| Bf 0 16 Ay fun B=>?_
 refine Cp rfl G (fun h81 G=>?_) fun h81 G=>?_
 refine Cc 16 24 B ?_
 exact De
 refine C8 ?_
 refine Bf 16 24 B fun B=>?_
 exact Lf
theorem Ny (at':Aa) (r:Aa×Int) (G:I3 at'=some r):Fn Tryz.prog 39 0 [.agg (Aa.dv at')] [] (fun d' b'=>d'=.tup [.agg (Aa.dv r.1),vk r.2]/\b'=[]):=by
 unfold I3 at G
 refine Fn.of Tryz.func39 rfl rfl rfl fun w0 I ρ0=>?_
 show B3 _ ⟨w0,I,ρ0,0,0,28⟩ _ _ _
 refine Bf 0 24 Ay fun B=>?_
 refine Cc 24 144 B ?_
 refine As ?_
 refine Lq P4 xB fD ?_
 refine Bd fun B=>?_
 refine Aj <| Cc 144 168 B ?_
 refine As ?_
 obtain⟨y,hy,G⟩:=Ab G
 refine Dh (Ve _ _ hy) ?_
 refine Bd fun B=>?_
 refine Bf 168 184 B fun B=>?_
 refine Cp rfl G (fun h5 G=>?_) fun h5 G=>?_
 refine Cc 184 216 B ?_
 refine Lq P4 xB fD ?_
 exact De
 refine C8 ?_
 refine Bf 184 216 B fun B=>?_
 refine Bf 216 240 B fun B=>?_
 exact Lf
theorem eQ (s:ByteArray) (r:Bool) (G:Bk s=some r):Fn Tryz.prog 72 0 [ws s] [] (fun d' b'=>d'=.val (.bool r)/\b'=[]):=by
 unfold Bk at G
 refine Fn.of Tryz.func72 rfl rfl rfl fun w0 I ρ0=>?_
 show B3 _ ⟨w0,I,ρ0,0,0,56⟩ _ _ _
 refine Bf 0 8 Ay fun B=>?_
 refine Aj <| Bo (ι:=Bool) (fun (x12_1:Bool)=>mk [(0,ws s),(12,.val (.bool x12_1))] [] 0) (fun (x12_1:Bool)=>Bk.j1 s x12_1=some r) ?_ ?_
 refine Ak (B6 _ _ []) 8 72 B rfl rfl ?_
 refine As ?_
 refine C0 rfl rfl (P9 Ti) rfl rfl ?_
 refine As ?_
 rcases Dm G with ⟨h2,G⟩ | ⟨h2,G⟩
 refine Bd fun B=>?_
 exact⟨true,G,Ar []⟩
 refine As ?_
 refine C0 (Eb rfl rfl h2) rfl (P9 Ti) rfl rfl ?_
 refine Bd fun B=>?_
 exact⟨decide (32 < (s.size:Int)),G,Ar []⟩
 rintro x12_1 G
 replace G:Bk.j1 s x12_1=some r:=G
 show B3 _ _ _ _ (mk _ _ _)
 unfold Bk.j1 at G
 refine Cp rfl G (fun h5 G=>?_) fun h5 G=>?_
 refine Cc 0 8 Ay ?_
 exact De
 refine C8 ?_
 refine Aj <| Bf 0 8 Ay fun B=>?_
 refine Ap <| Ji (fun (i_2:Int)=>mk [(0,ws s),(3,vk i_2)] [] 0) G (Ar []) ?_
 rintro i_2 m2 o2 G hn2
 replace G:Bk.l2 s i_2=some o2:=G
 show B3 _ _ _ _ (mk _ _ _)
 unfold Bk.l2 at G
 refine Aj <| Cc 0 32 Ay ?_
 refine As ?_
 refine C0 rfl rfl (P9 Ti) rfl rfl ?_
 refine Bd fun B=>?_
 refine Cp rfl G (fun h9 G=>?_) fun h9 G=>?_
 refine C8 ?_
 refine Aj <| Ap <| Cc 32 64 B ?_
 refine As ?_
 obtain⟨c,hc,G⟩:=Ab G
 refine C0 rfl rfl (gR Ti hc) rfl rfl ?_
 refine Bd fun B=>?_
 refine Bo (ι:=Bool) (fun (x55_3:Bool)=>mk [(0,ws s),(3,vk i_2),(55,.val (.bool x55_3))] [] 0) (fun (x55_3:Bool)=>Bk.j3 i_2 x55_3=some o2) ?_ ?_
 refine Ak (B6 _ _ []) 64 336 B rfl rfl ?_
 refine As ?_
 rcases Dm G with ⟨h11,G⟩ | ⟨h11,G⟩
 refine As ?_
 rcases Dm G with ⟨h12,G⟩ | ⟨h12,G⟩
 refine As ?_
 rcases Dm G with ⟨h13,G⟩ | ⟨h13,G⟩
 refine As ?_
 rcases Dm G with ⟨h14,G⟩ | ⟨h14,G⟩
 refine As ?_
 rcases Dm G with ⟨h15,G⟩ | ⟨h15,G⟩
 refine Bd fun B=>?_
 exact⟨!decide ((c.toNat:Int)=46),G,Ar []⟩
 refine Bd fun B=>?_
 exact⟨false,G,Ar []⟩
 refine Bd fun B=>?_
 exact⟨false,G,Ar []⟩
 refine As ?_
 rcases Dm G with ⟨h19,G⟩ | ⟨h19,G⟩
 refine As ?_
 rcases Dm G with ⟨h20,G⟩ | ⟨h20,G⟩
 refine As ?_
 rcases Dm G with ⟨h21,G⟩ | ⟨h21,G⟩
 refine Bd fun B=>?_
 exact⟨!decide ((c.toNat:Int)=46),G,Ar []⟩
 refine Bd fun B=>?_
 exact⟨false,G,Ar []⟩
 refine Bd fun B=>?_
 exact⟨false,G,Ar []⟩
 refine Bd fun B=>?_
 exact⟨false,G,Ar []⟩
 refine As ?_
 rcases Dm G with ⟨h26,G⟩ | ⟨h26,G⟩
 refine As ?_
 rcases Dm G with ⟨h27,G⟩ | ⟨h27,G⟩
 refine As ?_
 rcases Dm G with ⟨h28,G⟩ | ⟨h28,G⟩
 refine As ?_
 rcases Dm G with ⟨h29,G⟩ | ⟨h29,G⟩
 refine Bd fun B=>?_
 exact⟨!decide ((c.toNat:Int)=46),G,Ar []⟩
 refine Bd fun B=>?_
 exact⟨false,G,Ar []⟩
 refine Bd fun B=>?_
 exact⟨false,G,Ar []⟩
 refine As ?_
 rcases Dm G with ⟨h33,G⟩ | ⟨h33,G⟩
 refine As ?_
 rcases Dm G with ⟨h34,G⟩ | ⟨h34,G⟩
 refine As ?_
 rcases Dm G with ⟨h35,G⟩ | ⟨h35,G⟩
 refine Bd fun B=>?_
 exact⟨!decide ((c.toNat:Int)=46),G,Ar []⟩
 refine Bd fun B=>?_
 exact⟨false,G,Ar []⟩
 refine Bd fun B=>?_
 exact⟨false,G,Ar []⟩
 refine Bd fun B=>?_
 exact⟨false,G,Ar []⟩
 refine Bd fun B=>?_
 exact⟨false,G,Ar []⟩
 refine As ?_
 rcases Dm G with ⟨h41,G⟩ | ⟨h41,G⟩
 refine As ?_
 rcases Dm G with ⟨h42,G⟩ | ⟨h42,G⟩
 refine As ?_
 rcases Dm G with ⟨h43,G⟩ | ⟨h43,G⟩
 refine As ?_
 rcases Dm G with ⟨h44,G⟩ | ⟨h44,G⟩
 refine As ?_
 rcases Dm G with ⟨h45,G⟩ | ⟨h45,G⟩
 refine Bd fun B=>?_
 exact⟨!decide ((c.toNat:Int)=46),G,Ar []⟩
 refine Bd fun B=>?_
 exact⟨false,G,Ar []⟩
 refine Bd fun B=>?_
 exact⟨false,G,Ar []⟩
 refine As ?_
 rcases Dm G with ⟨h49,G⟩ | ⟨h49,G⟩
 refine As ?_
 rcases Dm G with ⟨h50,G⟩ | ⟨h50,G⟩
 refine As ?_
 rcases Dm G with ⟨h51,G⟩ | ⟨h51,G⟩
 refine Bd fun B=>?_
 exact⟨!decide ((c.toNat:Int)=46),G,Ar []⟩
 refine Bd fun B=>?_
 exact⟨false,G,Ar []⟩
 refine Bd fun B=>?_
 exact⟨false,G,Ar []⟩
 refine Bd fun B=>?_
 exact⟨false,G,Ar []⟩
 refine As ?_
 rcases Dm G with ⟨h56,G⟩ | ⟨h56,G⟩
 refine As ?_
 rcases Dm G with ⟨h57,G⟩ | ⟨h57,G⟩
 refine As ?_
 rcases Dm G with ⟨h58,G⟩ | ⟨h58,G⟩
 refine As ?_
 rcases Dm G with ⟨h59,G⟩ | ⟨h59,G⟩
 refine Bd fun B=>?_
 exact⟨!decide ((c.toNat:Int)=46),G,Ar []⟩
 refine Bd fun B=>?_
 exact⟨false,G,Ar []⟩
 refine Bd fun B=>?_
 exact⟨false,G,Ar []⟩
 refine As ?_
 rcases Dm G with ⟨h63,G⟩ | ⟨h63,G⟩
 refine As ?_
 rcases Dm G with ⟨h64,G⟩ | ⟨h64,G⟩
 refine As ?_
 rcases Dm G with ⟨h65,G⟩ | ⟨h65,G⟩
 refine Bd fun B=>?_
 exact⟨!decide ((c.toNat:Int)=46),G,Ar []⟩
 refine Bd fun B=>?_
 exact⟨false,G,Ar []⟩
 refine Bd fun B=>?_
 exact⟨false,G,Ar []⟩
 refine Bd fun B=>?_
 exact⟨false,G,Ar []⟩
 refine Bd fun B=>?_
 exact⟨false,G,Ar []⟩
 refine Bd fun B=>?_
 exact⟨false,G,Ar []⟩
 rintro x55_3 G
 replace G:Bk.j3 i_2 x55_3=some o2:=G
 show B3 _ _ _ _ (mk _ _ _)
 unfold Bk.j3 at G
 refine Cp rfl G (fun h72 G=>?_) fun h72 G=>?_
 refine Bf 0 8 Ay fun B=>?_
 refine E2 ?_
 replace G:=Cd G hn2
 exact Uq
 refine C8 ?_
 refine Ak (B6 _ _ []) 0 24 Ay rfl rfl ?_
 refine Bd fun B=>?_
 obtain rfl:=oi_ G
 exact⟨(W (i_2 + 1),m2),aCz _,hn2,Ar []⟩
 refine Je ?_
 replace G:=Cd G hn2
 refine Bf 32 40 B fun B=>?_
 exact Lf
end Go.Proofs.YtchpcpaacenodaaGreat
