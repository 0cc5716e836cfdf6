import Derived.Test.YtchpcpaacenodaaGreatT1
import Derived.Test.YtchpcpaacenodaaGreatA1
import Derived.Test.YtchpcpaacenodaaGreatA2
import Derived.Test.YtchpcpaacenodaaGreatA3
import Derived.Test.YtchpcpaacenodaaGreatA5
set_option linter.unusedVariables false
set_option linter.unusedSimpArgs false
set_option maxRecDepth 100000
set_option maxHeartbeats 1600000
namespace Go.Proofs.YtchpcpaacenodaaGreat
open Go.RowKit
theorem Lx (l:(List Aa)) (r:(List Aa)×Int) (G:Cg l=some r):Fn Tryz.prog 38 0 [.sl 11 (Aq Aa.enc l)] [] (fun d' b'=>d'=.tup [.sl 11 (Aq Aa.enc r.1),vk r.2]/\b'=[]):=by
 unfold Cg at G
 refine Fn.of Tryz.func38 rfl rfl rfl fun w0 I ρ0=>?_
 show B3 _ ⟨w0,I,ρ0,0,0,30⟩ _ _ _
 refine Bf 0 16 Ay fun B=>?_
 refine Aj <| Bf 16 40 B fun B=>?_
 refine Ap <| Ji (fun (x10_1:Int)=>mk [(0,.sl 11 (Aq Aa.enc l)),(8,.sl 11 (Aq Aa.enc l)),(9,.val (.int .i64 (l.length:Int))),(10,vk x10_1)] [] 0) G (Ar []) ?_
 rintro x10_1 m1 o1 G hn1
 replace G:Cg.l1 l x10_1=some o1:=G
 show B3 _ _ _ _ (mk _ _ _)
 unfold Cg.l1 at G
 refine Bf 0 8 Ay fun B=>?_
 refine Aj <| Cp rfl G (fun h4 G=>?_) fun h4 G=>?_
 refine C8 ?_
 refine Aj <| Ap <| Cc 8 40 B ?_
 obtain⟨e,he,G⟩:=Ab G
 refine As ?_
 refine gZ he ?_
 refine Bd fun B=>?_
 refine Cc 40 64 B ?_
 refine As ?_
 obtain⟨y,hy,G⟩:=Ab G
 refine Dh (Nl _ _ hy) ?_
 refine Bd fun B=>?_
 refine Bf 64 80 B fun B=>?_
 refine Cp rfl G (fun h8 G=>?_) fun h8 G=>?_
 refine Bf 80 104 B fun B=>?_
 refine E2 ?_
 replace G:=Cd G hn1
 exact Uq
 refine C8 ?_
 refine Ak (B6 _ _ []) 80 96 B rfl rfl ?_
 refine Bd fun B=>?_
 obtain rfl:=oi_ G
 exact⟨(W (x10_1 + 1),m1),aCz _,hn1,Ar []⟩
 refine Je ?_
 replace G:=Cd G hn1
 refine Cc 8 32 B ?_
 refine As ?_
 obtain⟨y_2,hy_2,G⟩:=Ab G
 refine F0 (rd:=[]) (ps:=[]) (gs:=[]) false rfl (Mo _ _ hy_2) rfl rfl (.cons .sl .nil) rfl rfl (by intro h; cases h) rfl (by intro h; first | (cases h; done) | exact⟨_,_,⟨rfl,rfl⟩,by simp,by simp⟩) ?_
 rintro _ _ ⟨rfl,rfl⟩
 refine Bd fun B=>?_
 refine Cc 32 48 B ?_
 refine As ?_
 obtain⟨y_3,hy_3,G⟩:=Ab G
 refine F9 [16] [16] [] false (Ko y_2 (fun x0 x1=>Hw x0 x1) (fun x0 x1 y h=>Y4 x0 x1 y h) _ hy_3) ?_
 refine Gh fun B=>?_
 refine Cc 48 72 B ?_
 refine As ?_
 obtain⟨y_4,hy_4,G⟩:=Ab G
 refine F0 (rd:=[16]) (ps:=[]) (gs:=[16]) false rfl (L6 _ _ hy_4) rfl rfl (.cons (.rowK rfl) .nil) ⟨_,_,_,rfl,.head _,rfl,rfl⟩ rfl (by intro h; cases h) rfl (by intro h; first | (cases h; done) | exact⟨_,_,⟨rfl,rfl⟩,by simp,by simp⟩) ?_
 rintro _ _ ⟨rfl,rfl⟩
 refine Bd fun B=>?_
 refine Aj <| Bf 72 96 B fun B=>?_
 refine Cp rfl G (fun h15 G=>?_) fun h15 G=>?_
 refine Cc 96 112 B ?_
 exact De
 refine C8 ?_
 refine Bf 96 120 B fun B=>?_
 exact Lf
theorem Nt (at':Aa) (l:(List Ax)) (r:(List Aa)×Int) (G:Ca at' l=some r):Fn Tryz.prog 18 0 [.agg (Aa.dv at'),.sl 6 (Aq Ax.enc l)] [] (fun d' b'=>d'=.tup [.sl 11 (Aq Aa.enc r.1),vk r.2]/\b'=[]):=by
 unfold Ca at G
 refine Fn.of Tryz.func18 rfl rfl rfl fun w0 I ρ0=>?_
 show B3 _ ⟨w0,I,ρ0,0,0,42⟩ _ _ _
 refine Bf 0 24 Ay fun B=>?_
 refine Cc 24 80 B ?_
 refine As ?_
 obtain⟨y,hy,G⟩:=Ab G
 refine F0 (rd:=[]) (ps:=[]) (gs:=[]) false rfl (Ly _ _ hy) rfl rfl (.cons (.agg (.cons .val (.cons .val (.cons .val (.cons .val (.cons .val (.cons .val (.cons .val (.cons .val (.cons .val (.cons .val (.cons .val .nil)))))))))))) .nil) rfl rfl (by intro h; cases h) rfl (by intro h; first | (cases h; done) | exact⟨_,_,⟨rfl,rfl⟩,by simp,by simp⟩) ?_
 rintro _ _ ⟨rfl,rfl⟩
 refine Bd fun B=>?_
 refine Bo (ι:=Int) (fun (errno_1:Int)=>mk [(1,.sl 6 (Aq Ax.enc l)),(6,.ptr 0 0),(7,vk errno_1)] [(0,.box [vk y.1.at_.Source,ws y.1.at_.Host,vk y.1.at_.Machine,vk y.1.at_.Day,vk y.1.at_.Confidence,vk y.1.at_.Kind,ws y.1.at_.Subject,vk y.1.at_.Use.Alg,vk y.1.at_.Use.Bits,vk y.1.at_.Number,ws y.1.at_.Text,.row 1] 82),(1,.row 30 11 (Aq Aa.enc y.1.l))] 2) (fun (errno_1:Int)=>Ca.j1 l y errno_1=some r) ?_ ?_
 refine Bf 80 96 B fun B=>?_
 refine Cp rfl G (fun h4 G=>?_) fun h4 G=>?_
 refine Ak (B6 _ _ []) 96 120 B rfl rfl ?_
 refine As ?_
 obtain⟨y_2,hy_2,G⟩:=Ab G
 refine Dh (Xy _ _ hy_2) ?_
 refine Bd fun B=>?_
 exact⟨y_2,G,Ar [(0,32),(1,33)]⟩
 refine C8 ?_
 exact⟨y.2,G,Ar [(0,32),(1,33)]⟩
 rintro errno_1 G
 replace G:Ca.j1 l y errno_1=some r:=G
 show B3 _ _ _ _ (mk _ _ _)
 unfold Ca.j1 at G
 refine Aj <| Bf 2 18 Ay fun B=>?_
 refine Cp rfl G (fun h7 G=>?_) fun h7 G=>?_
 refine Cc 18 42 B ?_
 exact De
 refine C8 ?_
 refine Aj <| Bf 18 42 B fun B=>?_
 refine Ap <| Ji (fun ((x24_2,p_2,p_2_2,p_2_3,p_2_4,p_2_5,p_2_6,p_2_7,p_2_8,p_2_9,p_2_10,p_2_11,l_2):Int×Int×ByteArray×Int×Int×Int×Int×ByteArray×Int×Int×Int×ByteArray×List Aa)=>mk [(6,.ptr 0 0),(22,.sl 6 (Aq Ax.enc l)),(23,.val (.int .i64 (l.length:Int))),(24,vk x24_2)] [(0,.box [vk p_2,ws p_2_2,vk p_2_3,vk p_2_4,vk p_2_5,vk p_2_6,ws p_2_7,vk p_2_8,vk p_2_9,vk p_2_10,ws p_2_11,.row 1] 82),(1,.row 30 11 (Aq Aa.enc l_2))] 2) G (Ar [(0,0),(1,1)]) ?_
 rintro⟨x24_2,p_2,p_2_2,p_2_3,p_2_4,p_2_5,p_2_6,p_2_7,p_2_8,p_2_9,p_2_10,p_2_11,l_2⟩ m2 o2 G hn2
 replace G:Ca.l2 l x24_2 p_2 p_2_2 p_2_3 p_2_4 p_2_5 p_2_6 p_2_7 p_2_8 p_2_9 p_2_10 p_2_11 l_2=some o2:=G
 show B3 _ _ _ _ (mk _ _ _)
 unfold Ca.l2 at G
 refine Bf 2 10 Ay fun B=>?_
 refine Aj <| Cp rfl G (fun h11 G=>?_) fun h11 G=>?_
 refine C8 ?_
 refine Aj <| Ap <| Cc 10 42 B ?_
 obtain⟨e,he,G⟩:=Ab G
 refine As ?_
 refine gZ he ?_
 refine Bd fun B=>?_
 refine Ak (B6 _ _ []) 42 90 B rfl rfl ?_
 refine As ?_
 obtain⟨y_3,hy_3,G⟩:=Ab G
 refine F0 (rd:=[0,1]) (ps:=[0]) (gs:=[1]) false rfl (D9 _ _ _ _ _ hy_3) rfl rfl (.cons (.ptr rfl) (.cons .val (.cons (.agg (.cons .val (.cons .val .nil))) (.cons .val .nil)))) ⟨_,_,_,rfl,.head _,⟨_,rfl,(by repeat' (first | exact L2.nil | apply L2.cons | exact Ag.val | exact Ag.sl | exact Ag.nils | exact Ag.ptr rfl | exact Ag.rowK rfl))⟩,⟨_,_,_,rfl,.tail _ (.head _),rfl,rfl⟩⟩ rfl (by intro h; cases h) rfl (by intro h; first | (cases h; done) | exact⟨_,_,⟨rfl,rfl⟩,by simp,by simp⟩) ?_
 rintro _ _ ⟨rfl,rfl⟩
 refine Gh fun B=>?_
 refine Ak (B6 _ _ []) 90 106 B rfl rfl ?_
 refine Bd fun B=>?_
 obtain rfl:=oi_ G
 exact⟨((W (x24_2 + 1),y_3.at_.Source,y_3.at_.Host,y_3.at_.Machine,y_3.at_.Day,y_3.at_.Confidence,y_3.at_.Kind,y_3.at_.Subject,y_3.at_.Use.Alg,y_3.at_.Use.Bits,y_3.at_.Number,y_3.at_.Text,y_3.l),m2),aCz _,hn2,Ar [(0,0),(1,82)]⟩
 refine Je ?_
 replace G:=Cd G hn2
 refine Aj <| Fw (σ':=mk [(6,.ptr 0 0)] [(0,.box [vk p_2,ws p_2_2,vk p_2_3,vk p_2_4,vk p_2_5,vk p_2_6,ws p_2_7,vk p_2_8,vk p_2_9,vk p_2_10,ws p_2_11,.sl 11 (Aq Aa.enc l_2)] 82)] 1) (Ar [(0,0)]) ?_
 refine Ak (B6 _ _ []) 1 73 Ay rfl rfl ?_
 refine As ?_
 obtain⟨y_4,hy_4,G⟩:=Ab G
 refine Dh (Lx _ _ hy_4) ?_
 exact De
theorem Vg  (r:Bool) (G:J8=some r):Fn Tryz.prog 5 0 [] [] (fun d' b'=>d'=.val (.bool r)/\b'=[]):=by
 unfold J8 at G
 refine Fn.of Tryz.func5 rfl rfl rfl fun w0 I ρ0=>?_
 show B3 _ ⟨w0,I,ρ0,0,0,45⟩ _ _ _
 refine Bf 0 8 Ay fun B=>?_
 refine Cc 8 32 B ?_
 refine Lq Hj Lc S6 ?_
 refine Bd fun B=>?_
 refine Cc 32 56 B ?_
 refine Lq P4 xB fD ?_
 refine Bd fun B=>?_
 refine Aj <| Ak (B6 _ _ [96]) 56 152 B rfl rfl ?_
 refine As ?_
 refine Lq aQ aA9 z50 ?_
 refine As ?_
 refine Lq aQ aA9 z50 ?_
 refine Ou yO z50 aFe ([(Ax.mk (⟨#[120]⟩:ByteArray) (Am.mk 5 2048) 7 false ([]:(List Af))),(Ax.mk (⟨#[121]⟩:ByteArray) (Am.mk 5 2048) 7 false ([]:(List Af)))]:List Ax) Ax.enc ?_
 obtain⟨y,hy,G⟩:=Ab G
 refine Dh (Nt _ _ _ hy) ?_
 refine Bd fun B=>?_
 refine Cc 152 384 B ?_
 refine As ?_
 rcases Dm G with ⟨h5,G⟩ | ⟨h5,G⟩
 refine As ?_
 rcases Dm G with ⟨h6,G⟩ | ⟨h6,G⟩
 refine As ?_
 obtain⟨e,he,G⟩:=Ab G
 refine As ?_
 refine C0 (Eb rfl rfl h6) rfl (Fo rW Yl (by decide) (H4 Aa.enc_len (Bq he) (o:=9) (by decide) rfl)) rfl rfl ?_
 refine C0 (Eb rfl rfl h6) rfl (Do Yl (Ew Aa.enc_len (Bq he) (o:=9) (c:=.int .i64 e.Number) rfl rfl)) rfl rfl ?_
 refine As ?_
 rcases Dm G with ⟨h7,G⟩ | ⟨h7,G⟩
 refine As ?_
 refine C0 (Eb rfl rfl h7) rfl (Fo tF Yl (by decide) (H4 Aa.enc_len (Bq he) (o:=5) (by decide) rfl)) rfl rfl ?_
 refine C0 (Eb rfl rfl h7) rfl (Do Yl (Ew Aa.enc_len (Bq he) (o:=5) (c:=.int .i64 e.Kind) rfl rfl)) rfl rfl ?_
 refine As ?_
 rcases Dm G with ⟨h8,G⟩ | ⟨h8,G⟩
 refine As ?_
 refine gZ he ?_
 obtain⟨y_2,hy_2,G⟩:=Ab G
 refine Dh (Nl _ _ hy_2) ?_
 exact De
 exact De
 exact De
 exact De
 exact De
theorem iF (l:(List Int)) (r:Ac) (G:Pz l=some r):Fn Tryz.prog 6 0 [.sl 1 (Aq eI l)] [] (fun d' b'=>d'=.ptr 0 0/\b'=[.box [.sl 1 (Aq eI r.L),vk r.At] 62]):=by
 unfold Pz at G
 refine Fn.of Tryz.func6 rfl rfl rfl fun w0 I ρ0=>?_
 show B3 _ ⟨w0,I,ρ0,0,0,6⟩ _ _ _
 refine Bf 0 8 Ay fun B=>?_
 refine Cc 8 40 B ?_
 refine As ?_
 refine Lq rT aG5 z62 ?_
 refine Bd fun B=>?_
 refine E2 ?_
 obtain rfl:=oi_ G
 exact Gg [(0,24)] ⟨rfl,rfl⟩
theorem kW (n:Int) (k:Int) (r:Int) (G:Pc n k=some r):Fn Tryz.prog 32 0 [vk n,vk k] [] (fun d' b'=>d'=vk r/\b'=[]):=by
 unfold Pc at G
 refine Fn.of Tryz.func32 rfl rfl rfl fun w0 I ρ0=>?_
 show B3 _ ⟨w0,I,ρ0,0,0,14⟩ _ _ _
 refine Bf 0 8 Ay fun B=>?_
 refine Aj <| Bf 8 24 B fun B=>?_
 refine Cp rfl G (fun h3 G=>?_) fun h3 G=>?_
 refine Cc 24 32 B ?_
 exact De
 refine C8 ?_
 refine Cc 24 88 B ?_
 refine As ?_
 obtain⟨q,hq,G⟩:=Ab G
 refine C0 rfl rfl (jS hq) rfl rfl ?_
 refine As ?_
 obtain⟨q_2,hq_2,G⟩:=Ab G
 refine C0 rfl rfl (jS hq_2) rfl rfl ?_
 exact De
theorem B5 (d:Ac) (n:Int) (r:Int×Ac) (G:Bv d n=some r):Fn Tryz.prog 11 1 [.ptr 0 0,vk n] [.box [.sl 1 (Aq eI d.L),vk d.At] 62] (fun d' b'=>d'=vk r.1/\b'=[.box [.sl 1 (Aq eI r.2.L),vk r.2.At] 62]):=by
 unfold Bv at G
 refine Fn.of Tryz.func11 rfl rfl rfl fun w0 I ρ0=>?_
 show B3 _ ⟨w0,I,ρ0,1,1,35⟩ _ _ _
 refine Bf 1 9 Ay fun B=>?_
 refine Aj <| Aj <| Bn (B6 _ _ []) (by kernel_rfl) [0,1,3,7,0,16,48,112,240,511] 9 89 B rfl rfl (by kernel_rfl) ?_
 refine Bd fun B=>?_
 refine Cp rfl G (fun h3 G=>?_) fun h3 G=>?_
 refine Bf 89 97 B fun B=>?_
 refine E2 ?_
 obtain rfl:=oi_ G
 exact Gg [(0,0)] ⟨rfl,rfl⟩
 refine C8 ?_
 refine Bf 89 153 B fun B=>?_
 refine Aj <| Bn (B6 _ _ []) (by kernel_rfl) [0,1,3,7,0,16,48,112,240,511,1023,0,4095,8191] 153 265 B rfl rfl (by kernel_rfl) ?_
 refine As ?_
 obtain⟨e,he,G⟩:=Ab G
 refine As ?_
 refine No he ?_
 refine As ?_
 obtain⟨y,hy,G⟩:=Ab G
 refine Dh (kW _ _ _ hy) ?_
 refine Bd fun B=>?_
 refine E2 ?_
 obtain rfl:=oi_ G
 exact Gg [(0,0)] ⟨rfl,rfl⟩
theorem Ig (d:Ac) (l:(List ByteArray)) (r:ByteArray×Ac) (G:Ff d l=some r):Fn Tryz.prog 26 1 [.ptr 0 0,.sl 1 (Aq eS l)] [.box [.sl 1 (Aq eI d.L),vk d.At] 62] (fun d' b'=>d'=ws r.1/\b'=[.box [.sl 1 (Aq eI r.2.L),vk r.2.At] 62]):=by
 unfold Ff at G
 refine Fn.of Tryz.func26 rfl rfl rfl fun w0 I ρ0=>?_
 show B3 _ ⟨w0,I,ρ0,1,1,12⟩ _ _ _
 refine Bf 1 9 Ay fun B=>?_
 refine Cc 9 73 B ?_
 refine As ?_
 obtain⟨y,hy,G⟩:=Ab G
 refine F9 [0] [0] [] false (B5 _ _ _ hy) ?_
 obtain⟨e,he,G⟩:=Ab G
 refine As ?_
 refine No he ?_
 refine Bd fun B=>?_
 refine E2 ?_
 obtain rfl:=oi_ G
 exact Gg [(0,0)] ⟨rfl,rfl⟩
theorem B4 (d:Ac) (l:(List Int)) (r:Int×Ac) (G:Bs d l=some r):Fn Tryz.prog 14 1 [.ptr 0 0,.sl 1 (Aq eI l)] [.box [.sl 1 (Aq eI d.L),vk d.At] 62] (fun d' b'=>d'=vk r.1/\b'=[.box [.sl 1 (Aq eI r.2.L),vk r.2.At] 62]):=by
 unfold Bs at G
 refine Fn.of Tryz.func14 rfl rfl rfl fun w0 I ρ0=>?_
 show B3 _ ⟨w0,I,ρ0,1,1,12⟩ _ _ _
 refine Bf 1 9 Ay fun B=>?_
 refine Cc 9 73 B ?_
 refine As ?_
 obtain⟨y,hy,G⟩:=Ab G
 refine F9 [0] [0] [] false (B5 _ _ _ hy) ?_
 obtain⟨e,he,G⟩:=Ab G
 refine As ?_
 refine No he ?_
 refine Bd fun B=>?_
 refine E2 ?_
 obtain rfl:=oi_ G
 exact Gg [(0,0)] ⟨rfl,rfl⟩
theorem Ua (d:Ac) (r:Aa×Ac) (G:B0 d=some r):Fn Tryz.prog 7 1 [.ptr 0 0] [.box [.sl 1 (Aq eI d.L),vk d.At] 62] (fun d' b'=>d'=.agg (Aa.dv r.1)/\b'=[.box [.sl 1 (Aq eI r.2.L),vk r.2.At] 62]):=by
 unfold B0 at G
 refine Fn.of Tryz.func7 rfl rfl rfl fun w0 I ρ0=>?_
 show B3 _ ⟨w0,I,ρ0,1,1,76⟩ _ _ _
 refine Bf 1 9 Ay fun B=>?_
 refine Aj <| Ak (B6 _ _ [41,65,105,153]) 9 193 B rfl rfl ?_
 refine As ?_
 obtain⟨y,hy,G⟩:=Ab G
 refine F9 [0] [0] [] false (B5 _ _ _ hy) ?_
 refine As ?_
 refine Ou Xc z9 qY ([(⟨#[97]⟩:ByteArray),(⟨#[98]⟩:ByteArray),(⟨#[99]⟩:ByteArray)]:List ByteArray) eS ?_
 obtain⟨y_2,hy_2,G⟩:=Ab G
 refine F9 [0] [0] [] false (Ig _ _ _ hy_2) ?_
 refine As ?_
 refine Ou Ee z3 I1 ([0,1,2,0,3]:List Int) eI ?_
 obtain⟨y_3,hy_3,G⟩:=Ab G
 refine F9 [0] [0] [] false (B4 _ _ _ hy_3) ?_
 refine As ?_
 obtain⟨y_4,hy_4,G⟩:=Ab G
 refine F9 [0] [0] [] false (B5 _ _ _ hy_4) ?_
 refine As ?_
 refine Ou Ee z3 I1 ([90,50,100,1]:List Int) eI ?_
 obtain⟨y_5,hy_5,G⟩:=Ab G
 refine F9 [0] [0] [] false (B4 _ _ _ hy_5) ?_
 refine As ?_
 obtain⟨y_6,hy_6,G⟩:=Ab G
 refine F9 [0] [0] [] false (B5 _ _ _ hy_6) ?_
 refine As ?_
 refine Ou Xc z9 qY ([(⟨#[115]⟩:ByteArray),(⟨#[116]⟩:ByteArray)]:List ByteArray) eS ?_
 obtain⟨y_7,hy_7,G⟩:=Ab G
 refine F9 [0] [0] [] false (Ig _ _ _ hy_7) ?_
 refine Lq P4 xB fD ?_
 refine Bd fun B=>?_
 refine Bo (ι:=Ac×Aa) (fun ((b_3,f_3):Ac×Aa)=>mk [(2,.ptr 1 0),(3,.ptr 2 0)] [(0,.box [.sl 1 (Aq eI b_3.L),vk b_3.At] 62),(1,.box [.val (.int .i64 0),.val (.string (⟨#[]⟩:ByteArray)),.val (.int .i64 0),.val (.int .i64 0),.val (.int .i64 0),.val (.int .i64 0),.val (.string (⟨#[]⟩:ByteArray)),.val (.int .i64 0),.val (.int .i64 0),.val (.int .i64 0),.val (.string (⟨#[]⟩:ByteArray))] 30),(2,.box (Aa.dv f_3) 30)] 3) (fun ((b_3,f_3):Ac×Aa)=>B0.j3 b_3 f_3=some r) ?_ ?_
 refine Bf 193 209 B fun B=>?_
 refine Ap <| Bo (ι:=Bool) (fun (x27_1:Bool)=>mk [(0,.ptr 0 0),(2,.ptr 1 0),(3,.ptr 2 0),(26,.val (.int .i64 (W (1 + y_6.1)))),(27,.val (.bool x27_1))] [(0,.box [.sl 1 (Aq eI y_7.2.L),vk y_7.2.At] 62),(1,.box [.val (.int .i64 0),.val (.string (⟨#[]⟩:ByteArray)),.val (.int .i64 0),.val (.int .i64 0),.val (.int .i64 0),.val (.int .i64 0),.val (.string (⟨#[]⟩:ByteArray)),.val (.int .i64 0),.val (.int .i64 0),.val (.int .i64 0),.val (.string (⟨#[]⟩:ByteArray))] 30),(2,.box [.val (.int .i64 (W (1 + y.1))),ws y_2.1,vk y_3.1,vk y_4.1,vk y_5.1,.val (.int .i64 (W (1 + y_6.1))),ws y_7.1,.val (.int .i64 0),.val (.int .i64 0),.val (.int .i64 0),.val (.string (⟨#[]⟩:ByteArray))] 30)] 3) (fun (x27_1:Bool)=>B0.j1 y y_2 y_3 y_4 y_5 y_6 y_7 x27_1=some r) ?_ ?_
 refine Bf 209 225 B fun B=>?_
 refine Cp rfl G (fun h5 G=>?_) fun h5 G=>?_
 refine C8 ?_
 exact⟨decide ((W (1 + y_6.1))=1),G,Ar [(0,0),(1,1),(2,177)]⟩
 refine Ak (B6 _ _ []) 225 241 B rfl rfl ?_
 refine Bd fun B=>?_
 exact⟨decide ((W (1 + y_6.1))=8),G,Ar [(0,0),(1,1),(2,177)]⟩
 rintro x27_1 G
 replace G:B0.j1 y y_2 y_3 y_4 y_5 y_6 y_7 x27_1=some r:=G
 show B3 _ _ _ _ (mk _ _ _)
 unfold B0.j1 at G
 refine Cp rfl G (fun h7 G=>?_) fun h7 G=>?_
 refine Ak (B6 _ _ []) 3 91 Ay rfl rfl ?_
 refine Lq Hj Lc S6 ?_
 refine Lq Hj Lc S6 ?_
 refine Lq Hj Lc S6 ?_
 refine Lq Hj Lc S6 ?_
 refine I8 pG S6 aAt ([(Am.mk 1 0),(Am.mk 2 0),(Am.mk 5 1024),(Am.mk 14 128)]:List Am) Am.enc ?_
 refine As ?_
 obtain⟨y_8,hy_8,G⟩:=Ab G
 refine F9 [0] [0] [] false (B5 _ _ _ hy_8) ?_
 obtain⟨e,he,G⟩:=Ab G
 refine As ?_
 refine Ln he ?_
 refine Bd fun B=>?_
 exact⟨(y_8.2,(Aa.mk (W (1 + y.1)) y_2.1 y_3.1 y_4.1 y_5.1 (W (1 + y_6.1)) y_7.1 e 0 (⟨#[]⟩:ByteArray))),G,Ar [(0,0),(1,1),(2,2)]⟩
 refine Bf 3 19 Ay fun B=>?_
 refine Cp rfl G (fun h10 G=>?_) fun h10 G=>?_
 refine Ak (B6 _ _ []) 19 59 B rfl rfl ?_
 refine As ?_
 obtain⟨y_9,hy_9,G⟩:=Ab G
 refine F9 [0] [0] [] false (B5 _ _ _ hy_9) ?_
 refine Bd fun B=>?_
 exact⟨(y_9.2,(Aa.mk (W (1 + y.1)) y_2.1 y_3.1 y_4.1 y_5.1 (W (1 + y_6.1)) y_7.1 (Am.mk 0 0) (W (1 + y_9.1)) (⟨#[]⟩:ByteArray))),G,Ar [(0,0),(1,1),(2,2)]⟩
 refine Bf 19 35 B fun B=>?_
 refine Cp rfl G (fun h13 G=>?_) fun h13 G=>?_
 refine Ak (B6 _ _ [43]) 35 123 B rfl rfl ?_
 refine As ?_
 refine Ou Ee z3 I1 ([1024,2048]:List Int) eI ?_
 obtain⟨y_10,hy_10,G⟩:=Ab G
 refine F9 [0] [0] [] false (B4 _ _ _ hy_10) ?_
 refine Lq Hj Lc S6 ?_
 refine As ?_
 obtain⟨y_11,hy_11,G⟩:=Ab G
 refine F9 [0] [0] [] false (B5 _ _ _ hy_11) ?_
 refine Bd fun B=>?_
 exact⟨(y_11.2,(Aa.mk (W (1 + y.1)) y_2.1 y_3.1 y_4.1 y_5.1 (W (1 + y_6.1)) y_7.1 (Am.mk 5 y_10.1) (W (100 + y_11.1)) (⟨#[]⟩:ByteArray))),G,Ar [(0,0),(1,1),(2,2)]⟩
 refine Bo (ι:=Bool) (fun (x57_2:Bool)=>mk [(0,.ptr 0 0),(2,.ptr 1 0),(3,.ptr 2 0),(26,.val (.int .i64 (W (1 + y_6.1)))),(57,.val (.bool x57_2))] [(0,.box [.sl 1 (Aq eI y_7.2.L),vk y_7.2.At] 62),(1,.box [.val (.int .i64 0),.val (.string (⟨#[]⟩:ByteArray)),.val (.int .i64 0),.val (.int .i64 0),.val (.int .i64 0),.val (.int .i64 0),.val (.string (⟨#[]⟩:ByteArray)),.val (.int .i64 0),.val (.int .i64 0),.val (.int .i64 0),.val (.string (⟨#[]⟩:ByteArray))] 30),(2,.box [.val (.int .i64 (W (1 + y.1))),ws y_2.1,vk y_3.1,vk y_4.1,vk y_5.1,.val (.int .i64 (W (1 + y_6.1))),ws y_7.1,.val (.int .i64 0),.val (.int .i64 0),.val (.int .i64 0),.val (.string (⟨#[]⟩:ByteArray))] 30)] 3) (fun (x57_2:Bool)=>B0.j2 y y_2 y_3 y_4 y_5 y_6 y_7 x57_2=some r) ?_ ?_
 refine Bf 35 51 B fun B=>?_
 refine Cp rfl G (fun h16 G=>?_) fun h16 G=>?_
 refine C8 ?_
 exact⟨decide ((W (1 + y_6.1))=4),G,Ar [(0,0),(1,1),(2,2)]⟩
 refine Ak (B6 _ _ []) 51 67 B rfl rfl ?_
 refine Bd fun B=>?_
 exact⟨decide ((W (1 + y_6.1))=5),G,Ar [(0,0),(1,1),(2,2)]⟩
 rintro x57_2 G
 replace G:B0.j2 y y_2 y_3 y_4 y_5 y_6 y_7 x57_2=some r:=G
 show B3 _ _ _ _ (mk _ _ _)
 unfold B0.j2 at G
 refine Cp rfl G (fun h18 G=>?_) fun h18 G=>?_
 refine Ak (B6 _ _ []) 3 43 Ay rfl rfl ?_
 refine As ?_
 obtain⟨y_12,hy_12,G⟩:=Ab G
 refine F9 [0] [0] [] false (B5 _ _ _ hy_12) ?_
 refine Bd fun B=>?_
 exact⟨(y_12.2,(Aa.mk (W (1 + y.1)) y_2.1 y_3.1 y_4.1 y_5.1 (W (1 + y_6.1)) y_7.1 (Am.mk 0 0) (W (1 + y_12.1)) (⟨#[]⟩:ByteArray))),G,Ar [(0,0),(1,1),(2,2)]⟩
 refine Bf 3 19 Ay fun B=>?_
 refine Cp rfl G (fun h21 G=>?_) fun h21 G=>?_
 refine Ak (B6 _ _ []) 19 51 B rfl rfl ?_
 refine As ?_
 obtain⟨y_13,hy_13,G⟩:=Ab G
 refine F9 [0] [0] [] false (B5 _ _ _ hy_13) ?_
 refine Bd fun B=>?_
 exact⟨(y_13.2,(Aa.mk (W (1 + y.1)) y_2.1 y_3.1 y_4.1 y_5.1 (W (1 + y_6.1)) y_7.1 (Am.mk 0 0) y_13.1 (⟨#[]⟩:ByteArray))),G,Ar [(0,0),(1,1),(2,2)]⟩
 refine Bf 19 35 B fun B=>?_
 refine Cp rfl G (fun h24 G=>?_) fun h24 G=>?_
 refine Ak (B6 _ _ [43]) 35 75 B rfl rfl ?_
 refine As ?_
 refine Ou Xc z9 qY ([(⟨#[97]⟩:ByteArray),(⟨#[98]⟩:ByteArray)]:List ByteArray) eS ?_
 obtain⟨y_14,hy_14,G⟩:=Ab G
 refine F9 [0] [0] [] false (Ig _ _ _ hy_14) ?_
 refine Bd fun B=>?_
 exact⟨(y_14.2,(Aa.mk (W (1 + y.1)) y_2.1 y_3.1 y_4.1 y_5.1 (W (1 + y_6.1)) y_7.1 (Am.mk 0 0) 0 y_14.1)),G,Ar [(0,0),(1,1),(2,2)]⟩
 refine C8 ?_
 exact⟨(y_7.2,(Aa.mk (W (1 + y.1)) y_2.1 y_3.1 y_4.1 y_5.1 (W (1 + y_6.1)) y_7.1 (Am.mk 0 0) 0 (⟨#[]⟩:ByteArray))),G,Ar [(0,0),(1,1),(2,2)]⟩
 rintro⟨b_3,f_3⟩ G
 replace G:B0.j3 b_3 f_3=some r:=G
 show B3 _ _ _ _ (mk _ _ _)
 unfold B0.j3 at G
 refine Bf 3 19 Ay fun B=>?_
 refine E2 ?_
 obtain rfl:=oi_ G
 exact Gg [(0,0)] ⟨rfl,rfl⟩
theorem iO (d:Ac) (r:Aa×Ac) (G:Ei d=some r):Fn Tryz.prog 8 1 [.ptr 0 0] [.box [.sl 1 (Aq eI d.L),vk d.At] 62] (fun d' b'=>d'=.agg (Aa.dv r.1)/\b'=[.box [.sl 1 (Aq eI r.2.L),vk r.2.At] 62]):=by
 unfold Ei at G
 refine Fn.of Tryz.func8 rfl rfl rfl fun w0 I ρ0=>?_
 show B3 _ ⟨w0,I,ρ0,1,1,70⟩ _ _ _
 refine Bf 1 9 Ay fun B=>?_
 refine Cc 9 41 B ?_
 refine As ?_
 obtain⟨y,hy,G⟩:=Ab G
 refine F9 [0] [0] [] false (Ua _ _ hy) ?_
 refine Bd fun B=>?_
 refine Bo (ι:=Ac×Aa) (fun ((b_1,f_1):Ac×Aa)=>mk [(2,.ptr 1 0),(3,.ptr 2 0)] [(0,.box [.sl 1 (Aq eI b_1.L),vk b_1.At] 62),(1,.box [.val (.int .i64 0),.val (.string (⟨#[]⟩:ByteArray)),.val (.int .i64 0),.val (.int .i64 0),.val (.int .i64 0),.val (.int .i64 0),.val (.string (⟨#[]⟩:ByteArray)),.val (.int .i64 0),.val (.int .i64 0),.val (.int .i64 0),.val (.string (⟨#[]⟩:ByteArray))] 30),(2,.box (Aa.dv f_1) 30)] 3) (fun ((b_1,f_1):Ac×Aa)=>Ei.j1 b_1 f_1=some r) ?_ ?_
 refine Cc 41 57 B ?_
 refine As ?_
 obtain⟨y_2,hy_2,G⟩:=Ab G
 refine F9 [0] [0] [] false (B5 _ _ _ hy_2) ?_
 refine Gh fun B=>?_
 refine Ap <| Bf 57 73 B fun B=>?_
 refine Cp rfl G (fun h5 G=>?_) fun h5 G=>?_
 refine Ak (B6 _ _ [81]) 73 113 B rfl rfl ?_
 refine As ?_
 refine Ou Ee z3 I1 ([0,8]:List Int) eI ?_
 obtain⟨y_3,hy_3,G⟩:=Ab G
 refine F9 [0] [0] [] false (B4 _ _ _ hy_3) ?_
 refine Bd fun B=>?_
 exact⟨(y_3.2,(Aa.mk y_3.1 y.1.Host y.1.Machine y.1.Day y.1.Confidence y.1.Kind y.1.Subject y.1.Use y.1.Number y.1.Text)),G,Ar [(0,0),(1,1),(2,25)]⟩
 refine Bf 73 89 B fun B=>?_
 refine Cp rfl G (fun h8 G=>?_) fun h8 G=>?_
 refine Ak (B6 _ _ [97]) 89 129 B rfl rfl ?_
 refine As ?_
 refine Ou Xc z9 qY ([(⟨#[]⟩:ByteArray),(⟨#[97,32,98]⟩:ByteArray)]:List ByteArray) eS ?_
 obtain⟨y_4,hy_4,G⟩:=Ab G
 refine F9 [0] [0] [] false (Ig _ _ _ hy_4) ?_
 refine Bd fun B=>?_
 exact⟨(y_4.2,(Aa.mk y.1.Source y_4.1 y.1.Machine y.1.Day y.1.Confidence y.1.Kind y.1.Subject y.1.Use y.1.Number y.1.Text)),G,Ar [(0,0),(1,1),(2,25)]⟩
 refine Bf 89 105 B fun B=>?_
 refine Cp rfl G (fun h11 G=>?_) fun h11 G=>?_
 refine Ak (B6 _ _ [113]) 105 145 B rfl rfl ?_
 refine As ?_
 refine Ou Ee z3 I1 ([-1,1099511627777]:List Int) eI ?_
 obtain⟨y_5,hy_5,G⟩:=Ab G
 refine F9 [0] [0] [] false (B4 _ _ _ hy_5) ?_
 refine Bd fun B=>?_
 exact⟨(y_5.2,(Aa.mk y.1.Source y.1.Host y_5.1 y.1.Day y.1.Confidence y.1.Kind y.1.Subject y.1.Use y.1.Number y.1.Text)),G,Ar [(0,0),(1,1),(2,25)]⟩
 refine Bf 105 121 B fun B=>?_
 refine Cp rfl G (fun h14 G=>?_) fun h14 G=>?_
 refine Ak (B6 _ _ [129]) 121 161 B rfl rfl ?_
 refine As ?_
 refine Ou Ee z3 I1 ([-1,40001,40000]:List Int) eI ?_
 obtain⟨y_6,hy_6,G⟩:=Ab G
 refine F9 [0] [0] [] false (B4 _ _ _ hy_6) ?_
 refine Bd fun B=>?_
 exact⟨(y_6.2,(Aa.mk y.1.Source y.1.Host y.1.Machine y_6.1 y.1.Confidence y.1.Kind y.1.Subject y.1.Use y.1.Number y.1.Text)),G,Ar [(0,0),(1,1),(2,25)]⟩
 refine Bf 121 137 B fun B=>?_
 refine Cp rfl G (fun h17 G=>?_) fun h17 G=>?_
 refine Ak (B6 _ _ [145]) 137 177 B rfl rfl ?_
 refine As ?_
 refine Ou Ee z3 I1 ([0,101]:List Int) eI ?_
 obtain⟨y_7,hy_7,G⟩:=Ab G
 refine F9 [0] [0] [] false (B4 _ _ _ hy_7) ?_
 refine Bd fun B=>?_
 exact⟨(y_7.2,(Aa.mk y.1.Source y.1.Host y.1.Machine y.1.Day y_7.1 y.1.Kind y.1.Subject y.1.Use y.1.Number y.1.Text)),G,Ar [(0,0),(1,1),(2,25)]⟩
 refine Bf 137 153 B fun B=>?_
 refine Cp rfl G (fun h20 G=>?_) fun h20 G=>?_
 refine Ak (B6 _ _ [161]) 153 193 B rfl rfl ?_
 refine As ?_
 refine Ou Ee z3 I1 ([0,9,3,1]:List Int) eI ?_
 obtain⟨y_8,hy_8,G⟩:=Ab G
 refine F9 [0] [0] [] false (B4 _ _ _ hy_8) ?_
 refine Bd fun B=>?_
 exact⟨(y_8.2,(Aa.mk y.1.Source y.1.Host y.1.Machine y.1.Day y.1.Confidence y_8.1 y.1.Subject y.1.Use y.1.Number y.1.Text)),G,Ar [(0,0),(1,1),(2,25)]⟩
 refine Bf 153 169 B fun B=>?_
 refine Cp rfl G (fun h23 G=>?_) fun h23 G=>?_
 refine Ak (B6 _ _ []) 169 185 B rfl rfl ?_
 refine Bd fun B=>?_
 exact⟨(y_2.2,(Aa.mk y.1.Source y.1.Host y.1.Machine y.1.Day y.1.Confidence y.1.Kind (⟨#[]⟩:ByteArray) y.1.Use y.1.Number y.1.Text)),G,Ar [(0,0),(1,1),(2,25)]⟩
 refine Bf 169 185 B fun B=>?_
 refine Cp rfl G (fun h26 G=>?_) fun h26 G=>?_
 refine Ak (B6 _ _ [193,217]) 185 257 B rfl rfl ?_
 refine As ?_
 refine Ou Ee z3 I1 ([1,99,5]:List Int) eI ?_
 obtain⟨y_9,hy_9,G⟩:=Ab G
 refine F9 [0] [0] [] false (B4 _ _ _ hy_9) ?_
 refine As ?_
 refine Ou Ee z3 I1 ([0,2048]:List Int) eI ?_
 obtain⟨y_10,hy_10,G⟩:=Ab G
 refine F9 [0] [0] [] false (B4 _ _ _ hy_10) ?_
 refine Lq Hj Lc S6 ?_
 refine Bd fun B=>?_
 exact⟨(y_10.2,(Aa.mk y.1.Source y.1.Host y.1.Machine y.1.Day y.1.Confidence y.1.Kind y.1.Subject (Am.mk y_9.1 y_10.1) y.1.Number y.1.Text)),G,Ar [(0,0),(1,1),(2,25)]⟩
 refine Bf 185 201 B fun B=>?_
 refine Cp rfl G (fun h29 G=>?_) fun h29 G=>?_
 refine Ak (B6 _ _ [209]) 201 241 B rfl rfl ?_
 refine As ?_
 refine Ou Ee z3 I1 ([1,65536,-1,2147483649]:List Int) eI ?_
 obtain⟨y_11,hy_11,G⟩:=Ab G
 refine F9 [0] [0] [] false (B4 _ _ _ hy_11) ?_
 refine Bd fun B=>?_
 exact⟨(y_11.2,(Aa.mk y.1.Source y.1.Host y.1.Machine y.1.Day y.1.Confidence y.1.Kind y.1.Subject y.1.Use y_11.1 y.1.Text)),G,Ar [(0,0),(1,1),(2,25)]⟩
 refine Bf 201 217 B fun B=>?_
 refine Cp rfl G (fun h32 G=>?_) fun h32 G=>?_
 refine Ak (B6 _ _ [225]) 217 257 B rfl rfl ?_
 refine As ?_
 refine Ou Xc z9 qY ([(⟨#[120]⟩:ByteArray),(⟨#[97,32,98]⟩:ByteArray),(⟨#[]⟩:ByteArray)]:List ByteArray) eS ?_
 obtain⟨y_12,hy_12,G⟩:=Ab G
 refine F9 [0] [0] [] false (Ig _ _ _ hy_12) ?_
 refine Bd fun B=>?_
 exact⟨(y_12.2,(Aa.mk y.1.Source y.1.Host y.1.Machine y.1.Day y.1.Confidence y.1.Kind y.1.Subject y.1.Use y.1.Number y_12.1)),G,Ar [(0,0),(1,1),(2,25)]⟩
 refine C8 ?_
 exact⟨(y_2.2,y.1),G,Ar [(0,0),(1,1),(2,25)]⟩
 rintro⟨b_1,f_1⟩ G
 replace G:Ei.j1 b_1 f_1=some r:=G
 show B3 _ _ _ _ (mk _ _ _)
 unfold Ei.j1 at G
 refine Bf 3 19 Ay fun B=>?_
 refine E2 ?_
 obtain rfl:=oi_ G
 exact Gg [(0,0)] ⟨rfl,rfl⟩
theorem Tf (l:(List Int)) (n:Int) (r:Bool) (G:Ft l n=some r):Fn Tryz.prog 33 0 [.sl 1 (Aq eI l),vk n] [] (fun d' b'=>d'=.val (.bool r)/\b'=[]):=by
 unfold Ft at G
 refine Fn.of Tryz.func33 rfl rfl rfl fun w0 I ρ0=>?_
 show B3 _ ⟨w0,I,ρ0,0,0,18⟩ _ _ _
 refine Bf 0 8 Ay fun B=>?_
 refine Aj <| Bf 8 16 B fun B=>?_
 refine Ap <| Ji (fun (i_1:Int)=>mk [(0,.sl 1 (Aq eI l)),(1,vk n),(5,vk i_1)] [] 0) G (Ar []) ?_
 rintro i_1 m1 o1 G hn1
 replace G:Ft.l1 l n i_1=some o1:=G
 show B3 _ _ _ _ (mk _ _ _)
 unfold Ft.l1 at G
 refine Aj <| Bf 0 32 Ay fun B=>?_
 refine Cp rfl G (fun h4 G=>?_) fun h4 G=>?_
 refine C8 ?_
 refine Aj <| Ap <| Cc 32 80 B ?_
 refine As ?_
 obtain⟨e,he,G⟩:=Ab G
 refine As ?_
 refine No he ?_
 refine Bd fun B=>?_
 refine Cp rfl G (fun h6 G=>?_) fun h6 G=>?_
 refine Bf 80 88 B fun B=>?_
 refine E2 ?_
 replace G:=Cd G hn1
 exact Uq
 refine C8 ?_
 refine Ak (B6 _ _ []) 80 104 B rfl rfl ?_
 refine Bd fun B=>?_
 obtain rfl:=oi_ G
 exact⟨(W (i_1 + 1),m1),aCz _,hn1,Ar []⟩
 refine Je ?_
 replace G:=Cd G hn1
 refine Bf 32 40 B fun B=>?_
 exact Lf
theorem Ht (d:Ac) (n:Int) (r:Bool×Ac) (G:Fb d n=some r):Fn Tryz.prog 27 1 [.ptr 0 0,vk n] [.box [.sl 1 (Aq eI d.L),vk d.At] 62] (fun d' b'=>d'=.val (.bool r.1)/\b'=[.box [.sl 1 (Aq eI r.2.L),vk r.2.At] 62]):=by
 unfold Fb at G
 refine Fn.of Tryz.func27 rfl rfl rfl fun w0 I ρ0=>?_
 show B3 _ ⟨w0,I,ρ0,1,1,11⟩ _ _ _
 refine Bf 1 9 Ay fun B=>?_
 refine Cc 9 65 B ?_
 refine As ?_
 obtain⟨y,hy,G⟩:=Ab G
 refine F9 [0] [0] [] false (B5 _ _ _ hy) ?_
 refine Bd fun B=>?_
 refine E2 ?_
 obtain rfl:=oi_ G
 exact Gg [(0,0)] ⟨rfl,rfl⟩
theorem Ea (alg:Int) (bits:Int) (r:Am) (G:Dy alg bits=some r):Fn Tryz.prog 121 0 [vk alg,vk bits] [] (fun d' b'=>d'=.agg [vk r.Alg,vk r.Bits]/\b'=[]):=by
 unfold Dy at G
 refine Fn.of Tryz.func121 rfl rfl rfl fun w0 I ρ0=>?_
 show B3 _ ⟨w0,I,ρ0,0,0,8⟩ _ _ _
 refine Bf 0 8 Ay fun B=>?_
 refine Cc 8 40 B ?_
 refine As ?_
 refine Lq Hj Lc S6 ?_
 exact De
theorem Et (code:Int) (name:ByteArray) (exchange:Am) (sign:Am) (cipher:Am) (mac:Am) (least:Int) (most:Int) (r:A4) (G:D7 code name exchange sign cipher mac least most=some r):Fn Tryz.prog 122 0 [vk code,ws name,.agg [vk exchange.Alg,vk exchange.Bits],.agg [vk sign.Alg,vk sign.Bits],.agg [vk cipher.Alg,vk cipher.Bits],.agg [vk mac.Alg,vk mac.Bits],vk least,vk most] [] (fun d' b'=>d'=.agg (A4.dv r)/\b'=[]):=by
 unfold D7 at G
 refine Fn.of Tryz.func122 rfl rfl rfl fun w0 I ρ0=>?_
 show B3 _ ⟨w0,I,ρ0,0,0,26⟩ _ _ _
 refine Bf 0 40 Ay fun B=>?_
 refine Cc 40 120 B ?_
 refine As ?_
 refine Lq K2 Rx cB ?_
 exact De
theorem aC  (r:(List A4)) (G:Jl=some r):Fn Tryz.prog 83 0 [] [] (fun d' b'=>d'=.sl 12 (Aq A4.enc r)/\b'=[]):=by
 unfold Jl at G
 refine Fn.of Tryz.func83 rfl rfl rfl fun w0 I ρ0=>?_
 show B3 _ ⟨w0,I,ρ0,0,0,110⟩ _ _ _
 refine Bf 0 8 Ay fun B=>?_
 refine Cc 8 80 B ?_
 obtain⟨y,hy,G⟩:=Ab G
 refine Dh (Ea _ _ _ hy) ?_
 obtain⟨y_2,hy_2,G⟩:=Ab G
 refine Dh (Ea _ _ _ hy_2) ?_
 refine Lq Hj Lc S6 ?_
 refine Bd fun B=>?_
 refine Cc 80 128 B ?_
 obtain⟨y_3,hy_3,G⟩:=Ab G
 refine Dh (Ea _ _ _ hy_3) ?_
 obtain⟨y_4,hy_4,G⟩:=Ab G
 refine Dh (Ea _ _ _ hy_4) ?_
 refine Bd fun B=>?_
 refine Cc 128 200 B ?_
 obtain⟨y_5,hy_5,G⟩:=Ab G
 refine Dh (Ea _ _ _ hy_5) ?_
 obtain⟨y_6,hy_6,G⟩:=Ab G
 refine Dh (Ea _ _ _ hy_6) ?_
 obtain⟨y_7,hy_7,G⟩:=Ab G
 refine Dh (Ea _ _ _ hy_7) ?_
 refine Bd fun B=>?_
 refine Cc 200 296 B ?_
 obtain⟨y_8,hy_8,G⟩:=Ab G
 refine Dh (Ea _ _ _ hy_8) ?_
 obtain⟨y_9,hy_9,G⟩:=Ab G
 refine Dh (Ea _ _ _ hy_9) ?_
 obtain⟨y_10,hy_10,G⟩:=Ab G
 refine Dh (Ea _ _ _ hy_10) ?_
 obtain⟨y_11,hy_11,G⟩:=Ab G
 refine Dh (Ea _ _ _ hy_11) ?_
 refine Bd fun B=>?_
 refine Cc 296 344 B ?_
 obtain⟨y_12,hy_12,G⟩:=Ab G
 refine Dh (Ea _ _ _ hy_12) ?_
 obtain⟨y_13,hy_13,G⟩:=Ab G
 refine Dh (Ea _ _ _ hy_13) ?_
 refine Bd fun B=>?_
 refine Aj <| Bn (B6 _ _ []) (by kernel_rfl) [0,0,0,0,15,0,0,0,0,511,0,0,0,0,16383,32767,65535,0,0,524287,1048575,0,0,0,16777215,0,0,0,0,536870911,1073741823,0,0,0,17179869183,0,0,0,0,549755813887,0,1099511627775,3298534883327,0,17592186044415,0,0,0,0,562949953421311,1125899906842623,2251799813685247,0,0,18014398509481983,0,0,0,0,576460752303423487,0,0,0,0,18446744073709551615,0,0,0,0,590295810358705651711,0,0,0,0,18889465931478580854783,37778931862957161709567,0,0,0,604462909807314587353087,1208925819614629174706175,2417851639229258349412351] 344 1000 B rfl rfl (by kernel_rfl) ?_
 refine As ?_
 obtain⟨y_14,hy_14,G⟩:=Ab G
 refine Dh (Et _ _ _ _ _ _ _ _ _ hy_14) ?_
 refine As ?_
 obtain⟨y_15,hy_15,G⟩:=Ab G
 refine Dh (Et _ _ _ _ _ _ _ _ _ hy_15) ?_
 refine As ?_
 obtain⟨y_16,hy_16,G⟩:=Ab G
 refine Dh (Et _ _ _ _ _ _ _ _ _ hy_16) ?_
 obtain⟨y_17,hy_17,G⟩:=Ab G
 refine Dh (Ea _ _ _ hy_17) ?_
 obtain⟨y_18,hy_18,G⟩:=Ab G
 refine Dh (Ea _ _ _ hy_18) ?_
 refine As ?_
 obtain⟨y_19,hy_19,G⟩:=Ab G
 refine Dh (Et _ _ _ _ _ _ _ _ _ hy_19) ?_
 obtain⟨y_20,hy_20,G⟩:=Ab G
 refine Dh (Ea _ _ _ hy_20) ?_
 refine As ?_
 obtain⟨y_21,hy_21,G⟩:=Ab G
 refine Dh (Et _ _ _ _ _ _ _ _ _ hy_21) ?_
 refine As ?_
 obtain⟨y_22,hy_22,G⟩:=Ab G
 refine Dh (Et _ _ _ _ _ _ _ _ _ hy_22) ?_
 obtain⟨y_23,hy_23,G⟩:=Ab G
 refine Dh (Ea _ _ _ hy_23) ?_
 refine As ?_
 obtain⟨y_24,hy_24,G⟩:=Ab G
 refine Dh (Et _ _ _ _ _ _ _ _ _ hy_24) ?_
 refine As ?_
 obtain⟨y_25,hy_25,G⟩:=Ab G
 refine Dh (Et _ _ _ _ _ _ _ _ _ hy_25) ?_
 refine As ?_
 obtain⟨y_26,hy_26,G⟩:=Ab G
 refine Dh (Ea _ _ _ hy_26) ?_
 obtain⟨y_27,hy_27,G⟩:=Ab G
 refine Dh (Ea _ _ _ hy_27) ?_
 refine As ?_
 obtain⟨y_28,hy_28,G⟩:=Ab G
 refine Dh (Et _ _ _ _ _ _ _ _ _ hy_28) ?_
 refine As ?_
 obtain⟨y_29,hy_29,G⟩:=Ab G
 refine Dh (Et _ _ _ _ _ _ _ _ _ hy_29) ?_
 obtain⟨y_30,hy_30,G⟩:=Ab G
 refine Dh (Ea _ _ _ hy_30) ?_
 obtain⟨y_31,hy_31,G⟩:=Ab G
 refine Dh (Ea _ _ _ hy_31) ?_
 refine As ?_
 obtain⟨y_32,hy_32,G⟩:=Ab G
 refine Dh (Et _ _ _ _ _ _ _ _ _ hy_32) ?_
 refine As ?_
 obtain⟨y_33,hy_33,G⟩:=Ab G
 refine Dh (Et _ _ _ _ _ _ _ _ _ hy_33) ?_
 refine As ?_
 obtain⟨y_34,hy_34,G⟩:=Ab G
 refine Dh (Et _ _ _ _ _ _ _ _ _ hy_34) ?_
 refine As ?_
 obtain⟨y_35,hy_35,G⟩:=Ab G
 refine Dh (Et _ _ _ _ _ _ _ _ _ hy_35) ?_
 refine As ?_
 obtain⟨y_36,hy_36,G⟩:=Ab G
 refine Dh (Et _ _ _ _ _ _ _ _ _ hy_36) ?_
 obtain⟨y_37,hy_37,G⟩:=Ab G
 refine Dh (Ea _ _ _ hy_37) ?_
 refine As ?_
 obtain⟨y_38,hy_38,G⟩:=Ab G
 refine Dh (Et _ _ _ _ _ _ _ _ _ hy_38) ?_
 refine I8 vS cB aEd ([y_14,y_15,y_16,y_19,y_21,y_22,y_24,y_25,y_28,y_29,y_32,y_33,y_34,y_35,y_36,y_38]:List A4) A4.enc ?_
 exact De
end Go.Proofs.YtchpcpaacenodaaGreat
