import Derived.Test.YtchpcpaacenodaaGreatT1
import Derived.Test.YtchpcpaacenodaaGreatA1
import Derived.Test.YtchpcpaacenodaaGreatA2
import Derived.Test.YtchpcpaacenodaaGreatA6
import Derived.Test.YtchpcpaacenodaaGreatA7
import Derived.Test.YtchpcpaacenodaaGreatA10
import Derived.Test.YtchpcpaacenodaaGreatA11
import Derived.Test.YtchpcpaacenodaaGreatA12
set_option linter.unusedVariables false
set_option linter.unusedSimpArgs false
set_option maxRecDepth 100000
set_option maxHeartbeats 1600000
namespace Go.Proofs.YtchpcpaacenodaaGreat
open Go.RowKit
theorem cH (l:(List Ax)) (r:Int) (G:Dr l=some r):Fn Tryz.prog 45 0 [.sl 6 (Aq Ax.enc l)] [] (fun d' b'=>d'=vk r/\b'=[]):=by
 unfold Dr at G
 refine Fn.of Tryz.func45 rfl rfl rfl fun w0 I ρ0=>?_
 show B3 _ ⟨w0,I,ρ0,0,0,57⟩ _ _ _
 refine Bf 0 8 Ay fun B=>?_
 refine Aj <| Bf 8 32 B fun B=>?_
 refine Cp rfl G (fun h3 G=>?_) fun h3 G=>?_
 refine Cc 32 40 B ?_
 exact De
 refine C8 ?_
 refine Aj <| Bf 32 40 B fun B=>?_
 refine Ap <| Ji (fun (i_1:Int)=>mk [(0,.sl 6 (Aq Ax.enc l)),(3,vk i_1)] [] 0) G (Ar []) ?_
 rintro i_1 m1 o1 G hn1
 replace G:Dr.l1 l i_1=some o1:=G
 show B3 _ _ _ _ (mk _ _ _)
 unfold Dr.l1 at G
 refine Aj <| Bf 0 32 Ay fun B=>?_
 refine Cp rfl G (fun h7 G=>?_) fun h7 G=>?_
 refine C8 ?_
 refine Aj <| Ap <| Bo (ι:=Bool) (fun (x56_2:Bool)=>mk [(0,.sl 6 (Aq Ax.enc l)),(3,vk i_1),(56,.val (.bool x56_2))] [] 0) (fun (x56_2:Bool)=>Dr.j2 i_1 x56_2=some o1) ?_ ?_
 refine Bn (B6 _ _ []) (by kernel_rfl) [0,0,3,7,15,31,63,127,255,511,1023,2047,2047,6143,16383,32767,65535,2047,2047,395263,919551,1968127,4194303,8388607,16777215,33554431,67108863,67108863,268435455,536870911,1073741823,67108863,67108863,6509559807,15099494399,32279363583,67108863,67108863,206225539071,481103446015,1030859259903,2199023255551,4398046511103,8796093022207] 32 384 B rfl rfl (by kernel_rfl) ?_
 refine As ?_
 obtain⟨e,he,G⟩:=Ab G
 refine As ?_
 refine C0 rfl rfl (Fo aP sE (by decide) (H4 Ax.enc_len (Bq he) (o:=0) (by decide) rfl)) rfl rfl ?_
 refine C0 rfl rfl (Do sE (Ew Ax.enc_len (Bq he) (o:=0) (c:=.str e.Alias) rfl rfl)) rfl rfl ?_
 obtain⟨y,hy,G⟩:=Ab G
 refine Dh (Jx _ _ hy) ?_
 refine As ?_
 rcases Dm G with ⟨h8,G⟩ | ⟨h8,G⟩
 refine Bd fun B=>?_
 exact⟨true,G,Ar []⟩
 refine As ?_
 rcases Dm G with ⟨h10,G⟩ | ⟨h10,G⟩
 refine As ?_
 obtain⟨e_2,he_2,G⟩:=Ab G
 refine As ?_
 refine C0 (Eb rfl rfl h10) rfl (Fo aP sE (by decide) (H4 Ax.enc_len (Bq he_2) (o:=0) (by decide) rfl)) rfl rfl ?_
 refine C0 (Eb rfl rfl h10) rfl (Do sE (Ew Ax.enc_len (Bq he_2) (o:=0) (c:=.str e_2.Alias) rfl rfl)) rfl rfl ?_
 refine As ?_
 refine C0 (Eb rfl rfl h10) rfl (Fo aP sE (by decide) (H4 Ax.enc_len (Bq he) (o:=0) (by decide) rfl)) rfl rfl ?_
 refine C0 (Eb rfl rfl h10) rfl (Do sE (Ew Ax.enc_len (Bq he) (o:=0) (c:=.str e.Alias) rfl rfl)) rfl rfl ?_
 refine C0 (Eb rfl rfl h10) rfl gY rfl rfl ?_
 refine As ?_
 rcases Dm G with ⟨h11,G⟩ | ⟨h11,G⟩
 refine Bd fun B=>?_
 exact⟨true,G,Ar []⟩
 refine As ?_
 refine C0 (Eb rfl rfl h11) rfl (Fo fL Vv (by decide) (H4 Ax.enc_len (Bq he) (o:=1) (by decide) rfl)) rfl rfl ?_
 refine C0 (Eb rfl rfl h11) rfl (D5 Vv (Gd Ax.enc_len (Bq he) (o:=1) (m:=2) (cs:=[.int .i64 e.Key.Alg,.int .i64 e.Key.Bits]) rfl (by decide) rfl) (Eg Ax.enc_len (Bq he) (o:=1) (m:=2) (by decide) rfl)) rfl rfl ?_
 refine As ?_
 refine C0 (Eb rfl rfl h11) rfl (Fo fF Yl (by decide) (H4 Ax.enc_len (Bq he) (o:=3) (by decide) rfl)) rfl rfl ?_
 refine C0 (Eb rfl rfl h11) rfl (Do Yl (Ew Ax.enc_len (Bq he) (o:=3) (c:=.int .i64 e.KeyId) rfl rfl)) rfl rfl ?_
 refine As ?_
 refine C0 (Eb rfl rfl h11) rfl (Fo kY mD (by decide) (H4 Ax.enc_len (Bq he) (o:=5) (by decide) rfl)) rfl rfl ?_
 refine C0 (Eb rfl rfl h11) rfl (Do mD (Ew Ax.enc_len (Bq he) (o:=5) (c:=.sl 15 (Aq Af.enc e.Chain)) rfl rfl)) rfl rfl ?_
 obtain⟨y_2,hy_2,G⟩:=Ab G
 refine Dh (Qg _ _ _ _ hy_2) ?_
 refine Bd fun B=>?_
 exact⟨!y_2,G,Ar []⟩
 refine As ?_
 refine C0 (Eb rfl rfl rfl) rfl (Fo fL Vv (by decide) (H4 Ax.enc_len (Bq he) (o:=1) (by decide) rfl)) rfl rfl ?_
 refine C0 (Eb rfl rfl rfl) rfl (D5 Vv (Gd Ax.enc_len (Bq he) (o:=1) (m:=2) (cs:=[.int .i64 e.Key.Alg,.int .i64 e.Key.Bits]) rfl (by decide) rfl) (Eg Ax.enc_len (Bq he) (o:=1) (m:=2) (by decide) rfl)) rfl rfl ?_
 refine As ?_
 refine C0 (Eb rfl rfl rfl) rfl (Fo fF Yl (by decide) (H4 Ax.enc_len (Bq he) (o:=3) (by decide) rfl)) rfl rfl ?_
 refine C0 (Eb rfl rfl rfl) rfl (Do Yl (Ew Ax.enc_len (Bq he) (o:=3) (c:=.int .i64 e.KeyId) rfl rfl)) rfl rfl ?_
 refine As ?_
 refine C0 (Eb rfl rfl rfl) rfl (Fo kY mD (by decide) (H4 Ax.enc_len (Bq he) (o:=5) (by decide) rfl)) rfl rfl ?_
 refine C0 (Eb rfl rfl rfl) rfl (Do mD (Ew Ax.enc_len (Bq he) (o:=5) (c:=.sl 15 (Aq Af.enc e.Chain)) rfl rfl)) rfl rfl ?_
 obtain⟨y_3,hy_3,G⟩:=Ab G
 refine Dh (Qg _ _ _ _ hy_3) ?_
 refine Bd fun B=>?_
 exact⟨!y_3,G,Ar []⟩
 rintro x56_2 G
 replace G:Dr.j2 i_1 x56_2=some o1:=G
 show B3 _ _ _ _ (mk _ _ _)
 unfold Dr.j2 at G
 refine Cp rfl G (fun h15 G=>?_) fun h15 G=>?_
 refine Bf 0 8 Ay fun B=>?_
 refine E2 ?_
 replace G:=Cd G hn1
 exact Uq
 refine C8 ?_
 refine Ak (B6 _ _ []) 0 24 Ay rfl rfl ?_
 refine Bd fun B=>?_
 obtain rfl:=oi_ G
 exact⟨(W (i_1 + 1),m1),aCz _,hn1,Ar []⟩
 refine Je ?_
 replace G:=Cd G hn1
 refine Bf 32 40 B fun B=>?_
 exact Lf
theorem Wr (at':Aa) (s:(List Ax)) (r:(List Aa)×Int) (G:Fk at' s=some r):Fn Tryz.prog 19 0 [.agg (Aa.dv at'),.sl 6 (Aq Ax.enc s)] [] (fun d' b'=>d'=.tup [.sl 11 (Aq Aa.enc r.1),vk r.2]/\b'=[]):=by
 unfold Fk at G
 refine Fn.of Tryz.func19 rfl rfl rfl fun w0 I ρ0=>?_
 show B3 _ ⟨w0,I,ρ0,0,0,49⟩ _ _ _
 refine Bf 0 24 Ay fun B=>?_
 refine Cc 24 88 B ?_
 refine As ?_
 obtain⟨y,hy,G⟩:=Ab G
 refine Dh (Ny _ _ hy) ?_
 refine Bd fun B=>?_
 refine Aj <| Bf 88 104 B fun B=>?_
 refine Cp rfl G (fun h4 G=>?_) fun h4 G=>?_
 refine Cc 104 128 B ?_
 exact De
 refine C8 ?_
 refine Aj <| Cc 104 128 B ?_
 refine As ?_
 obtain⟨y_2,hy_2,G⟩:=Ab G
 refine Dh (cH _ _ hy_2) ?_
 refine Bd fun B=>?_
 refine Bf 128 144 B fun B=>?_
 refine Cp rfl G (fun h8 G=>?_) fun h8 G=>?_
 refine Cc 144 168 B ?_
 exact De
 refine C8 ?_
 refine Bf 144 152 B fun B=>?_
 refine Aj <| Bf 152 160 B fun B=>?_
 refine Ap <| Ji (fun ((i_1,l_1):Int×List Aa)=>mk [(1,.sl 6 (Aq Ax.enc s)),(6,.ptr 0 0),(9,.row 1),(10,vk i_1)] [(0,.box (Aa.dv y.1) 30),(1,.row 30 11 (Aq Aa.enc l_1))] 2) G (Ar [(0,64)]) ?_
 rintro⟨i_1,l_1⟩ m1 o1 G hn1
 replace G:Fk.l1 s y i_1 l_1=some o1:=G
 show B3 _ _ _ _ (mk _ _ _)
 unfold Fk.l1 at G
 refine Aj <| Bf 2 34 Ay fun B=>?_
 refine Cp rfl G (fun h13 G=>?_) fun h13 G=>?_
 refine C8 ?_
 refine Aj <| Ap <| Bn (B6 _ _ []) (by kernel_rfl) [0,0,0,0,12,28,60,0,0,384,896,1920,4094,8190,16383,32767] 34 162 B rfl rfl (by kernel_rfl) ?_
 refine As ?_
 obtain⟨e,he,G⟩:=Ab G
 refine As ?_
 refine C0 rfl rfl (Fo fL Vv (by decide) (H4 Ax.enc_len (Bq he) (o:=1) (by decide) rfl)) rfl rfl ?_
 refine C0 rfl rfl (D5 Vv (Gd Ax.enc_len (Bq he) (o:=1) (m:=2) (cs:=[.int .i64 e.Key.Alg,.int .i64 e.Key.Bits]) rfl (by decide) rfl) (Eg Ax.enc_len (Bq he) (o:=1) (m:=2) (by decide) rfl)) rfl rfl ?_
 refine As ?_
 refine C0 rfl rfl (Fo fF Yl (by decide) (H4 Ax.enc_len (Bq he) (o:=3) (by decide) rfl)) rfl rfl ?_
 refine C0 rfl rfl (Do Yl (Ew Ax.enc_len (Bq he) (o:=3) (c:=.int .i64 e.KeyId) rfl rfl)) rfl rfl ?_
 obtain⟨y_3,hy_3,G⟩:=Ab G
 refine Dh (Li _ _ _ _ _ hy_3) ?_
 refine I8 Kl fD I6 ([y_3]:List Aa) Aa.enc ?_
 obtain⟨l,hl,G⟩:=Ab G
 refine Fi (rd:=[1,138]) rfl rfl (Dk Kl Aa.enc_len .row rfl .row rfl hl rfl) rfl rfl ?_
 refine Bd fun B=>?_
 refine Ak (B6 _ _ []) 162 186 B rfl rfl ?_
 refine Bd fun B=>?_
 obtain rfl:=oi_ G
 exact⟨((W (i_1 + 1),l),m1),aCz _,hn1,Ar [(0,0),(1,146)]⟩
 refine Je ?_
 replace G:=Cd G hn1
 refine Cc 34 82 B ?_
 refine As ?_
 obtain⟨y_4,hy_4,G⟩:=Ab G
 refine F0 (rd:=[1]) (ps:=[]) (gs:=[]) true rfl (Ky _ _ hy_4) rfl rfl (.cons (.row rfl (.head _) rfl) .nil) rfl rfl (by rintro - _ _ ⟨rfl,rfl⟩; exact⟨by simp [Jf,K5],fb_⟩) rfl (by intro h; first | (cases h; done) | exact⟨_,_,⟨rfl,rfl⟩,by simp,by simp⟩) ?_
 rintro _ _ ⟨rfl,rfl⟩
 exact De
theorem Vq (at':Aa) (l:(List Am)) (r:(List Aa)×Int) (G:Dt at' l=some r):Fn Tryz.prog 20 0 [.agg (Aa.dv at'),.sl 2 (Aq Am.enc l)] [] (fun d' b'=>d'=.tup [.sl 11 (Aq Aa.enc r.1),vk r.2]/\b'=[]):=by
 unfold Dt at G
 refine Fn.of Tryz.func20 rfl rfl rfl fun w0 I ρ0=>?_
 show B3 _ ⟨w0,I,ρ0,0,0,38⟩ _ _ _
 refine Bf 0 24 Ay fun B=>?_
 refine Cc 24 80 B ?_
 refine As ?_
 obtain⟨y,hy,G⟩:=Ab G
 refine F0 (rd:=[]) (ps:=[]) (gs:=[]) false rfl (Ly _ _ hy) rfl rfl (.cons (.agg (.cons .val (.cons .val (.cons .val (.cons .val (.cons .val (.cons .val (.cons .val (.cons .val (.cons .val (.cons .val (.cons .val .nil)))))))))))) .nil) rfl rfl (by intro h; cases h) rfl (by intro h; first | (cases h; done) | exact⟨_,_,⟨rfl,rfl⟩,by simp,by simp⟩) ?_
 rintro _ _ ⟨rfl,rfl⟩
 refine Bd fun B=>?_
 refine Aj <| Bf 80 96 B fun B=>?_
 refine Cp rfl G (fun h4 G=>?_) fun h4 G=>?_
 refine Cc 96 120 B ?_
 exact De
 refine C8 ?_
 refine Aj <| Bf 96 120 B fun B=>?_
 refine Ap <| Ji (fun ((x20_1,p_1,p_1_2,p_1_3,p_1_4,p_1_5,p_1_6,p_1_7,p_1_8,p_1_9,p_1_10,p_1_11,l_1):Int×Int×ByteArray×Int×Int×Int×Int×ByteArray×Int×Int×Int×ByteArray×List Aa)=>mk [(6,.ptr 0 0),(18,.sl 2 (Aq Am.enc l)),(19,.val (.int .i64 (l.length:Int))),(20,vk x20_1)] [(0,.box [vk p_1,ws p_1_2,vk p_1_3,vk p_1_4,vk p_1_5,vk p_1_6,ws p_1_7,vk p_1_8,vk p_1_9,vk p_1_10,ws p_1_11,.row 1] 82),(1,.row 30 11 (Aq Aa.enc l_1))] 2) G (Ar [(0,32),(1,33)]) ?_
 rintro⟨x20_1,p_1,p_1_2,p_1_3,p_1_4,p_1_5,p_1_6,p_1_7,p_1_8,p_1_9,p_1_10,p_1_11,l_1⟩ m1 o1 G hn1
 replace G:Dt.l1 l x20_1 p_1 p_1_2 p_1_3 p_1_4 p_1_5 p_1_6 p_1_7 p_1_8 p_1_9 p_1_10 p_1_11 l_1=some o1:=G
 show B3 _ _ _ _ (mk _ _ _)
 unfold Dt.l1 at G
 refine Bf 2 10 Ay fun B=>?_
 refine Aj <| Cp rfl G (fun h8 G=>?_) fun h8 G=>?_
 refine C8 ?_
 refine Aj <| Ap <| Cc 10 42 B ?_
 obtain⟨e,he,G⟩:=Ab G
 refine As ?_
 refine gZ he ?_
 refine Bd fun B=>?_
 refine Aj <| Cc 42 66 B ?_
 refine As ?_
 obtain⟨y_2,hy_2,G⟩:=Ab G
 refine Dh (J3 _ _ hy_2) ?_
 refine Bd fun B=>?_
 refine Cp rfl G (fun h11 G=>?_) fun h11 G=>?_
 refine Bf 66 82 B fun B=>?_
 refine E2 ?_
 replace G:=Cd G hn1
 exact Uq
 refine C8 ?_
 refine Ak (B6 _ _ []) 66 90 B rfl rfl ?_
 refine As ?_
 obtain⟨y_3,hy_3,G⟩:=Ab G
 refine F0 (rd:=[0,1]) (ps:=[0]) (gs:=[1]) false rfl (D9 _ _ _ _ _ hy_3) rfl rfl (.cons (.ptr rfl) (.cons .val (.cons (.agg (.cons .val (.cons .val .nil))) (.cons .val .nil)))) ⟨_,_,_,rfl,.head _,⟨_,rfl,(by repeat' (first | exact L2.nil | apply L2.cons | exact Ag.val | exact Ag.sl | exact Ag.nils | exact Ag.ptr rfl | exact Ag.rowK rfl))⟩,⟨_,_,_,rfl,.tail _ (.head _),rfl,rfl⟩⟩ rfl (by intro h; cases h) rfl (by intro h; first | (cases h; done) | exact⟨_,_,⟨rfl,rfl⟩,by simp,by simp⟩) ?_
 rintro _ _ ⟨rfl,rfl⟩
 refine Gh fun B=>?_
 refine Ak (B6 _ _ []) 90 106 B rfl rfl ?_
 refine Bd fun B=>?_
 obtain rfl:=oi_ G
 exact⟨((W (x20_1 + 1),y_3.at_.Source,y_3.at_.Host,y_3.at_.Machine,y_3.at_.Day,y_3.at_.Confidence,y_3.at_.Kind,y_3.at_.Subject,y_3.at_.Use.Alg,y_3.at_.Use.Bits,y_3.at_.Number,y_3.at_.Text,y_3.l),m1),aCz _,hn1,Ar [(0,0),(1,82)]⟩
 refine Je ?_
 replace G:=Cd G hn1
 refine Aj <| Fw (σ':=mk [(6,.ptr 0 0)] [(0,.box [vk p_1,ws p_1_2,vk p_1_3,vk p_1_4,vk p_1_5,vk p_1_6,ws p_1_7,vk p_1_8,vk p_1_9,vk p_1_10,ws p_1_11,.sl 11 (Aq Aa.enc l_1)] 82)] 1) (Ar [(0,0)]) ?_
 refine Ak (B6 _ _ []) 1 73 Ay rfl rfl ?_
 refine As ?_
 obtain⟨y_4,hy_4,G⟩:=Ab G
 refine Dh (Lx _ _ hy_4) ?_
 exact De
theorem Xi (at':Aa) (u:(List Am)) (r:(List Aa)×Int) (G:D4 at' u=some r):Fn Tryz.prog 21 0 [.agg (Aa.dv at'),.sl 2 (Aq Am.enc u)] [] (fun d' b'=>d'=.tup [.sl 11 (Aq Aa.enc r.1),vk r.2]/\b'=[]):=by
 unfold D4 at G
 refine Fn.of Tryz.func21 rfl rfl rfl fun w0 I ρ0=>?_
 show B3 _ ⟨w0,I,ρ0,0,0,43⟩ _ _ _
 refine Bf 0 24 Ay fun B=>?_
 refine Cc 24 88 B ?_
 refine As ?_
 obtain⟨y,hy,G⟩:=Ab G
 refine Dh (Ny _ _ hy) ?_
 refine Bd fun B=>?_
 refine Aj <| Bf 88 104 B fun B=>?_
 refine Cp rfl G (fun h4 G=>?_) fun h4 G=>?_
 refine Cc 104 128 B ?_
 exact De
 refine C8 ?_
 refine Bf 104 112 B fun B=>?_
 refine Aj <| Bf 112 120 B fun B=>?_
 refine Ap <| Ji (fun ((i_1,l_1):Int×List Aa)=>mk [(1,.sl 2 (Aq Am.enc u)),(6,.ptr 0 0),(8,.row 1),(9,vk i_1)] [(0,.box (Aa.dv y.1) 30),(1,.row 30 11 (Aq Aa.enc l_1))] 2) G (Ar [(0,64)]) ?_
 rintro⟨i_1,l_1⟩ m1 o1 G hn1
 replace G:D4.l1 u y i_1 l_1=some o1:=G
 show B3 _ _ _ _ (mk _ _ _)
 unfold D4.l1 at G
 refine Aj <| Bf 2 34 Ay fun B=>?_
 refine Cp rfl G (fun h9 G=>?_) fun h9 G=>?_
 refine C8 ?_
 refine Aj <| Ap <| Aj <| Cc 34 82 B ?_
 refine As ?_
 obtain⟨e,he,G⟩:=Ab G
 refine As ?_
 refine gZ he ?_
 obtain⟨y_2,hy_2,G⟩:=Ab G
 refine Dh (Mx _ _ hy_2) ?_
 refine Bd fun B=>?_
 refine Cp rfl G (fun h11 G=>?_) fun h11 G=>?_
 refine Bf 82 98 B fun B=>?_
 refine E2 ?_
 replace G:=Cd G hn1
 exact Uq
 refine C8 ?_
 refine Bn (B6 _ _ []) (by kernel_rfl) [0,0,0,0,12,28,62,126,255,511] 82 162 B rfl rfl (by kernel_rfl) ?_
 refine As ?_
 refine gZ he ?_
 obtain⟨y_3,hy_3,G⟩:=Ab G
 refine Dh (Li _ _ _ _ _ hy_3) ?_
 refine I8 Kl fD I6 ([y_3]:List Aa) Aa.enc ?_
 obtain⟨l,hl,G⟩:=Ab G
 refine Fi (rd:=[1,138]) rfl rfl (Dk Kl Aa.enc_len .row rfl .row rfl hl rfl) rfl rfl ?_
 refine Bd fun B=>?_
 refine Ak (B6 _ _ []) 162 186 B rfl rfl ?_
 refine Bd fun B=>?_
 obtain rfl:=oi_ G
 exact⟨((W (i_1 + 1),l),m1),aCz _,hn1,Ar [(0,0),(1,146)]⟩
 refine Je ?_
 replace G:=Cd G hn1
 refine Cc 34 82 B ?_
 refine As ?_
 obtain⟨y_4,hy_4,G⟩:=Ab G
 refine F0 (rd:=[1]) (ps:=[]) (gs:=[]) true rfl (Ky _ _ hy_4) rfl rfl (.cons (.row rfl (.head _) rfl) .nil) rfl rfl (by rintro - _ _ ⟨rfl,rfl⟩; exact⟨by simp [Jf,K5],fb_⟩) rfl (by intro h; first | (cases h; done) | exact⟨_,_,⟨rfl,rfl⟩,by simp,by simp⟩) ?_
 rintro _ _ ⟨rfl,rfl⟩
 exact De
theorem Nw (l:(List Int)) (low:Int) (high:Int) (r:Bool) (G:Cf l low high=some r):Fn Tryz.prog 119 0 [.sl 1 (Aq eI l),vk low,vk high] [] (fun d' b'=>d'=.val (.bool r)/\b'=[]):=by
 unfold Cf at G
 refine Fn.of Tryz.func119 rfl rfl rfl fun w0 I ρ0=>?_
 show B3 _ ⟨w0,I,ρ0,0,0,32⟩ _ _ _
 refine Bf 0 8 Ay fun B=>?_
 refine Aj <| Bf 8 32 B fun B=>?_
 refine Ap <| Ji (fun (x11_1:Int)=>mk [(0,.sl 1 (Aq eI l)),(1,vk low),(2,vk high),(9,.sl 1 (Aq eI l)),(10,.val (.int .i64 (l.length:Int))),(11,vk x11_1)] [] 0) G (Ar []) ?_
 rintro x11_1 m1 o1 G hn1
 replace G:Cf.l1 l low high x11_1=some o1:=G
 show B3 _ _ _ _ (mk _ _ _)
 unfold Cf.l1 at G
 refine Bf 0 8 Ay fun B=>?_
 refine Aj <| Cp rfl G (fun h4 G=>?_) fun h4 G=>?_
 refine C8 ?_
 refine Aj <| Ap <| Cc 8 48 B ?_
 refine As ?_
 obtain⟨e,he,G⟩:=Ab G
 refine As ?_
 refine No he ?_
 refine Bd fun B=>?_
 refine Bo (ι:=Bool) (fun (x30_2:Bool)=>mk [(0,.sl 1 (Aq eI l)),(1,vk low),(2,vk high),(9,.sl 1 (Aq eI l)),(10,.val (.int .i64 (l.length:Int))),(11,vk x11_1),(30,.val (.bool x30_2))] [] 0) (fun (x30_2:Bool)=>Cf.j2 x11_1 x30_2=some o1) ?_ ?_
 refine Ak (B6 _ _ []) 48 168 B rfl rfl ?_
 refine As ?_
 rcases Dm G with ⟨h6,G⟩ | ⟨h6,G⟩
 refine Bd fun B=>?_
 exact⟨true,G,Ar []⟩
 refine As ?_
 rcases Dm G with ⟨h8,G⟩ | ⟨h8,G⟩
 refine Bd fun B=>?_
 exact⟨true,G,Ar []⟩
 refine As ?_
 obtain⟨l_2,hl_2,G⟩:=Ab G
 refine C0 (Eb rfl rfl h8) rfl (Ue Ee Jo hl_2) rfl rfl ?_
 refine As ?_
 obtain⟨y,hy,G⟩:=Ab G
 refine Dh (Kd _ _ _ hy) ?_
 refine Bd fun B=>?_
 exact⟨y,G,Ar []⟩
 rintro x30_2 G
 replace G:Cf.j2 x11_1 x30_2=some o1:=G
 show B3 _ _ _ _ (mk _ _ _)
 unfold Cf.j2 at G
 refine Cp rfl G (fun h11 G=>?_) fun h11 G=>?_
 refine Bf 0 8 Ay fun B=>?_
 refine E2 ?_
 replace G:=Cd G hn1
 exact Uq
 refine C8 ?_
 refine Ak (B6 _ _ []) 0 16 Ay rfl rfl ?_
 refine Bd fun B=>?_
 obtain rfl:=oi_ G
 exact⟨(W (x11_1 + 1),m1),aCz _,hn1,Ar []⟩
 refine Je ?_
 replace G:=Cd G hn1
 refine Bf 8 16 B fun B=>?_
 exact Lf
theorem R2 (h':Dj) (r:Bool) (G:C3 h'=some r):Fn Tryz.prog 79 0 [.agg (Dj.dv h')] [] (fun d' b'=>d'=.val (.bool r)/\b'=[]):=by
 unfold C3 at G
 refine Fn.of Tryz.func79 rfl rfl rfl fun w0 I ρ0=>?_
 show B3 _ ⟨w0,I,ρ0,0,0,37⟩ _ _ _
 refine Bf 0 16 Ay fun B=>?_
 refine Aj <| Bo (ι:=Bool) (fun (x28_1:Bool)=>mk [(1,.ptr 0 0),(28,.val (.bool x28_1))] [(0,.box (Dj.dv h') 43)] 1) (fun (x28_1:Bool)=>C3.j1 h' x28_1=some r) ?_ ?_
 refine Ak (B6 _ _ []) 16 224 B rfl rfl ?_
 refine As ?_
 rcases Dm G with ⟨h2,G⟩ | ⟨h2,G⟩
 refine Bd fun B=>?_
 exact⟨true,G,Ar [(0,0)]⟩
 refine As ?_
 rcases Dm G with ⟨h4,G⟩ | ⟨h4,G⟩
 refine Bd fun B=>?_
 exact⟨true,G,Ar [(0,0)]⟩
 refine As ?_
 rcases Dm G with ⟨h6,G⟩ | ⟨h6,G⟩
 refine Bd fun B=>?_
 exact⟨true,G,Ar [(0,0)]⟩
 refine As ?_
 rcases Dm G with ⟨h8,G⟩ | ⟨h8,G⟩
 refine Bd fun B=>?_
 exact⟨true,G,Ar [(0,0)]⟩
 refine Bd fun B=>?_
 exact⟨decide (16 < (h'.Hashes.length:Int)),G,Ar [(0,0)]⟩
 rintro x28_1 G
 replace G:C3.j1 h' x28_1=some r:=G
 show B3 _ _ _ _ (mk _ _ _)
 unfold C3.j1 at G
 refine Cp rfl G (fun h11 G=>?_) fun h11 G=>?_
 refine Cc 1 9 Ay ?_
 exact De
 refine C8 ?_
 refine Cc 1 73 Ay ?_
 refine As ?_
 obtain⟨y,hy,G⟩:=Ab G
 refine Dh (Nw _ _ _ _ hy) ?_
 refine As ?_
 rcases Dm G with ⟨h13,G⟩ | ⟨h13,G⟩
 refine As ?_
 obtain⟨y_2,hy_2,G⟩:=Ab G
 refine Dh (Nw _ _ _ _ hy_2) ?_
 exact De
 exact De
theorem Rh (h':Dj) (r:(List UInt8)×Int) (G:Ce h'=some r):Fn Tryz.prog 48 0 [.agg (Dj.dv h')] [] (fun d' b'=>d'=.tup [.sl 1 (Aq e8 r.1),vk r.2]/\b'=[]):=by
 unfold Ce at G
 refine Fn.of Tryz.func48 rfl rfl rfl fun w0 I ρ0=>?_
 show B3 _ ⟨w0,I,ρ0,0,0,57⟩ _ _ _
 refine Bf 0 24 Ay fun B=>?_
 refine Aj <| Cc 24 48 B ?_
 refine As ?_
 obtain⟨y,hy,G⟩:=Ab G
 refine Dh (R2 _ _ hy) ?_
 refine Bd fun B=>?_
 refine Cp rfl G (fun h3 G=>?_) fun h3 G=>?_
 refine Cc 48 64 B ?_
 exact De
 refine C8 ?_
 refine Cc 48 120 B ?_
 refine As ?_
 refine C0 rfl rfl (Fp Ni Ng) rfl rfl ?_
 refine As ?_
 refine C0 rfl rfl (Fp Ni Ng) rfl rfl ?_
 refine I8 Mt z5 lG ([(1:UInt8),(u8 h'.Most),(u8 (h'.Suites.length:Int))]:List UInt8) e8 ?_
 refine Bd fun B=>?_
 refine Aj <| Bf 120 152 B fun B=>?_
 refine Ap <| Ji (fun ((x23_1,b_1):Int×List UInt8)=>mk [(1,.ptr 0 0),(4,.row 1),(21,.sl 1 (Aq eI h'.Suites)),(22,.val (.int .i64 (h'.Suites.length:Int))),(23,vk x23_1)] [(0,.box (Dj.dv h') 43),(1,.row 5 1 (Aq e8 b_1))] 2) G (Ar [(0,0),(1,104)]) ?_
 rintro⟨x23_1,b_1⟩ m1 o1 G hn1
 replace G:Ce.l1 h' x23_1 b_1=some o1:=G
 show B3 _ _ _ _ (mk _ _ _)
 unfold Ce.l1 at G
 refine Bf 2 10 Ay fun B=>?_
 refine Aj <| Cp rfl G (fun h8 G=>?_) fun h8 G=>?_
 refine C8 ?_
 refine Aj <| Ap <| Cc 10 34 B ?_
 obtain⟨e,he,G⟩:=Ab G
 refine As ?_
 refine No he ?_
 refine Bd fun B=>?_
 refine Ak (B6 _ _ []) 34 106 B rfl rfl ?_
 refine As ?_
 obtain⟨q,hq,G⟩:=Ab G
 refine C0 rfl rfl (Oc hq) rfl rfl ?_
 refine C0 rfl rfl (Fp Ni Ng) rfl rfl ?_
 refine As ?_
 refine C0 rfl rfl (Fp Ni Ng) rfl rfl ?_
 refine I8 Mt z5 lG ([(u8 q),(u8 e)]:List UInt8) e8 ?_
 obtain⟨l,hl,G⟩:=Ab G
 refine Fi (rd:=[1,82]) rfl rfl (Dk Mt Ke .row rfl .row rfl hl rfl) rfl rfl ?_
 refine Bd fun B=>?_
 refine Ak (B6 _ _ []) 106 122 B rfl rfl ?_
 refine Bd fun B=>?_
 obtain rfl:=oi_ G
 exact⟨((W (x23_1 + 1),l),m1),aCz _,hn1,Ar [(0,0),(1,90)]⟩
 refine Je ?_
 replace G:=Cd G hn1
 refine Cc 10 74 B ?_
 refine As ?_
 refine C0 rfl rfl (Fp Ni Ng) rfl rfl ?_
 refine I8 Mt z5 lG ([(u8 (h'.Hashes.length:Int))]:List UInt8) e8 ?_
 obtain⟨l_2,hl_2,G⟩:=Ab G
 refine Fi (rd:=[1,50]) rfl rfl (Dk Mt Ke .row rfl .row rfl hl_2 rfl) rfl rfl ?_
 refine Bd fun B=>?_
 refine Aj <| Bf 74 106 B fun B=>?_
 refine Ap <| Ji (fun ((x46_2,b_2):Int×List UInt8)=>mk [(4,.row 0),(44,.sl 1 (Aq eI h'.Hashes)),(45,.val (.int .i64 (h'.Hashes.length:Int))),(46,vk x46_2)] [(0,.row 5 1 (Aq e8 b_2))] 1) G (Ar [(0,58)]) ?_
 rintro⟨x46_2,b_2⟩ m2 o2 G hn2
 replace G:Ce.l2 h' x46_2 b_2=some o2:=G
 show B3 _ _ _ _ (mk _ _ _)
 unfold Ce.l2 at G
 refine Bf 1 9 Ay fun B=>?_
 refine Aj <| Cp rfl G (fun h15 G=>?_) fun h15 G=>?_
 refine C8 ?_
 refine Aj <| Ap <| Cc 9 33 B ?_
 obtain⟨e_2,he_2,G⟩:=Ab G
 refine As ?_
 refine No he_2 ?_
 refine Bd fun B=>?_
 refine Ak (B6 _ _ []) 33 81 B rfl rfl ?_
 refine As ?_
 refine C0 rfl rfl (Fp Ni Ng) rfl rfl ?_
 refine I8 Mt z5 lG ([(u8 e_2)]:List UInt8) e8 ?_
 obtain⟨l_3,hl_3,G⟩:=Ab G
 refine Fi (rd:=[0,57]) rfl rfl (Dk Mt Ke .row rfl .row rfl hl_3 rfl) rfl rfl ?_
 refine Bd fun B=>?_
 refine Ak (B6 _ _ []) 81 97 B rfl rfl ?_
 refine Bd fun B=>?_
 obtain rfl:=oi_ G
 exact⟨((W (x46_2 + 1),l_3),m2),aCz _,hn2,Ar [(0,65)]⟩
 refine Je ?_
 replace G:=Cd G hn2
 refine Bf 9 33 B fun B=>?_
 exact Lf
theorem Rb (c:C6) (r:Bool) (G:Ga c=some r):Fn Tryz.prog 80 0 [.agg (C6.dv c)] [] (fun d' b'=>d'=.val (.bool r)/\b'=[]):=by
 unfold Ga at G
 refine Fn.of Tryz.func80 rfl rfl rfl fun w0 I ρ0=>?_
 show B3 _ ⟨w0,I,ρ0,0,0,31⟩ _ _ _
 refine Bf 0 16 Ay fun B=>?_
 refine Cc 16 248 B ?_
 refine As ?_
 rcases Dm G with ⟨h2,G⟩ | ⟨h2,G⟩
 refine As ?_
 rcases Dm G with ⟨h3,G⟩ | ⟨h3,G⟩
 refine As ?_
 rcases Dm G with ⟨h4,G⟩ | ⟨h4,G⟩
 refine As ?_
 rcases Dm G with ⟨h5,G⟩ | ⟨h5,G⟩
 refine As ?_
 rcases Dm G with ⟨h6,G⟩ | ⟨h6,G⟩
 exact De
 exact De
 exact De
 exact De
 exact De
 exact De
theorem Qh (c:C6) (r:(List UInt8)×Int) (G:F4 c=some r):Fn Tryz.prog 49 0 [.agg (C6.dv c)] [] (fun d' b'=>d'=.tup [.sl 1 (Aq e8 r.1),vk r.2]/\b'=[]):=by
 unfold F4 at G
 refine Fn.of Tryz.func49 rfl rfl rfl fun w0 I ρ0=>?_
 show B3 _ ⟨w0,I,ρ0,0,0,32⟩ _ _ _
 refine Bf 0 24 Ay fun B=>?_
 refine Aj <| Cc 24 48 B ?_
 refine As ?_
 obtain⟨y,hy,G⟩:=Ab G
 refine Dh (Rb _ _ hy) ?_
 refine Bd fun B=>?_
 refine Cp rfl G (fun h3 G=>?_) fun h3 G=>?_
 refine Cc 48 64 B ?_
 exact De
 refine C8 ?_
 refine Bf 48 72 B fun B=>?_
 refine Cc 72 264 B ?_
 refine As ?_
 refine C0 rfl rfl (Fp Ni Ng) rfl rfl ?_
 refine As ?_
 obtain⟨q,hq,G⟩:=Ab G
 refine C0 rfl rfl (Oc hq) rfl rfl ?_
 refine C0 rfl rfl (Fp Ni Ng) rfl rfl ?_
 refine As ?_
 refine C0 rfl rfl (Fp Ni Ng) rfl rfl ?_
 refine As ?_
 obtain⟨q_2,hq_2,G⟩:=Ab G
 refine C0 rfl rfl (Oc hq_2) rfl rfl ?_
 refine C0 rfl rfl (Fp Ni Ng) rfl rfl ?_
 refine As ?_
 obtain⟨q_3,hq_3,G⟩:=Ab G
 refine C0 rfl rfl (Oc hq_3) rfl rfl ?_
 refine C0 rfl rfl (Fp Ni Ng) rfl rfl ?_
 refine As ?_
 obtain⟨q_4,hq_4,G⟩:=Ab G
 refine C0 rfl rfl (Oc hq_4) rfl rfl ?_
 refine C0 rfl rfl (Fp Ni Ng) rfl rfl ?_
 refine As ?_
 refine C0 rfl rfl (Fp Ni Ng) rfl rfl ?_
 refine I8 Mt z5 lG ([(2:UInt8),(u8 c.Version),(u8 q),(u8 c.Suite),(u8 q_2),(u8 q_3),(u8 q_4),(u8 c.KeyId)]:List UInt8) e8 ?_
 exact De
theorem S4 (at':Aa) (h':Dj) (c:C6) (r:(List Aa)×Int) (G:Cm at' h' c=some r):Fn Tryz.prog 22 0 [.agg (Aa.dv at'),.agg (Dj.dv h'),.agg (C6.dv c)] [] (fun d' b'=>d'=.tup [.sl 11 (Aq Aa.enc r.1),vk r.2]/\b'=[]):=by
 unfold Cm at G
 refine Fn.of Tryz.func22 rfl rfl rfl fun w0 I ρ0=>?_
 show B3 _ ⟨w0,I,ρ0,0,0,73⟩ _ _ _
 refine Bf 0 40 Ay fun B=>?_
 refine Cc 40 96 B ?_
 refine As ?_
 obtain⟨y,hy,G⟩:=Ab G
 refine F0 (rd:=[]) (ps:=[]) (gs:=[]) false rfl (Ly _ _ hy) rfl rfl (.cons (.agg (.cons .val (.cons .val (.cons .val (.cons .val (.cons .val (.cons .val (.cons .val (.cons .val (.cons .val (.cons .val (.cons .val .nil)))))))))))) .nil) rfl rfl (by intro h; cases h) rfl (by intro h; first | (cases h; done) | exact⟨_,_,⟨rfl,rfl⟩,by simp,by simp⟩) ?_
 rintro _ _ ⟨rfl,rfl⟩
 refine Bd fun B=>?_
 refine Aj <| Bf 96 112 B fun B=>?_
 refine Cp rfl G (fun h4 G=>?_) fun h4 G=>?_
 refine Cc 112 136 B ?_
 exact De
 refine C8 ?_
 refine Aj <| Cc 112 168 B ?_
 refine As ?_
 obtain⟨y_2,hy_2,G⟩:=Ab G
 refine Dh (Rh _ _ hy_2) ?_
 refine Bd fun B=>?_
 refine Bf 168 184 B fun B=>?_
 refine Cp rfl G (fun h8 G=>?_) fun h8 G=>?_
 refine Cc 184 208 B ?_
 exact De
 refine C8 ?_
 refine Aj <| Cc 184 240 B ?_
 refine As ?_
 obtain⟨y_3,hy_3,G⟩:=Ab G
 refine Dh (Qh _ _ hy_3) ?_
 refine Bd fun B=>?_
 refine Bf 240 256 B fun B=>?_
 refine Cp rfl G (fun h12 G=>?_) fun h12 G=>?_
 refine Cc 256 280 B ?_
 exact De
 refine C8 ?_
 refine Cc 256 296 B ?_
 refine As ?_
 refine Lq Hj Lc S6 ?_
 refine As ?_
 obtain⟨y_4,hy_4,G⟩:=Ab G
 refine F0 (rd:=[48,49]) (ps:=[48]) (gs:=[49]) false rfl (D9 _ _ _ _ _ hy_4) rfl rfl (.cons (.ptr rfl) (.cons .val (.cons (.agg (.cons .val (.cons .val .nil))) (.cons .val .nil)))) ⟨_,_,_,rfl,.head _,⟨_,rfl,(by repeat' (first | exact L2.nil | apply L2.cons | exact Ag.val | exact Ag.sl | exact Ag.nils | exact Ag.ptr rfl | exact Ag.rowK rfl))⟩,⟨_,_,_,rfl,.tail _ (.head _),rfl,rfl⟩⟩ rfl (by intro h; cases h) rfl (by intro h; first | (cases h; done) | exact⟨_,_,⟨rfl,rfl⟩,by simp,by simp⟩) ?_
 rintro _ _ ⟨rfl,rfl⟩
 refine Gh fun B=>?_
 refine Cc 296 336 B ?_
 refine As ?_
 refine Lq Hj Lc S6 ?_
 refine As ?_
 obtain⟨y_5,hy_5,G⟩:=Ab G
 refine F0 (rd:=[48,288]) (ps:=[48]) (gs:=[288]) false rfl (D9 _ _ _ _ _ hy_5) rfl rfl (.cons (.ptr rfl) (.cons .val (.cons (.agg (.cons .val (.cons .val .nil))) (.cons .val .nil)))) ⟨_,_,_,rfl,.head _,⟨_,rfl,(by repeat' (first | exact L2.nil | apply L2.cons | exact Ag.val | exact Ag.sl | exact Ag.nils | exact Ag.ptr rfl | exact Ag.rowK rfl))⟩,⟨_,_,_,rfl,.tail _ (.head _),rfl,rfl⟩⟩ rfl (by intro h; cases h) rfl (by intro h; first | (cases h; done) | exact⟨_,_,⟨rfl,rfl⟩,by simp,by simp⟩) ?_
 rintro _ _ ⟨rfl,rfl⟩
 refine Gh fun B=>?_
 refine Bo (ι:=Int×ByteArray×Int×Int×Int×Int×ByteArray×Int×Int×Int×ByteArray×List Aa) (fun ((p_1,p_1_2,p_1_3,p_1_4,p_1_5,p_1_6,p_1_7,p_1_8,p_1_9,p_1_10,p_1_11,l_1):Int×ByteArray×Int×Int×Int×Int×ByteArray×Int×Int×Int×ByteArray×List Aa)=>mk [(8,.ptr 0 0)] [(0,.box [vk p_1,ws p_1_2,vk p_1_3,vk p_1_4,vk p_1_5,vk p_1_6,ws p_1_7,vk p_1_8,vk p_1_9,vk p_1_10,ws p_1_11,.row 1] 82),(1,.row 30 11 (Aq Aa.enc l_1))] 2) (fun ((p_1,p_1_2,p_1_3,p_1_4,p_1_5,p_1_6,p_1_7,p_1_8,p_1_9,p_1_10,p_1_11,l_1):Int×ByteArray×Int×Int×Int×Int×ByteArray×Int×Int×Int×ByteArray×List Aa)=>Cm.j1 p_1 p_1_2 p_1_3 p_1_4 p_1_5 p_1_6 p_1_7 p_1_8 p_1_9 p_1_10 p_1_11 l_1=some r) ?_ ?_
 refine Cc 336 408 B ?_
 refine As ?_
 obtain⟨y_6,hy_6,G⟩:=Ab G
 refine Dh (Sx _ _ hy_6) ?_
 refine Bd fun B=>?_
 refine Bf 408 424 B fun B=>?_
 refine Cp rfl G (fun h18 G=>?_) fun h18 G=>?_
 refine Cc 424 456 B ?_
 refine As ?_
 obtain⟨y_7,hy_7,G⟩:=Ab G
 refine F0 (rd:=[48,328]) (ps:=[48]) (gs:=[328]) false rfl (D9 _ _ _ _ _ hy_7) rfl rfl (.cons (.ptr rfl) (.cons .val (.cons (.agg (.cons .val (.cons .val .nil))) (.cons .val .nil)))) ⟨_,_,_,rfl,.head _,⟨_,rfl,(by repeat' (first | exact L2.nil | apply L2.cons | exact Ag.val | exact Ag.sl | exact Ag.nils | exact Ag.ptr rfl | exact Ag.rowK rfl))⟩,⟨_,_,_,rfl,.tail _ (.head _),rfl,rfl⟩⟩ rfl (by intro h; cases h) rfl (by intro h; first | (cases h; done) | exact⟨_,_,⟨rfl,rfl⟩,by simp,by simp⟩) ?_
 rintro _ _ ⟨rfl,rfl⟩
 refine Gh fun B=>?_
 refine Ak (B6 _ _ []) 456 488 B rfl rfl ?_
 refine As ?_
 obtain⟨y_8,hy_8,G⟩:=Ab G
 refine F0 (rd:=[48,448]) (ps:=[48]) (gs:=[448]) false rfl (D9 _ _ _ _ _ hy_8) rfl rfl (.cons (.ptr rfl) (.cons .val (.cons (.agg (.cons .val (.cons .val .nil))) (.cons .val .nil)))) ⟨_,_,_,rfl,.head _,⟨_,rfl,(by repeat' (first | exact L2.nil | apply L2.cons | exact Ag.val | exact Ag.sl | exact Ag.nils | exact Ag.ptr rfl | exact Ag.rowK rfl))⟩,⟨_,_,_,rfl,.tail _ (.head _),rfl,rfl⟩⟩ rfl (by intro h; cases h) rfl (by intro h; first | (cases h; done) | exact⟨_,_,⟨rfl,rfl⟩,by simp,by simp⟩) ?_
 rintro _ _ ⟨rfl,rfl⟩
 refine Gh fun B=>?_
 exact⟨(y_8.at_.Source,y_8.at_.Host,y_8.at_.Machine,y_8.at_.Day,y_8.at_.Confidence,y_8.at_.Kind,y_8.at_.Subject,y_8.at_.Use.Alg,y_8.at_.Use.Bits,y_8.at_.Number,y_8.at_.Text,y_8.l),G,Ar [(0,48),(1,480)]⟩
 refine C8 ?_
 exact⟨(y_5.at_.Source,y_5.at_.Host,y_5.at_.Machine,y_5.at_.Day,y_5.at_.Confidence,y_5.at_.Kind,y_5.at_.Subject,y_5.at_.Use.Alg,y_5.at_.Use.Bits,y_5.at_.Number,y_5.at_.Text,y_5.l),G,Ar [(0,48),(1,328)]⟩
 rintro⟨p_1,p_1_2,p_1_3,p_1_4,p_1_5,p_1_6,p_1_7,p_1_8,p_1_9,p_1_10,p_1_11,l_1⟩ G
 replace G:Cm.j1 p_1 p_1_2 p_1_3 p_1_4 p_1_5 p_1_6 p_1_7 p_1_8 p_1_9 p_1_10 p_1_11 l_1=some r:=G
 show B3 _ _ _ _ (mk _ _ _)
 unfold Cm.j1 at G
 refine Aj <| Fw (σ':=mk [(8,.ptr 0 0)] [(0,.box [vk p_1,ws p_1_2,vk p_1_3,vk p_1_4,vk p_1_5,vk p_1_6,ws p_1_7,vk p_1_8,vk p_1_9,vk p_1_10,ws p_1_11,.sl 11 (Aq Aa.enc l_1)] 82)] 1) (Ar [(0,0)]) ?_
 refine Ak (B6 _ _ []) 1 73 Ay rfl rfl ?_
 refine As ?_
 obtain⟨y_9,hy_9,G⟩:=Ab G
 refine Dh (Lx _ _ hy_9) ?_
 exact De
theorem Qo (l:(List Int)) (low:Int) (high:Int) (r:Bool) (G:Cz l low high=some r):Fn Tryz.prog 82 0 [.sl 1 (Aq eI l),vk low,vk high] [] (fun d' b'=>d'=.val (.bool r)/\b'=[]):=by
 unfold Cz at G
 refine Fn.of Tryz.func82 rfl rfl rfl fun w0 I ρ0=>?_
 show B3 _ ⟨w0,I,ρ0,0,0,38⟩ _ _ _
 refine Bf 0 8 Ay fun B=>?_
 refine Aj <| Bf 8 16 B fun B=>?_
 refine Ap <| Ji (fun (i_1:Int)=>mk [(0,.sl 1 (Aq eI l)),(1,vk low),(2,vk high),(7,vk i_1)] [] 0) G (Ar []) ?_
 rintro i_1 m1 o1 G hn1
 replace G:Cz.l1 l low high i_1=some o1:=G
 show B3 _ _ _ _ (mk _ _ _)
 unfold Cz.l1 at G
 refine Aj <| Bf 0 32 Ay fun B=>?_
 refine Cp rfl G (fun h4 G=>?_) fun h4 G=>?_
 refine C8 ?_
 refine Aj <| Ap <| Bo (ι:=Bool) (fun (x37_2:Bool)=>mk [(0,.sl 1 (Aq eI l)),(1,vk low),(2,vk high),(7,vk i_1),(37,.val (.bool x37_2))] [] 0) (fun (x37_2:Bool)=>Cz.j2 i_1 x37_2=some o1) ?_ ?_
 refine Bn (B6 _ _ []) (by kernel_rfl) [0,0,3,7,0,31,63,127,127,511,1023,127,4095,8191,16383,32767,32767,131071,32767,32767,819199,1867775,4194303,8388607] 32 224 B rfl rfl (by kernel_rfl) ?_
 refine As ?_
 obtain⟨e,he,G⟩:=Ab G
 refine As ?_
 refine No he ?_
 refine As ?_
 rcases Dm G with ⟨h5,G⟩ | ⟨h5,G⟩
 refine Bd fun B=>?_
 exact⟨true,G,Ar []⟩
 refine As ?_
 refine No he ?_
 refine As ?_
 rcases Dm G with ⟨h7,G⟩ | ⟨h7,G⟩
 refine Bd fun B=>?_
 exact⟨true,G,Ar []⟩
 refine As ?_
 obtain⟨l_2,hl_2,G⟩:=Ab G
 refine C0 (Eb rfl rfl h7) rfl (Ue Ee Jo hl_2) rfl rfl ?_
 refine As ?_
 refine No he ?_
 obtain⟨y,hy,G⟩:=Ab G
 refine Dh (Tf _ _ _ hy) ?_
 refine Bd fun B=>?_
 exact⟨y,G,Ar []⟩
 rintro x37_2 G
 replace G:Cz.j2 i_1 x37_2=some o1:=G
 show B3 _ _ _ _ (mk _ _ _)
 unfold Cz.j2 at G
 refine Cp rfl G (fun h10 G=>?_) fun h10 G=>?_
 refine Bf 0 8 Ay fun B=>?_
 refine E2 ?_
 replace G:=Cd G hn1
 exact Uq
 refine C8 ?_
 refine Ak (B6 _ _ []) 0 24 Ay rfl rfl ?_
 refine Bd fun B=>?_
 obtain rfl:=oi_ G
 exact⟨(W (i_1 + 1),m1),aCz _,hn1,Ar []⟩
 refine Je ?_
 replace G:=Cd G hn1
 refine Bf 32 40 B fun B=>?_
 exact Lf
theorem cF (h':Dj) (r:Bool) (G:Ld h'=some r):Fn Tryz.prog 51 0 [.agg (Dj.dv h')] [] (fun d' b'=>d'=.val (.bool r)/\b'=[]):=by
 unfold Ld at G
 refine Fn.of Tryz.func51 rfl rfl rfl fun w0 I ρ0=>?_
 show B3 _ ⟨w0,I,ρ0,0,0,39⟩ _ _ _
 refine Bf 0 16 Ay fun B=>?_
 refine Cc 16 312 B ?_
 refine As ?_
 rcases Dm G with ⟨h2,G⟩ | ⟨h2,G⟩
 refine As ?_
 rcases Dm G with ⟨h3,G⟩ | ⟨h3,G⟩
 refine As ?_
 rcases Dm G with ⟨h4,G⟩ | ⟨h4,G⟩
 refine As ?_
 rcases Dm G with ⟨h5,G⟩ | ⟨h5,G⟩
 refine As ?_
 rcases Dm G with ⟨h6,G⟩ | ⟨h6,G⟩
 refine As ?_
 obtain⟨y,hy,G⟩:=Ab G
 refine Dh (Qo _ _ _ _ hy) ?_
 refine As ?_
 rcases Dm G with ⟨h7,G⟩ | ⟨h7,G⟩
 refine As ?_
 obtain⟨y_2,hy_2,G⟩:=Ab G
 refine Dh (Qo _ _ _ _ hy_2) ?_
 exact De
 exact De
 exact De
 exact De
 exact De
 exact De
 exact De
end Go.Proofs.YtchpcpaacenodaaGreat
