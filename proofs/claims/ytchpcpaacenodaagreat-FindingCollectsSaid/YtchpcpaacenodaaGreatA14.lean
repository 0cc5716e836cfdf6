import Derived.Test.YtchpcpaacenodaaGreatT1
import Derived.Test.YtchpcpaacenodaaGreatA1
import Derived.Test.YtchpcpaacenodaaGreatA6
import Derived.Test.YtchpcpaacenodaaGreatA7
import Derived.Test.YtchpcpaacenodaaGreatA9
import Derived.Test.YtchpcpaacenodaaGreatA11
import Derived.Test.YtchpcpaacenodaaGreatA12
import Derived.Test.YtchpcpaacenodaaGreatA13
set_option linter.unusedVariables false
set_option linter.unusedSimpArgs false
set_option maxRecDepth 100000
set_option maxHeartbeats 1600000
namespace Go.Proofs.YtchpcpaacenodaaGreat
open Go.RowKit
theorem aJ (c:C6) (r:Bool) (G:L7 c=some r):Fn Tryz.prog 52 0 [.agg (C6.dv c)] [] (fun d' b'=>d'=.val (.bool r)/\b'=[]):=by
 unfold L7 at G
 refine Fn.of Tryz.func52 rfl rfl rfl fun w0 I ρ0=>?_
 show B3 _ ⟨w0,I,ρ0,0,0,31⟩ _ _ _
 refine Bf 0 16 Ay fun B=>?_
 refine Cc 16 248 B ?_
 refine As ?_
 rcases Dm G with ⟨h2,G⟩ | ⟨h2,G⟩
 refine As ?_
 rcases Dm G with ⟨h3,G⟩ | ⟨h3,G⟩
 refine As ?_
 rcases Dm G with ⟨h4,G⟩ | ⟨h4,G⟩
 refine As ?_
 rcases Dm G with ⟨h5,G⟩ | ⟨h5,G⟩
 refine As ?_
 rcases Dm G with ⟨h6,G⟩ | ⟨h6,G⟩
 exact De
 exact De
 exact De
 exact De
 exact De
 exact De
theorem U4 (at':Aa) (h':Dj) (c:C6) (r:(List Aa)×Int) (G:By at' h' c=some r):Fn Tryz.prog 23 0 [.agg (Aa.dv at'),.agg (Dj.dv h'),.agg (C6.dv c)] [] (fun d' b'=>d'=.tup [.sl 11 (Aq Aa.enc r.1),vk r.2]/\b'=[]):=by
 unfold By at G
 refine Fn.of Tryz.func23 rfl rfl rfl fun w0 I ρ0=>?_
 show B3 _ ⟨w0,I,ρ0,0,0,61⟩ _ _ _
 refine Bf 0 40 Ay fun B=>?_
 refine Cc 40 104 B ?_
 refine As ?_
 obtain⟨y,hy,G⟩:=Ab G
 refine Dh (Ny _ _ hy) ?_
 refine Bd fun B=>?_
 refine Aj <| Bf 104 120 B fun B=>?_
 refine Cp rfl G (fun h4 G=>?_) fun h4 G=>?_
 refine Cc 120 144 B ?_
 exact De
 refine C8 ?_
 refine Aj <| Bo (ι:=Bool) (fun (x28_1:Bool)=>mk [(5,.ptr 0 0),(8,.ptr 1 0),(28,.val (.bool x28_1))] [(0,.box (C6.dv c) 46),(1,.box (Aa.dv y.1) 30)] 2) (fun (x28_1:Bool)=>By.j1 c y x28_1=some r) ?_ ?_
 refine Ak (B6 _ _ []) 120 184 B rfl rfl ?_
 refine As ?_
 obtain⟨y_2,hy_2,G⟩:=Ab G
 refine Dh (cF _ _ hy_2) ?_
 refine As ?_
 rcases Dm G with ⟨h6,G⟩ | ⟨h6,G⟩
 refine Bd fun B=>?_
 exact⟨true,G,Ar [(0,16),(1,80)]⟩
 refine As ?_
 obtain⟨y_3,hy_3,G⟩:=Ab G
 refine Dh (aJ _ _ hy_3) ?_
 refine Bd fun B=>?_
 exact⟨!y_3,G,Ar [(0,16),(1,80)]⟩
 rintro x28_1 G
 replace G:By.j1 c y x28_1=some r:=G
 show B3 _ _ _ _ (mk _ _ _)
 unfold By.j1 at G
 refine Cp rfl G (fun h9 G=>?_) fun h9 G=>?_
 refine Cc 2 18 Ay ?_
 exact De
 refine C8 ?_
 refine Aj <| Bn (B6 _ _ []) (by kernel_rfl) [0,0,2,7,0,0,32,127,255,511] 2 82 Ay rfl rfl (by kernel_rfl) ?_
 refine As ?_
 obtain⟨y_4,hy_4,G⟩:=Ab G
 refine Dh (Jp _ _ _ _ hy_4) ?_
 refine As ?_
 obtain⟨y_5,hy_5,G⟩:=Ab G
 refine Dh (Jp _ _ _ _ hy_5) ?_
 refine I8 Kl fD I6 ([y_4,y_5]:List Aa) Aa.enc ?_
 refine Bd fun B=>?_
 refine Bo (ι:=List Aa) (fun (l_2:List Aa)=>mk [(10,.row 0)] [(0,.row 30 11 (Aq Aa.enc l_2))] 1) (fun (l_2:List Aa)=>By.j2 l_2=some r) ?_ ?_
 refine Cc 82 154 B ?_
 refine As ?_
 obtain⟨y_6,hy_6,G⟩:=Ab G
 refine Dh (Qd _ _ hy_6) ?_
 refine Bd fun B=>?_
 refine Bf 154 170 B fun B=>?_
 refine Cp rfl G (fun h14 G=>?_) fun h14 G=>?_
 refine Bn (B6 _ _ []) (by kernel_rfl) [0,0,0,4,14,0,0,64,254,510,1023,2047] 170 266 B rfl rfl (by kernel_rfl) ?_
 refine As ?_
 obtain⟨y_7,hy_7,G⟩:=Ab G
 refine Dh (Li _ _ _ _ _ hy_7) ?_
 refine As ?_
 obtain⟨y_8,hy_8,G⟩:=Ab G
 refine Dh (Li _ _ _ _ _ hy_8) ?_
 refine I8 Kl fD I6 ([y_7,y_8]:List Aa) Aa.enc ?_
 obtain⟨l,hl,G⟩:=Ab G
 refine Fi (rd:=[66,242]) rfl rfl (Dk Kl Aa.enc_len .row rfl .row rfl hl rfl) rfl rfl ?_
 refine Bd fun B=>?_
 exact⟨l,G,Ar [(0,250)]⟩
 refine C8 ?_
 exact⟨([y_4,y_5]:List Aa),G,Ar [(0,66)]⟩
 rintro l_2 G
 replace G:By.j2 l_2=some r:=G
 show B3 _ _ _ _ (mk _ _ _)
 unfold By.j2 at G
 refine Cc 1 49 Ay ?_
 refine As ?_
 obtain⟨y_9,hy_9,G⟩:=Ab G
 refine F0 (rd:=[0]) (ps:=[]) (gs:=[]) true rfl (Ky _ _ hy_9) rfl rfl (.cons (.row rfl (.head _) rfl) .nil) rfl rfl (by rintro - _ _ ⟨rfl,rfl⟩; exact⟨by simp [Jf,K5],fb_⟩) rfl (by intro h; first | (cases h; done) | exact⟨_,_,⟨rfl,rfl⟩,by simp,by simp⟩) ?_
 rintro _ _ ⟨rfl,rfl⟩
 exact De
theorem N3 (a:(List Aa)) (b:(List Aa)) (r:Bool) (G:Eh a b=some r):Fn Tryz.prog 24 0 [.sl 11 (Aq Aa.enc a),.sl 11 (Aq Aa.enc b)] [] (fun d' b'=>d'=.val (.bool r)/\b'=[]):=by
 unfold Eh at G
 refine Fn.of Tryz.func24 rfl rfl rfl fun w0 I ρ0=>?_
 show B3 _ ⟨w0,I,ρ0,0,0,26⟩ _ _ _
 refine Bf 0 8 Ay fun B=>?_
 refine Aj <| Bf 8 48 B fun B=>?_
 refine Cp rfl G (fun h3 G=>?_) fun h3 G=>?_
 refine Cc 48 56 B ?_
 exact De
 refine C8 ?_
 refine Aj <| Bf 48 56 B fun B=>?_
 refine Ap <| Ji (fun (i_1:Int)=>mk [(0,.sl 11 (Aq Aa.enc a)),(1,.sl 11 (Aq Aa.enc b)),(5,vk i_1)] [] 0) G (Ar []) ?_
 rintro i_1 m1 o1 G hn1
 replace G:Eh.l1 a b i_1=some o1:=G
 show B3 _ _ _ _ (mk _ _ _)
 unfold Eh.l1 at G
 refine Aj <| Bf 0 32 Ay fun B=>?_
 refine Cp rfl G (fun h7 G=>?_) fun h7 G=>?_
 refine C8 ?_
 refine Aj <| Ap <| Aj <| Bn (B6 _ _ []) (by kernel_rfl) [0,0,3,7,0,0,48,112,255] 32 104 B rfl rfl (by kernel_rfl) ?_
 refine As ?_
 obtain⟨e,he,G⟩:=Ab G
 refine As ?_
 refine gZ he ?_
 refine As ?_
 obtain⟨e_2,he_2,G⟩:=Ab G
 refine As ?_
 refine gZ he_2 ?_
 refine C0 rfl rfl (Z1 e e_2) rfl rfl ?_
 refine Gh fun B=>?_
 refine Cp rfl G (fun h9 G=>?_) fun h9 G=>?_
 refine Bf 104 112 B fun B=>?_
 refine E2 ?_
 replace G:=Cd G hn1
 exact Uq
 refine C8 ?_
 refine Ak (B6 _ _ []) 104 128 B rfl rfl ?_
 refine Bd fun B=>?_
 obtain rfl:=oi_ G
 exact⟨(W (i_1 + 1),m1),aCz _,hn1,Ar []⟩
 refine Je ?_
 replace G:=Cd G hn1
 refine Bf 32 40 B fun B=>?_
 exact Lf
theorem Q8 (l:(List Int)) (odds:UInt8) (r:Bool) (G:Bh l odds=some r):Fn Tryz.prog 3 0 [.sl 1 (Aq eI l),.val (.int .u8 (odds.toNat:Int))] [] (fun d' b'=>d'=.val (.bool r)/\b'=[]):=by
 unfold Bh at G
 refine Fn.of Tryz.func3 rfl rfl rfl fun w0 I ρ0=>?_
 show B3 _ ⟨w0,I,ρ0,0,0,179⟩ _ _ _
 refine Bf 0 8 Ay fun B=>?_
 refine Aj <| Cc 8 32 B ?_
 refine As ?_
 obtain⟨y,hy,G⟩:=Ab G
 refine Dh (fY _ _ hy) ?_
 refine Bd fun B=>?_
 refine Cp rfl G (fun h3 G=>?_) fun h3 G=>?_
 refine Cc 32 48 B ?_
 obtain⟨y_2,hy_2,G⟩:=Ab G
 refine Dh (Vg _ hy_2) ?_
 exact De
 refine C8 ?_
 refine Cc 32 56 B ?_
 refine As ?_
 obtain⟨y_3,hy_3,G⟩:=Ab G
 refine F0 (rd:=[]) (ps:=[]) (gs:=[]) false rfl (iF _ _ hy_3) rfl rfl (.cons .sl .nil) rfl rfl (by intro h; cases h) rfl (by intro h; first | (cases h; done) | exact⟨_,_,⟨rfl,rfl⟩,by simp,by simp⟩) ?_
 rintro _ _ ⟨rfl,rfl⟩
 refine Bd fun B=>?_
 refine Cc 56 88 B ?_
 refine As ?_
 obtain⟨y_4,hy_4,G⟩:=Ab G
 refine F9 [40] [40] [] false (Ua _ _ hy_4) ?_
 refine Bd fun B=>?_
 refine Bo (ι:=Ac×Aa) (fun ((d_1,at_1):Ac×Aa)=>mk [(1,.val (.int .u8 (odds.toNat:Int))),(5,.ptr 0 0),(6,.ptr 1 0)] [(0,.box [.sl 1 (Aq eI d_1.L),vk d_1.At] 62),(1,.box (Aa.dv at_1) 30)] 2) (fun ((d_1,at_1):Ac×Aa)=>Bh.j1 odds d_1 at_1=some r) ?_ ?_
 refine Cc 88 112 B ?_
 refine As ?_
 obtain⟨q,hq,G⟩:=Ab G
 refine C0 rfl rfl (sL (a:=odds) (b:=(5:UInt8)) hq) rfl rfl ?_
 refine Bd fun B=>?_
 refine Cp rfl G (fun h8 G=>?_) fun h8 G=>?_
 refine Ak (B6 _ _ []) 112 136 B rfl rfl ?_
 refine As ?_
 obtain⟨y_5,hy_5,G⟩:=Ab G
 refine F9 [40] [40] [] false (iO _ _ hy_5) ?_
 refine Bd fun B=>?_
 exact⟨(y_5.2,y_5.1),G,Ar [(0,40),(1,72)]⟩
 refine C8 ?_
 exact⟨(y_4.2,y_4.1),G,Ar [(0,40),(1,72)]⟩
 rintro⟨d_1,at_1⟩ G
 replace G:Bh.j1 odds d_1 at_1=some r:=G
 show B3 _ _ _ _ (mk _ _ _)
 unfold Bh.j1 at G
 refine Cc 2 58 Ay ?_
 refine As ?_
 obtain⟨y_6,hy_6,G⟩:=Ab G
 refine F9 [0] [0] [] false (Yw _ _ _ hy_6) ?_
 refine As ?_
 obtain⟨y_7,hy_7,G⟩:=Ab G
 refine F0 (rd:=[0]) (ps:=[0]) (gs:=[]) false rfl (Ya _ _ _ hy_7) rfl rfl (.cons (.ptr rfl) (.cons .val .nil)) ⟨_,_,_,rfl,.head _,⟨_,rfl,(by repeat' (first | exact L2.nil | apply L2.cons | exact Ag.val | exact Ag.sl | exact Ag.nils | exact Ag.ptr rfl | exact Ag.rowK rfl))⟩,rfl⟩ rfl (by intro h; cases h) rfl (by intro h; first | (cases h; done) | exact⟨_,_,⟨rfl,rfl⟩,by simp,by simp⟩) ?_
 rintro _ _ ⟨rfl,rfl⟩
 refine Bd fun B=>?_
 refine Bf 58 66 B fun B=>?_
 refine Aj <| Cc 66 90 B ?_
 refine As ?_
 obtain⟨y_8,hy_8,G⟩:=Ab G
 refine F9 [0] [0] [] false (B5 _ _ _ hy_8) ?_
 refine Bd fun B=>?_
 refine Ap <| Ji (fun ((i_2,d_2,u_2):Int×Ac×List Am)=>mk [(1,.val (.int .u8 (odds.toNat:Int))),(5,.ptr 0 0),(6,.ptr 1 0),(7,.ptr 2 0),(8,.row 3),(9,.row 4),(10,vk i_2)] [(0,.box [.sl 1 (Aq eI d_2.L),vk d_2.At] 62),(1,.box (Aa.dv at_1) 30),(2,.box (Av.dv y_6.1) 34),(3,.row 50 6 (Aq Ax.enc y_7.1)),(4,.row 28 2 (Aq Am.enc u_2))] 5) G (Ar [(0,0),(1,1),(2,34),(3,26)]) ?_
 rintro⟨i_2,d_2,u_2⟩ m2 o2 G hn2
 replace G:Bh.l2 odds at_1 y_6 y_7 i_2 d_2 u_2=some o2:=G
 show B3 _ _ _ _ (mk _ _ _)
 unfold Bh.l2 at G
 refine Aj <| Bf 5 21 Ay fun B=>?_
 refine Cp rfl G (fun h14 G=>?_) fun h14 G=>?_
 refine C8 ?_
 refine Aj <| Ap <| Ak (B6 _ _ []) 21 69 B rfl rfl ?_
 refine As ?_
 obtain⟨y_9,hy_9,G⟩:=Ab G
 refine F9 [0] [0] [] false (lZ _ _ hy_9) ?_
 refine I8 pG S6 aAt ([y_9.1]:List Am) Am.enc ?_
 obtain⟨l_2,hl_2,G⟩:=Ab G
 refine Fi (rd:=[4,45]) rfl rfl (Dk pG Am.enc_len .row rfl .row rfl hl_2 rfl) rfl rfl ?_
 refine Bd fun B=>?_
 refine Ak (B6 _ _ []) 69 93 B rfl rfl ?_
 refine Bd fun B=>?_
 obtain rfl:=oi_ G
 exact⟨((W (i_2 - 1),y_9.2,l_2),m2),aCz _,hn2,Ar [(0,0),(1,1),(2,2),(3,3),(4,53)]⟩
 refine Je ?_
 replace G:=Cd G hn2
 refine Aj <| Ak (B6 _ _ [77]) 21 133 B rfl rfl ?_
 refine As ?_
 obtain⟨y_10,hy_10,G⟩:=Ab G
 refine F9 [0] [0] [] false (Vh _ _ hy_10) ?_
 refine Lq oF aGy z43 ?_
 refine As ?_
 obtain⟨y_11,hy_11,G⟩:=Ab G
 refine F9 [0] [0] [] false (B5 _ _ _ hy_11) ?_
 refine As ?_
 refine Ou Ee z3 I1 ([10,1,300,0,16]:List Int) eI ?_
 obtain⟨y_12,hy_12,G⟩:=Ab G
 refine F9 [0] [0] [] false (B4 _ _ _ hy_12) ?_
 refine Lq nR aGq z46 ?_
 refine Bd fun B=>?_
 refine Bo (ι:=Av×List Ax×List Am×Int) (fun ((e_3,s_3,u_3,c_3):Av×List Ax×List Am×Int)=>mk [(6,.ptr 0 0),(7,.ptr 1 0),(8,.row 2),(9,.row 3),(11,.ptr 4 0),(12,.ptr 5 0)] [(0,.box (Aa.dv at_1) 30),(1,.box (Av.dv e_3) 34),(2,.row 50 6 (Aq Ax.enc s_3)),(3,.row 28 2 (Aq Am.enc u_3)),(4,.box [.val (.int .i64 3),.sl 1 (Aq eI y_10.1),.val (.slice none 0 0)] 43),(5,.box [vk c_3,vk y_12.1,.val (.int .i64 7)] 46)] 6) (fun ((e_3,s_3,u_3,c_3):Av×List Ax×List Am×Int)=>Bh.j3 at_1 y_10 y_12 e_3 s_3 u_3 c_3=some r) ?_ ?_
 refine Cc 133 149 B ?_
 refine As ?_
 obtain⟨q_2,hq_2,G⟩:=Ab G
 refine C0 rfl rfl (sL (a:=odds) (b:=(7:UInt8)) hq_2) rfl rfl ?_
 refine Gh fun B=>?_
 refine Ap <| Bf 149 165 B fun B=>?_
 refine Cp rfl G (fun h20 G=>?_) fun h20 G=>?_
 refine Ak (B6 _ _ []) 165 197 B rfl rfl ?_
 refine As ?_
 obtain⟨y_13,hy_13,G⟩:=Ab G
 refine F9 [0] [0] [] false (lQ _ _ _ hy_13) ?_
 refine Bd fun B=>?_
 exact⟨(y_13.1,y_7.1,u_2,W (1 + y_11.1)),G,Ar [(0,1),(1,2),(2,3),(3,4),(4,101),(5,109)]⟩
 refine Bf 165 181 B fun B=>?_
 refine Cp rfl G (fun h23 G=>?_) fun h23 G=>?_
 refine Ak (B6 _ _ []) 181 213 B rfl rfl ?_
 refine As ?_
 obtain⟨e,he,G⟩:=Ab G
 refine As ?_
 refine Fi (rd:=[3]) rfl rfl (bD Yl rfl (Eg Ax.enc_len (Bq he) (o:=3) (m:=1) (by decide) rfl) I1 (cs':=[.int .i64 (-1)]) (.cons .int .nil) (V0 Ax.enc_len (Bq he) (o:=3) (x':=(Ax.mk e.Alias e.Key (-1) e.Secret e.Chain)) (aD6 rfl) rfl rfl)) rfl rfl ?_
 refine Gh fun B=>?_
 exact⟨(y_6.1,Db y_7.1 ((0:Int).toNat) (Ax.mk e.Alias e.Key (-1) e.Secret e.Chain),u_2,W (1 + y_11.1)),G,Ar [(0,1),(1,2),(2,3),(3,4),(4,101),(5,109)]⟩
 refine Bf 181 197 B fun B=>?_
 refine Cp rfl G (fun h26 G=>?_) fun h26 G=>?_
 refine Ak (B6 _ _ []) 197 237 B rfl rfl ?_
 refine As ?_
 refine Lq Hj Lc S6 ?_
 refine I8 pG S6 aAt ([(Am.mk 0 0)]:List Am) Am.enc ?_
 obtain⟨l_3,hl_3,G⟩:=Ab G
 refine Fi (rd:=[4,213]) rfl rfl (Dk pG Am.enc_len .row rfl .row rfl hl_3 rfl) rfl rfl ?_
 refine Bd fun B=>?_
 exact⟨(y_6.1,y_7.1,l_3,W (1 + y_11.1)),G,Ar [(0,1),(1,2),(2,3),(3,221),(4,101),(5,109)]⟩
 refine Bf 197 213 B fun B=>?_
 refine Cp rfl G (fun h29 G=>?_) fun h29 G=>?_
 refine Ak (B6 _ _ []) 213 229 B rfl rfl ?_
 refine Bd fun B=>?_
 exact⟨(y_6.1,y_7.1,u_2,9),G,Ar [(0,1),(1,2),(2,3),(3,4),(4,101),(5,109)]⟩
 refine C8 ?_
 exact⟨(y_6.1,y_7.1,u_2,W (1 + y_11.1)),G,Ar [(0,1),(1,2),(2,3),(3,4),(4,101),(5,109)]⟩
 rintro⟨e_3,s_3,u_3,c_3⟩ G
 replace G:Bh.j3 at_1 y_10 y_12 e_3 s_3 u_3 c_3=some r:=G
 show B3 _ _ _ _ (mk _ _ _)
 unfold Bh.j3 at G
 refine Cc 6 70 Ay ?_
 refine As ?_
 obtain⟨y_14,hy_14,G⟩:=Ab G
 refine Dh (R4 _ _ _ hy_14) ?_
 refine Bd fun B=>?_
 refine Cc 70 134 B ?_
 refine As ?_
 obtain⟨y_15,hy_15,G⟩:=Ab G
 refine Dh (Tp _ _ _ hy_15) ?_
 refine Bd fun B=>?_
 refine Aj <| Fw (σ':=mk [(6,.ptr 0 0),(8,.sl 6 (Aq Ax.enc s_3)),(9,.row 1),(11,.ptr 2 0),(12,.ptr 3 0),(13,.sl 11 (Aq Aa.enc y_14.1)),(14,vk y_14.2),(15,.sl 11 (Aq Aa.enc y_15.1)),(16,vk y_15.2)] [(0,.box (Aa.dv at_1) 30),(1,.row 28 2 (Aq Am.enc u_3)),(2,.box [.val (.int .i64 3),.sl 1 (Aq eI y_10.1),.val (.slice none 0 0)] 43),(3,.box [vk c_3,vk y_12.1,.val (.int .i64 7)] 46)] 4) (Ar [(0,0),(1,3),(2,4),(3,5)]) ?_
 refine Ak (B6 _ _ []) 4 68 Ay rfl rfl ?_
 refine As ?_
 obtain⟨y_16,hy_16,G⟩:=Ab G
 refine Dh (Nt _ _ _ hy_16) ?_
 refine Bd fun B=>?_
 refine Cc 68 132 B ?_
 refine As ?_
 obtain⟨y_17,hy_17,G⟩:=Ab G
 refine Dh (Wr _ _ _ hy_17) ?_
 refine Bd fun B=>?_
 refine Aj <| Fw (σ':=mk [(6,.ptr 0 0),(9,.sl 2 (Aq Am.enc u_3)),(11,.ptr 1 0),(12,.ptr 2 0),(13,.sl 11 (Aq Aa.enc y_14.1)),(14,vk y_14.2),(15,.sl 11 (Aq Aa.enc y_15.1)),(16,vk y_15.2),(17,.sl 11 (Aq Aa.enc y_16.1)),(18,vk y_16.2),(19,.sl 11 (Aq Aa.enc y_17.1)),(20,vk y_17.2)] [(0,.box (Aa.dv at_1) 30),(1,.box [.val (.int .i64 3),.sl 1 (Aq eI y_10.1),.val (.slice none 0 0)] 43),(2,.box [vk c_3,vk y_12.1,.val (.int .i64 7)] 46)] 3) (Ar [(0,0),(1,2),(2,3)]) ?_
 refine Ak (B6 _ _ []) 3 67 Ay rfl rfl ?_
 refine As ?_
 obtain⟨y_18,hy_18,G⟩:=Ab G
 refine Dh (Vq _ _ _ hy_18) ?_
 refine Bd fun B=>?_
 refine Cc 67 131 B ?_
 refine As ?_
 obtain⟨y_19,hy_19,G⟩:=Ab G
 refine Dh (Xi _ _ _ hy_19) ?_
 refine Bd fun B=>?_
 refine Cc 131 203 B ?_
 refine As ?_
 obtain⟨y_20,hy_20,G⟩:=Ab G
 refine Dh (S4 _ _ _ _ hy_20) ?_
 refine Bd fun B=>?_
 refine Cc 203 275 B ?_
 refine As ?_
 obtain⟨y_21,hy_21,G⟩:=Ab G
 refine Dh (U4 _ _ _ _ hy_21) ?_
 refine Bd fun B=>?_
 refine Cc 275 611 B ?_
 refine As ?_
 rcases Dm G with ⟨h39,G⟩ | ⟨h39,G⟩
 refine As ?_
 rcases Dm G with ⟨h40,G⟩ | ⟨h40,G⟩
 refine As ?_
 rcases Dm G with ⟨h41,G⟩ | ⟨h41,G⟩
 refine As ?_
 rcases Dm G with ⟨h42,G⟩ | ⟨h42,G⟩
 refine As ?_
 obtain⟨y_22,hy_22,G⟩:=Ab G
 refine Dh (N3 _ _ _ hy_22) ?_
 refine As ?_
 rcases Dm G with ⟨h43,G⟩ | ⟨h43,G⟩
 refine As ?_
 obtain⟨y_23,hy_23,G⟩:=Ab G
 refine Dh (N3 _ _ _ hy_23) ?_
 refine As ?_
 rcases Dm G with ⟨h44,G⟩ | ⟨h44,G⟩
 refine As ?_
 obtain⟨y_24,hy_24,G⟩:=Ab G
 refine Dh (N3 _ _ _ hy_24) ?_
 refine As ?_
 rcases Dm G with ⟨h45,G⟩ | ⟨h45,G⟩
 refine As ?_
 obtain⟨y_25,hy_25,G⟩:=Ab G
 refine Dh (N3 _ _ _ hy_25) ?_
 refine As ?_
 rcases Dm G with ⟨h46,G⟩ | ⟨h46,G⟩
 obtain⟨y_26,hy_26,G⟩:=Ab G
 refine Dh (Vg _ hy_26) ?_
 exact De
 exact De
 exact De
 exact De
 exact De
 exact De
 exact De
 exact De
 exact De
end Go.Proofs.YtchpcpaacenodaaGreat
