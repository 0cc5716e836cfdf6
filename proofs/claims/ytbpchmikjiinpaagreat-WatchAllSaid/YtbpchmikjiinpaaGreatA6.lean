import Derived.Test.YtbpchmikjiinpaaGreatT1
import Derived.Test.YtbpchmikjiinpaaGreatEU
import Derived.Test.YtbpchmikjiinpaaGreatA1
import Derived.Test.YtbpchmikjiinpaaGreatA3
import Derived.Test.YtbpchmikjiinpaaGreatA5
set_option linter.unusedVariables false
set_option linter.unusedSimpArgs false
set_option maxRecDepth 100000
set_option maxHeartbeats 40000000
namespace Go.Proofs.YtbpchmikjiinpaaGreat
open Go.RowKit
theorem cK {f kind n r} (G:Ka f kind n=some r):Fn Tryz.prog 61 0 [.agg (Aa.dv f),vk kind,vk n] [] (fun d' b'=>d'=.agg (Aa.dv r)/\b'=[]):=by
 unfold Ka at G
 refine Dx 0 12 Tryz.func61 fun _ _ _=>?_
 exact Cf
instance aPq:Wk 61:=⟨_,@cK⟩
theorem kE {f kind u n r} (G:Q1 f kind u n=some r):Fn Tryz.prog 62 0 [.agg (Aa.dv f),vk kind,.agg [vk u.Alg,vk u.Bits],vk n] [] (fun d' b'=>d'=.agg (Aa.dv r)/\b'=[]):=by
 unfold Q1 at G
 refine Dx 0 16 Tryz.func62 fun _ _ _=>?_
 refine Bt 1 fun B G=>?_
 refine Au <| Bb (Df _ _ []) (by kernel_rfl) [0,0,0,1,9,27,59,127,255] 24 96 B rfl rfl (by kernel_rfl) ?_
 exact Cf
instance aPs:Wk 62:=⟨_,@kE⟩
theorem eP {a b r} (G:Jt a b=some r):Fn Tryz.prog 155 0 [ws a,ws b] [] (fun d' b'=>d'=vk r/\b'=[]):=by
 unfold Jt at G
 refine Dx 0 11 Tryz.func155 fun _ _ _=>?_
 exact Cf
instance aNg:Wk 155:=⟨_,@eP⟩
theorem O9 {a b r} (G:D8 a b=some r):Fn Tryz.prog 156 0 [.sl 1 (Aj eI a),.sl 1 (Aj eI b)] [] (fun d' b'=>d'=vk r/\b'=[]):=by
 unfold D8 at G
 refine Dx 0 30 Tryz.func156 fun _ _ _=>?_
 refine Bt 4 fun B G=>?_
 refine G7 (fun (i_1:Int)=>mk [(0,.sl 1 (Aj eI a)),(1,.sl 1 (Aj eI b)),(5,vk i_1)] [] 0) G (B9 []) ?_
 rintro i_1 m1 o1 G hn1
 unfold D8.l1 at G
 refine D4 (.r 2 (.e 3)) fun _ B G=>?_
 refine Au <| Au <| Bb (Df _ _ []) (by kernel_rfl) [0,0,3,7,0,0,48,112,255] 32 104 B rfl rfl (by kernel_rfl) ?_
 refine Md (.l 4 (.e 1)) fun _ he _ he_2 _ B G=>?_
 refine Au <| Bb (Df _ _ []) (by kernel_rfl) [0,0,3,7,0,0,48,112,255] 104 176 B rfl rfl (by kernel_rfl) ?_
 exact Cf
instance aN4:Wk 156:=⟨_,@O9⟩
theorem eM {a b r} (G:Kz a b=some r):Fn Tryz.prog 117 0 [.agg (Aa.dv a),.agg (Aa.dv b)] [] (fun d' b'=>d'=vk r/\b'=[]):=by
 unfold Kz at G
 refine Dx 0 85 Tryz.func117 fun _ _ _=>?_
 refine Md (.l 5 (.e 3)) fun _ _ _ B G=>?_
 refine Hj Eb z3 I7 ([a.Machine,a.Day]:List Int) eI ?_
 refine Bt 0 fun B G=>?_
 refine Hj Eb z3 I7 ([b.Machine,b.Day]:List Int) eI ?_
 obtain⟨y_2,hy_2,G⟩:=Ak G
 refine P5 [120,160] [] [] true (O9 hy_2) ?_
 refine Md (.l 1 (.l 5 (.e 3))) fun _ _ _ _ B G=>?_
 refine Hj Eb z3 I7 ([a.Kind,a.Use.Alg,a.Use.Bits,a.Number]:List Int) eI ?_
 refine Bt 0 fun B G=>?_
 refine Hj Eb z3 I7 ([b.Kind,b.Use.Alg,b.Use.Bits,b.Number]:List Int) eI ?_
 obtain⟨y_4,hy_4,G⟩:=Ak G
 refine P5 [344,432] [] [] true (O9 hy_4) ?_
 refine Md (.l 1 (.l 5 (.e 2))) fun _ _ _ _ B G=>?_
 refine Hj Eb z3 I7 ([a.Source,a.Confidence]:List Int) eI ?_
 refine Bt 0 fun B G=>?_
 refine Hj Eb z3 I7 ([b.Source,b.Confidence]:List Int) eI ?_
 obtain⟨y_6,hy_6,G⟩:=Ak G
 refine P5 [568,608] [] [] true (O9 hy_6) ?_
 exact Cf
instance aPb:Wk 117:=⟨_,@eM⟩
theorem Tg {l f r} (G:Cy l f=some r):Fn Tryz.prog 91 0 [.row 0,.agg (Aa.dv f)] [.row 26 11 (Aj Aa.enc l)] (fun d' b'=>d'=.row 0/\b'=[.row 26 11 (Aj Aa.enc r)]):=by
 unfold Cy at G
 refine Dx 1 47 Tryz.func91 fun _ _ _=>?_
 refine Bt 4 fun B G=>?_
 refine G7 (fun (k_1:Int)=>mk [(0,.row 0),(3,.ptr 1 0),(5,vk k_1)] [(0,.row 26 11 (Aj Aa.enc l)),(1,.box (Aa.dv f) 26)] 2) G (B9 [(0,0),(1,1)]) ?_
 rintro k_1 m1 o1 G hn1
 unfold Cy.l1 at G
 try dsimp only at G
 refine R3 rfl ?_
 refine Au <| Ba (ι:=Bool) (fun (x19_2:Bool)=>mk [(0,.row 0),(3,.ptr 1 0),(5,vk k_1),(19,.val (.bool x19_2))] [(0,.row 26 11 (Aj Aa.enc l)),(1,.box (Aa.dv f) 26)] 2) (fun (x19_2:Bool)=>Cy.j2 l f k_1 x19_2=some o1) ?_ ?_
 refine Bb (Df _ _ []) (by kernel_rfl) [0,1,3,7,7,23,63,127,7,511,1023,2047] 2 98 Ji rfl rfl (by kernel_rfl) ?_
 exact Cf
 rintro x19_2 G
 unfold Cy.j2 at G
 refine D4 (.l 0 (.e 1)) fun _ B G=>?_
 refine Au <| Ba (ι:=Bool) (fun (x33_3:Bool)=>mk [(0,.row 0),(3,.ptr 1 0),(5,vk k_1),(33,.val (.bool x33_3))] [(0,.row 26 11 (Aj Aa.enc l)),(1,.box (Aa.dv f) 26)] 2) (fun (x33_3:Bool)=>Cy.j3 l f k_1 x33_3=some r) ?_ ?_
 refine Bb (Df _ _ []) (by kernel_rfl) [0,1,3,7,7,23,63,127,7,511,1023,2047] 2 98 Ji rfl rfl (by kernel_rfl) ?_
 exact Cf
 rintro x33_3 G
 unfold Cy.j3 at G
 refine D4 (.l 0 (.e 1)) fun _ B G=>?_
 refine Au <| Bb (Df _ _ []) (by kernel_rfl) [0,0,0,6,15,0,32,127,0,0,768,2047,4095] 2 106 Ji rfl rfl (by kernel_rfl) ?_
 refine Et rfl rfl (Fw Pz eH (by decide) rfl rfl rfl rfl I8 (cs:=[]) .nil rfl (l:=([]:List Aa)) (f:=Aa.enc) rfl) rfl rfl ?_
 refine Bt 1 fun _ hl_2 B G=>?_
 obtain⟨l_3,hl_3,G⟩:=Ak G
 refine Mz (rd:=[2,0]) rfl rfl (Lc Pz Aa.enc_len .row rfl (.part (aM Aa.enc_len (Re hl_2))) (Xf Aa.enc_len _ _ _ (Re hl_2)) hl_3 rfl) rfl rfl ?_
 refine Bt 0 fun B G=>?_
 refine Hj Pz eH I8 ([f]:List Aa) Aa.enc ?_
 refine Bt 2 fun _ _ _ hl_5 B G=>?_
 obtain⟨l_6,hl_6,G⟩:=Ak G
 refine Mz (rd:=[58,0]) rfl rfl (Lc Pz Aa.enc_len .row rfl (.part (aM Aa.enc_len (Re hl_5))) (Xf Aa.enc_len _ _ _ (Re hl_5)) hl_6 rfl) rfl rfl ?_
 exact Cf
instance aPv:Wk 91:=⟨_,@Tg⟩
theorem Lv {l r} (G:C6 l=some r):Fn Tryz.prog 63 0 [.sl 11 (Aj Aa.enc l)] [] (fun d' b'=>d'=.tup [.row 0,vk r.2]/\b'=[.row 26 11 (Aj Aa.enc r.1)]):=by
 unfold C6 at G
 refine Dx 0 38 Tryz.func63 fun _ _ _=>?_
 refine Bt 4 fun B G=>?_
 refine G7 (fun (i_1:Int)=>mk [(0,.sl 11 (Aj Aa.enc l)),(4,vk i_1)] [] 0) G (B9 []) ?_
 rintro i_1 m1 o1 G hn1
 unfold C6.l1 at G
 refine D4 (.l 2 (.e 5)) fun _ B G=>?_
 refine G7 (fun ((i_2,out_2):Int×List Aa)=>mk [(0,.sl 11 (Aj Aa.enc l)),(6,.row 0),(7,vk i_2)] [(0,.row 26 11 (Aj Aa.enc out_2))] 1) G (B9 []) ?_
 rintro⟨i_2,out_2⟩ m2 o2 G hn2
 unfold C6.l2 at G
 refine D4 (.r 2 (.e 6)) fun _ _ _ B G=>?_
 obtain⟨y_2,hy_2,G⟩:=Ak G
 refine F6 (rd:=[0]) (ps:=[]) (gs:=[0]) false rfl (Tg hy_2) rfl rfl (.cons (.rowK rfl) (.cons (.agg (.cons .val (.cons .val (.cons .val (.cons .val (.cons .val (.cons .val (.cons .val (.cons .val (.cons .val (.cons .val (.cons .val .nil)))))))))))) .nil)) ⟨_,_,_,rfl,.head _,rfl,rfl⟩ rfl (by intro h; cases h) rfl (by intro h; first | (cases h; done) | exact⟨_,_,⟨rfl,rfl⟩,by simp,by simp⟩) ?_
 rintro _ _ ⟨rfl,rfl⟩
 exact Cf
instance aPr:Wk 63:=⟨_,@Lv⟩
theorem Uc {at' e r} (G:B6 at' e=some r):Fn Tryz.prog 34 0 [.agg (Aa.dv at'),.agg (Ad.dv e)] [] (fun d' b'=>d'=.tup [.sl 11 (Aj Aa.enc r.1),vk r.2]/\b'=[]):=by
 unfold B6 at G
 refine Dx 0 116 Tryz.func34 fun _ _ _=>?_
 refine Md (.l 5 (.l 5 (.e 1))) fun y _ _ _ _ _ B G=>?_
 refine Au <| Bb (Df _ _ []) (by kernel_rfl) [0,0,2,7,0,0,32,127,255,511] 152 232 B rfl rfl (by kernel_rfl) ?_
 refine Bt 2 fun y_3 _ y_4 _ B G=>?_
 refine Hj Pz eH I8 ([y_3,y_4]:List Aa) Aa.enc ?_
 refine Bt 3 fun B G=>?_
 refine G7 (fun ((i_1,l_1):Int×List Aa)=>mk [(3,.ptr 0 0),(6,.ptr 1 0),(9,.row 2),(10,vk i_1)] [(0,.box (Ad.dv e) 43),(1,.box (Aa.dv y.1) 26),(2,.row 26 11 (Aj Aa.enc l_1))] 3) G (B9 [(0,8),(1,72),(2,216)]) ?_
 rintro⟨i_1,l_1⟩ m1 o1 G hn1
 unfold B6.l1 at G
 refine I9 2 fun B G=>?_
 refine Jf rfl G (fun _ G=>?_) fun _ G=>?_
 refine Bt 3 fun B G=>?_
 refine Bb (Df _ _ []) (by kernel_rfl) [0,0,0,4,0,28,60,126,254,511,1023] 43 131 B rfl rfl (by kernel_rfl) ?_
 refine Bt 3 fun _ _ y_5 _ B G=>?_
 refine Hj Pz eH I8 ([y_5]:List Aa) Aa.enc ?_
 exact Cf
 refine Bt 4 fun B G=>?_
 refine G7 (fun ((i_2,l_2):Int×List Aa)=>mk [(3,.ptr 0 0),(6,.ptr 1 0),(9,.row 2),(11,vk i_2)] [(0,.box (Ad.dv e) 43),(1,.box (Aa.dv y.1) 26),(2,.row 26 11 (Aj Aa.enc l_2))] 3) G (B9 [(0,0),(1,1),(2,2)]) ?_
 rintro⟨i_2,l_2⟩ m2 o2 G hn2
 unfold B6.l2 at G
 refine I9 2 fun B G=>?_
 refine Jf rfl G (fun _ G=>?_) fun _ G=>?_
 refine Bt 3 fun B G=>?_
 refine Bb (Df _ _ []) (by kernel_rfl) [0,0,0,4,0,28,60,124,0,256,0,1792,3840,7936,16382,32766,65535,131071] 43 187 B rfl rfl (by kernel_rfl) ?_
 refine Bt 6 fun _ _ y_6 _ B G=>?_
 refine Hj Pz eH I8 ([y_6]:List Aa) Aa.enc ?_
 exact Cf
 refine Bt 4 fun B G=>?_
 refine G7 (fun ((i_3,l_3_2):Int×List Aa)=>mk [(3,.ptr 0 0),(6,.ptr 1 0),(9,.row 2),(12,vk i_3)] [(0,.box (Ad.dv e) 43),(1,.box (Aa.dv y.1) 26),(2,.row 26 11 (Aj Aa.enc l_3_2))] 3) G (B9 [(0,0),(1,1),(2,2)]) ?_
 rintro⟨i_3,l_3_2⟩ m3 o3 G hn3
 unfold B6.l3 at G
 refine I9 2 fun B G=>?_
 refine Jf rfl G (fun _ G=>?_) fun _ G=>?_
 refine Bt 3 fun B G=>?_
 refine Bb (Df _ _ []) (by kernel_rfl) [0,0,0,4,0,28,60,126,254,511,1023] 43 131 B rfl rfl (by kernel_rfl) ?_
 refine Bt 3 fun _ _ y_7 _ B G=>?_
 refine Hj Pz eH I8 ([y_7]:List Aa) Aa.enc ?_
 exact Cf
 refine Bt 4 fun B G=>?_
 refine G7 (fun ((i_4,l_4_2):Int×List Aa)=>mk [(3,.ptr 0 0),(6,.ptr 1 0),(9,.row 2),(13,vk i_4)] [(0,.box (Ad.dv e) 43),(1,.box (Aa.dv y.1) 26),(2,.row 26 11 (Aj Aa.enc l_4_2))] 3) G (B9 [(0,0),(1,1),(2,2)]) ?_
 rintro⟨i_4,l_4_2⟩ m4 o4 G hn4
 unfold B6.l4 at G
 refine I9 2 fun B G=>?_
 refine Jf rfl G (fun _ G=>?_) fun _ G=>?_
 refine Bt 3 fun B G=>?_
 refine Bb (Df _ _ []) (by kernel_rfl) [0,0,0,4,0,28,60,124,254,510,1023,2047] 43 139 B rfl rfl (by kernel_rfl) ?_
 refine Bt 2 fun _ _ B G=>?_
 refine L1 Hh Lt S8 ?_
 refine Bt 1 fun y_8 _ B G=>?_
 refine Hj Pz eH I8 ([y_8]:List Aa) Aa.enc ?_
 exact Cf
 refine Bt 2 fun B G=>?_
 obtain⟨y_9,hy_9,G⟩:=Ak G
 refine F6 (rd:=[2]) (ps:=[]) (gs:=[]) true rfl (Lv hy_9) rfl rfl (.cons (.row rfl (.head _) rfl) .nil) rfl rfl (by rintro - _ _ ⟨rfl,rfl⟩; exact⟨by simp [J6,Mb],fb_⟩) rfl (by intro h; first | (cases h; done) | exact⟨_,_,⟨rfl,rfl⟩,by simp,by simp⟩) ?_
 rintro _ _ ⟨rfl,rfl⟩
 exact Cf
instance aRk:Wk 34:=⟨_,@Uc⟩
theorem cR {d r} (G:B8 d=some r):Fn Tryz.prog 64 1 [.ptr 0 0] [.box [.sl 1 (Aj eI d.L),vk d.At] 61] (fun d' b'=>d'=.agg (Aa.dv r.1)/\b'=[.box [.sl 1 (Aj eI r.2.L),vk r.2.At] 61]):=by
 unfold B8 at G
 refine Dx 1 76 Tryz.func64 fun _ _ _=>?_
 refine Bt 1 fun B G=>?_
 refine Au <| B5 (Df _ _ [41,65,105,153]) 9 193 B rfl rfl ?_
 refine Bt 1 fun y _ B G=>?_
 refine Ra Px z9 rL ([(⟨#[97]⟩:ByteArray),(⟨#[98]⟩:ByteArray),(⟨#[99]⟩:ByteArray)]:List ByteArray) eS ?_
 refine Bt 1 fun y_2 _ B G=>?_
 refine Ra Eb z3 I7 ([0,1,2,0,3]:List Int) eI ?_
 refine Bt 2 fun y_3 _ y_4 _ B G=>?_
 refine Ra Eb z3 I7 ([90,50,100,1]:List Int) eI ?_
 refine Bt 2 fun y_5 _ y_6 _ B G=>?_
 refine Ra Px z9 rL ([(⟨#[115]⟩:ByteArray),(⟨#[116]⟩:ByteArray)]:List ByteArray) eS ?_
 refine Bt 1 fun y_7 _ B G=>?_
 refine L1 Qt zK eH ?_
 refine Bt 0 fun B G=>?_
 refine Ba (ι:=Ab×Aa) (fun ((b_3,f_3):Ab×Aa)=>mk [(2,.ptr 1 0),(3,.ptr 2 0)] [(0,.box [.sl 1 (Aj eI b_3.L),vk b_3.At] 61),(1,.box [.val (.int .i64 0),.val (.string (⟨#[]⟩:ByteArray)),.val (.int .i64 0),.val (.int .i64 0),.val (.int .i64 0),.val (.int .i64 0),.val (.string (⟨#[]⟩:ByteArray)),.val (.int .i64 0),.val (.int .i64 0),.val (.int .i64 0),.val (.string (⟨#[]⟩:ByteArray))] 26),(2,.box (Aa.dv f_3) 26)] 3) (fun ((b_3,f_3):Ab×Aa)=>B8.j3 b_3 f_3=some r) ?_ ?_
 refine Bt 2 fun B G=>?_
 refine Ba (ι:=Bool) (fun (x27_1:Bool)=>mk [(0,.ptr 0 0),(2,.ptr 1 0),(3,.ptr 2 0),(26,.val (.int .i64 (W (1 + y_6.1)))),(27,.val (.bool x27_1))] [(0,.box [.sl 1 (Aj eI y_7.2.L),vk y_7.2.At] 61),(1,.box [.val (.int .i64 0),.val (.string (⟨#[]⟩:ByteArray)),.val (.int .i64 0),.val (.int .i64 0),.val (.int .i64 0),.val (.int .i64 0),.val (.string (⟨#[]⟩:ByteArray)),.val (.int .i64 0),.val (.int .i64 0),.val (.int .i64 0),.val (.string (⟨#[]⟩:ByteArray))] 26),(2,.box [.val (.int .i64 (W (1 + y.1))),ws y_2.1,vk y_3.1,vk y_4.1,vk y_5.1,.val (.int .i64 (W (1 + y_6.1))),ws y_7.1,.val (.int .i64 0),.val (.int .i64 0),.val (.int .i64 0),.val (.string (⟨#[]⟩:ByteArray))] 26)] 3) (fun (x27_1:Bool)=>B8.j1 y y_2 y_3 y_4 y_5 y_6 y_7 x27_1=some r) ?_ ?_
 exact Cf
 rintro x27_1 G
 unfold B8.j1 at G
 try dsimp only at G
 refine R3 rfl ?_
 refine Jf rfl G (fun _ G=>?_) fun _ G=>?_
 refine Bt 1 fun B G=>?_
 refine L1 Hh Lt S8 ?_
 refine L1 Hh Lt S8 ?_
 refine L1 Hh Lt S8 ?_
 refine L1 Hh Lt S8 ?_
 refine Hj wN S8 aIo ([(Aq.mk 1 0),(Aq.mk 2 0),(Aq.mk 5 1024),(Aq.mk 14 128)]:List Aq) Aq.enc ?_
 exact Cf
 refine Md (.l 1 (.e 1)) fun _ B G=>?_
 refine Jf rfl G (fun _ G=>?_) fun _ G=>?_
 refine B5 (Df _ _ [43]) 35 123 B rfl rfl ?_
 refine Bt 0 fun B G=>?_
 refine Ra Eb z3 I7 ([1024,2048]:List Int) eI ?_
 refine Bt 1 fun y_10 _ B G=>?_
 refine L1 Hh Lt S8 ?_
 exact Cf
 refine Ba (ι:=Bool) (fun (x57_2:Bool)=>mk [(0,.ptr 0 0),(2,.ptr 1 0),(3,.ptr 2 0),(26,.val (.int .i64 (W (1 + y_6.1)))),(57,.val (.bool x57_2))] [(0,.box [.sl 1 (Aj eI y_7.2.L),vk y_7.2.At] 61),(1,.box [.val (.int .i64 0),.val (.string (⟨#[]⟩:ByteArray)),.val (.int .i64 0),.val (.int .i64 0),.val (.int .i64 0),.val (.int .i64 0),.val (.string (⟨#[]⟩:ByteArray)),.val (.int .i64 0),.val (.int .i64 0),.val (.int .i64 0),.val (.string (⟨#[]⟩:ByteArray))] 26),(2,.box [.val (.int .i64 (W (1 + y.1))),ws y_2.1,vk y_3.1,vk y_4.1,vk y_5.1,.val (.int .i64 (W (1 + y_6.1))),ws y_7.1,.val (.int .i64 0),.val (.int .i64 0),.val (.int .i64 0),.val (.string (⟨#[]⟩:ByteArray))] 26)] 3) (fun (x57_2:Bool)=>B8.j2 y y_2 y_3 y_4 y_5 y_6 y_7 x57_2=some r) ?_ ?_
 exact Cf
 rintro x57_2 G
 unfold B8.j2 at G
 refine D4 (.l 0 (.l 1 (.r 1 (.e 0)))) fun _ _ _ B G=>?_
 refine B5 (Df _ _ [43]) 35 75 B rfl rfl ?_
 refine Bt 0 fun B G=>?_
 refine Ra Px z9 rL ([(⟨#[97]⟩:ByteArray),(⟨#[98]⟩:ByteArray)]:List ByteArray) eS ?_
 exact Cf
 rintro⟨b_3,f_3⟩ G
 unfold B8.j3 at G
 exact Hf
instance aQ9:Wk 64:=⟨_,@cR⟩
theorem Ou {d most r} (G:Fy d most=some r):Fn Tryz.prog 36 1 [.ptr 0 0,vk most] [.box [.sl 1 (Aj eI d.L),vk d.At] 61] (fun d' b'=>d'=.row 1/\b'=[.box [.sl 1 (Aj eI r.2.L),vk r.2.At] 61,.row 26 11 (Aj Aa.enc r.1)]):=by
 unfold Fy at G
 refine Dx 1 28 Tryz.func36 fun _ _ _=>?_
 refine Bt 6 fun _ _ B G=>?_
 refine G7 (fun ((i_1,d_1,l_1):Int×Ab×List Aa)=>mk [(0,.ptr 0 0),(5,.row 1),(6,vk i_1)] [(0,.box [.sl 1 (Aj eI d_1.L),vk d_1.At] 61),(1,.row 26 11 (Aj Aa.enc l_1))] 2) G (B9 [(0,0)]) ?_
 rintro⟨i_1,d_1,l_1⟩ m1 o1 G hn1
 unfold Fy.l1 at G
 refine I9 2 fun B G=>?_
 refine Jf rfl G (fun _ G=>?_) fun _ G=>?_
 refine Bt 5 fun y_2 _ B G=>?_
 refine Hj Pz eH I8 ([y_2.1]:List Aa) Aa.enc ?_
 exact Cf
 refine Bt 2 fun B G=>?_
 obtain⟨y_3,hy_3,G⟩:=Ak G
 refine F6 (rd:=[1]) (ps:=[]) (gs:=[]) true rfl (Lv hy_3) rfl rfl (.cons (.row rfl (.head _) rfl) .nil) rfl rfl (by rintro - _ _ ⟨rfl,rfl⟩; exact⟨by simp [J6,Mb],fb_⟩) rfl (by intro h; first | (cases h; done) | exact⟨_,_,⟨rfl,rfl⟩,by simp,by simp⟩) ?_
 rintro _ _ ⟨rfl,rfl⟩
 exact Cf
instance aP7:Wk 36:=⟨_,@Ou⟩
theorem Ta {l r} (G:Qz l=some r):Fn Tryz.prog 35 0 [.sl 11 (Aj Aa.enc l)] [] (fun d' b'=>d'=.row 0/\b'=[.row 26 11 (Aj Aa.enc r)]):=by
 unfold Qz at G
 refine Dx 0 11 Tryz.func35 fun _ _ _=>?_
 refine Bt 2 fun B G=>?_
 obtain⟨y,hy,G⟩:=Ak G
 refine F6 (rd:=[]) (ps:=[]) (gs:=[]) false rfl (Lv hy) rfl rfl (.cons .sl .nil) rfl rfl (by intro h; cases h) rfl (by intro h; first | (cases h; done) | exact⟨_,_,⟨rfl,rfl⟩,by simp,by simp⟩) ?_
 rintro _ _ ⟨rfl,rfl⟩
 exact Cf
instance aPz:Wk 35:=⟨_,@Ta⟩
theorem Qx {d e day r} (G:Co d e day=some r):Fn Tryz.prog 11 1 [.ptr 0 0,.agg (Ad.dv e),vk day] [.box [.sl 1 (Aj eI d.L),vk d.At] 61] (fun d' b'=>d'=.row 1/\b'=[.box [.sl 1 (Aj eI r.2.L),vk r.2.At] 61,.row 26 11 (Aj Aa.enc r.1)]):=by
 unfold Co at G
 refine Dx 1 58 Tryz.func11 fun _ _ _=>?_
 refine Bt 1 fun B G=>?_
 refine Au <| Bb (Df _ _ []) (by kernel_rfl) [0,1,0,7,0,31,63,127,127,255,1023] 17 105 B rfl rfl (by kernel_rfl) ?_
 refine Bt 6 fun _ _ y_2 _ B G=>?_
 refine G7 (fun ((x23_1,d_1,out_1):Int×Ab×List Aa)=>mk [(0,.ptr 0 0),(2,vk day),(9,.row 1),(21,.sl 11 (Aj Aa.enc y_2.1)),(22,.val (.int .i64 (y_2.1.length:Int))),(23,vk x23_1)] [(0,.box [.sl 1 (Aj eI d_1.L),vk d_1.At] 61),(1,.row 26 11 (Aj Aa.enc out_1))] 2) G (B9 [(0,0)]) ?_
 rintro⟨x23_1,d_1,out_1⟩ m1 o1 G hn1
 unfold Co.l1 at G
 refine I9 2 fun B G=>?_
 refine Jf rfl G (fun _ G=>?_) fun _ G=>?_
 refine Bt 1 fun B G=>?_
 refine Ba (ι:=Ab×List Aa) (fun ((d_3,out_3):Ab×List Aa)=>mk [(0,.ptr 0 0),(2,vk day),(9,.row 1),(21,.sl 11 (Aj Aa.enc y_2.1)),(22,.val (.int .i64 (y_2.1.length:Int))),(23,vk x23_1)] [(0,.box [.sl 1 (Aj eI d_3.L),vk d_3.At] 61),(1,.row 26 11 (Aj Aa.enc out_3))] 2) (fun ((d_3,out_3):Ab×List Aa)=>Co.j3 x23_1 d_3 out_3=some o1) ?_ ?_
 refine Bt 4 fun e_2 _ B G=>?_
 refine Ba (ι:=Ab×Aa) (fun ((d_2,f_2):Ab×Aa)=>mk [(0,.ptr 0 0),(2,vk day),(9,.row 1),(11,.ptr 2 0),(21,.sl 11 (Aj Aa.enc y_2.1)),(22,.val (.int .i64 (y_2.1.length:Int))),(23,vk x23_1)] [(0,.box [.sl 1 (Aj eI d_2.L),vk d_2.At] 61),(1,.row 26 11 (Aj Aa.enc out_1)),(2,.box (Aa.dv f_2) 26)] 3) (fun ((d_2,f_2):Ab×Aa)=>Co.j2 x23_1 out_1 d_2 f_2=some o1) ?_ ?_
 refine Md (.l 4 (.r 1 (.e 0))) fun _ _ _ _ B G=>?_
 refine Bb (Df _ _ [114]) (by kernel_rfl) [0,1,0,0,12,31,63,127] 90 154 B rfl rfl (by kernel_rfl) ?_
 refine Bt 0 fun B G=>?_
 refine Ra Eb z3 I7 ([1,-1,2]:List Int) eI ?_
 exact Cf
 rintro⟨d_2,f_2⟩ G
 unfold Co.j2 at G
 refine I9 1 fun B G=>?_
 refine Hj Pz eH I8 ([f_2]:List Aa) Aa.enc ?_
 exact Cf
 rintro⟨d_3,out_3⟩ G
 unfold Co.j3 at G
 exact Hf
 refine Bt 2 fun B G=>?_
 obtain⟨y_5,hy_5,G⟩:=Ak G
 refine F6 (rd:=[0]) (ps:=[0]) (gs:=[]) false rfl (Ou hy_5) rfl rfl (.cons (.ptr rfl) (.cons .val .nil)) ⟨_,_,_,rfl,.head _,⟨_,rfl,(by repeat' (first | exact Nk.nil | apply Nk.cons | exact Ag.val | exact Ag.sl | exact Ag.nils | exact Ag.ptr rfl | exact Ag.rowK rfl))⟩,rfl⟩ rfl (by intro h; cases h) rfl (by intro h; first | (cases h; done) | exact⟨_,_,⟨rfl,rfl⟩,by simp,by simp⟩) ?_
 rintro _ _ ⟨rfl,rfl⟩
 refine Bt 1 fun _ _ B G=>?_
 obtain⟨y_6,hy_6,G⟩:=Ak G
 refine F6 (rd:=[34]) (ps:=[]) (gs:=[]) true rfl (Ta hy_6) rfl rfl (.cons (.row rfl (.head _) rfl) .nil) rfl rfl (by rintro - _ _ ⟨rfl,rfl⟩; exact⟨by simp [J6,Mb],fb_⟩) rfl (by intro h; first | (cases h; done) | exact⟨_,_,⟨rfl,rfl⟩,by simp,by simp⟩) ?_
 rintro _ _ ⟨rfl,rfl⟩
 exact Cf
instance aQb:Wk 11:=⟨_,@Qx⟩
end Go.Proofs.YtbpchmikjiinpaaGreat
