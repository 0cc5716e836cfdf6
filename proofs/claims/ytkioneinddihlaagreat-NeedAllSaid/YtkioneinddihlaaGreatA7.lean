import Derived.Test.YtkioneinddihlaaGreatT1
import Derived.Test.YtkioneinddihlaaGreatEU
import Derived.Test.YtkioneinddihlaaGreatA3
import Derived.Test.YtkioneinddihlaaGreatA5
import Derived.Test.YtkioneinddihlaaGreatA6
set_option linter.unusedVariables false
set_option linter.unusedSimpArgs false
set_option maxRecDepth 100000
set_option maxHeartbeats 40000000
namespace Go.Proofs.YtkioneinddihlaaGreat
open Go.RowKit
theorem Y6 {d r} (G:Nn d=some r):Fn Tryz.prog 56 1 [.ptr 0 0] [.box [.sl 1 (Ak eI d.L),vk d.At] 68] (fun d' b'=>d'=.agg [vk r.1.Alg,vk r.1.Bits]/\b'=[.box [.sl 1 (Ak eI r.2.L),vk r.2.At] 68]):=by
 unfold Nn at G
 refine Ez 1 12 Tryz.func56 fun _ _ _=>?_
 refine B7 1 fun B G=>?_
 refine A8 <| Cn (Dx _ _ [17]) 9 41 B rfl rfl ?_
 refine B7 0 fun B G=>?_
 refine Qv Es z3 I6 ([5,7,5,6,8,9]:List Int) eI ?_
 refine B7 3 fun _ _ _ _ B G=>?_
 refine Kp Lm Q9 bN ?_
 exact C1
instance aMd:Wk 56:=⟨_,@Y6⟩
theorem Tm {d issuer subject key id signer authority r} (G:Cl d issuer subject key id signer authority=some r):Fn Tryz.prog 79 1 [.ptr 0 0,ws issuer,ws subject,.agg [vk key.Alg,vk key.Bits],vk id,vk signer,.val (.bool authority)] [.box [.sl 1 (Ak eI d.L),vk d.At] 68] (fun d' b'=>d'=.agg (Ah.dv r.1)/\b'=[.box [.sl 1 (Ak eI r.2.L),vk r.2.At] 68]):=by
 unfold Cl at G
 refine Ez 1 58 Tryz.func79 fun _ _ _=>?_
 refine B7 1 fun B G=>?_
 refine A8 <| Bn (Dx _ _ [73,105,129]) (by kernel_rfl) [0,1,0,0,0,0,0,0,195,451,0,0,3523,0,0,32195,0,131071,0,524287] 17 177 B rfl rfl (by kernel_rfl) ?_
 refine B7 1 fun y _ B G=>?_
 refine Qv Es z3 I6 ([3,2,4,1]:List Int) eI ?_
 refine B7 1 fun y_2 _ B G=>?_
 refine Kp Lm Q9 bN ?_
 refine B7 0 fun B G=>?_
 refine Qv Es z3 I6 ([0,5,10]:List Int) eI ?_
 refine B7 1 fun y_3 _ B G=>?_
 refine Qv Es z3 I6 ([1000,100,50,20]:List Int) eI ?_
 refine B7 1 fun y_4 _ B G=>?_
 refine Kp K6 qQ jR ?_
 refine B7 0 fun B G=>?_
 refine A6 (ι:=Ab×Int) (fun ((d_1,c_1):Ab×Int)=>mk [(0,.ptr 0 0),(2,ws subject),(5,vk signer),(14,.ptr 1 0),(15,.ptr 2 0)] [(0,.box [.sl 1 (Ak eI d_1.L),vk d_1.At] 68),(1,.box [.val (.int .i64 0),.val (.string (⟨#[]⟩:ByteArray)),.val (.string (⟨#[]⟩:ByteArray)),.val (.int .i64 0),.val (.int .i64 0),.val (.int .i64 0),.val (.int .i64 0),.val (.int .i64 0),.val (.int .i64 0),.val (.int .i64 0),.val (.bool false),.val (.int .i64 0),.val (.slice none 0 0),.val (.int .i64 0),.val (.int .i64 0)] 103),(2,.box [vk y.1,ws issuer,ws subject,vk key.Alg,vk key.Bits,vk id,vk y_2.1,.val (.int .i64 0),vk y_3.1,vk y_4.1,.val (.bool authority),vk c_1,.val (.slice none 0 0),.val (.int .i64 0),.val (.int .i64 0)] 103)] 3) (fun ((d_1,c_1):Ab×Int)=>Cl.j1 issuer subject key id signer authority y y_2 y_3 y_4 d_1 c_1=some r) ?_ ?_
 refine Jv (.r 1 (.e 0)) fun _ B G=>?_
 refine Cn (Dx _ _ [193]) 185 225 B rfl rfl ?_
 refine B7 0 fun B G=>?_
 refine Qv Es z3 I6 ([3,0,1]:List Int) eI ?_
 exact C1
 rintro⟨d_1,c_1⟩ G
 unfold Cl.j1 at G
 refine Iw 1 fun B G=>?_
 refine H0 Qh z9 vW ([subject]:List ByteArray) eS ?_
 refine B7 0 fun B G=>?_
 refine A6 (ι:=Ab×List ByteArray) (fun ((b_2,l_2):Ab×List ByteArray)=>mk [(5,vk signer),(14,.ptr 1 0),(15,.ptr 2 0)] [(0,.box [.sl 1 (Ak eI b_2.L),vk b_2.At] 68),(1,.box [.val (.int .i64 0),.val (.string (⟨#[]⟩:ByteArray)),.val (.string (⟨#[]⟩:ByteArray)),.val (.int .i64 0),.val (.int .i64 0),.val (.int .i64 0),.val (.int .i64 0),.val (.int .i64 0),.val (.int .i64 0),.val (.int .i64 0),.val (.bool false),.val (.int .i64 0),.val (.slice none 0 0),.val (.int .i64 0),.val (.int .i64 0)] 103),(2,.box [vk y.1,ws issuer,ws subject,vk key.Alg,vk key.Bits,vk id,vk y_2.1,.val (.int .i64 0),vk y_3.1,vk y_4.1,.val (.bool authority),vk c_1,.row 3,.val (.int .i64 0),.val (.int .i64 0)] 103),(3,.row 9 1 (Ak eS l_2))] 4) (fun ((b_2,l_2):Ab×List ByteArray)=>Cl.j2 issuer subject key id signer authority y y_2 y_3 y_4 c_1 b_2 l_2=some r) ?_ ?_
 refine Jv (.r 2 (.e 2)) fun y_6 _ _ s _ B G=>?_
 refine H0 Qh z9 vW ([s]:List ByteArray) eS ?_
 exact C1
 rintro⟨b_2,l_2⟩ G
 unfold Cl.j2 at G
 try dsimp only at G
 refine Nl rfl ?_
 refine A8 <| G3 (σ':=mk [(5,vk signer),(14,.ptr 1 0),(15,.ptr 2 0)] [(0,.box [.sl 1 (Ak eI b_2.L),vk b_2.At] 68),(1,.box [.val (.int .i64 0),.val (.string (⟨#[]⟩:ByteArray)),.val (.string (⟨#[]⟩:ByteArray)),.val (.int .i64 0),.val (.int .i64 0),.val (.int .i64 0),.val (.int .i64 0),.val (.int .i64 0),.val (.int .i64 0),.val (.int .i64 0),.val (.bool false),.val (.int .i64 0),.val (.slice none 0 0),.val (.int .i64 0),.val (.int .i64 0)] 103),(2,.box [vk y.1,ws issuer,ws subject,vk key.Alg,vk key.Bits,vk id,vk y_2.1,.val (.int .i64 0),vk y_3.1,vk y_4.1,.val (.bool authority),vk c_1,.sl 1 (Ak eS l_2),.val (.int .i64 0),.val (.int .i64 0)] 103)] 3) (B9 [(0,0),(1,1),(2,2)]) ?_
 exact C1
instance aMz:Wk 79:=⟨_,@Tm⟩
theorem Py {d name key id r} (G:G2 d name key id=some r):Fn Tryz.prog 58 1 [.ptr 0 0,ws name,.agg [vk key.Alg,vk key.Bits],vk id] [.box [.sl 1 (Ak eI d.L),vk d.At] 68] (fun d' b'=>d'=.row 1/\b'=[.box [.sl 1 (Ak eI r.2.L),vk r.2.At] 68,.row 103 15 (Ak Ah.enc r.1)]):=by
 unfold G2 at G
 refine Ez 1 56 Tryz.func58 fun _ _ _=>?_
 refine B7 1 fun B G=>?_
 refine A8 <| Cn (Dx _ _ [25]) 17 49 B rfl rfl ?_
 refine B7 0 fun B G=>?_
 refine Qv Es z3 I6 ([1,0,2]:List Int) eI ?_
 refine B7 7 fun y _ _ _ B G=>?_
 refine Gc (fun ((signer_1,issuer_1,i_1,d_1,above_1):Int×ByteArray×Int×Ab×List Ah)=>mk [(0,.ptr 0 0),(1,ws name),(3,vk id),(6,.ptr 1 0),(9,vk y.1),(10,vk signer_1),(11,ws issuer_1),(12,.row 2),(13,vk i_1)] [(0,.box [.sl 1 (Ak eI d_1.L),vk d_1.At] 68),(1,.box [vk key.Alg,vk key.Bits] 40),(2,.row 103 15 (Ak Ah.enc above_1))] 3) G (B9 [(0,0),(1,1)]) ?_
 rintro⟨signer_1,issuer_1,i_1,d_1,above_1⟩ m1 o1 G hn1
 unfold G2.l1 at G
 refine Iw 2 fun B G=>?_
 refine Ja rfl G (fun _ G=>?_) fun _ G=>?_
 refine B7 4 fun B G=>?_
 refine H0 Qh z9 vW ([(⟨#[99,97]⟩:ByteArray),(⟨#[99,98]⟩:ByteArray),(⟨#[99,99]⟩:ByteArray)]:List ByteArray) eS ?_
 refine B7 3 fun e _ B G=>?_
 refine Kp Lm Q9 bN ?_
 refine B7 2 fun y_3 _ B G=>?_
 refine H0 wE jR tO ([y_3.1]:List Ah) Ah.enc ?_
 exact C1
 refine B7 3 fun y_4 _ B G=>?_
 refine H0 wE jR tO ([y_4.1]:List Ah) Ah.enc ?_
 exact C1
instance aMh:Wk 58:=⟨_,@Py⟩
theorem Xk {d name r} (G:B8 d name=some r):Fn Tryz.prog 36 1 [.ptr 0 0,ws name] [.box [.sl 1 (Ak eI d.L),vk d.At] 68] (fun d' b'=>d'=.agg (Al.dv r.1)/\b'=[.box [.sl 1 (Ak eI r.2.L),vk r.2.At] 68]):=by
 unfold B8 at G
 refine Ez 1 100 Tryz.func36 fun _ _ _=>?_
 refine eM 1 9 Ha fun B=>?_
 refine A8 <| Cn (Dx _ _ [25]) 9 113 B rfl rfl ?_
 refine Kr ?_
 refine Qv Es z3 I6 ([1,1,2,3]:List Int) eI ?_
 obtain⟨y,hy,G⟩:=Aq G
 refine L3 [0] [0] [] false (I4 hy) ?_
 refine Kr ?_
 obtain⟨y_2,hy_2,G⟩:=Aq G
 refine L3 [0] [0] [] false (S3 hy_2) ?_
 refine Kr ?_
 obtain⟨y_3,hy_3,G⟩:=Aq G
 refine L3 [0] [0] [] false (Ig hy_3) ?_
 refine Kr ?_
 obtain⟨y_4,hy_4,G⟩:=Aq G
 refine L3 [0] [0] [] false (Ig hy_4) ?_
 refine Kp Ri xW z59 ?_
 refine Ni fun B=>?_
 refine A8 <| Bn (Dx _ _ []) (by kernel_rfl) [0,1,0,0,8,24,60,127,255,511] 113 193 B rfl rfl (by kernel_rfl) ?_
 refine Kr ?_
 obtain⟨y_5,hy_5,G⟩:=Aq G
 refine L3 [0] [0] [] false (Ew hy_5) ?_
 refine Ni fun B=>?_
 refine A6 (ι:=List Int×Int×Int×Int) (fun ((d_1,d_1_2,e_1,e_1_2):List Int×Int×Int×Int)=>mk [(0,.ptr 0 0),(1,ws name),(4,.ptr 1 0),(5,.ptr 2 0)] [(0,.box [.sl 1 (Ak eI d_1),vk d_1_2] 68),(1,.box [.val (.string (⟨#[]⟩:ByteArray)),.val (.int .i64 0),.val (.int .i64 0),.val (.slice none 0 0),.val (.bool false),.val (.slice none 0 0),.val (.slice none 0 0),.val (.slice none 0 0),.val (.bool false)] 59),(2,.box [ws name,vk e_1,vk e_1_2,.sl 1 (Ak eI y_2.1),.val (.bool y_3.1),.val (.slice none 0 0),.val (.slice none 0 0),.val (.slice none 0 0),.val (.bool y_4.1)] 59)] 3) (fun ((d_1,d_1_2,e_1,e_1_2):List Int×Int×Int×Int)=>B8.j1 name y_2 y_3 y_4 d_1 d_1_2 e_1 e_1_2=some r) ?_ ?_
 refine Xs 193 217 B ?_
 refine Kr ?_
 obtain⟨y_6,hy_6,G⟩:=Aq G
 refine L3 [0] [0] [] false (Ew hy_6) ?_
 refine Ni fun B=>?_
 refine Ja rfl G (fun h5 G=>?_) fun h5 G=>?_
 refine Cn (Dx _ _ [225]) 217 273 B rfl rfl ?_
 refine Kr ?_
 refine Qv Es z3 I6 ([3,4,2]:List Int) eI ?_
 obtain⟨y_7,hy_7,G⟩:=Aq G
 refine L3 [0] [0] [] false (I4 hy_7) ?_
 refine Ni fun B=>?_
 exact⟨(y_7.2.L,y_7.2.At,1,y_7.1),G,B9 [(0,0),(1,1),(2,97)]⟩
 refine jP ?_
 exact⟨(y_6.2.L,y_6.2.At,y.1,W (y.1 + y_5.1)),G,B9 [(0,0),(1,1),(2,97)]⟩
 rintro⟨d_1,d_1_2,e_1,e_1_2⟩ G
 unfold B8.j1 at G
 try dsimp only at G
 refine Nl rfl ?_
 refine A8 <| A8 <| Cn (Dx _ _ [11]) 3 35 Ha rfl rfl ?_
 refine Kr ?_
 refine Qv Es z3 I6 ([1,2,1,3,0]:List Int) eI ?_
 obtain⟨y_8,hy_8,G⟩:=Aq G
 refine L3 [0] [0] [] false (I4 hy_8) ?_
 refine Ni fun B=>?_
 refine I1 <| Gc (fun ((i_2,d_2,d_2_2,l_2):Int×List Int×Int×List A4)=>mk [(0,.ptr 0 0),(1,ws name),(4,.ptr 1 0),(5,.ptr 2 0),(6,vk i_2)] [(0,.box [.sl 1 (Ak eI d_2),vk d_2_2] 68),(1,.box [.val (.string (⟨#[]⟩:ByteArray)),.val (.int .i64 0),.val (.int .i64 0),.val (.slice none 0 0),.val (.bool false),.val (.slice none 0 0),.val (.slice none 0 0),.val (.slice none 0 0),.val (.bool false)] 59),(2,.box [ws name,vk e_1,vk e_1_2,.sl 1 (Ak eI y_2.1),.val (.bool y_3.1),.row 3,.val (.slice none 0 0),.val (.slice none 0 0),.val (.bool y_4.1)] 59),(3,.row 43 4 (Ak A4.enc l_2))] 4) G (B9 [(0,0),(1,1),(2,2)]) ?_
 rintro⟨i_2,d_2,d_2_2,l_2⟩ m2 o2 G hn2
 unfold B8.l2 at G
 try dsimp only at G
 refine Nl rfl ?_
 refine A8 <| eM 4 20 Ha fun B=>?_
 refine Ja rfl G (fun h9 G=>?_) fun h9 G=>?_
 refine jP ?_
 refine A8 <| I1 <| Xs 20 52 B ?_
 refine Kr ?_
 obtain⟨y_9,hy_9,G⟩:=Aq G
 refine L3 [0] [0] [] false (Y6 hy_9) ?_
 refine Ni fun B=>?_
 refine A6 (ι:=List Int×Int×Int×Int) (fun ((d_3,d_3_2,key_3,key_3_2):List Int×Int×Int×Int)=>mk [(0,.ptr 0 0),(1,ws name),(4,.ptr 1 0),(5,.ptr 2 0),(6,vk i_2),(7,.ptr 3 0)] [(0,.box [.sl 1 (Ak eI d_3),vk d_3_2] 68),(1,.box [.val (.string (⟨#[]⟩:ByteArray)),.val (.int .i64 0),.val (.int .i64 0),.val (.slice none 0 0),.val (.bool false),.val (.slice none 0 0),.val (.slice none 0 0),.val (.slice none 0 0),.val (.bool false)] 59),(2,.box [ws name,vk e_1,vk e_1_2,.sl 1 (Ak eI y_2.1),.val (.bool y_3.1),.row 4,.val (.slice none 0 0),.val (.slice none 0 0),.val (.bool y_4.1)] 59),(3,.box [vk key_3,vk key_3_2] 40),(4,.row 43 4 (Ak A4.enc l_2))] 5) (fun ((d_3,d_3_2,key_3,key_3_2):List Int×Int×Int×Int)=>B8.j3 name i_2 l_2 d_3 d_3_2 key_3 key_3_2=some o2) ?_ ?_
 refine Xs 52 76 B ?_
 refine Kr ?_
 obtain⟨y_10,hy_10,G⟩:=Aq G
 refine L3 [0] [0] [] false (Ew hy_10) ?_
 refine Ni fun B=>?_
 refine Ja rfl G (fun h12 G=>?_) fun h12 G=>?_
 refine A8 <| Cn (Dx _ _ [84]) 76 116 B rfl rfl ?_
 refine Kr ?_
 refine Qv Es z3 I6 ([5,7]:List Int) eI ?_
 obtain⟨y_11,hy_11,G⟩:=Aq G
 refine L3 [0] [0] [] false (I4 hy_11) ?_
 refine Kp Lm Q9 bN ?_
 refine Ni fun B=>?_
 refine Cn (Dx _ _ []) 116 164 B rfl rfl ?_
 refine Kr ?_
 obtain⟨y_12,hy_12,G⟩:=Aq G
 refine L3 [0] [0] [] false (Wt hy_12) ?_
 refine Ni fun B=>?_
 exact⟨(y_12.2.L,y_12.2.At,y_11.1,y_12.1),G,B9 [(0,0),(1,1),(2,2),(3,36),(4,3)]⟩
 refine jP ?_
 exact⟨(y_10.2.L,y_10.2.At,y_9.1.Alg,y_9.1.Bits),G,B9 [(0,0),(1,1),(2,2),(3,36),(4,3)]⟩
 rintro⟨d_3,d_3_2,key_3,key_3_2⟩ G
 unfold B8.j3 at G
 try dsimp only at G
 refine Nl rfl ?_
 refine Xs 5 37 Ha ?_
 refine Kr ?_
 obtain⟨y_13,hy_13,G⟩:=Aq G
 refine L3 [0] [0] [] false (Ew hy_13) ?_
 refine Ni fun B=>?_
 refine Xs 37 77 B ?_
 refine Kr ?_
 refine Kp iU aEx z43 ?_
 refine Ni fun B=>?_
 refine A6 (ι:=List Int×Int×List Ah) (fun ((d_4,d_4_2,l_4):List Int×Int×List Ah)=>mk [(0,.ptr 0 0),(1,ws name),(4,.ptr 1 0),(5,.ptr 2 0),(6,vk i_2),(9,.ptr 3 0)] [(0,.box [.sl 1 (Ak eI d_4),vk d_4_2] 68),(1,.box [.val (.string (⟨#[]⟩:ByteArray)),.val (.int .i64 0),.val (.int .i64 0),.val (.slice none 0 0),.val (.bool false),.val (.slice none 0 0),.val (.slice none 0 0),.val (.slice none 0 0),.val (.bool false)] 59),(2,.box [ws name,vk e_1,vk e_1_2,.sl 1 (Ak eI y_2.1),.val (.bool y_3.1),.row 4,.val (.slice none 0 0),.val (.slice none 0 0),.val (.bool y_4.1)] 59),(3,.box [vk key_3,vk key_3_2,.val (.int .i64 (W (100 + y_13.1))),.row 5] 43),(4,.row 43 4 (Ak A4.enc l_2)),(5,.row 103 15 (Ak Ah.enc l_4))] 6) (fun ((d_4,d_4_2,l_4):List Int×Int×List Ah)=>B8.j4 i_2 l_2 key_3 key_3_2 y_13 d_4 d_4_2 l_4=some o2) ?_ ?_
 refine Xs 77 101 B ?_
 refine Kr ?_
 obtain⟨y_14,hy_14,G⟩:=Aq G
 refine L3 [0] [0] [] false (Ig hy_14) ?_
 refine Ni fun B=>?_
 refine Ja rfl G (fun h18 G=>?_) fun h18 G=>?_
 refine Cn (Dx _ _ []) 101 157 B rfl rfl ?_
 refine Kr ?_
 obtain⟨y_15,hy_15,G⟩:=Aq G
 refine R7 (rd:=[0]) (ps:=[0]) (gs:=[]) false rfl (Py hy_15) rfl rfl (.cons (.ptr rfl) (.cons .val (.cons (.agg (.cons .val (.cons .val .nil))) (.cons .val .nil)))) ⟨_,_,_,rfl,.head _,⟨_,rfl,(by repeat' (first | exact Of.nil | apply Of.cons | exact Ag.val | exact Ag.sl | exact Ag.nils | exact Ag.ptr rfl | exact Ag.rowK rfl))⟩,rfl⟩ rfl (by intro h; cases h) rfl (by intro h; first | (cases h; done) | exact⟨_,_,⟨rfl,rfl⟩,by simp,by simp⟩) ?_
 rintro _ _ ⟨rfl,rfl⟩
 refine Ni fun B=>?_
 exact⟨(y_15.2.L,y_15.2.At,y_15.1),G,B9 [(0,0),(1,1),(2,2),(3,61),(4,4),(5,133)]⟩
 refine jP ?_
 exact⟨(y_14.2.L,y_14.2.At,([]:List Ah)),G,B9 [(0,0),(1,1),(2,2),(3,61),(4,4)]⟩
 rintro⟨d_4,d_4_2,l_4⟩ G
 unfold B8.j4 at G
 try dsimp only at G
 refine Nl rfl ?_
 refine G3 (σ':=mk [(0,.ptr 0 0),(1,ws name),(4,.ptr 1 0),(5,.ptr 2 0),(6,vk i_2),(9,.ptr 3 0)] [(0,.box [.sl 1 (Ak eI d_4),vk d_4_2] 68),(1,.box [.val (.string (⟨#[]⟩:ByteArray)),.val (.int .i64 0),.val (.int .i64 0),.val (.slice none 0 0),.val (.bool false),.val (.slice none 0 0),.val (.slice none 0 0),.val (.slice none 0 0),.val (.bool false)] 59),(2,.box [ws name,vk e_1,vk e_1_2,.sl 1 (Ak eI y_2.1),.val (.bool y_3.1),.row 4,.val (.slice none 0 0),.val (.slice none 0 0),.val (.bool y_4.1)] 59),(3,.box [vk key_3,vk key_3_2,.val (.int .i64 (W (100 + y_13.1))),.sl 15 (Ak Ah.enc l_4)] 43),(4,.row 43 4 (Ak A4.enc l_2))] 5) (B9 [(0,0),(1,1),(2,2),(3,3),(4,4)]) ?_
 refine Cn (Dx _ _ []) 5 61 Ha rfl rfl ?_
 refine Kr ?_
 refine H0 xE z43 aE2 ([(A4.mk (Av.mk key_3 key_3_2) (W (100 + y_13.1)) l_4)]:List A4) A4.enc ?_
 obtain⟨l,hl,G⟩:=Aq G
 refine Ik (rd:=[4,29]) rfl rfl (J0 xE A4.enc_len .row rfl .row rfl hl rfl) rfl rfl ?_
 refine Ni fun B=>?_
 refine Cn (Dx _ _ []) 61 85 B rfl rfl ?_
 refine Ni fun B=>?_
 obtain rfl:=oi_ G
 exact⟨((W (i_2 - 1),d_4,d_4_2,l),m2),aM2 _,hn2,B9 [(0,0),(1,1),(2,2),(3,37)]⟩
 refine ex_ ?_
 replace G:=bK G hn2
 refine A8 <| Cn (Dx _ _ [20,28,36,44]) 20 108 B rfl rfl ?_
 refine Qv Es z3 I6 ([1,2]:List Int) eI ?_
 refine Qv Es z3 I6 ([1,2]:List Int) eI ?_
 refine Qv Es z3 I6 ([1]:List Int) eI ?_
 refine Qv Es z3 I6 ([2,11]:List Int) eI ?_
 refine H0 yS z22 aCl ([([1,2]:List Int),([1,2]:List Int),([1]:List Int),([2,11]:List Int),([]:(List Int))]:List (List Int)) (eL 1 eI) ?_
 refine Kr ?_
 obtain⟨y_16,hy_16,G⟩:=Aq G
 refine L3 [0] [0] [] false (Ew hy_16) ?_
 obtain⟨e,he,G⟩:=Aq G
 refine Kr ?_
 refine Ik (rd:=[52]) rfl rfl (.loadR1 wD (Fj (Gy _ _) (Cc he) (o:=0) (c:=.sl 1 (Ak eI e)) rfl rfl)) rfl rfl ?_
 refine Ni fun B=>?_
 refine A8 <| Cn (Dx _ _ [108,116,124]) 108 188 B rfl rfl ?_
 refine Qv Es z3 I6 ([1,2,3,4]:List Int) eI ?_
 refine Qv Es z3 I6 ([2,3,4]:List Int) eI ?_
 refine Qv Es z3 I6 ([3,4]:List Int) eI ?_
 refine H0 yS z22 aCl ([([1,2,3,4]:List Int),([2,3,4]:List Int),([3,4]:List Int)]:List (List Int)) (eL 1 eI) ?_
 refine Kr ?_
 obtain⟨y_17,hy_17,G⟩:=Aq G
 refine L3 [0] [0] [] false (Ew hy_17) ?_
 obtain⟨e_2,he_2,G⟩:=Aq G
 refine Kr ?_
 refine Ik (rd:=[132]) rfl rfl (.loadR1 wD (Fj (Gy _ _) (Cc he_2) (o:=0) (c:=.sl 1 (Ak eI e_2)) rfl rfl)) rfl rfl ?_
 refine Ni fun B=>?_
 refine eM 188 204 B fun B=>?_
 refine yI ?_
 obtain rfl:=oi_ G
 exact Q2 [(0,0)] ⟨rfl,rfl⟩
instance aNy:Wk 36:=⟨_,@Xk⟩
theorem aQ {d r} (G:B5 d=some r):Fn Tryz.prog 12 1 [.ptr 0 0] [.box [.sl 1 (Ak eI d.L),vk d.At] 68] (fun d' b'=>d'=.agg (An.dv r.1)/\b'=[.box [.sl 1 (Ak eI r.2.L),vk r.2.At] 68]):=by
 unfold B5 at G
 refine Ez 1 76 Tryz.func12 fun _ _ _=>?_
 refine B7 3 fun B G=>?_
 refine H0 Qh z9 vW ([(⟨#[97,112,112]⟩:ByteArray),(⟨#[100,98]⟩:ByteArray),(⟨#[109,97,105,108]⟩:ByteArray),(⟨#[119,101,98]⟩:ByteArray)]:List ByteArray) eS ?_
 refine B7 5 fun y _ _ _ B G=>?_
 refine Gc (fun ((i_1,d_1,l_1):Int×Ab×List Al)=>mk [(0,.ptr 0 0),(2,.ptr 1 0),(3,.ptr 2 0),(4,.part 3 (((0:Int).toNat) * 1) ((W (2 + y.1):Int).toNat - (0:Int).toNat)),(5,vk i_1)] [(0,.box [.sl 1 (Ak eI d_1.L),vk d_1.At] 68),(1,.box [.val (.slice none 0 0),.val (.slice none 0 0),.val (.slice none 0 0)] 34),(2,.box [.row 4,.val (.slice none 0 0),.val (.slice none 0 0)] 34),(3,.row 9 1 (Ak eS ([(⟨#[97,112,112]⟩:ByteArray),(⟨#[100,98]⟩:ByteArray),(⟨#[109,97,105,108]⟩:ByteArray),(⟨#[119,101,98]⟩:ByteArray)]:List ByteArray))),(4,.row 59 9 (Ak Al.enc l_1))] 5) G (B9 [(0,0),(1,1),(2,9),(3,17)]) ?_
 rintro⟨i_1,d_1,l_1⟩ m1 o1 G hn1
 unfold B5.l1 at G
 refine Iw 2 fun B G=>?_
 refine Fw rfl rfl (.len Qh.elem .part) rfl rfl ?_
 refine B7 0 fun B G=>?_
 refine Ja rfl G (fun _ G=>?_) fun _ G=>?_
 refine B7 3 fun B G=>?_
 refine Bn (Dx _ _ []) (by kernel_rfl) [0,1,0,0,0,24,56,124,252,511,1023,2047] 37 133 B rfl rfl (by kernel_rfl) ?_
 refine B7 0 fun B G=>?_
 obtain⟨e,he,G⟩:=Aq G
 refine Ik (rd:=[3]) rfl rfl (Yw Qh (H6 he) (Cc he)) rfl rfl ?_
 refine Ik (rd:=[3]) rfl rfl (.loadR1 ty9 (Fj fM (Ow (a:=(0:Int).toNat) (Cc he)) (o:=0) (c:=.str e) rfl rfl)) rfl rfl ?_
 refine B7 1 fun y_2 _ B G=>?_
 refine H0 xO z59 aHu ([y_2.1]:List Al) Al.enc ?_
 exact C1
 refine B7 4 fun B G=>?_
 refine Gc (fun ((i_2,d_2,l_2_2):Int×Ab×List Aw)=>mk [(0,.ptr 0 0),(2,.ptr 1 0),(3,.ptr 2 0),(4,.part 3 (((0:Int).toNat) * 1) ((W (2 + y.1):Int).toNat - (0:Int).toNat)),(6,vk i_2)] [(0,.box [.sl 1 (Ak eI d_2.L),vk d_2.At] 68),(1,.box [.val (.slice none 0 0),.val (.slice none 0 0),.val (.slice none 0 0)] 34),(2,.box [.row 4,.row 5,.val (.slice none 0 0)] 34),(3,.row 9 1 (Ak eS ([(⟨#[97,112,112]⟩:ByteArray),(⟨#[100,98]⟩:ByteArray),(⟨#[109,97,105,108]⟩:ByteArray),(⟨#[119,101,98]⟩:ByteArray)]:List ByteArray))),(4,.row 59 9 (Ak Al.enc l_1)),(5,.row 76 2 (Ak Aw.enc l_2_2))] 6) G (B9 [(0,0),(1,1),(2,2),(3,3),(4,4)]) ?_
 rintro⟨i_2,d_2,l_2_2⟩ m2 o2 G hn2
 unfold B5.l2 at G
 refine Iw 2 fun B G=>?_
 refine Fw rfl rfl (.len Qh.elem .part) rfl rfl ?_
 refine B7 0 fun B G=>?_
 refine Ja rfl G (fun _ G=>?_) fun _ G=>?_
 refine B7 5 fun B G=>?_
 refine Gc (fun ((k_3,d_3,l_3):Int×Ab×List Aw)=>mk [(0,.ptr 0 0),(2,.ptr 1 0),(3,.ptr 2 0),(4,.part 3 (((0:Int).toNat) * 1) ((W (2 + y.1):Int).toNat - (0:Int).toNat)),(6,vk i_2),(7,vk k_3)] [(0,.box [.sl 1 (Ak eI d_3.L),vk d_3.At] 68),(1,.box [.val (.slice none 0 0),.val (.slice none 0 0),.val (.slice none 0 0)] 34),(2,.box [.row 4,.row 5,.val (.slice none 0 0)] 34),(3,.row 9 1 (Ak eS ([(⟨#[97,112,112]⟩:ByteArray),(⟨#[100,98]⟩:ByteArray),(⟨#[109,97,105,108]⟩:ByteArray),(⟨#[119,101,98]⟩:ByteArray)]:List ByteArray))),(4,.row 59 9 (Ak Al.enc l_1)),(5,.row 76 2 (Ak Aw.enc l_3))] 6) G (B9 [(0,0),(1,1),(2,2),(3,3),(4,4),(5,5)]) ?_
 rintro⟨k_3,d_3,l_3⟩ m3 o3 G hn3
 unfold B5.l3 at G
 refine Iw 2 fun B G=>?_
 refine Fw rfl rfl (.len Qh.elem .part) rfl rfl ?_
 refine Jv (.r 0 (.e 1)) fun _ B G=>?_
 refine A6 (ι:=Ab×List Aw) (fun ((d_5,l_5):Ab×List Aw)=>mk [(0,.ptr 0 0),(2,.ptr 1 0),(3,.ptr 2 0),(4,.part 3 (((0:Int).toNat) * 1) ((W (2 + y.1):Int).toNat - (0:Int).toNat)),(6,vk i_2),(7,vk k_3)] [(0,.box [.sl 1 (Ak eI d_5.L),vk d_5.At] 68),(1,.box [.val (.slice none 0 0),.val (.slice none 0 0),.val (.slice none 0 0)] 34),(2,.box [.row 4,.row 5,.val (.slice none 0 0)] 34),(3,.row 9 1 (Ak eS ([(⟨#[97,112,112]⟩:ByteArray),(⟨#[100,98]⟩:ByteArray),(⟨#[109,97,105,108]⟩:ByteArray),(⟨#[119,101,98]⟩:ByteArray)]:List ByteArray))),(4,.row 59 9 (Ak Al.enc l_1)),(5,.row 76 2 (Ak Aw.enc l_5))] 6) (fun ((d_5,l_5):Ab×List Aw)=>B5.j5 k_3 d_5 l_5=some o3) ?_ ?_
 refine B7 1 fun B G=>?_
 refine A6 (ι:=Bool×Ab) (fun ((x50_4,d_4):Bool×Ab)=>mk [(0,.ptr 0 0),(2,.ptr 1 0),(3,.ptr 2 0),(4,.part 3 (((0:Int).toNat) * 1) ((W (2 + y.1):Int).toNat - (0:Int).toNat)),(6,vk i_2),(7,vk k_3),(50,.val (.bool x50_4))] [(0,.box [.sl 1 (Ak eI d_4.L),vk d_4.At] 68),(1,.box [.val (.slice none 0 0),.val (.slice none 0 0),.val (.slice none 0 0)] 34),(2,.box [.row 4,.row 5,.val (.slice none 0 0)] 34),(3,.row 9 1 (Ak eS ([(⟨#[97,112,112]⟩:ByteArray),(⟨#[100,98]⟩:ByteArray),(⟨#[109,97,105,108]⟩:ByteArray),(⟨#[119,101,98]⟩:ByteArray)]:List ByteArray))),(4,.row 59 9 (Ak Al.enc l_1)),(5,.row 76 2 (Ak Aw.enc l_3))] 6) (fun ((x50_4,d_4):Bool×Ab)=>B5.j4 i_2 k_3 l_3 x50_4 d_4=some o3) ?_ ?_
 exact C1
 rintro⟨x50_4,d_4⟩ G
 unfold B5.j4 at G
 refine Dl (.r 0 (.e 1)) fun _ B G=>?_
 refine Kp Vd jU rB ?_
 refine H0 tZ rB aD4 ([(Aw.mk i_2 k_3)]:List Aw) Aw.enc ?_
 exact C1
 rintro⟨d_5,l_5⟩ G
 unfold B5.j5 at G
 exact F0
 refine B7 5 fun _ _ B G=>?_
 refine Gc (fun ((i_6,d_6,l_6):Int×Ab×List Bp)=>mk [(0,.ptr 0 0),(2,.ptr 1 0),(3,.ptr 2 0),(8,vk i_6)] [(0,.box [.sl 1 (Ak eI d_6.L),vk d_6.At] 68),(1,.box [.val (.slice none 0 0),.val (.slice none 0 0),.val (.slice none 0 0)] 34),(2,.box [.row 3,.row 4,.row 5] 34),(3,.row 59 9 (Ak Al.enc l_1)),(4,.row 76 2 (Ak Aw.enc l_2_2)),(5,.row 79 5 (Ak Bp.enc l_6))] 6) G (B9 [(0,0),(1,1),(2,2),(3,4),(4,5)]) ?_
 rintro⟨i_6,d_6,l_6⟩ m6 o6 G hn6
 unfold B5.l6 at G
 refine Dl (.r 2 (.e 3)) fun _ B G=>?_
 refine Bn (Dx _ _ [54]) (by kernel_rfl) [0,1,0,0,0,24,60,124,255,511,1023] 22 110 B rfl rfl (by kernel_rfl) ?_
 refine B7 0 fun B G=>?_
 refine Qv Qh z9 vW ([(⟨#[98,97,99,107,117,112]⟩:ByteArray),(⟨#[100,101,101,100]⟩:ByteArray)]:List ByteArray) eS ?_
 refine B7 2 fun _ _ y_6 _ B G=>?_
 refine H0 vP z79 aGe ([y_6.1]:List Bp) Bp.enc ?_
 exact C1
instance aOa:Wk 12:=⟨_,@aQ⟩
theorem Lt {s c r} (G:Gk s c=some r):Fn Tryz.prog 155 0 [ws s,.val (.int .u8 (c.toNat:Int))] [] (fun d' b'=>d'=vk r/\b'=[]):=by
 unfold Gk at G
 refine Ez 0 8 Tryz.func155 fun _ _ _=>?_
 refine B7 2 fun B G=>?_
 refine Ua (rd:=[]) rfl rfl (.extV rfl yE (aIl s c)) rfl rfl (fun _=>⟨_,rfl⟩) ?_
 rintro _ rfl
 exact C1
instance aLp:Wk 155:=⟨_,@Lt⟩
theorem Sx {s c r} (G:D5 s c=some r):Fn Tryz.prog 136 0 [ws s,.val (.int .u8 (c.toNat:Int))] [] (fun d' b'=>d'=vk r/\b'=[]):=by
 unfold D5 at G
 refine Ez 0 8 Tryz.func136 fun _ _ _=>?_
 exact C1
instance aLk:Wk 136:=⟨_,@Sx⟩
theorem Ul {c others r} (G:Im c others=some r):Fn Tryz.prog 107 0 [.val (.int .u8 (c.toNat:Int)),ws others] [] (fun d' b'=>d'=.val (.bool r)/\b'=[]):=by
 unfold Im at G
 refine Ez 0 33 Tryz.func107 fun _ _ _=>?_
 exact C1
instance aLe:Wk 107:=⟨_,@Ul⟩
theorem Xh {s r} (G:Eh s=some r):Fn Tryz.prog 80 0 [ws s] [] (fun d' b'=>d'=.val (.bool r)/\b'=[]):=by
 unfold Eh at G
 refine Ez 0 24 Tryz.func80 fun _ _ _=>?_
 refine B7 5 fun B G=>?_
 refine Gc (fun (x8_1:Int)=>mk [(0,ws s),(6,.sl 1 (Ak e8 (K0 s))),(7,.val (.int .i64 ((K0 s).length:Int))),(8,vk x8_1)] [] 0) G (B9 []) ?_
 rintro x8_1 m1 o1 G hn1
 unfold Eh.l1 at G
 exact F0
instance aMp:Wk 80:=⟨_,@Xh⟩
theorem bA {alg bits r} (G:Da alg bits=some r):Fn Tryz.prog 156 0 [vk alg,vk bits] [] (fun d' b'=>d'=.agg [vk r.Alg,vk r.Bits]/\b'=[]):=by
 unfold Da at G
 refine Ez 0 8 Tryz.func156 fun _ _ _=>?_
 refine B7 2 fun B G=>?_
 refine Kp Lm Q9 bN ?_
 exact C1
instance aK0:Wk 156:=⟨_,@bA⟩
theorem Wo {r} (G:Ev=some r):Fn Tryz.prog 137 0 [] [] (fun d' b'=>d'=.sl 12 (Ak A7.enc r)/\b'=[]):=by
 unfold Ev at G
 refine Ez 0 125 Tryz.func137 fun _ _ _=>?_
 refine B7 6 fun y _ y_2 _ y_3 _ y_4 _ B G=>?_
 refine Fw rfl rfl (.build (r:=[.val (.int .i64 0),.val (.int .i64 0)]) Lm Q9 bN (by kernel_rfl) rfl) rfl rfl ?_
 refine B7 11 fun y_5 _ y_6 _ y_7 _ y_8 _ y_9 _ y_10 _ y_11 _ y_12 _ y_13 _ B G=>?_
 refine A8 <| Bn (Dx _ _ []) (by kernel_rfl) [0,0,0,0,15,0,0,4,0,484,0,0,0,0,15360,132,0,0,0,491652,32900,0,0,0,15761540,0,0,0,0,503316480,1081476,0,0,0,16107208836,0,0,0,0,515396075520,0,0,1074823300,4399121334404,16493749239940,0,0,0,0,527765581332480,13195214356612,0,0,0,16901693816995972,0,0,0,0,540431955284459520,0,0,0,0,17293822569102704640,0,0,0,0,553402322211286548480,0,0,0,0,17708874310761169551360,1139095121199236,0,0,0,566683979083452546842756,1208925819614629174706175,2417851639229258349412351] 344 1000 B rfl rfl (by kernel_rfl) ?_
 refine B7 1 fun y_14 _ B G=>?_
 refine Fw rfl rfl (.build (r:=[.val (.int .i64 0),.val (.string (⟨#[114,115,97,45,114,99,52,45,109,100,53]⟩:ByteArray)),vk y.Alg,vk y.Bits,vk y_2.Alg,vk y_2.Bits,vk y_14.Alg,vk y_14.Bits,vk y_10.Alg,vk y_10.Bits,.val (.int .i64 1),.val (.int .i64 2)]) Ir Lu Oi (by kernel_rfl) rfl) rfl rfl ?_
 refine B7 1 fun y_15 _ B G=>?_
 refine Fw rfl rfl (.build (r:=[.val (.int .i64 0),.val (.string (⟨#[114,115,97,45,114,99,52,45,115,104,97]⟩:ByteArray)),vk y.Alg,vk y.Bits,vk y_2.Alg,vk y_2.Bits,vk y_15.Alg,vk y_15.Bits,vk y_11.Alg,vk y_11.Bits,.val (.int .i64 1),.val (.int .i64 3)]) Ir Lu Oi (by kernel_rfl) rfl) rfl rfl ?_
 refine B7 0 fun B G=>?_
 refine Fw rfl rfl (.build (r:=[.val (.int .i64 0),.val (.string (⟨#[114,115,97,45,100,101,115,51,45,115,104,97]⟩:ByteArray)),vk y.Alg,vk y.Bits,vk y_2.Alg,vk y_2.Bits,vk y_5.Alg,vk y_5.Bits,vk y_11.Alg,vk y_11.Bits,.val (.int .i64 1),.val (.int .i64 3)]) Ir Lu Oi (by kernel_rfl) rfl) rfl rfl ?_
 refine B7 1 fun y_16 _ B G=>?_
 refine Fw rfl rfl (.build (r:=[.val (.int .i64 0),.val (.string (⟨#[100,104,101,45,100,115,97,45,100,101,115,51,45,115,104,97]⟩:ByteArray)),vk y_16.Alg,vk y_16.Bits,vk y_3.Alg,vk y_3.Bits,vk y_5.Alg,vk y_5.Bits,vk y_11.Alg,vk y_11.Bits,.val (.int .i64 1),.val (.int .i64 3)]) Ir Lu Oi (by kernel_rfl) rfl) rfl rfl ?_
 refine B7 1 fun y_17 _ B G=>?_
 refine Fw rfl rfl (.build (r:=[.val (.int .i64 0),.val (.string (⟨#[100,104,101,45,114,115,97,45,100,101,115,51,45,115,104,97]⟩:ByteArray)),vk y_17.Alg,vk y_17.Bits,vk y_2.Alg,vk y_2.Bits,vk y_5.Alg,vk y_5.Bits,vk y_11.Alg,vk y_11.Bits,.val (.int .i64 1),.val (.int .i64 3)]) Ir Lu Oi (by kernel_rfl) rfl) rfl rfl ?_
 refine B7 0 fun B G=>?_
 refine Fw rfl rfl (.build (r:=[.val (.int .i64 0),.val (.string (⟨#[114,115,97,45,97,101,115,49,50,56,45,115,104,97]⟩:ByteArray)),vk y.Alg,vk y.Bits,vk y_2.Alg,vk y_2.Bits,vk y_6.Alg,vk y_6.Bits,vk y_11.Alg,vk y_11.Bits,.val (.int .i64 1),.val (.int .i64 3)]) Ir Lu Oi (by kernel_rfl) rfl) rfl rfl ?_
 refine B7 1 fun y_18 _ B G=>?_
 refine Fw rfl rfl (.build (r:=[.val (.int .i64 0),.val (.string (⟨#[100,104,101,45,114,115,97,45,97,101,115,49,50,56,45,115,104,97]⟩:ByteArray)),vk y_18.Alg,vk y_18.Bits,vk y_2.Alg,vk y_2.Bits,vk y_6.Alg,vk y_6.Bits,vk y_11.Alg,vk y_11.Bits,.val (.int .i64 1),.val (.int .i64 3)]) Ir Lu Oi (by kernel_rfl) rfl) rfl rfl ?_
 refine B7 0 fun B G=>?_
 refine Fw rfl rfl (.build (r:=[.val (.int .i64 0),.val (.string (⟨#[101,99,100,104,101,45,114,115,97,45,97,101,115,49,50,56,45,115,104,97]⟩:ByteArray)),vk y_13.Alg,vk y_13.Bits,vk y_2.Alg,vk y_2.Bits,vk y_6.Alg,vk y_6.Bits,vk y_11.Alg,vk y_11.Bits,.val (.int .i64 1),.val (.int .i64 3)]) Ir Lu Oi (by kernel_rfl) rfl) rfl rfl ?_
 refine B7 2 fun y_19 _ y_20 _ B G=>?_
 refine Fw rfl rfl (.build (r:=[.val (.int .i64 0),.val (.string (⟨#[101,99,100,104,101,45,101,99,100,115,97,45,97,101,115,50,53,54,45,115,104,97,50,53,54]⟩:ByteArray)),vk y_13.Alg,vk y_13.Bits,vk y_4.Alg,vk y_4.Bits,vk y_19.Alg,vk y_19.Bits,vk y_20.Alg,vk y_20.Bits,.val (.int .i64 3),.val (.int .i64 3)]) Ir Lu Oi (by kernel_rfl) rfl) rfl rfl ?_
 refine B7 0 fun B G=>?_
 refine Fw rfl rfl (.build (r:=[.val (.int .i64 0),.val (.string (⟨#[101,99,100,104,101,45,114,115,97,45,97,101,115,49,50,56,45,103,99,109]⟩:ByteArray)),vk y_13.Alg,vk y_13.Bits,vk y_2.Alg,vk y_2.Bits,vk y_7.Alg,vk y_7.Bits,vk y_12.Alg,vk y_12.Bits,.val (.int .i64 3),.val (.int .i64 3)]) Ir Lu Oi (by kernel_rfl) rfl) rfl rfl ?_
 refine B7 1 fun y_21 _ B G=>?_
 refine Fw rfl rfl (.build (r:=[.val (.int .i64 0),.val (.string (⟨#[101,99,100,104,101,45,101,99,100,115,97,45,97,101,115,50,53,54,45,103,99,109]⟩:ByteArray)),vk y_21.Alg,vk y_21.Bits,vk y_4.Alg,vk y_4.Bits,vk y_8.Alg,vk y_8.Bits,vk y_12.Alg,vk y_12.Bits,.val (.int .i64 3),.val (.int .i64 3)]) Ir Lu Oi (by kernel_rfl) rfl) rfl rfl ?_
 refine B7 0 fun B G=>?_
 refine Fw rfl rfl (.build (r:=[.val (.int .i64 0),.val (.string (⟨#[101,99,100,104,101,45,114,115,97,45,99,104,97,99,104,97]⟩:ByteArray)),vk y_13.Alg,vk y_13.Bits,vk y_2.Alg,vk y_2.Bits,vk y_9.Alg,vk y_9.Bits,vk y_12.Alg,vk y_12.Bits,.val (.int .i64 3),.val (.int .i64 3)]) Ir Lu Oi (by kernel_rfl) rfl) rfl rfl ?_
 refine B7 0 fun B G=>?_
 refine Fw rfl rfl (.build (r:=[.val (.int .i64 0),.val (.string (⟨#[114,115,97,45,97,101,115,50,53,54,45,103,99,109]⟩:ByteArray)),vk y.Alg,vk y.Bits,vk y_2.Alg,vk y_2.Bits,vk y_8.Alg,vk y_8.Bits,vk y_12.Alg,vk y_12.Bits,.val (.int .i64 3),.val (.int .i64 3)]) Ir Lu Oi (by kernel_rfl) rfl) rfl rfl ?_
 refine B7 0 fun B G=>?_
 refine Fw rfl rfl (.build (r:=[.val (.int .i64 0),.val (.string (⟨#[97,101,115,49,50,56,45,103,99,109]⟩:ByteArray)),vk y_13.Alg,vk y_13.Bits,.val (.int .i64 0),.val (.int .i64 0),vk y_7.Alg,vk y_7.Bits,vk y_12.Alg,vk y_12.Bits,.val (.int .i64 4),.val (.int .i64 4)]) Ir Lu Oi (by kernel_rfl) rfl) rfl rfl ?_
 refine B7 0 fun B G=>?_
 refine Fw rfl rfl (.build (r:=[.val (.int .i64 0),.val (.string (⟨#[99,104,97,99,104,97]⟩:ByteArray)),vk y_13.Alg,vk y_13.Bits,.val (.int .i64 0),.val (.int .i64 0),vk y_9.Alg,vk y_9.Bits,vk y_12.Alg,vk y_12.Bits,.val (.int .i64 4),.val (.int .i64 4)]) Ir Lu Oi (by kernel_rfl) rfl) rfl rfl ?_
 refine B7 1 fun y_22 _ B G=>?_
 refine Fw rfl rfl (.build (r:=[.val (.int .i64 0),.val (.string (⟨#[109,108,107,101,109,45,97,101,115,50,53,54,45,103,99,109]⟩:ByteArray)),vk y_22.Alg,vk y_22.Bits,.val (.int .i64 0),.val (.int .i64 0),vk y_8.Alg,vk y_8.Bits,vk y_12.Alg,vk y_12.Bits,.val (.int .i64 4),.val (.int .i64 4)]) Ir Lu Oi (by kernel_rfl) rfl) rfl rfl ?_
 refine H0 qI Oi zV ([(A7.mk 0 (⟨#[114,115,97,45,114,99,52,45,109,100,53]⟩:ByteArray) y y_2 y_14 y_10 1 2),(A7.mk 0 (⟨#[114,115,97,45,114,99,52,45,115,104,97]⟩:ByteArray) y y_2 y_15 y_11 1 3),(A7.mk 0 (⟨#[114,115,97,45,100,101,115,51,45,115,104,97]⟩:ByteArray) y y_2 y_5 y_11 1 3),(A7.mk 0 (⟨#[100,104,101,45,100,115,97,45,100,101,115,51,45,115,104,97]⟩:ByteArray) y_16 y_3 y_5 y_11 1 3),(A7.mk 0 (⟨#[100,104,101,45,114,115,97,45,100,101,115,51,45,115,104,97]⟩:ByteArray) y_17 y_2 y_5 y_11 1 3),(A7.mk 0 (⟨#[114,115,97,45,97,101,115,49,50,56,45,115,104,97]⟩:ByteArray) y y_2 y_6 y_11 1 3),(A7.mk 0 (⟨#[100,104,101,45,114,115,97,45,97,101,115,49,50,56,45,115,104,97]⟩:ByteArray) y_18 y_2 y_6 y_11 1 3),(A7.mk 0 (⟨#[101,99,100,104,101,45,114,115,97,45,97,101,115,49,50,56,45,115,104,97]⟩:ByteArray) y_13 y_2 y_6 y_11 1 3),(A7.mk 0 (⟨#[101,99,100,104,101,45,101,99,100,115,97,45,97,101,115,50,53,54,45,115,104,97,50,53,54]⟩:ByteArray) y_13 y_4 y_19 y_20 3 3),(A7.mk 0 (⟨#[101,99,100,104,101,45,114,115,97,45,97,101,115,49,50,56,45,103,99,109]⟩:ByteArray) y_13 y_2 y_7 y_12 3 3),(A7.mk 0 (⟨#[101,99,100,104,101,45,101,99,100,115,97,45,97,101,115,50,53,54,45,103,99,109]⟩:ByteArray) y_21 y_4 y_8 y_12 3 3),(A7.mk 0 (⟨#[101,99,100,104,101,45,114,115,97,45,99,104,97,99,104,97]⟩:ByteArray) y_13 y_2 y_9 y_12 3 3),(A7.mk 0 (⟨#[114,115,97,45,97,101,115,50,53,54,45,103,99,109]⟩:ByteArray) y y_2 y_8 y_12 3 3),(A7.mk 0 (⟨#[97,101,115,49,50,56,45,103,99,109]⟩:ByteArray) y_13 (Av.mk 0 0) y_7 y_12 4 4),(A7.mk 0 (⟨#[99,104,97,99,104,97]⟩:ByteArray) y_13 (Av.mk 0 0) y_9 y_12 4 4),(A7.mk 0 (⟨#[109,108,107,101,109,45,97,101,115,50,53,54,45,103,99,109]⟩:ByteArray) y_22 (Av.mk 0 0) y_8 y_12 4 4)]:List A7) A7.enc ?_
 refine B7 3 fun B G=>?_
 refine Gc (fun ((x114_1,l_1):Int×List A7)=>mk [(15,.row 0),(113,.val (.int .i64 (([(A7.mk 0 (⟨#[114,115,97,45,114,99,52,45,109,100,53]⟩:ByteArray) y y_2 y_14 y_10 1 2),(A7.mk 0 (⟨#[114,115,97,45,114,99,52,45,115,104,97]⟩:ByteArray) y y_2 y_15 y_11 1 3),(A7.mk 0 (⟨#[114,115,97,45,100,101,115,51,45,115,104,97]⟩:ByteArray) y y_2 y_5 y_11 1 3),(A7.mk 0 (⟨#[100,104,101,45,100,115,97,45,100,101,115,51,45,115,104,97]⟩:ByteArray) y_16 y_3 y_5 y_11 1 3),(A7.mk 0 (⟨#[100,104,101,45,114,115,97,45,100,101,115,51,45,115,104,97]⟩:ByteArray) y_17 y_2 y_5 y_11 1 3),(A7.mk 0 (⟨#[114,115,97,45,97,101,115,49,50,56,45,115,104,97]⟩:ByteArray) y y_2 y_6 y_11 1 3),(A7.mk 0 (⟨#[100,104,101,45,114,115,97,45,97,101,115,49,50,56,45,115,104,97]⟩:ByteArray) y_18 y_2 y_6 y_11 1 3),(A7.mk 0 (⟨#[101,99,100,104,101,45,114,115,97,45,97,101,115,49,50,56,45,115,104,97]⟩:ByteArray) y_13 y_2 y_6 y_11 1 3),(A7.mk 0 (⟨#[101,99,100,104,101,45,101,99,100,115,97,45,97,101,115,50,53,54,45,115,104,97,50,53,54]⟩:ByteArray) y_13 y_4 y_19 y_20 3 3),(A7.mk 0 (⟨#[101,99,100,104,101,45,114,115,97,45,97,101,115,49,50,56,45,103,99,109]⟩:ByteArray) y_13 y_2 y_7 y_12 3 3),(A7.mk 0 (⟨#[101,99,100,104,101,45,101,99,100,115,97,45,97,101,115,50,53,54,45,103,99,109]⟩:ByteArray) y_21 y_4 y_8 y_12 3 3),(A7.mk 0 (⟨#[101,99,100,104,101,45,114,115,97,45,99,104,97,99,104,97]⟩:ByteArray) y_13 y_2 y_9 y_12 3 3),(A7.mk 0 (⟨#[114,115,97,45,97,101,115,50,53,54,45,103,99,109]⟩:ByteArray) y y_2 y_8 y_12 3 3),(A7.mk 0 (⟨#[97,101,115,49,50,56,45,103,99,109]⟩:ByteArray) y_13 (Av.mk 0 0) y_7 y_12 4 4),(A7.mk 0 (⟨#[99,104,97,99,104,97]⟩:ByteArray) y_13 (Av.mk 0 0) y_9 y_12 4 4),(A7.mk 0 (⟨#[109,108,107,101,109,45,97,101,115,50,53,54,45,103,99,109]⟩:ByteArray) y_22 (Av.mk 0 0) y_8 y_12 4 4)]:List A7).length:Int))),(114,vk x114_1)] [(0,.row 146 12 (Ak A7.enc l_1))] 1) G (B9 [(0,984)]) ?_
 rintro⟨x114_1,l_1⟩ m1 o1 G hn1
 unfold Ev.l1 at G
 refine Dl (.r 2 (.e 6)) fun _ e he B G=>?_
 refine Ik (rd:=[0]) rfl rfl (fW sF rfl (Fe A7.enc_len (Cc he) (o:=0) (m:=1) (by decide) rfl) I6 (cs':=[.int .i64 (W (x114_1 + 1))]) (.cons .int .nil) (Nz A7.enc_len (Cc he) (o:=0) (x':=(A7.mk (W (x114_1 + 1)) e.Name e.Exchange e.Sign e.Cipher e.Mac e.Least e.Most)) (aEn rfl) rfl rfl)) rfl rfl ?_
 exact C1
instance aKj:Wk 137:=⟨_,@Wo⟩
end Go.Proofs.YtkioneinddihlaaGreat
