import Derived.Test.YtbpchmikjiinpaaGreatT1
import Derived.Test.YtbpchmikjiinpaaGreatEU
import Derived.Test.YtbpchmikjiinpaaGreatA1
import Derived.Test.YtbpchmikjiinpaaGreatA3
set_option linter.unusedVariables false
set_option linter.unusedSimpArgs false
set_option maxRecDepth 100000
set_option maxHeartbeats 40000000
namespace Go.Proofs.YtbpchmikjiinpaaGreat
open Go.RowKit
theorem dU {code r} (G:F8 code=some r):Fn Tryz.prog 88 0 [vk code] [] (fun d' b'=>d'=.tup [.agg (A1.dv r.1),vk r.2]/\b'=[]):=by
 unfold F8 at G
 refine Dx 0 16 Tryz.func88 fun _ _ _=>?_
 refine Bt 1 fun B G=>?_
 refine Au <| Ba (ι:=Bool) (fun (x9_1:Bool)=>mk [(0,vk code),(2,.ptr 0 0),(9,.val (.bool x9_1))] [(0,.box [.val (.int .i64 0),.val (.string (⟨#[]⟩:ByteArray)),.val (.int .i64 0),.val (.int .i64 0),.val (.int .i64 0),.val (.int .i64 0),.val (.int .i64 0),.val (.int .i64 0),.val (.int .i64 0),.val (.int .i64 0),.val (.int .i64 0),.val (.int .i64 0)] 145)] 1) (fun (x9_1:Bool)=>F8.j1 code x9_1=some r) ?_ ?_
 exact Cf
 rintro x9_1 G
 unfold F8.j1 at G
 refine D4 (.r 0 (.e 1)) fun _ B G=>?_
 refine L1 Jq M1 Qp ?_
 exact Cf
instance aRm:Wk 88:=⟨_,@dU⟩
theorem Yc {code r} (G:Ip code=some r):Fn Tryz.prog 114 0 [vk code] [] (fun d' b'=>d'=vk r/\b'=[]):=by
 unfold Ip at G
 refine Dx 0 15 Tryz.func114 fun _ _ _=>?_
 exact Cf
instance aOr:Wk 114:=⟨_,@Yc⟩
theorem gP {l r} (G:Dk l=some r):Fn Tryz.prog 85 0 [.sl 1 (Aj eI l)] [] (fun d' b'=>d'=.sl 1 (Aj eI r)/\b'=[]):=by
 unfold Dk at G
 refine Dx 0 48 Tryz.func85 fun _ _ _=>?_
 refine Bt 5 fun B G=>?_
 refine G7 (fun ((i_1,out_1):Int×List Int)=>mk [(0,.sl 1 (Aj eI l)),(3,.row 0),(4,vk i_1)] [(0,.row 3 1 (Aj eI out_1))] 1) G (B9 []) ?_
 rintro⟨i_1,out_1⟩ m1 o1 G hn1
 unfold Dk.l1 at G
 refine D4 (.r 2 (.e 6)) fun _ B G=>?_
 refine G7 (fun (k_2:Int)=>mk [(0,.sl 1 (Aj eI l)),(3,.row 0),(4,vk i_1),(5,vk k_2)] [(0,.row 3 1 (Aj eI out_1))] 1) G (B9 [(0,0)]) ?_
 rintro k_2 m2 o2 G hn2
 unfold Dk.l2 at G
 try dsimp only at G
 refine R3 rfl ?_
 refine Au <| Ba (ι:=Bool) (fun (x29_3:Bool)=>mk [(0,.sl 1 (Aj eI l)),(3,.row 0),(4,vk i_1),(5,vk k_2),(29,.val (.bool x29_3))] [(0,.row 3 1 (Aj eI out_1))] 1) (fun (x29_3:Bool)=>Dk.j3 l i_1 out_1 k_2 x29_3=some o2) ?_ ?_
 refine Bb (Df _ _ []) (by kernel_rfl) [0,1,3,7,7,23,63,127,255,7,7,1543,3591,8191,16383,32767] 1 129 Ji rfl rfl (by kernel_rfl) ?_
 exact Cf
 rintro x29_3 G
 unfold Dk.j3 at G
 refine D4 (.l 0 (.e 1)) fun _ B G=>?_
 refine Bb (Df _ _ []) (by kernel_rfl) [0,0,0,6,15,0,0,96,224,480,1023,0,0,6144,16383,32767] 1 129 Ji rfl rfl (by kernel_rfl) ?_
 refine Et rfl rfl (Fw Eb z3 (by decide) rfl rfl rfl rfl I7 (cs:=[]) .nil rfl (l:=([]:List Int)) (f:=eI) rfl) rfl rfl ?_
 refine Bt 1 fun _ hl_2 B G=>?_
 obtain⟨l_3,hl_3,G⟩:=Ak G
 refine Mz (rd:=[1,0]) rfl rfl (Lc Eb Rf .row rfl (.part (aM Rf (Re hl_2))) (Xf Rf _ _ _ (Re hl_2)) hl_3 rfl) rfl rfl ?_
 refine Bt 2 fun e_3 _ B G=>?_
 refine Hj Eb z3 I7 ([e_3]:List Int) eI ?_
 refine Bt 2 fun _ _ _ hl_5 B G=>?_
 obtain⟨l_6,hl_6,G⟩:=Ak G
 refine Mz (rd:=[81,0]) rfl rfl (Lc Eb Rf .row rfl (.part (aM Rf (Re hl_5))) (Xf Rf _ _ _ (Re hl_5)) hl_6 rfl) rfl rfl ?_
 exact Cf
instance aQe:Wk 85:=⟨_,@gP⟩
theorem dV {d r} (G:D9 d=some r):Fn Tryz.prog 56 1 [.ptr 0 0] [.box [.sl 1 (Aj eI d.L),vk d.At] 61] (fun d' b'=>d'=.sl 1 (Aj eI r.1)/\b'=[.box [.sl 1 (Aj eI r.2.L),vk r.2.At] 61]):=by
 unfold D9 at G
 refine Dx 1 29 Tryz.func56 fun _ _ _=>?_
 refine Bt 6 fun _ _ B G=>?_
 refine G7 (fun ((i_1,d_1,l_1):Int×Ab×List Int)=>mk [(0,.ptr 0 0),(3,.row 1),(4,vk i_1)] [(0,.box [.sl 1 (Aj eI d_1.L),vk d_1.At] 61),(1,.row 3 1 (Aj eI l_1))] 2) G (B9 [(0,0)]) ?_
 rintro⟨i_1,d_1,l_1⟩ m1 o1 G hn1
 unfold D9.l1 at G
 refine I9 2 fun B G=>?_
 refine Jf rfl G (fun _ G=>?_) fun _ G=>?_
 refine Bt 1 fun B G=>?_
 refine Ba (ι:=Ab×List Int) (fun ((d_2,l_2):Ab×List Int)=>mk [(0,.ptr 0 0),(3,.row 1),(4,vk i_1)] [(0,.box [.sl 1 (Aj eI d_2.L),vk d_2.At] 61),(1,.row 3 1 (Aj eI l_2))] 2) (fun ((d_2,l_2):Ab×List Int)=>D9.j2 i_1 d_2 l_2=some o1) ?_ ?_
 refine Bt 4 fun y_2 _ B G=>?_
 obtain⟨y_3,hy_3,G⟩:=Ak G
 refine P5 [1] [] [] true (Zd hy_3) ?_
 refine Md (.r 0 (.e 1)) fun _ B G=>?_
 refine Hj Eb z3 I7 ([W (1 + y_2.1)]:List Int) eI ?_
 exact Cf
 rintro⟨d_2,l_2⟩ G
 unfold D9.j2 at G
 exact Hf
 refine Md (.r 4 (.e 0)) fun y_4 _ _ B G=>?_
 refine Ew (σ':=mk [(3,.sl 1 (Aj eI l_1))] [(0,.box [.sl 1 (Aj eI y_4.2.L),vk y_4.2.At] 61)] 1) (B9 [(0,0)]) ?_
 exact Cf
instance aQ7:Wk 56:=⟨_,@dV⟩
theorem kO {d a r} (G:Cs d a=some r):Fn Tryz.prog 58 1 [.ptr 0 0,vk a] [.box [.sl 1 (Aj eI d.L),vk d.At] 61] (fun d' b'=>d'=vk r.1/\b'=[.box [.sl 1 (Aj eI r.2.L),vk r.2.At] 61]):=by
 unfold Cs at G
 refine Dx 1 46 Tryz.func58 fun _ _ _=>?_
 refine Bt 4 fun B G=>?_
 refine Ba (ι:=Bool) (fun (x6_1:Bool)=>mk [(0,.ptr 0 0),(5,vk a),(6,.val (.bool x6_1))] [(0,.box [.sl 1 (Aj eI d.L),vk d.At] 61)] 1) (fun (x6_1:Bool)=>Cs.j1 d a x6_1=some r) ?_ ?_
 exact Cf
 rintro x6_1 G
 unfold Cs.j1 at G
 try dsimp only at G
 refine R3 rfl ?_
 refine Jf rfl G (fun _ G=>?_) fun _ G=>?_
 refine Au <| B5 (Df _ _ [9]) 1 33 Ji rfl rfl ?_
 refine Bt 0 fun B G=>?_
 refine Ra Eb z3 I7 ([2048,1024,512,3072,1023,4096,16384]:List Int) eI ?_
 exact Cf
 refine Ba (ι:=Bool) (fun (x14_2:Bool)=>mk [(0,.ptr 0 0),(5,vk a),(14,.val (.bool x14_2))] [(0,.box [.sl 1 (Aj eI d.L),vk d.At] 61)] 1) (fun (x14_2:Bool)=>Cs.j2 d a x14_2=some r) ?_ ?_
 exact Cf
 rintro x14_2 G
 unfold Cs.j2 at G
 try dsimp only at G
 refine R3 rfl ?_
 refine Jf rfl G (fun _ G=>?_) fun _ G=>?_
 refine Au <| B5 (Df _ _ [9]) 1 33 Ji rfl rfl ?_
 refine Bt 0 fun B G=>?_
 refine Ra Eb z3 I7 ([256,160,224,384,521]:List Int) eI ?_
 exact Cf
 refine Bt 1 fun B G=>?_
 refine Jf rfl G (fun _ G=>?_) fun _ G=>?_
 refine Au <| B5 (Df _ _ [25]) 17 49 B rfl rfl ?_
 refine Bt 0 fun B G=>?_
 refine Ra Eb z3 I7 ([65,44,87]:List Int) eI ?_
 exact Cf
 refine Bt 1 fun B G=>?_
 refine Jf rfl G (fun _ G=>?_) fun _ G=>?_
 refine Au <| B5 (Df _ _ [41]) 33 65 B rfl rfl ?_
 refine Bt 0 fun B G=>?_
 refine Ra Eb z3 I7 ([768,512,1024]:List Int) eI ?_
 exact Cf
 refine Bt 1 fun B G=>?_
 refine Jf rfl G (fun _ G=>?_) fun _ G=>?_
 refine Au <| B5 (Df _ _ [57]) 49 81 B rfl rfl ?_
 refine Bt 0 fun B G=>?_
 refine Ra Eb z3 I7 ([128,40]:List Int) eI ?_
 exact Cf
 refine Bt 1 fun B G=>?_
 refine Jf rfl G (fun _ G=>?_) fun _ G=>?_
 refine Au <| B5 (Df _ _ [73]) 65 97 B rfl rfl ?_
 refine Bt 0 fun B G=>?_
 refine Ra Eb z3 I7 ([168,112]:List Int) eI ?_
 exact Cf
 refine Ba (ι:=Bool) (fun (x40_3:Bool)=>mk [(0,.ptr 0 0),(40,.val (.bool x40_3))] [(0,.box [.sl 1 (Aj eI d.L),vk d.At] 61)] 1) (fun (x40_3:Bool)=>Cs.j3 d x40_3=some r) ?_ ?_
 exact Cf
 rintro x40_3 G
 unfold Cs.j3 at G
 refine D4 (.r 0 (.e 0)) fun _ B G=>?_
 refine Au <| B5 (Df _ _ [9]) 1 33 Ji rfl rfl ?_
 refine Bt 0 fun B G=>?_
 refine Ra Eb z3 I7 ([128,256]:List Int) eI ?_
 exact Cf
instance aPj:Wk 58:=⟨_,@kO⟩
theorem oS {d r} (G:P1 d=some r):Fn Tryz.prog 57 1 [.ptr 0 0] [.box [.sl 1 (Aj eI d.L),vk d.At] 61] (fun d' b'=>d'=.agg [vk r.1.Alg,vk r.1.Bits]/\b'=[.box [.sl 1 (Aj eI r.2.L),vk r.2.At] 61]):=by
 unfold P1 at G
 refine Dx 1 12 Tryz.func57 fun _ _ _=>?_
 refine Bt 1 fun B G=>?_
 refine Au <| B5 (Df _ _ [17]) 9 41 B rfl rfl ?_
 refine Bt 0 fun B G=>?_
 refine Ra Eb z3 I7 ([5,7,5,6,8,9]:List Int) eI ?_
 refine Bt 3 fun _ _ _ _ B G=>?_
 refine L1 Hh Lt S8 ?_
 exact Cf
instance aQs:Wk 57:=⟨_,@oS⟩
theorem Wc {d issuer subject key id signer authority r} (G:Ci d issuer subject key id signer authority=some r):Fn Tryz.prog 73 1 [.ptr 0 0,ws issuer,ws subject,.agg [vk key.Alg,vk key.Bits],vk id,vk signer,.val (.bool authority)] [.box [.sl 1 (Aj eI d.L),vk d.At] 61] (fun d' b'=>d'=.agg (Ah.dv r.1)/\b'=[.box [.sl 1 (Aj eI r.2.L),vk r.2.At] 61]):=by
 unfold Ci at G
 refine Dx 1 58 Tryz.func73 fun _ _ _=>?_
 refine Bt 1 fun B G=>?_
 refine Au <| Bb (Df _ _ [73,105,129]) (by kernel_rfl) [0,1,0,0,0,0,0,0,195,451,0,0,3523,0,0,32195,0,131071,0,524287] 17 177 B rfl rfl (by kernel_rfl) ?_
 refine Bt 1 fun y _ B G=>?_
 refine Ra Eb z3 I7 ([3,2,4,1]:List Int) eI ?_
 refine Bt 1 fun y_2 _ B G=>?_
 refine L1 Hh Lt S8 ?_
 refine Bt 0 fun B G=>?_
 refine Ra Eb z3 I7 ([0,5,10]:List Int) eI ?_
 refine Bt 1 fun y_3 _ B G=>?_
 refine Ra Eb z3 I7 ([1000,100,50,20]:List Int) eI ?_
 refine Bt 1 fun y_4 _ B G=>?_
 refine L1 Mi uJ lC ?_
 refine Bt 0 fun B G=>?_
 refine Ba (ι:=Ab×Int) (fun ((d_1,c_1):Ab×Int)=>mk [(0,.ptr 0 0),(2,ws subject),(5,vk signer),(14,.ptr 1 0),(15,.ptr 2 0)] [(0,.box [.sl 1 (Aj eI d_1.L),vk d_1.At] 61),(1,.box [.val (.int .i64 0),.val (.string (⟨#[]⟩:ByteArray)),.val (.string (⟨#[]⟩:ByteArray)),.val (.int .i64 0),.val (.int .i64 0),.val (.int .i64 0),.val (.int .i64 0),.val (.int .i64 0),.val (.int .i64 0),.val (.int .i64 0),.val (.bool false),.val (.int .i64 0),.val (.slice none 0 0),.val (.int .i64 0),.val (.int .i64 0)] 103),(2,.box [vk y.1,ws issuer,ws subject,vk key.Alg,vk key.Bits,vk id,vk y_2.1,.val (.int .i64 0),vk y_3.1,vk y_4.1,.val (.bool authority),vk c_1,.val (.slice none 0 0),.val (.int .i64 0),.val (.int .i64 0)] 103)] 3) (fun ((d_1,c_1):Ab×Int)=>Ci.j1 issuer subject key id signer authority y y_2 y_3 y_4 d_1 c_1=some r) ?_ ?_
 refine Md (.r 1 (.e 0)) fun _ B G=>?_
 refine B5 (Df _ _ [193]) 185 225 B rfl rfl ?_
 refine Bt 0 fun B G=>?_
 refine Ra Eb z3 I7 ([3,0,1]:List Int) eI ?_
 exact Cf
 rintro⟨d_1,c_1⟩ G
 unfold Ci.j1 at G
 refine I9 1 fun B G=>?_
 refine Hj Px z9 rL ([subject]:List ByteArray) eS ?_
 refine Bt 0 fun B G=>?_
 refine Ba (ι:=Ab×List ByteArray) (fun ((b_2,l_2):Ab×List ByteArray)=>mk [(5,vk signer),(14,.ptr 1 0),(15,.ptr 2 0)] [(0,.box [.sl 1 (Aj eI b_2.L),vk b_2.At] 61),(1,.box [.val (.int .i64 0),.val (.string (⟨#[]⟩:ByteArray)),.val (.string (⟨#[]⟩:ByteArray)),.val (.int .i64 0),.val (.int .i64 0),.val (.int .i64 0),.val (.int .i64 0),.val (.int .i64 0),.val (.int .i64 0),.val (.int .i64 0),.val (.bool false),.val (.int .i64 0),.val (.slice none 0 0),.val (.int .i64 0),.val (.int .i64 0)] 103),(2,.box [vk y.1,ws issuer,ws subject,vk key.Alg,vk key.Bits,vk id,vk y_2.1,.val (.int .i64 0),vk y_3.1,vk y_4.1,.val (.bool authority),vk c_1,.row 3,.val (.int .i64 0),.val (.int .i64 0)] 103),(3,.row 9 1 (Aj eS l_2))] 4) (fun ((b_2,l_2):Ab×List ByteArray)=>Ci.j2 issuer subject key id signer authority y y_2 y_3 y_4 c_1 b_2 l_2=some r) ?_ ?_
 refine Md (.r 2 (.e 2)) fun y_6 _ _ s _ B G=>?_
 refine Hj Px z9 rL ([s]:List ByteArray) eS ?_
 exact Cf
 rintro⟨b_2,l_2⟩ G
 unfold Ci.j2 at G
 try dsimp only at G
 refine R3 rfl ?_
 refine Au <| Ew (σ':=mk [(5,vk signer),(14,.ptr 1 0),(15,.ptr 2 0)] [(0,.box [.sl 1 (Aj eI b_2.L),vk b_2.At] 61),(1,.box [.val (.int .i64 0),.val (.string (⟨#[]⟩:ByteArray)),.val (.string (⟨#[]⟩:ByteArray)),.val (.int .i64 0),.val (.int .i64 0),.val (.int .i64 0),.val (.int .i64 0),.val (.int .i64 0),.val (.int .i64 0),.val (.int .i64 0),.val (.bool false),.val (.int .i64 0),.val (.slice none 0 0),.val (.int .i64 0),.val (.int .i64 0)] 103),(2,.box [vk y.1,ws issuer,ws subject,vk key.Alg,vk key.Bits,vk id,vk y_2.1,.val (.int .i64 0),vk y_3.1,vk y_4.1,.val (.bool authority),vk c_1,.sl 1 (Aj eS l_2),.val (.int .i64 0),.val (.int .i64 0)] 103)] 3) (B9 [(0,0),(1,1),(2,2)]) ?_
 exact Cf
instance aRd:Wk 73:=⟨_,@Wc⟩
theorem jC {d name key id r} (G:G3 d name key id=some r):Fn Tryz.prog 49 1 [.ptr 0 0,ws name,.agg [vk key.Alg,vk key.Bits],vk id] [.box [.sl 1 (Aj eI d.L),vk d.At] 61] (fun d' b'=>d'=.sl 15 (Aj Ah.enc r.1)/\b'=[.box [.sl 1 (Aj eI r.2.L),vk r.2.At] 61]):=by
 unfold G3 at G
 refine Dx 1 56 Tryz.func49 fun _ _ _=>?_
 refine Bt 1 fun B G=>?_
 refine Au <| B5 (Df _ _ [25]) 17 49 B rfl rfl ?_
 refine Bt 0 fun B G=>?_
 refine Ra Eb z3 I7 ([1,0,2]:List Int) eI ?_
 refine Bt 7 fun y _ _ _ B G=>?_
 refine G7 (fun ((signer_1,issuer_1,i_1,d_1,above_1):Int×ByteArray×Int×Ab×List Ah)=>mk [(0,.ptr 0 0),(1,ws name),(3,vk id),(6,.ptr 1 0),(9,vk y.1),(10,vk signer_1),(11,ws issuer_1),(12,.row 2),(13,vk i_1)] [(0,.box [.sl 1 (Aj eI d_1.L),vk d_1.At] 61),(1,.box [vk key.Alg,vk key.Bits] 24),(2,.row 103 15 (Aj Ah.enc above_1))] 3) G (B9 [(0,0),(1,1)]) ?_
 rintro⟨signer_1,issuer_1,i_1,d_1,above_1⟩ m1 o1 G hn1
 unfold G3.l1 at G
 refine I9 2 fun B G=>?_
 refine Jf rfl G (fun _ G=>?_) fun _ G=>?_
 refine Bt 4 fun B G=>?_
 refine Hj Px z9 rL ([(⟨#[99,97]⟩:ByteArray),(⟨#[99,98]⟩:ByteArray),(⟨#[99,99]⟩:ByteArray)]:List ByteArray) eS ?_
 refine Bt 3 fun e _ B G=>?_
 refine L1 Hh Lt S8 ?_
 refine Bt 2 fun y_3 _ B G=>?_
 refine Hj yK lC pH ([y_3.1]:List Ah) Ah.enc ?_
 exact Cf
 refine Bt 3 fun y_4 _ B G=>?_
 refine Hj yK lC pH ([y_4.1]:List Ah) Ah.enc ?_
 exact Cf
instance aRz:Wk 49:=⟨_,@jC⟩
theorem Zq {d name r} (G:B4 d name=some r):Fn Tryz.prog 32 1 [.ptr 0 0,ws name] [.box [.sl 1 (Aj eI d.L),vk d.At] 61] (fun d' b'=>d'=.agg (Ad.dv r.1)/\b'=[.box [.sl 1 (Aj eI r.2.L),vk r.2.At] 61]):=by
 unfold B4 at G
 refine Dx 1 100 Tryz.func32 fun _ _ _=>?_
 refine Bt 1 fun B G=>?_
 refine Au <| B5 (Df _ _ [25]) 9 113 B rfl rfl ?_
 refine Bt 0 fun B G=>?_
 refine Ra Eb z3 I7 ([1,1,2,3]:List Int) eI ?_
 refine Bt 4 fun y _ y_2 _ y_3 _ y_4 _ B G=>?_
 refine L1 Vr aGa z43 ?_
 refine Bt 0 fun B G=>?_
 refine Au <| Bb (Df _ _ []) (by kernel_rfl) [0,1,0,0,8,24,60,127,255,511] 113 193 B rfl rfl (by kernel_rfl) ?_
 refine Bt 1 fun y_5 _ B G=>?_
 refine Ba (ι:=List Int×Int×Int×Int) (fun ((d_1,d_1_2,e_1,e_1_2):List Int×Int×Int×Int)=>mk [(0,.ptr 0 0),(1,ws name),(4,.ptr 1 0),(5,.ptr 2 0)] [(0,.box [.sl 1 (Aj eI d_1),vk d_1_2] 61),(1,.box [.val (.string (⟨#[]⟩:ByteArray)),.val (.int .i64 0),.val (.int .i64 0),.val (.slice none 0 0),.val (.bool false),.val (.slice none 0 0),.val (.slice none 0 0),.val (.slice none 0 0),.val (.bool false)] 43),(2,.box [ws name,vk e_1,vk e_1_2,.sl 1 (Aj eI y_2.1),.val (.bool y_3.1),.val (.slice none 0 0),.val (.slice none 0 0),.val (.slice none 0 0),.val (.bool y_4.1)] 43)] 3) (fun ((d_1,d_1_2,e_1,e_1_2):List Int×Int×Int×Int)=>B4.j1 name y_2 y_3 y_4 d_1 d_1_2 e_1 e_1_2=some r) ?_ ?_
 refine Md (.r 2 (.e 0)) fun _ _ _ B G=>?_
 refine B5 (Df _ _ [225]) 217 273 B rfl rfl ?_
 refine Bt 0 fun B G=>?_
 refine Ra Eb z3 I7 ([3,4,2]:List Int) eI ?_
 exact Cf
 rintro⟨d_1,d_1_2,e_1,e_1_2⟩ G
 unfold B4.j1 at G
 try dsimp only at G
 refine R3 rfl ?_
 refine Au <| Au <| B5 (Df _ _ [11]) 3 35 Ji rfl rfl ?_
 refine Bt 0 fun B G=>?_
 refine Ra Eb z3 I7 ([1,2,1,3,0]:List Int) eI ?_
 refine Bt 2 fun _ _ B G=>?_
 refine G7 (fun ((i_2,d_2,d_2_2,l_2):Int×List Int×Int×List Am)=>mk [(0,.ptr 0 0),(1,ws name),(4,.ptr 1 0),(5,.ptr 2 0),(6,vk i_2)] [(0,.box [.sl 1 (Aj eI d_2),vk d_2_2] 61),(1,.box [.val (.string (⟨#[]⟩:ByteArray)),.val (.int .i64 0),.val (.int .i64 0),.val (.slice none 0 0),.val (.bool false),.val (.slice none 0 0),.val (.slice none 0 0),.val (.slice none 0 0),.val (.bool false)] 43),(2,.box [ws name,vk e_1,vk e_1_2,.sl 1 (Aj eI y_2.1),.val (.bool y_3.1),.row 3,.val (.slice none 0 0),.val (.slice none 0 0),.val (.bool y_4.1)] 43),(3,.row 67 4 (Aj Am.enc l_2))] 4) G (B9 [(0,0),(1,1),(2,2)]) ?_
 rintro⟨i_2,d_2,d_2_2,l_2⟩ m2 o2 G hn2
 unfold B4.l2 at G
 refine I9 2 fun B G=>?_
 refine Jf rfl G (fun _ G=>?_) fun _ G=>?_
 refine Bt 5 fun y_9 _ B G=>?_
 refine Ba (ι:=List Int×Int×Int×Int) (fun ((d_3,d_3_2,key_3,key_3_2):List Int×Int×Int×Int)=>mk [(0,.ptr 0 0),(1,ws name),(4,.ptr 1 0),(5,.ptr 2 0),(6,vk i_2),(7,.ptr 3 0)] [(0,.box [.sl 1 (Aj eI d_3),vk d_3_2] 61),(1,.box [.val (.string (⟨#[]⟩:ByteArray)),.val (.int .i64 0),.val (.int .i64 0),.val (.slice none 0 0),.val (.bool false),.val (.slice none 0 0),.val (.slice none 0 0),.val (.slice none 0 0),.val (.bool false)] 43),(2,.box [ws name,vk e_1,vk e_1_2,.sl 1 (Aj eI y_2.1),.val (.bool y_3.1),.row 4,.val (.slice none 0 0),.val (.slice none 0 0),.val (.bool y_4.1)] 43),(3,.box [vk key_3,vk key_3_2] 24),(4,.row 67 4 (Aj Am.enc l_2))] 5) (fun ((d_3,d_3_2,key_3,key_3_2):List Int×Int×Int×Int)=>B4.j3 name i_2 l_2 d_3 d_3_2 key_3 key_3_2=some o2) ?_ ?_
 refine Md (.r 2 (.e 0)) fun _ _ _ B G=>?_
 refine Au <| B5 (Df _ _ [84]) 76 116 B rfl rfl ?_
 refine Bt 0 fun B G=>?_
 refine Ra Eb z3 I7 ([5,7]:List Int) eI ?_
 refine Bt 1 fun y_11 _ B G=>?_
 refine L1 Hh Lt S8 ?_
 exact Cf
 rintro⟨d_3,d_3_2,key_3,key_3_2⟩ G
 unfold B4.j3 at G
 refine I9 3 fun y_13 _ B G=>?_
 refine L1 Zk vV sV ?_
 refine Bt 0 fun B G=>?_
 refine Ba (ι:=List Int×Int×List Ah) (fun ((d_4,d_4_2,x_4):List Int×Int×List Ah)=>mk [(0,.ptr 0 0),(1,ws name),(4,.ptr 1 0),(5,.ptr 2 0),(6,vk i_2),(9,.ptr 3 0)] [(0,.box [.sl 1 (Aj eI d_4),vk d_4_2] 61),(1,.box [.val (.string (⟨#[]⟩:ByteArray)),.val (.int .i64 0),.val (.int .i64 0),.val (.slice none 0 0),.val (.bool false),.val (.slice none 0 0),.val (.slice none 0 0),.val (.slice none 0 0),.val (.bool false)] 43),(2,.box [ws name,vk e_1,vk e_1_2,.sl 1 (Aj eI y_2.1),.val (.bool y_3.1),.row 4,.val (.slice none 0 0),.val (.slice none 0 0),.val (.bool y_4.1)] 43),(3,.box [vk key_3,vk key_3_2,.val (.int .i64 (W (100 + y_13.1))),.sl 15 (Aj Ah.enc x_4)] 67),(4,.row 67 4 (Aj Am.enc l_2))] 5) (fun ((d_4,d_4_2,x_4):List Int×Int×List Ah)=>B4.j4 i_2 l_2 key_3 key_3_2 y_13 d_4 d_4_2 x_4=some o2) ?_ ?_
 exact Cf
 rintro⟨d_4,d_4_2,x_4⟩ G
 unfold B4.j4 at G
 refine I9 1 fun B G=>?_
 refine Hj kR sV nI ([(Am.mk (Aq.mk key_3 key_3_2) (W (100 + y_13.1)) x_4)]:List Am) Am.enc ?_
 exact Cf
 refine Bt 1 fun B G=>?_
 refine Au <| B5 (Df _ _ [20,28,36,44]) 20 108 B rfl rfl ?_
 refine Ra Eb z3 I7 ([1,2]:List Int) eI ?_
 refine Ra Eb z3 I7 ([1,2]:List Int) eI ?_
 refine Ra Eb z3 I7 ([1]:List Int) eI ?_
 refine Ra Eb z3 I7 ([2,11]:List Int) eI ?_
 refine Hj zU z22 aEl ([([1,2]:List Int),([1,2]:List Int),([1]:List Int),([2,11]:List Int),([]:(List Int))]:List (List Int)) (eL 1 eI) ?_
 refine Bt 2 fun _ _ e he B G=>?_
 refine Mz (rd:=[52]) rfl rfl (.loadR1 aCc (Ng (iV _ _) (Dj he) (o:=0) (c:=.sl 1 (Aj eI e)) rfl rfl)) rfl rfl ?_
 refine Bt 0 fun B G=>?_
 refine Au <| B5 (Df _ _ [108,116,124]) 108 188 B rfl rfl ?_
 refine Ra Eb z3 I7 ([1,2,3,4]:List Int) eI ?_
 refine Ra Eb z3 I7 ([2,3,4]:List Int) eI ?_
 refine Ra Eb z3 I7 ([3,4]:List Int) eI ?_
 refine Hj zU z22 aEl ([([1,2,3,4]:List Int),([2,3,4]:List Int),([3,4]:List Int)]:List (List Int)) (eL 1 eI) ?_
 refine Bt 2 fun _ _ e_2 he_2 B G=>?_
 refine Mz (rd:=[132]) rfl rfl (.loadR1 aCc (Ng (iV _ _) (Dj he_2) (o:=0) (c:=.sl 1 (Aj eI e_2)) rfl rfl)) rfl rfl ?_
 exact Cf
instance aQ4:Wk 32:=⟨_,@Zq⟩
theorem dM {d r} (G:B1 d=some r):Fn Tryz.prog 9 1 [.ptr 0 0] [.box [.sl 1 (Aj eI d.L),vk d.At] 61] (fun d' b'=>d'=.agg (Ap.dv r.1)/\b'=[.box [.sl 1 (Aj eI r.2.L),vk r.2.At] 61]):=by
 unfold B1 at G
 refine Dx 1 76 Tryz.func9 fun _ _ _=>?_
 refine Bt 3 fun B G=>?_
 refine Hj Px z9 rL ([(⟨#[97,112,112]⟩:ByteArray),(⟨#[100,98]⟩:ByteArray),(⟨#[109,97,105,108]⟩:ByteArray),(⟨#[119,101,98]⟩:ByteArray)]:List ByteArray) eS ?_
 refine Bt 5 fun y _ _ _ B G=>?_
 refine G7 (fun ((i_1,d_1,l_1):Int×Ab×List Ad)=>mk [(0,.ptr 0 0),(2,.ptr 1 0),(3,.ptr 2 0),(4,.part 3 (((0:Int).toNat) * 1) ((W (2 + y.1):Int).toNat - (0:Int).toNat)),(5,vk i_1)] [(0,.box [.sl 1 (Aj eI d_1.L),vk d_1.At] 61),(1,.box [.val (.slice none 0 0),.val (.slice none 0 0),.val (.slice none 0 0)] 36),(2,.box [.row 4,.val (.slice none 0 0),.val (.slice none 0 0)] 36),(3,.row 9 1 (Aj eS ([(⟨#[97,112,112]⟩:ByteArray),(⟨#[100,98]⟩:ByteArray),(⟨#[109,97,105,108]⟩:ByteArray),(⟨#[119,101,98]⟩:ByteArray)]:List ByteArray))),(4,.row 43 9 (Aj Ad.enc l_1))] 5) G (B9 [(0,0),(1,1),(2,9),(3,17)]) ?_
 rintro⟨i_1,d_1,l_1⟩ m1 o1 G hn1
 unfold B1.l1 at G
 refine I9 2 fun B G=>?_
 refine Et rfl rfl (.len Px.elem .part) rfl rfl ?_
 refine Bt 0 fun B G=>?_
 refine Jf rfl G (fun _ G=>?_) fun _ G=>?_
 refine Bt 3 fun B G=>?_
 refine Bb (Df _ _ []) (by kernel_rfl) [0,1,0,0,0,24,56,124,252,511,1023,2047] 37 133 B rfl rfl (by kernel_rfl) ?_
 refine Bt 0 fun B G=>?_
 obtain⟨e,he,G⟩:=Ak G
 refine Mz (rd:=[3]) rfl rfl (cS Px (N4 he) (Dj he)) rfl rfl ?_
 refine Mz (rd:=[3]) rfl rfl (.loadR1 ty9 (Ng iY (Q2 (a:=(0:Int).toNat) (Dj he)) (o:=0) (c:=.str e) rfl rfl)) rfl rfl ?_
 refine Bt 1 fun y_2 _ B G=>?_
 refine Hj uS z43 aB9 ([y_2.1]:List Ad) Ad.enc ?_
 exact Cf
 refine Bt 4 fun B G=>?_
 refine G7 (fun ((i_2,d_2,l_2_2):Int×Ab×List A3)=>mk [(0,.ptr 0 0),(2,.ptr 1 0),(3,.ptr 2 0),(4,.part 3 (((0:Int).toNat) * 1) ((W (2 + y.1):Int).toNat - (0:Int).toNat)),(6,vk i_2)] [(0,.box [.sl 1 (Aj eI d_2.L),vk d_2.At] 61),(1,.box [.val (.slice none 0 0),.val (.slice none 0 0),.val (.slice none 0 0)] 36),(2,.box [.row 4,.row 5,.val (.slice none 0 0)] 36),(3,.row 9 1 (Aj eS ([(⟨#[97,112,112]⟩:ByteArray),(⟨#[100,98]⟩:ByteArray),(⟨#[109,97,105,108]⟩:ByteArray),(⟨#[119,101,98]⟩:ByteArray)]:List ByteArray))),(4,.row 43 9 (Aj Ad.enc l_1)),(5,.row 71 2 (Aj A3.enc l_2_2))] 6) G (B9 [(0,0),(1,1),(2,2),(3,3),(4,4)]) ?_
 rintro⟨i_2,d_2,l_2_2⟩ m2 o2 G hn2
 unfold B1.l2 at G
 refine I9 2 fun B G=>?_
 refine Et rfl rfl (.len Px.elem .part) rfl rfl ?_
 refine Bt 0 fun B G=>?_
 refine Jf rfl G (fun _ G=>?_) fun _ G=>?_
 refine Bt 5 fun B G=>?_
 refine G7 (fun ((k_3,d_3,l_3):Int×Ab×List A3)=>mk [(0,.ptr 0 0),(2,.ptr 1 0),(3,.ptr 2 0),(4,.part 3 (((0:Int).toNat) * 1) ((W (2 + y.1):Int).toNat - (0:Int).toNat)),(6,vk i_2),(7,vk k_3)] [(0,.box [.sl 1 (Aj eI d_3.L),vk d_3.At] 61),(1,.box [.val (.slice none 0 0),.val (.slice none 0 0),.val (.slice none 0 0)] 36),(2,.box [.row 4,.row 5,.val (.slice none 0 0)] 36),(3,.row 9 1 (Aj eS ([(⟨#[97,112,112]⟩:ByteArray),(⟨#[100,98]⟩:ByteArray),(⟨#[109,97,105,108]⟩:ByteArray),(⟨#[119,101,98]⟩:ByteArray)]:List ByteArray))),(4,.row 43 9 (Aj Ad.enc l_1)),(5,.row 71 2 (Aj A3.enc l_3))] 6) G (B9 [(0,0),(1,1),(2,2),(3,3),(4,4),(5,5)]) ?_
 rintro⟨k_3,d_3,l_3⟩ m3 o3 G hn3
 unfold B1.l3 at G
 refine I9 2 fun B G=>?_
 refine Et rfl rfl (.len Px.elem .part) rfl rfl ?_
 refine Md (.r 0 (.e 1)) fun _ B G=>?_
 refine Ba (ι:=Ab×List A3) (fun ((d_5,l_5):Ab×List A3)=>mk [(0,.ptr 0 0),(2,.ptr 1 0),(3,.ptr 2 0),(4,.part 3 (((0:Int).toNat) * 1) ((W (2 + y.1):Int).toNat - (0:Int).toNat)),(6,vk i_2),(7,vk k_3)] [(0,.box [.sl 1 (Aj eI d_5.L),vk d_5.At] 61),(1,.box [.val (.slice none 0 0),.val (.slice none 0 0),.val (.slice none 0 0)] 36),(2,.box [.row 4,.row 5,.val (.slice none 0 0)] 36),(3,.row 9 1 (Aj eS ([(⟨#[97,112,112]⟩:ByteArray),(⟨#[100,98]⟩:ByteArray),(⟨#[109,97,105,108]⟩:ByteArray),(⟨#[119,101,98]⟩:ByteArray)]:List ByteArray))),(4,.row 43 9 (Aj Ad.enc l_1)),(5,.row 71 2 (Aj A3.enc l_5))] 6) (fun ((d_5,l_5):Ab×List A3)=>B1.j5 k_3 d_5 l_5=some o3) ?_ ?_
 refine Bt 1 fun B G=>?_
 refine Ba (ι:=Bool×Ab) (fun ((x50_4,d_4):Bool×Ab)=>mk [(0,.ptr 0 0),(2,.ptr 1 0),(3,.ptr 2 0),(4,.part 3 (((0:Int).toNat) * 1) ((W (2 + y.1):Int).toNat - (0:Int).toNat)),(6,vk i_2),(7,vk k_3),(50,.val (.bool x50_4))] [(0,.box [.sl 1 (Aj eI d_4.L),vk d_4.At] 61),(1,.box [.val (.slice none 0 0),.val (.slice none 0 0),.val (.slice none 0 0)] 36),(2,.box [.row 4,.row 5,.val (.slice none 0 0)] 36),(3,.row 9 1 (Aj eS ([(⟨#[97,112,112]⟩:ByteArray),(⟨#[100,98]⟩:ByteArray),(⟨#[109,97,105,108]⟩:ByteArray),(⟨#[119,101,98]⟩:ByteArray)]:List ByteArray))),(4,.row 43 9 (Aj Ad.enc l_1)),(5,.row 71 2 (Aj A3.enc l_3))] 6) (fun ((x50_4,d_4):Bool×Ab)=>B1.j4 i_2 k_3 l_3 x50_4 d_4=some o3) ?_ ?_
 exact Cf
 rintro⟨x50_4,d_4⟩ G
 unfold B1.j4 at G
 refine D4 (.r 0 (.e 1)) fun _ B G=>?_
 refine L1 mP aD7 z71 ?_
 refine Hj xX z71 aGu ([(A3.mk i_2 k_3)]:List A3) A3.enc ?_
 exact Cf
 rintro⟨d_5,l_5⟩ G
 unfold B1.j5 at G
 exact Hf
 refine Bt 5 fun _ _ B G=>?_
 refine G7 (fun ((i_6,d_6,l_6):Int×Ab×List Bf)=>mk [(0,.ptr 0 0),(2,.ptr 1 0),(3,.ptr 2 0),(8,vk i_6)] [(0,.box [.sl 1 (Aj eI d_6.L),vk d_6.At] 61),(1,.box [.val (.slice none 0 0),.val (.slice none 0 0),.val (.slice none 0 0)] 36),(2,.box [.row 3,.row 4,.row 5] 36),(3,.row 43 9 (Aj Ad.enc l_1)),(4,.row 71 2 (Aj A3.enc l_2_2)),(5,.row 74 5 (Aj Bf.enc l_6))] 6) G (B9 [(0,0),(1,1),(2,2),(3,4),(4,5)]) ?_
 rintro⟨i_6,d_6,l_6⟩ m6 o6 G hn6
 unfold B1.l6 at G
 refine D4 (.r 2 (.e 3)) fun _ B G=>?_
 refine Bb (Df _ _ [54]) (by kernel_rfl) [0,1,0,0,0,24,60,124,255,511,1023] 22 110 B rfl rfl (by kernel_rfl) ?_
 refine Bt 0 fun B G=>?_
 refine Ra Px z9 rL ([(⟨#[98,97,99,107,117,112]⟩:ByteArray),(⟨#[100,101,101,100]⟩:ByteArray)]:List ByteArray) eS ?_
 refine Bt 2 fun _ _ y_6 _ B G=>?_
 refine Hj uZ z74 aEz ([y_6.1]:List Bf) Bf.enc ?_
 exact Cf
instance wk9:Wk 9:=⟨_,@dM⟩
end Go.Proofs.YtbpchmikjiinpaaGreat
