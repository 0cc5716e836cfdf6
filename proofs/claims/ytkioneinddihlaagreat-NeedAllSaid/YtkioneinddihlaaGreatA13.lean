import Derived.Test.YtkioneinddihlaaGreatT1
import Derived.Test.YtkioneinddihlaaGreatEU
import Derived.Test.YtkioneinddihlaaGreatA3
set_option linter.unusedVariables false
set_option linter.unusedSimpArgs false
set_option maxRecDepth 100000
set_option maxHeartbeats 40000000
namespace Go.Proofs.YtkioneinddihlaaGreat
open Go.RowKit
theorem V4 {a b r} (G:Ei a b=some r):Fn Tryz.prog 19 0 [.sl 1 (Ak eI a),.sl 1 (Ak eI b)] [] (fun d' b'=>d'=.val (.bool r)/\b'=[]):=by
 unfold Ei at G
 refine Ez 0 26 Tryz.func19 fun _ _ _=>?_
 refine Jv (.l 3 (.e 4)) fun _ B G=>?_
 refine Gc (fun (x13_1:Int)=>mk [(0,.sl 1 (Ak eI a)),(1,.sl 1 (Ak eI b)),(12,.val (.int .i64 (a.length:Int))),(13,vk x13_1)] [] 0) G (B9 []) ?_
 rintro x13_1 m1 o1 G hn1
 unfold Ei.l1 at G
 refine Dl (.r 2 (.e 4)) fun _ B G=>?_
 refine A8 <| Bn (Dx _ _ []) (by kernel_rfl) [0,0,3,7,0,0,48,112,255] 24 96 B rfl rfl (by kernel_rfl) ?_
 exact C1
instance aL3:Wk 19:=⟨_,@V4⟩
theorem dU {a b r} (G:Kl a b=some r):Fn Tryz.prog 71 0 [.agg [vk a.First,vk a.Then],.agg [vk b.First,vk b.Then]] [] (fun d' b'=>d'=.val (.bool r)/\b'=[]):=by
 unfold Kl at G
 refine Ez 0 20 Tryz.func71 fun _ _ _=>?_
 exact C1
instance aNp:Wk 71:=⟨_,@dU⟩
theorem iY {l r' r} (G:C7 l r'=some r):Fn Tryz.prog 47 0 [.sl 2 (Ak Ac.enc l),.agg [vk r'.First,vk r'.Then]] [] (fun d' b'=>d'=.sl 2 (Ak Ac.enc r)/\b'=[]):=by
 unfold C7 at G
 refine Ez 0 47 Tryz.func47 fun _ _ _=>?_
 refine B7 4 fun B G=>?_
 refine Gc (fun (at_1:Int)=>mk [(0,.sl 2 (Ak Ac.enc l)),(3,.ptr 0 0),(5,vk at_1)] [(0,.box [vk r'.First,vk r'.Then] 25)] 1) G (B9 [(0,0)]) ?_
 rintro at_1 m1 o1 G hn1
 unfold C7.l1 at G
 try dsimp only at G
 refine Nl rfl ?_
 refine A8 <| A6 (ι:=Bool) (fun (x18_2:Bool)=>mk [(0,.sl 2 (Ak Ac.enc l)),(3,.ptr 0 0),(5,vk at_1),(18,.val (.bool x18_2))] [(0,.box [vk r'.First,vk r'.Then] 25)] 1) (fun (x18_2:Bool)=>C7.j2 l r' at_1 x18_2=some o1) ?_ ?_
 refine Bn (Dx _ _ []) (by kernel_rfl) [0,0,2,7,15,31,31,127,255,31,1023,2047] 1 97 Ha rfl rfl (by kernel_rfl) ?_
 exact C1
 rintro x18_2 G
 unfold C7.j2 at G
 refine Dl (.l 0 (.e 1)) fun _ B G=>?_
 refine A8 <| A6 (ι:=Bool) (fun (x32_3:Bool)=>mk [(0,.sl 2 (Ak Ac.enc l)),(3,.ptr 0 0),(5,vk at_1),(32,.val (.bool x32_3))] [(0,.box [vk r'.First,vk r'.Then] 25)] 1) (fun (x32_3:Bool)=>C7.j3 l r' at_1 x32_3=some r) ?_ ?_
 refine Bn (Dx _ _ []) (by kernel_rfl) [0,0,2,7,15,31,31,127,255,31,1023,2047] 1 97 Ha rfl rfl (by kernel_rfl) ?_
 refine Jv (.r 0 (.e 2)) fun h8 e_2 _ B G=>?_
 refine Fw (Ht rfl rfl h8) rfl (kV e_2 r') rfl rfl ?_
 exact C1
 rintro x32_3 G
 unfold C7.j3 at G
 refine Dl (.l 0 (.e 5)) fun _ _ _ _ _ B G=>?_
 refine H0 W9 Z9 aU ([r']:List Ac) Ac.enc ?_
 exact C1
instance aNd:Wk 47:=⟨_,@iY⟩
theorem aT {a b r} (G:C5 a b=some r):Fn Tryz.prog 24 0 [.sl 2 (Ak Ac.enc a),.sl 2 (Ak Ac.enc b)] [] (fun d' b'=>d'=.sl 2 (Ak Ac.enc r)/\b'=[]):=by
 unfold C5 at G
 refine Ez 0 31 Tryz.func24 fun _ _ _=>?_
 refine B7 5 fun B G=>?_
 refine Gc (fun ((out_1,x12_1):List Ac×Int)=>mk [(1,.sl 2 (Ak Ac.enc b)),(5,.sl 2 (Ak Ac.enc out_1)),(10,.sl 2 (Ak Ac.enc a)),(11,.val (.int .i64 (a.length:Int))),(12,vk x12_1)] [] 0) G (B9 []) ?_
 rintro⟨out_1,x12_1⟩ m1 o1 G hn1
 unfold C5.l1 at G
 refine Dl (.l 2 (.e 4)) fun _ B G=>?_
 refine Gc (fun ((out_2,x22_2):List Ac×Int)=>mk [(5,.sl 2 (Ak Ac.enc out_2)),(20,.sl 2 (Ak Ac.enc b)),(21,.val (.int .i64 (b.length:Int))),(22,vk x22_2)] [] 0) G (B9 []) ?_
 rintro⟨out_2,x22_2⟩ m2 o2 G hn2
 unfold C5.l2 at G
 exact F0
instance aMa:Wk 24:=⟨_,@aT⟩
theorem fH {d n r} (G:Dm d n=some r):Fn Tryz.prog 22 1 [.ptr 0 0,vk n] [.box [.sl 1 (Ak eI d.L),vk d.At] 68] (fun d' b'=>d'=.sl 2 (Ak Ac.enc r.1)/\b'=[.box [.sl 1 (Ak eI r.2.L),vk r.2.At] 68]):=by
 unfold Dm at G
 refine Ez 1 38 Tryz.func22 fun _ _ _=>?_
 refine B7 6 fun _ _ B G=>?_
 refine Gc (fun ((l_1,k_1,d_1):List Ac×Int×Ab)=>mk [(0,.ptr 0 0),(1,vk n),(5,.sl 2 (Ak Ac.enc l_1)),(6,vk k_1)] [(0,.box [.sl 1 (Ak eI d_1.L),vk d_1.At] 68)] 1) G (B9 [(0,0)]) ?_
 rintro⟨l_1,k_1,d_1⟩ m1 o1 G hn1
 unfold Dm.l1 at G
 try dsimp only at G
 refine Nl rfl ?_
 refine A8 <| A6 (ι:=Bool) (fun (x19_2:Bool)=>mk [(0,.ptr 0 0),(1,vk n),(5,.sl 2 (Ak Ac.enc l_1)),(6,vk k_1),(19,.val (.bool x19_2))] [(0,.box [.sl 1 (Ak eI d_1.L),vk d_1.At] 68)] 1) (fun (x19_2:Bool)=>Dm.j2 n l_1 k_1 d_1 x19_2=some o1) ?_ ?_
 exact C1
 rintro x19_2 G
 unfold Dm.j2 at G
 refine Dl (.r 0 (.e 1)) fun _ B G=>?_
 refine A6 (ι:=List Ac×Ab) (fun ((l_3,d_3):List Ac×Ab)=>mk [(0,.ptr 0 0),(1,vk n),(5,.sl 2 (Ak Ac.enc l_3)),(6,vk k_1)] [(0,.box [.sl 1 (Ak eI d_3.L),vk d_3.At] 68)] 1) (fun ((l_3,d_3):List Ac×Ab)=>Dm.j3 k_1 l_3 d_3=some o1) ?_ ?_
 refine Jv (.r 5 (.e 0)) fun y_2 _ y_3 _ _ B G=>?_
 refine Cn (Dx _ _ [121]) 89 145 B rfl rfl ?_
 refine B7 0 fun B G=>?_
 refine Kp Pb Yt Z9 ?_
 refine Qv W9 Z9 aU ([(Ac.mk y_2.1 y_3.1)]:List Ac) Ac.enc ?_
 exact C1
 rintro⟨l_3,d_3⟩ G
 unfold Dm.j3 at G
 exact F0
instance aNm:Wk 22:=⟨_,@fH⟩
theorem Is {s r} (G:Cq s=some r):Fn Tryz.prog 46 0 [.sl 2 (Ak Ac.enc s)] [] (fun d' b'=>d'=.row 0/\b'=[.row 25 2 (Ak Ac.enc r)]):=by
 unfold Cq at G
 refine Ez 0 8 Tryz.func46 fun _ _ _=>?_
 refine B7 1 fun B G=>?_
 refine A8 <| A6 (ι:=Bool) (fun (x4_1:Bool)=>mk [(0,.sl 2 (Ak Ac.enc s)),(4,.val (.bool x4_1))] [] 0) (fun (x4_1:Bool)=>Cq.j1 s x4_1=some r) ?_ ?_
 refine B7 1 fun B G=>?_
 refine yH rfl rfl ⟨_,aAh⟩ rfl ?_
 intro bz hz2
 rcases bz with _ | _
 replace G:=aB8 G
 exact C1
 replace G:=aBw ((kX Ac.enc_len (by decide) (hz2 rfl))) G
 exact C1
 rintro x4_1 G
 unfold Cq.j1 at G
 refine Dl (.l 0 (.e 2)) fun _ B G=>?_
 refine Fw rfl rfl (G5 W9 Z9 (by decide) rfl rfl rfl rfl aU (cs:=[]) .nil rfl (l:=([]:List Ac)) (f:=Ac.enc) rfl) rfl rfl ?_
 exact C1
instance aNh:Wk 46:=⟨_,@Is⟩
theorem dR {a b r} (G:Km a b=some r):Fn Tryz.prog 23 0 [.sl 2 (Ak Ac.enc a),.sl 2 (Ak Ac.enc b)] [] (fun d' b'=>d'=.sl 2 (Ak Ac.enc r)/\b'=[]):=by
 unfold Km at G
 refine Ez 0 10 Tryz.func23 fun _ _ _=>?_
 refine B7 1 fun B G=>?_
 refine A8 <| Cn (Dx _ _ [32]) 8 56 B rfl rfl ?_
 refine B7 0 fun B G=>?_
 obtain⟨y,hy,G⟩:=Aq G
 refine R7 (rd:=[]) (ps:=[]) (gs:=[]) false rfl (Is hy) rfl rfl (.cons .sl .nil) rfl rfl (by intro h; cases h) rfl (by intro h; first | (cases h; done) | exact⟨_,_,⟨rfl,rfl⟩,by simp,by simp⟩) ?_
 rintro _ _ ⟨rfl,rfl⟩
 refine B7 0 fun B G=>?_
 obtain⟨l,hl,G⟩:=Aq G
 refine yP (rd:=[16]) rfl rfl (J0 W9 Ac.enc_len .row rfl .sl rfl hl rfl) rfl rfl rfl ?_
 exact C1
instance aN8:Wk 23:=⟨_,@dR⟩
theorem Pm {r' c0 r} (G:Dt r' c0=some r):Fn Tryz.prog 48 0 [.agg [vk r'.First,vk r'.Then],.elt (([.int .i64 c0]:List C).drop 0)] [] (fun d' b'=>d'=.val (.bool r)/\b'=[]):=by
 unfold Dt at G
 refine Ez 0 31 Tryz.func48 fun _ _ _=>?_
 refine Jv (.l 2 (.e 0)) fun h2 B G=>?_
 refine Fw (Ht rfl rfl h2) rfl (Fr sF (c:=.int .i64 c0) rfl) rfl rfl ?_
 refine Jv (.l 0 (.l 0 (.e 0))) fun _ h6 B G=>?_
 refine Fw (Ht rfl rfl h6) rfl (Fr sF (c:=.int .i64 c0) rfl) rfl rfl ?_
 exact C1
instance aL6:Wk 48:=⟨_,@Pm⟩
theorem Io {s:(List Ac)} {f:Ac->Option (Bool)} {f_c0:Int} (hf_f:∀ (x0:Ac) (y:Bool),f x0=some y->Fn Tryz.prog 48 0 [.agg [vk x0.First,vk x0.Then],.elt (([.int .i64 f_c0]:List C).drop 0)] [] (fun d' b'=>d'=.val (.bool y)/\b'=[])) {r:Int} (G:Bc s f=some r):Fn Tryz.prog 72 0 [.sl 2 (Ak Ac.enc s),.clo 48 0 [.elt (([.int .i64 f_c0]:List C).drop 0)]] [] (fun d' b'=>d'=vk r/\b'=[]):=by
 unfold Bc at G
 refine Ez 0 19 Tryz.func72 fun _ _ _=>?_
 refine B7 4 fun B G=>?_
 refine Gc (fun (x8_1:Int)=>mk [(0,.sl 2 (Ak Ac.enc s)),(1,.clo 48 0 [.elt (([.int .i64 f_c0]:List C).drop 0)]),(7,.val (.int .i64 (s.length:Int))),(8,vk x8_1)] [] 0) G (B9 []) ?_
 rintro x8_1 m1 o1 G hn1
 unfold Bc.l1 at G
 refine Dl (.r 2 (.e 7)) fun _ e _ B G=>?_
 obtain⟨y,hy,G⟩:=Aq G
 refine E0 (rd:=[]) (ps:=[]) (gs:=[]) false rfl rfl (hf_f e _ hy) rfl rfl (.cons (.agg (.cons .val (.cons .val .nil))) (.cons .elt .nil)) rfl rfl (by intro h; cases h) rfl rfl rfl rfl ?_
 exact C1
theorem H7 {s:(List Ac)} {f:Ac->Option (Bool)} {f_c0:Int} (hf_f:∀ (x0:Ac) (y:Bool),f x0=some y->Fn Tryz.prog 48 0 [.agg [vk x0.First,vk x0.Then],.elt (([.int .i64 f_c0]:List C).drop 0)] [] (fun d' b'=>d'=.val (.bool y)/\b'=[])) {r:Bool} (G:C8 s f=some r):Fn Tryz.prog 49 0 [.sl 2 (Ak Ac.enc s),.clo 48 0 [.elt (([.int .i64 f_c0]:List C).drop 0)]] [] (fun d' b'=>d'=.val (.bool r)/\b'=[]):=by
 unfold C8 at G
 refine Ez 0 9 Tryz.func49 fun _ _ _=>?_
 refine B7 2 fun B G=>?_
 obtain⟨y,hy,G⟩:=Aq G
 refine Mb (@Io s f f_c0 hf_f _ hy) ?_
 exact C1
theorem M4 {s1 s2 r} (G:C3 s1 s2=some r):Fn Tryz.prog 50 0 [.sl 2 (Ak Ac.enc s1),.sl 2 (Ak Ac.enc s2)] [] (fun d' b'=>d'=.val (.bool r)/\b'=[]):=by
 unfold C3 at G
 refine Ez 0 26 Tryz.func50 fun _ _ _=>?_
 refine Jv (.l 3 (.e 4)) fun _ B G=>?_
 refine Gc (fun (x13_1:Int)=>mk [(0,.sl 2 (Ak Ac.enc s1)),(1,.sl 2 (Ak Ac.enc s2)),(12,.val (.int .i64 (s1.length:Int))),(13,vk x13_1)] [] 0) G (B9 []) ?_
 rintro x13_1 m1 o1 G hn1
 unfold C3.l1 at G
 refine Dl (.r 2 (.e 4)) fun _ B G=>?_
 refine A8 <| Bn (Dx _ _ []) (by kernel_rfl) [0,0,3,7,0,0,48,112,255] 24 96 B rfl rfl (by kernel_rfl) ?_
 refine B7 4 fun e _ e_2 _ B G=>?_
 refine Fw rfl rfl (Z4 e e_2) rfl rfl ?_
 exact C1
instance aN1:Wk 50:=⟨_,@M4⟩
theorem cV {n l r} (G:B4 n l=some r):Fn Tryz.prog 51 0 [vk n,.sl 2 (Ak Ac.enc l)] [] (fun d' b'=>d'=.mp (Re Pk vB r)/\b'=[]):=by
 unfold B4 at G
 refine Ez 0 53 Tryz.func51 fun _ _ _=>?_
 refine B7 2 fun B G=>?_
 refine Ua (rd:=[]) rfl rfl .makeMap rfl rfl (fun _=>⟨_,rfl⟩) ?_
 rintro _ rfl
 refine B7 3 fun B G=>?_
 refine Gc (fun ((x14_1,ways_1):Int×(List (Ac×Bool)))=>mk [(0,vk n),(5,.row 0),(12,.sl 2 (Ak Ac.enc l)),(13,.val (.int .i64 (l.length:Int))),(14,vk x14_1)] [(0,.map (Re Pk vB ways_1))] 1) G ((by exact P4.lists [(0,8)] rfl rfl ⟨⟨_,rfl,.val _⟩,⟨_,rfl,.row rfl⟩,⟨_,rfl,.sl _ _⟩,⟨_,rfl,.val _⟩,⟨_,rfl,.val _⟩,trivial⟩ ⟨.inl ⟨8,_,rfl,rfl,rfl⟩,trivial⟩)) ?_
 rintro⟨x14_1,ways_1⟩ m1 o1 G hn1
 unfold B4.l1 at G
 refine Iw 2 fun B G=>?_
 refine Ja rfl G (fun _ G=>?_) fun _ G=>?_
 refine B7 7 fun e _ B G=>?_
 refine Ua (rd:=[0]) rfl rfl (gA (f:=Pk) (g:=vB) (l:=ways_1) (key:=e) (v:=true) Ti Tj rfl rfl (.head _)) rfl rfl (fun _=>⟨_,rfl⟩) ?_
 rintro _ rfl
 exact C1
 refine B7 4 fun B G=>?_
 refine Gc (fun ((x22_2,ways_2):Int×(List (Ac×Bool)))=>mk [(0,vk n),(5,.row 0),(21,vk n),(22,vk x22_2)] [(0,.map (Re Pk vB ways_2))] 1) G ((by exact P4.lists [(0,0)] rfl rfl ⟨⟨_,rfl,.val _⟩,⟨_,rfl,.row rfl⟩,⟨_,rfl,.val _⟩,⟨_,rfl,.val _⟩,trivial⟩ ⟨.inl ⟨0,_,rfl,rfl,rfl⟩,trivial⟩)) ?_
 rintro⟨x22_2,ways_2⟩ m2 o2 G hn2
 unfold B4.l2 at G
 refine Dl (.r 2 (.e 6)) fun _ B G=>?_
 refine Gc (fun ((x26_3,ways_3):Int×(List (Ac×Bool)))=>mk [(0,vk n),(5,.row 0),(8,vk x22_2),(21,vk n),(22,vk x22_2),(25,vk n),(26,vk x26_3)] [(0,.map (Re Pk vB ways_3))] 1) G ((by exact P4.lists [(0,0)] rfl rfl ⟨⟨_,rfl,.val _⟩,⟨_,rfl,.row rfl⟩,⟨_,rfl,.val _⟩,⟨_,rfl,.val _⟩,⟨_,rfl,.val _⟩,⟨_,rfl,.val _⟩,⟨_,rfl,.val _⟩,trivial⟩ ⟨.inl ⟨0,_,rfl,rfl,rfl⟩,trivial⟩)) ?_
 rintro⟨x26_3,ways_3⟩ m3 o3 G hn3
 unfold B4.l3 at G
 refine Dl (.r 2 (.e 6)) fun _ B G=>?_
 refine Gc (fun ((x30_4,ways_4):Int×(List (Ac×Bool)))=>mk [(0,vk n),(5,.row 0),(8,vk x22_2),(9,vk x26_3),(21,vk n),(22,vk x22_2),(25,vk n),(26,vk x26_3),(29,vk n),(30,vk x30_4)] [(0,.map (Re Pk vB ways_4))] 1) G ((by exact P4.lists [(0,0)] rfl rfl ⟨⟨_,rfl,.val _⟩,⟨_,rfl,.row rfl⟩,⟨_,rfl,.val _⟩,⟨_,rfl,.val _⟩,⟨_,rfl,.val _⟩,⟨_,rfl,.val _⟩,⟨_,rfl,.val _⟩,⟨_,rfl,.val _⟩,⟨_,rfl,.val _⟩,⟨_,rfl,.val _⟩,trivial⟩ ⟨.inl ⟨0,_,rfl,rfl,rfl⟩,trivial⟩)) ?_
 rintro⟨x30_4,ways_4⟩ m4 o4 G hn4
 unfold B4.l4 at G
 refine Dl (.r 2 (.e 1)) fun _ B G=>?_
 refine A6 (ι:=(List (Ac×Bool))) (fun (ways_6:(List (Ac×Bool)))=>mk [(0,vk n),(5,.row 0),(8,vk x22_2),(9,vk x26_3),(21,vk n),(22,vk x22_2),(25,vk n),(26,vk x26_3),(29,vk n),(30,vk x30_4)] [(0,.map (Re Pk vB ways_6))] 1) (fun (ways_6:(List (Ac×Bool)))=>B4.j6 x30_4 ways_6=some o4) ?_ ?_
 refine B7 2 fun B G=>?_
 refine A6 (ι:=Bool) (fun (x44_5:Bool)=>mk [(0,vk n),(5,.row 0),(8,vk x22_2),(9,vk x26_3),(10,vk x30_4),(21,vk n),(22,vk x22_2),(25,vk n),(26,vk x26_3),(29,vk n),(30,vk x30_4),(44,.val (.bool x44_5))] [(0,.map (Re Pk vB ways_4))] 1) (fun (x44_5:Bool)=>B4.j5 x26_3 x30_4 ways_4 x44_5=some o4) ?_ ?_
 refine B7 1 fun B G=>?_
 refine Kp Pb Yt Z9 ?_
 refine Ua (rd:=[0]) rfl rfl (jC (f:=Pk) (g:=vB) (l:=ways_4) (key:=(Ac.mk x26_3 x22_2)) (z:=false) Ti Tj zv4 rfl rfl (.head _)) rfl rfl (fun _=>⟨_,rfl⟩) ?_
 rintro _ rfl
 refine Jv (.r 0 (.e 0)) fun h21 B G=>?_
 refine Kp Pb Yt Z9 ?_
 refine Ua (rd:=[0]) (Ht rfl rfl h21) rfl (jC (f:=Pk) (g:=vB) (l:=ways_4) (key:=(Ac.mk x22_2 x30_4)) (z:=false) Ti Tj zv4 rfl rfl (.head _)) rfl rfl (fun _=>⟨_,rfl⟩) ?_
 rintro _ rfl
 exact C1
 rintro x44_5 G
 unfold B4.j5 at G
 refine Dl (.r 0 (.e 1)) fun _ B G=>?_
 refine Kp Pb Yt Z9 ?_
 refine Ua (rd:=[0]) rfl rfl (gA (f:=Pk) (g:=vB) (l:=ways_4) (key:=(Ac.mk x26_3 x30_4)) (v:=true) Ti Tj rfl rfl (.head _)) rfl rfl (fun _=>⟨_,rfl⟩) ?_
 rintro _ rfl
 exact C1
 rintro ways_6 G
 unfold B4.j6 at G
 exact F0
instance aLv:Wk 51:=⟨_,@cV⟩
theorem bF {n l r} (G:Bl n l=some r):Fn Tryz.prog 25 0 [vk n,.sl 2 (Ak Ac.enc l)] [] (fun d' b'=>d'=.tup [.sl 2 (Ak Ac.enc r.1),vk r.2]/\b'=[]):=by
 unfold Bl at G
 refine Ez 0 81 Tryz.func25 fun _ _ _=>?_
 refine B7 1 fun B G=>?_
 refine A8 <| G3 (σ':=mk [(1,.sl 2 (Ak Ac.enc l)),(2,.elt (([.int .i64 n]:List C).drop 0))] [] 0) ((by exact P4.lists [] rfl rfl ⟨⟨_,rfl,.sl _ _⟩,⟨_,rfl,.frzb (ks:=[none]) rfl (.cons .int .nil) (Ij rfl)⟩,trivial⟩ trivial)) ?_
 refine B7 3 fun B G=>?_
 refine A6 (ι:=Bool) (fun (x15_2:Bool)=>mk [(1,.sl 2 (Ak Ac.enc l)),(2,.elt (([.int .i64 n]:List C).drop 0)),(6,.clo 48 0 [.elt (([.int .i64 n]:List C).drop 0)]),(15,.val (.bool x15_2))] [] 0) (fun (x15_2:Bool)=>Bl.j2 n l x15_2=some r) ?_ ?_
 refine B7 1 fun B G=>?_
 refine Fw rfl rfl (Fr sF (c:=.int .i64 n) rfl) rfl rfl ?_
 refine Jv (.l 0 (.e 0)) fun h3 B G=>?_
 refine Fw (Ht rfl rfl h3) rfl (Fr sF (c:=.int .i64 n) rfl) rfl rfl ?_
 exact C1
 rintro x15_2 G
 unfold Bl.j2 at G
 refine Dl (.l 0 (.e 1)) fun _ B G=>?_
 obtain⟨y,hy,G⟩:=Aq G
 refine Mb (@H7 l (fun x0=>Dt x0 n) n (fun x0 y h=>@Pm x0 n y h) _ hy) ?_
 refine Jv (.l 0 (.l 3 (.e 2))) fun _ _ _ _ _ _ B G=>?_
 refine Fw rfl rfl (Fr sF (c:=.int .i64 n) rfl) rfl rfl ?_
 refine B7 3 fun y_4 _ B G=>?_
 refine Fw rfl rfl (Fr sF (c:=.int .i64 n) rfl) rfl rfl ?_
 refine B7 1 fun B G=>?_
 refine Gc (fun (x36_3:Int)=>mk [(1,.sl 2 (Ak Ac.enc l)),(2,.elt (([.int .i64 n]:List C).drop 0)),(7,.mp (Re Pk vB y_4)),(35,vk n),(36,vk x36_3)] [] 0) G (B9 []) ?_
 rintro x36_3 m3 o3 G hn3
 unfold Bl.l3 at G
 refine Iw 2 fun B G=>?_
 refine Ja rfl G (fun _ G=>?_) fun _ G=>?_
 refine B7 5 fun B G=>?_
 refine Kp Pb Yt Z9 ?_
 refine Ua (rd:=[]) rfl rfl (dM (f:=Pk) (g:=vB) (l:=y_4) (key:=(Ac.mk x36_3 x36_3)) (z:=false) Ti Tj zv4 rfl rfl) rfl rfl (fun _=>⟨_,rfl⟩) ?_
 rintro _ rfl
 exact C1
 refine B7 5 fun B G=>?_
 refine Gc (fun ((x47_4,out_4):Int×List Ac)=>mk [(2,.elt (([.int .i64 n]:List C).drop 0)),(7,.mp (Re Pk vB y_4)),(9,.row 0),(45,.sl 2 (Ak Ac.enc l)),(46,.val (.int .i64 (l.length:Int))),(47,vk x47_4)] [(0,.row 25 2 (Ak Ac.enc out_4))] 1) G (B9 []) ?_
 rintro⟨x47_4,out_4⟩ m4 o4 G hn4
 unfold Bl.l4 at G
 refine Dl (.r 2 (.e 1)) fun _ B G=>?_
 refine A6 (ι:=List Ac) (fun (out_7:List Ac)=>mk [(2,.elt (([.int .i64 n]:List C).drop 0)),(7,.mp (Re Pk vB y_4)),(9,.row 0),(45,.sl 2 (Ak Ac.enc l)),(46,.val (.int .i64 (l.length:Int))),(47,vk x47_4)] [(0,.row 25 2 (Ak Ac.enc out_7))] 1) (fun (out_7:List Ac)=>Bl.j7 x47_4 out_7=some o4) ?_ ?_
 refine B7 7 fun e _ B G=>?_
 refine Fw rfl rfl (Fr sF (c:=.int .i64 n) rfl) rfl rfl ?_
 refine B7 1 fun B G=>?_
 refine Gc (fun ((longer_5,x52_5):Bool×Int)=>mk [(2,.elt (([.int .i64 n]:List C).drop 0)),(7,.mp (Re Pk vB y_4)),(9,.row 0),(11,.ptr 1 0),(12,.val (.bool longer_5)),(45,.sl 2 (Ak Ac.enc l)),(46,.val (.int .i64 (l.length:Int))),(47,vk x47_4),(51,vk n),(52,vk x52_5)] [(0,.row 25 2 (Ak Ac.enc out_4)),(1,.box [vk e.First,vk e.Then] 25)] 2) G (B9 [(0,0),(1,25)]) ?_
 rintro⟨longer_5,x52_5⟩ m5 o5 G hn5
 unfold Bl.l5 at G
 refine Iw 2 fun B G=>?_
 refine Ja rfl G (fun _ G=>?_) fun _ G=>?_
 refine B7 1 fun B G=>?_
 refine A6 (ι:=Bool) (fun (longer_6:Bool)=>mk [(2,.elt (([.int .i64 n]:List C).drop 0)),(7,.mp (Re Pk vB y_4)),(9,.row 0),(11,.ptr 1 0),(12,.val (.bool longer_6)),(45,.sl 2 (Ak Ac.enc l)),(46,.val (.int .i64 (l.length:Int))),(47,vk x47_4),(51,vk n),(52,vk x52_5)] [(0,.row 25 2 (Ak Ac.enc out_4)),(1,.box [vk e.First,vk e.Then] 25)] 2) (fun (longer_6:Bool)=>Bl.j6 x52_5 longer_6=some o5) ?_ ?_
 refine Jv (.l 3 (.e 0)) fun h33 B G=>?_
 refine Kp Pb Yt Z9 ?_
 refine Ua (rd:=[]) (Ht rfl rfl h33) rfl (dM (f:=Pk) (g:=vB) (l:=y_4) (key:=(Ac.mk e.First x52_5)) (z:=false) Ti Tj zv4 rfl rfl) rfl rfl (fun _=>⟨_,rfl⟩) ?_
 rintro _ rfl
 refine Jv (.r 0 (.e 0)) fun h35 B G=>?_
 refine Kp Pb Yt Z9 ?_
 refine Ua (rd:=[]) (Ht rfl rfl h35) rfl (dM (f:=Pk) (g:=vB) (l:=y_4) (key:=(Ac.mk x52_5 e.Then)) (z:=false) Ti Tj zv4 rfl rfl) rfl rfl (fun _=>⟨_,rfl⟩) ?_
 rintro _ rfl
 exact C1
 rintro longer_6 G
 unfold Bl.j6 at G
 exact F0
 refine Jv (.r 2 (.e 1)) fun _ B G=>?_
 refine H0 W9 Z9 aU ([e]:List Ac) Ac.enc ?_
 exact C1
 rintro out_7 G
 unfold Bl.j7 at G
 exact F0
instance aL5:Wk 25:=⟨_,@bF⟩
theorem fC {n l r} (G:Bt n l=some r):Fn Tryz.prog 53 0 [vk n,.sl 2 (Ak Ac.enc l)] [] (fun d' b'=>d'=.sl 1 (Ak (eL 1 eB) r)/\b'=[]):=by
 unfold Bt at G
 refine Ez 0 73 Tryz.func53 fun _ _ _=>?_
 refine B7 2 fun B G=>?_
 refine A8 <| A8 <| G3 (σ':=mk [(0,vk n),(1,.sl 2 (Ak Ac.enc l)),(5,.val (.slice none 0 0))] [] 0) (B9 []) ?_
 refine G3 (aJu 5 99 1 0 4 1 (Ak (eL 1 eB) ([]:List (List Bool))) rfl rfl (by decide)) ?_
 refine B7 2 fun B G=>?_
 refine Gc (fun ((x12_2,out_2):Int×List (List Bool))=>mk [(0,vk n),(1,.sl 2 (Ak Ac.enc l)),(5,.row 0),(11,vk n),(12,vk x12_2)] [(0,.tree 99 1 0 4 1 1 none (Ak (eL 1 eB) out_2)),(1,.gho)] 2) G (B9 [(0,0),(1,1)]) ?_
 rintro⟨x12_2,out_2⟩ m2 o2 G hn2
 unfold Bt.l2 at G
 refine Iw 2 fun B G=>?_
 refine Ja rfl G (fun _ G=>?_) fun _ G=>?_
 refine B7 4 fun B G=>?_
 obtain⟨m,hm,G⟩:=Aq G
 refine Fw rfl rfl (uN (f:=eB) pR z4 ck4 (.cons .bool .nil) rfl hm rfl) rfl rfl ?_
 refine Ua (rd:=[26]) rfl rfl (qE (o:=0) (r:=[.row 26]) (pre:=[]) (post:=[]) (ck1:=[]) (ck2:=[]) (cs1:=Ak (eL 1 eB) ([m]:List (List Bool))) lE z99 (by decide) (by kernel_rfl) rfl rfl rfl .nil .nil (List.Mem.head _) rfl rfl) rfl rfl (fun _=>⟨_,rfl⟩) ?_
 rintro _ rfl
 obtain⟨l_2,hl_2,G⟩:=Aq G
 refine Ua (rd:=[0,34]) rfl rfl (aB9 lE (Gy _ _) (List.Mem.head _) (List.Mem.tail _ (List.Mem.head _)) rfl hl_2 rfl rfl rfl) rfl rfl (fun _=>⟨_,rfl⟩) ?_
 rintro _ rfl
 exact C1
 refine B7 4 fun B G=>?_
 refine Gc (fun ((x22_3,out_3):Int×List (List Bool))=>mk [(0,vk n),(5,.row 0),(20,.sl 2 (Ak Ac.enc l)),(21,.val (.int .i64 (l.length:Int))),(22,vk x22_3)] [(0,.tree 99 1 0 4 1 1 none (Ak (eL 1 eB) out_3)),(1,.gho)] 2) G (B9 [(0,0),(1,1)]) ?_
 rintro⟨x22_3,out_3⟩ m3 o3 G hn3
 unfold Bt.l3 at G
 refine Iw 2 fun B G=>?_
 refine Ja rfl G (fun _ G=>?_) fun _ G=>?_
 refine B7 6 fun e _ B G=>?_
 refine Bn (Dx _ _ []) (by kernel_rfl) [0,0,2,7,15,0,32,127,255] 42 114 B rfl rfl (by kernel_rfl) ?_
 refine B7 0 fun B G=>?_
 obtain⟨e_2,he_2,G⟩:=Aq G
 refine Ik (rd:=[0]) rfl rfl (.idxT lE (H6 he_2) (Mw (Gy _ _) (Cc he_2))) rfl rfl ?_
 refine Ik (rd:=[0]) rfl rfl (.loadTN jB (by decide) rfl Mj (Tt (Gy _ _) (Cc he_2) (o:=0) (by decide) rfl)) rfl rfl ?_
 refine B7 0 fun B G=>?_
 obtain⟨e_3,he_3,G⟩:=Aq G
 refine Ik (rd:=[0]) rfl rfl (.idxN pR (Fj (Gy _ _) (Cc he_2) (o:=0) (c:=.sl 1 (Ak eB e_2)) rfl rfl) Mj (H6 he_3) (Mw Od (Cc he_3))) rfl rfl ?_
 refine Ua (rd:=[0,1]) rfl rfl (gG ty4 (Fj (Gy _ _) (Cc he_2) (o:=0) (c:=.sl 1 (Ak eB e_2)) rfl rfl) rfl (Fe Od (Cc he_3) (o:=0) (m:=1) (by decide) rfl) (ck:=[none]) (cs':=[.bool true]) (.cons .bool .nil) (List.Mem.head _) (Nz Od (Cc he_3) (o:=0) (x':=true) (aEn rfl) rfl rfl) (lX (Gy _ _) (Cc he_2) (o:=0) (x':=(Dj e_2 ((e.Then).toNat) true)) (by decide) rfl rfl)) rfl rfl (fun _=>⟨_,rfl⟩) ?_
 rintro _ rfl
 exact C1
 refine B7 4 fun B G=>?_
 refine Gc (fun ((x36_4,out_4):Int×List (List Bool))=>mk [(0,vk n),(5,.row 0),(35,vk n),(36,vk x36_4)] [(0,.tree 99 1 0 4 1 1 none (Ak (eL 1 eB) out_4)),(1,.gho)] 2) G (B9 [(0,0),(1,1)]) ?_
 rintro⟨x36_4,out_4⟩ m4 o4 G hn4
 unfold Bt.l4 at G
 refine Dl (.r 2 (.e 6)) fun _ B G=>?_
 refine Gc (fun ((x40_5,out_5):Int×List (List Bool))=>mk [(0,vk n),(5,.row 0),(8,vk x36_4),(35,vk n),(36,vk x36_4),(39,vk n),(40,vk x40_5)] [(0,.tree 99 1 0 4 1 1 none (Ak (eL 1 eB) out_5)),(1,.gho)] 2) G (B9 [(0,0),(1,1)]) ?_
 rintro⟨x40_5,out_5⟩ m5 o5 G hn5
 unfold Bt.l5 at G
 refine Dl (.r 2 (.e 6)) fun _ B G=>?_
 refine Gc (fun ((x44_6,out_6):Int×List (List Bool))=>mk [(0,vk n),(5,.row 0),(8,vk x36_4),(9,vk x40_5),(35,vk n),(36,vk x36_4),(39,vk n),(40,vk x40_5),(43,vk n),(44,vk x44_6)] [(0,.tree 99 1 0 4 1 1 none (Ak (eL 1 eB) out_6)),(1,.gho)] 2) G (B9 [(0,0),(1,1)]) ?_
 rintro⟨x44_6,out_6⟩ m6 o6 G hn6
 unfold Bt.l6 at G
 refine Dl (.r 2 (.e 1)) fun _ B G=>?_
 refine A6 (ι:=List (List Bool)) (fun (out_8:List (List Bool))=>mk [(0,vk n),(5,.row 0),(8,vk x36_4),(9,vk x40_5),(35,vk n),(36,vk x36_4),(39,vk n),(40,vk x40_5),(43,vk n),(44,vk x44_6)] [(0,.tree 99 1 0 4 1 1 none (Ak (eL 1 eB) out_8)),(1,.gho)] 2) (fun (out_8:List (List Bool))=>Bt.j8 x44_6 out_8=some o6) ?_ ?_
 refine B7 2 fun B G=>?_
 refine A6 (ι:=Bool) (fun (x62_7:Bool)=>mk [(0,vk n),(5,.row 0),(8,vk x36_4),(9,vk x40_5),(10,vk x44_6),(35,vk n),(36,vk x36_4),(39,vk n),(40,vk x40_5),(43,vk n),(44,vk x44_6),(62,.val (.bool x62_7))] [(0,.tree 99 1 0 4 1 1 none (Ak (eL 1 eB) out_6)),(1,.gho)] 2) (fun (x62_7:Bool)=>Bt.j7 x40_5 x44_6 out_6 x62_7=some o6) ?_ ?_
 refine B7 1 fun B G=>?_
 obtain⟨e_4,he_4,G⟩:=Aq G
 refine Ik (rd:=[0]) rfl rfl (.idxT lE (H6 he_4) (Mw (Gy _ _) (Cc he_4))) rfl rfl ?_
 refine Ik (rd:=[0]) rfl rfl (.loadTN jB (by decide) rfl Mj (Tt (Gy _ _) (Cc he_4) (o:=0) (by decide) rfl)) rfl rfl ?_
 refine B7 0 fun B G=>?_
 obtain⟨e_5,he_5,G⟩:=Aq G
 refine Ik (rd:=[0]) rfl rfl (.idxN pR (Fj (Gy _ _) (Cc he_4) (o:=0) (c:=.sl 1 (Ak eB e_4)) rfl rfl) Mj (H6 he_5) (Mw Od (Cc he_5))) rfl rfl ?_
 refine Ik (rd:=[0]) rfl rfl (.loadN1 ty4 (Fj (Gy _ _) (Cc he_4) (o:=0) (c:=.sl 1 (Ak eB e_4)) rfl rfl) Mj (Fj Od (Cc he_5) (o:=0) (c:=.bool e_5) rfl rfl)) rfl rfl ?_
 refine Jv (.r 0 (.e 0)) fun h26 B G=>?_
 obtain⟨e_6,he_6,G⟩:=Aq G
 refine Ik (rd:=[0]) (Ht rfl rfl h26) rfl (.idxT lE (H6 he_6) (Mw (Gy _ _) (Cc he_6))) rfl rfl ?_
 refine Ik (rd:=[0]) (Ht rfl rfl h26) rfl (.loadTN jB (by decide) rfl Mj (Tt (Gy _ _) (Cc he_6) (o:=0) (by decide) rfl)) rfl rfl ?_
 refine B7 0 fun B G=>?_
 obtain⟨e_7,he_7,G⟩:=Aq G
 refine Ik (rd:=[0]) (Ht rfl rfl h26) rfl (.idxN pR (Fj (Gy _ _) (Cc he_6) (o:=0) (c:=.sl 1 (Ak eB e_6)) rfl rfl) Mj (H6 he_7) (Mw Od (Cc he_7))) rfl rfl ?_
 refine Ik (rd:=[0]) (Ht rfl rfl h26) rfl (.loadN1 ty4 (Fj (Gy _ _) (Cc he_6) (o:=0) (c:=.sl 1 (Ak eB e_6)) rfl rfl) Mj (Fj Od (Cc he_7) (o:=0) (c:=.bool e_7) rfl rfl)) rfl rfl ?_
 exact C1
 rintro x62_7 G
 unfold Bt.j7 at G
 refine Dl (.r 0 (.e 1)) fun _ B G=>?_
 obtain⟨e_8,he_8,G⟩:=Aq G
 refine Ik (rd:=[0]) rfl rfl (.idxT lE (H6 he_8) (Mw (Gy _ _) (Cc he_8))) rfl rfl ?_
 refine Ik (rd:=[0]) rfl rfl (.loadTN jB (by decide) rfl Mj (Tt (Gy _ _) (Cc he_8) (o:=0) (by decide) rfl)) rfl rfl ?_
 refine B7 0 fun B G=>?_
 obtain⟨e_9,he_9,G⟩:=Aq G
 refine Ik (rd:=[0]) rfl rfl (.idxN pR (Fj (Gy _ _) (Cc he_8) (o:=0) (c:=.sl 1 (Ak eB e_8)) rfl rfl) Mj (H6 he_9) (Mw Od (Cc he_9))) rfl rfl ?_
 refine Ua (rd:=[0,1]) rfl rfl (gG ty4 (Fj (Gy _ _) (Cc he_8) (o:=0) (c:=.sl 1 (Ak eB e_8)) rfl rfl) rfl (Fe Od (Cc he_9) (o:=0) (m:=1) (by decide) rfl) (ck:=[none]) (cs':=[.bool true]) (.cons .bool .nil) (List.Mem.head _) (Nz Od (Cc he_9) (o:=0) (x':=true) (aEn rfl) rfl rfl) (lX (Gy _ _) (Cc he_8) (o:=0) (x':=(Dj e_8 ((x44_6).toNat) true)) (by decide) rfl rfl)) rfl rfl (fun _=>⟨_,rfl⟩) ?_
 rintro _ rfl
 exact C1
 rintro out_8 G
 unfold Bt.j8 at G
 exact F0
instance aNi:Wk 53:=⟨_,@fC⟩
end Go.Proofs.YtkioneinddihlaaGreat
