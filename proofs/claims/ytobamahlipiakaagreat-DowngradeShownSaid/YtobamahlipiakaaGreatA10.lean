import Derived.Test.YtobamahlipiakaaGreatT1
import Derived.Test.YtobamahlipiakaaGreatEU
import Derived.Test.YtobamahlipiakaaGreatA9
set_option linter.unusedVariables false
set_option linter.unusedSimpArgs false
set_option maxRecDepth 100000
set_option maxHeartbeats 40000000
namespace Go.Proofs.YtobamahlipiakaaGreat
open Go.RowKit
theorem Rx {d r} (G:Fc d=some r):Fn Tryz.prog 65 1 [.ptr 0 0] [.box [.sl 1 (Ai eI d.L),vj d.At] 91] (fun d' b'=>d'=.row 1/\b'=[.box [.sl 1 (Ai eI r.2.L),vj r.2.At] 91,.row 3 1 (Ai eI r.1)]):=by
 unfold Fc at G
 refine Ea 1 29 Tryz.func65 fun _ _ _=>?_
 refine Br 6 fun _ _ B G=>?_
 refine He (fun ((i_1,d_1,l_1):Int×Ad×List Int)=>mk [(0,.ptr 0 0),(3,.row 1),(4,vj i_1)] [(0,.box [.sl 1 (Ai eI d_1.L),vj d_1.At] 91),(1,.row 3 1 (Ai eI l_1))] 2) G (Cd [(0,0)]) ?_
 rintro⟨i_1,d_1,l_1⟩ m1 o1 G hn1
 unfold Fc.l1 at G
 refine Lg 2 fun B G=>?_
 refine Kd rfl G (fun _ G=>?_) fun _ G=>?_
 refine Br 1 fun B G=>?_
 refine A4 (ι:=Ad×List Int) (fun ((d_2,l_2):Ad×List Int)=>mk [(0,.ptr 0 0),(3,.row 1),(4,vj i_1)] [(0,.box [.sl 1 (Ai eI d_2.L),vj d_2.At] 91),(1,.row 3 1 (Ai eI l_2))] 2) (fun ((d_2,l_2):Ad×List Int)=>Fc.j2 i_1 d_2 l_2=some o1) ?_ ?_
 refine Br 4 fun y_2 _ B G=>?_
 obtain⟨y_3,hy_3,G⟩:=An G
 refine R9 [1] [] [] true (Va hy_3) ?_
 refine Jf (.r 0 (.e 1)) fun _ B G=>?_
 refine Iz Er z3 Ia ([W (1 + y_2.1)]:List Int) eI ?_
 exact Cj
 rintro⟨d_2,l_2⟩ G
 unfold Fc.j2 at G
 exact Gn
 refine Jf (.r 4 (.e 1)) fun _ _ _ B G=>?_
 obtain⟨y_5,hy_5,G⟩:=An G
 refine Jw (rd:=[1]) (ps:=[]) (gs:=[]) true rfl (Ta hy_5) rfl rfl (.cons (.row rfl (.head _) rfl) .nil) rfl rfl (by rintro - _ _ ⟨rfl,rfl⟩; exact⟨by simp [Kg,Nk],fb_⟩) rfl (by intro h; first | (cases h; done) | exact⟨_,_,⟨rfl,rfl⟩,by simp,by simp⟩) ?_
 rintro _ _ ⟨rfl,rfl⟩
 exact Cj
instance aYs:Wk 65:=⟨_,@Rx⟩
theorem qY {d a r} (G:C9 d a=some r):Fn Tryz.prog 67 1 [.ptr 0 0,vj a] [.box [.sl 1 (Ai eI d.L),vj d.At] 91] (fun d' b'=>d'=vj r.1/\b'=[.box [.sl 1 (Ai eI r.2.L),vj r.2.At] 91]):=by
 unfold C9 at G
 refine Ea 1 46 Tryz.func67 fun _ _ _=>?_
 refine Br 4 fun B G=>?_
 refine A4 (ι:=Bool) (fun (x6_1:Bool)=>mk [(0,.ptr 0 0),(5,vj a),(6,.val (.bool x6_1))] [(0,.box [.sl 1 (Ai eI d.L),vj d.At] 91)] 1) (fun (x6_1:Bool)=>C9.j1 d a x6_1=some r) ?_ ?_
 exact Cj
 rintro x6_1 G
 unfold C9.j1 at G
 try dsimp only at G
 refine Rp rfl ?_
 refine Kd rfl G (fun _ G=>?_) fun _ G=>?_
 refine Ay <| Ci (D9 _ _ [9]) 1 33 Ij rfl rfl ?_
 refine Br 0 fun B G=>?_
 refine Rk Er z3 Ia ([2048,1024,512,3072,1023,4096,16384]:List Int) eI ?_
 exact Cj
 refine A4 (ι:=Bool) (fun (x14_2:Bool)=>mk [(0,.ptr 0 0),(5,vj a),(14,.val (.bool x14_2))] [(0,.box [.sl 1 (Ai eI d.L),vj d.At] 91)] 1) (fun (x14_2:Bool)=>C9.j2 d a x14_2=some r) ?_ ?_
 exact Cj
 rintro x14_2 G
 unfold C9.j2 at G
 try dsimp only at G
 refine Rp rfl ?_
 refine Kd rfl G (fun _ G=>?_) fun _ G=>?_
 refine Ay <| Ci (D9 _ _ [9]) 1 33 Ij rfl rfl ?_
 refine Br 0 fun B G=>?_
 refine Rk Er z3 Ia ([256,160,224,384,521]:List Int) eI ?_
 exact Cj
 refine Br 1 fun B G=>?_
 refine Kd rfl G (fun _ G=>?_) fun _ G=>?_
 refine Ay <| Ci (D9 _ _ [25]) 17 49 B rfl rfl ?_
 refine Br 0 fun B G=>?_
 refine Rk Er z3 Ia ([65,44,87]:List Int) eI ?_
 exact Cj
 refine Br 1 fun B G=>?_
 refine Kd rfl G (fun _ G=>?_) fun _ G=>?_
 refine Ay <| Ci (D9 _ _ [41]) 33 65 B rfl rfl ?_
 refine Br 0 fun B G=>?_
 refine Rk Er z3 Ia ([768,512,1024]:List Int) eI ?_
 exact Cj
 refine Br 1 fun B G=>?_
 refine Kd rfl G (fun _ G=>?_) fun _ G=>?_
 refine Ay <| Ci (D9 _ _ [57]) 49 81 B rfl rfl ?_
 refine Br 0 fun B G=>?_
 refine Rk Er z3 Ia ([128,40]:List Int) eI ?_
 exact Cj
 refine Br 1 fun B G=>?_
 refine Kd rfl G (fun _ G=>?_) fun _ G=>?_
 refine Ay <| Ci (D9 _ _ [73]) 65 97 B rfl rfl ?_
 refine Br 0 fun B G=>?_
 refine Rk Er z3 Ia ([168,112]:List Int) eI ?_
 exact Cj
 refine A4 (ι:=Bool) (fun (x40_3:Bool)=>mk [(0,.ptr 0 0),(40,.val (.bool x40_3))] [(0,.box [.sl 1 (Ai eI d.L),vj d.At] 91)] 1) (fun (x40_3:Bool)=>C9.j3 d x40_3=some r) ?_ ?_
 exact Cj
 rintro x40_3 G
 unfold C9.j3 at G
 refine Dx (.r 0 (.e 0)) fun _ B G=>?_
 refine Ay <| Ci (D9 _ _ [9]) 1 33 Ij rfl rfl ?_
 refine Br 0 fun B G=>?_
 refine Rk Er z3 Ia ([128,256]:List Int) eI ?_
 exact Cj
instance aXn:Wk 67:=⟨_,@qY⟩
theorem vF {d r} (G:Qt d=some r):Fn Tryz.prog 66 1 [.ptr 0 0] [.box [.sl 1 (Ai eI d.L),vj d.At] 91] (fun d' b'=>d'=.agg [vj r.1.Alg,vj r.1.Bits]/\b'=[.box [.sl 1 (Ai eI r.2.L),vj r.2.At] 91]):=by
 unfold Qt at G
 refine Ea 1 12 Tryz.func66 fun _ _ _=>?_
 refine Br 1 fun B G=>?_
 refine Ay <| Ci (D9 _ _ [17]) 9 41 B rfl rfl ?_
 refine Br 0 fun B G=>?_
 refine Rk Er z3 Ia ([5,7,5,6,8,9]:List Int) eI ?_
 refine Br 3 fun _ _ _ _ B G=>?_
 refine M6 P5 Yb rV ?_
 exact Cj
instance aXm:Wk 66:=⟨_,@vF⟩
theorem pD {c r} (G:M0 c=some r):Fn Tryz.prog 97 0 [.agg (Ae.dv c)] [] (fun d' b'=>d'=.agg (Ae.dv r)/\b'=[]):=by
 unfold M0 at G
 refine Ea 0 9 Tryz.func97 fun _ _ _=>?_
 refine Br 2 fun B G=>?_
 refine F0 rfl rfl (D0 lK z9 (by decide) rfl rfl rfl rfl ck9 (cs:=[]) .nil rfl (l:=([]:List ByteArray)) (f:=eS) rfl) rfl rfl ?_
 exact Cj
instance aY9:Wk 97:=⟨_,@pD⟩
theorem oU {s r} (G:Db s=some r):Fn Tryz.prog 178 0 [vk s] [] (fun d' b'=>d'=.val (.bool r)/\b'=[]):=by
 unfold Db at G
 refine Ea 0 28 Tryz.func178 fun _ _ _=>?_
 refine Br 1 fun B G=>?_
 refine Ay <| A4 (ι:=Bool) (fun (x11_1:Bool)=>mk [(0,vk s),(11,.val (.bool x11_1))] [] 0) (fun (x11_1:Bool)=>Db.j1 s x11_1=some r) ?_ ?_
 exact Cj
 rintro x11_1 G
 unfold Db.j1 at G
 refine Dx (.l 0 (.e 4)) fun _ B G=>?_
 refine He (fun (i_2:Int)=>mk [(0,vk s),(3,vj i_2)] [] 0) G (Cd []) ?_
 rintro i_2 m2 o2 G hn2
 unfold Db.l2 at G
 refine Dx (.r 3 (.e 3)) fun _ B G=>?_
 refine A4 (ι:=Bool) (fun (x27_3:Bool)=>mk [(0,vk s),(3,vj i_2),(27,.val (.bool x27_3))] [] 0) (fun (x27_3:Bool)=>Db.j3 i_2 x27_3=some o2) ?_ ?_
 exact Cj
 rintro x27_3 G
 unfold Db.j3 at G
 exact Gn
instance aW2:Wk 178:=⟨_,@oU⟩
theorem kD {u r} (G:It u=some r):Fn Tryz.prog 177 0 [.agg [vj u.Alg,vj u.Bits]] [] (fun d' b'=>d'=.val (.bool r)/\b'=[]):=by
 unfold It at G
 refine Ea 0 6 Tryz.func177 fun _ _ _=>?_
 exact Cj
instance aU6:Wk 177:=⟨_,@kD⟩
theorem oW {r} (G:Tv=some r):Fn Tryz.prog 140 0 [] [] (fun d' b'=>d'=.sl 2 (Ai Au.enc r)/\b'=[]):=by
 unfold Tv at G
 refine Ea 0 25 Tryz.func140 fun _ _ _=>?_
 refine Br 2 fun B G=>?_
 refine F0 rfl rfl (.build (r:=[.val (.string (⟨#[]⟩:ByteArray)),.val (.int .i64 0)]) Iq Mi Px (by kernel_rfl) rfl) rfl rfl ?_
 refine F0 rfl rfl (.build (r:=[.val (.string (⟨#[109,100,53]⟩:ByteArray)),.val (.int .i64 1)]) Iq Mi Px (by kernel_rfl) rfl) rfl rfl ?_
 refine F0 rfl rfl (.build (r:=[.val (.string (⟨#[115,104,97,49]⟩:ByteArray)),.val (.int .i64 1)]) Iq Mi Px (by kernel_rfl) rfl) rfl rfl ?_
 refine F0 rfl rfl (.build (r:=[.val (.string (⟨#[115,104,97,50,53,54]⟩:ByteArray)),.val (.int .i64 1)]) Iq Mi Px (by kernel_rfl) rfl) rfl rfl ?_
 refine F0 rfl rfl (.build (r:=[.val (.string (⟨#[115,104,97,51,56,52]⟩:ByteArray)),.val (.int .i64 1)]) Iq Mi Px (by kernel_rfl) rfl) rfl rfl ?_
 refine F0 rfl rfl (.build (r:=[.val (.string (⟨#[114,115,97]⟩:ByteArray)),.val (.int .i64 2)]) Iq Mi Px (by kernel_rfl) rfl) rfl rfl ?_
 refine F0 rfl rfl (.build (r:=[.val (.string (⟨#[100,115,97]⟩:ByteArray)),.val (.int .i64 2)]) Iq Mi Px (by kernel_rfl) rfl) rfl rfl ?_
 refine F0 rfl rfl (.build (r:=[.val (.string (⟨#[101,99,100,115,97]⟩:ByteArray)),.val (.int .i64 2)]) Iq Mi Px (by kernel_rfl) rfl) rfl rfl ?_
 refine F0 rfl rfl (.build (r:=[.val (.string (⟨#[101,100,50,53,53,49,57]⟩:ByteArray)),.val (.int .i64 2)]) Iq Mi Px (by kernel_rfl) rfl) rfl rfl ?_
 refine F0 rfl rfl (.build (r:=[.val (.string (⟨#[109,108,100,115,97]⟩:ByteArray)),.val (.int .i64 2)]) Iq Mi Px (by kernel_rfl) rfl) rfl rfl ?_
 refine F0 rfl rfl (.build (r:=[.val (.string (⟨#[114,115,97,107,120]⟩:ByteArray)),.val (.int .i64 3)]) Iq Mi Px (by kernel_rfl) rfl) rfl rfl ?_
 refine F0 rfl rfl (.build (r:=[.val (.string (⟨#[100,104,101]⟩:ByteArray)),.val (.int .i64 3)]) Iq Mi Px (by kernel_rfl) rfl) rfl rfl ?_
 refine F0 rfl rfl (.build (r:=[.val (.string (⟨#[101,99,100,104,101]⟩:ByteArray)),.val (.int .i64 3)]) Iq Mi Px (by kernel_rfl) rfl) rfl rfl ?_
 refine F0 rfl rfl (.build (r:=[.val (.string (⟨#[109,108,107,101,109]⟩:ByteArray)),.val (.int .i64 3)]) Iq Mi Px (by kernel_rfl) rfl) rfl rfl ?_
 refine F0 rfl rfl (.build (r:=[.val (.string (⟨#[114,99,52]⟩:ByteArray)),.val (.int .i64 4)]) Iq Mi Px (by kernel_rfl) rfl) rfl rfl ?_
 refine F0 rfl rfl (.build (r:=[.val (.string (⟨#[100,101,115,51]⟩:ByteArray)),.val (.int .i64 4)]) Iq Mi Px (by kernel_rfl) rfl) rfl rfl ?_
 refine F0 rfl rfl (.build (r:=[.val (.string (⟨#[97,101,115,99,98,99]⟩:ByteArray)),.val (.int .i64 4)]) Iq Mi Px (by kernel_rfl) rfl) rfl rfl ?_
 refine F0 rfl rfl (.build (r:=[.val (.string (⟨#[97,101,115,103,99,109]⟩:ByteArray)),.val (.int .i64 4)]) Iq Mi Px (by kernel_rfl) rfl) rfl rfl ?_
 refine F0 rfl rfl (.build (r:=[.val (.string (⟨#[99,104,97,99,104,97]⟩:ByteArray)),.val (.int .i64 4)]) Iq Mi Px (by kernel_rfl) rfl) rfl rfl ?_
 refine F0 rfl rfl (.build (r:=[.val (.string (⟨#[104,109,97,99,109,100,53]⟩:ByteArray)),.val (.int .i64 5)]) Iq Mi Px (by kernel_rfl) rfl) rfl rfl ?_
 refine F0 rfl rfl (.build (r:=[.val (.string (⟨#[104,109,97,99,115,104,97,49]⟩:ByteArray)),.val (.int .i64 5)]) Iq Mi Px (by kernel_rfl) rfl) rfl rfl ?_
 refine F0 rfl rfl (.build (r:=[.val (.string (⟨#[104,109,97,99,115,104,97,50,53,54]⟩:ByteArray)),.val (.int .i64 5)]) Iq Mi Px (by kernel_rfl) rfl) rfl rfl ?_
 refine F0 rfl rfl (.build (r:=[.val (.string (⟨#[97,101,97,100]⟩:ByteArray)),.val (.int .i64 5)]) Iq Mi Px (by kernel_rfl) rfl) rfl rfl ?_
 refine Iz aJr Px aQl ([(Au.mk (⟨#[]⟩:ByteArray) 0),(Au.mk (⟨#[109,100,53]⟩:ByteArray) 1),(Au.mk (⟨#[115,104,97,49]⟩:ByteArray) 1),(Au.mk (⟨#[115,104,97,50,53,54]⟩:ByteArray) 1),(Au.mk (⟨#[115,104,97,51,56,52]⟩:ByteArray) 1),(Au.mk (⟨#[114,115,97]⟩:ByteArray) 2),(Au.mk (⟨#[100,115,97]⟩:ByteArray) 2),(Au.mk (⟨#[101,99,100,115,97]⟩:ByteArray) 2),(Au.mk (⟨#[101,100,50,53,53,49,57]⟩:ByteArray) 2),(Au.mk (⟨#[109,108,100,115,97]⟩:ByteArray) 2),(Au.mk (⟨#[114,115,97,107,120]⟩:ByteArray) 3),(Au.mk (⟨#[100,104,101]⟩:ByteArray) 3),(Au.mk (⟨#[101,99,100,104,101]⟩:ByteArray) 3),(Au.mk (⟨#[109,108,107,101,109]⟩:ByteArray) 3),(Au.mk (⟨#[114,99,52]⟩:ByteArray) 4),(Au.mk (⟨#[100,101,115,51]⟩:ByteArray) 4),(Au.mk (⟨#[97,101,115,99,98,99]⟩:ByteArray) 4),(Au.mk (⟨#[97,101,115,103,99,109]⟩:ByteArray) 4),(Au.mk (⟨#[99,104,97,99,104,97]⟩:ByteArray) 4),(Au.mk (⟨#[104,109,97,99,109,100,53]⟩:ByteArray) 5),(Au.mk (⟨#[104,109,97,99,115,104,97,49]⟩:ByteArray) 5),(Au.mk (⟨#[104,109,97,99,115,104,97,50,53,54]⟩:ByteArray) 5),(Au.mk (⟨#[97,101,97,100]⟩:ByteArray) 5)]:List Au) Au.enc ?_
 exact Cj
instance aVj:Wk 140:=⟨_,@oW⟩
theorem oC {alg r} (G:Gj alg=some r):Fn Tryz.prog 93 0 [vj alg] [] (fun d' b'=>d'=vj r/\b'=[]):=by
 unfold Gj at G
 refine Ea 0 14 Tryz.func93 fun _ _ _=>?_
 refine Br 1 fun B G=>?_
 refine Ay <| A4 (ι:=Bool) (fun (x8_1:Bool)=>mk [(0,vj alg),(8,.val (.bool x8_1))] [] 0) (fun (x8_1:Bool)=>Gj.j1 alg x8_1=some r) ?_ ?_
 exact Cj
 rintro x8_1 G
 unfold Gj.j1 at G
 exact Gn
instance aYo:Wk 93:=⟨_,@oC⟩
theorem Zs {u r} (G:Ib u=some r):Fn Tryz.prog 138 0 [.agg [vj u.Alg,vj u.Bits]] [] (fun d' b'=>d'=.val (.bool r)/\b'=[]):=by
 unfold Ib at G
 refine Ea 0 11 Tryz.func138 fun _ _ _=>?_
 exact Cj
instance aUo:Wk 138:=⟨_,@Zs⟩
theorem jI {c r} (G:Bb c=some r):Fn Tryz.prog 139 0 [.agg (Ae.dv c)] [] (fun d' b'=>d'=vj r/\b'=[]):=by
 unfold Bb at G
 refine Ea 0 146 Tryz.func139 fun _ _ _=>?_
 refine Br 1 fun B G=>?_
 refine Ay <| A4 (ι:=Bool) (fun (x39_1:Bool)=>mk [(1,.ptr 0 0),(39,.val (.bool x39_1))] [(0,.box (Ae.dv c) 146)] 1) (fun (x39_1:Bool)=>Bb.j1 c x39_1=some r) ?_ ?_
 exact Cj
 rintro x39_1 G
 unfold Bb.j1 at G
 refine Dx (.l 0 (.e 1)) fun _ B G=>?_
 refine Ay <| A4 (ι:=Bool) (fun (x67_2:Bool)=>mk [(1,.ptr 0 0),(67,.val (.bool x67_2))] [(0,.box (Ae.dv c) 146)] 1) (fun (x67_2:Bool)=>Bb.j2 c x67_2=some r) ?_ ?_
 exact Cj
 rintro x67_2 G
 unfold Bb.j2 at G
 refine Dx (.l 0 (.e 1)) fun _ B G=>?_
 refine Ay <| A4 (ι:=Bool) (fun (x91_3:Bool)=>mk [(1,.ptr 0 0),(91,.val (.bool x91_3))] [(0,.box (Ae.dv c) 146)] 1) (fun (x91_3:Bool)=>Bb.j3 c x91_3=some r) ?_ ?_
 exact Cj
 rintro x91_3 G
 unfold Bb.j3 at G
 refine Dx (.l 0 (.e 4)) fun _ B G=>?_
 refine He (fun (i_4:Int)=>mk [(1,.ptr 0 0),(3,vj i_4)] [(0,.box (Ae.dv c) 146)] 1) G (Cd [(0,0)]) ?_
 rintro i_4 m4 o4 G hn4
 unfold Bb.l4 at G
 refine Lg 2 fun B G=>?_
 refine Kd rfl G (fun _ G=>?_) fun _ G=>?_
 refine Br 3 fun B G=>?_
 refine A4 (ι:=Bool) (fun (x123_5:Bool)=>mk [(1,.ptr 0 0),(3,vj i_4),(123,.val (.bool x123_5))] [(0,.box (Ae.dv c) 146)] 1) (fun (x123_5:Bool)=>Bb.j5 i_4 x123_5=some o4) ?_ ?_
 refine Bg (D9 _ _ []) (by kernel_rfl) [0,1,0,7,15,31,63,127,255,511,1023,2047,4095,2047,10239,32767,65535,2047,133119,2047,919551,1968127,4194303,8388607,16777215] 41 241 B rfl rfl (by kernel_rfl) ?_
 exact Cj
 rintro x123_5 G
 unfold Bb.j5 at G
 exact Gn
 refine Br 1 fun B G=>?_
 refine Ay <| A4 (ι:=Bool) (fun (x145_6:Bool)=>mk [(145,.val (.bool x145_6))] [] 0) (fun (x145_6:Bool)=>Bb.j6 x145_6=some r) ?_ ?_
 exact Cj
 rintro x145_6 G
 unfold Bb.j6 at G
 exact Gn
instance aU9:Wk 139:=⟨_,@jI⟩
theorem nS {s r} (G:Ir s=some r):Fn Tryz.prog 153 0 [vk s] [] (fun d' b'=>d'=.agg (Ab.dv r)/\b'=[]):=by
 unfold Ir at G
 refine Ea 0 6 Tryz.func153 fun _ _ _=>?_
 refine Br 3 fun B G=>?_
 refine M6 Ol Xc Sd ?_
 exact Cj
instance aVn:Wk 153:=⟨_,@nS⟩
theorem sC {n r} (G:Cr n=some r):Fn Tryz.prog 152 0 [vj n] [] (fun d' b'=>d'=.agg (Ab.dv r)/\b'=[]):=by
 unfold Cr at G
 refine Ea 0 45 Tryz.func152 fun _ _ _=>?_
 refine Br 3 fun B G=>?_
 refine Iz Nu z5 qA ([(u8 n)]:List UInt8) e8 ?_
 refine Br 4 fun _ _ B G=>?_
 refine He (fun ((x_1,b_1):Int×List UInt8)=>mk [(2,.ptr 0 0),(3,.row 1),(4,vj x_1)] [(0,.box [.val (.int .i64 0),.val (.slice none 0 0),.val (.bool false),.val (.slice none 0 0)] 203),(1,.row 5 1 (Ai e8 b_1))] 2) G (Cd [(0,0),(1,24)]) ?_
 rintro⟨x_1,b_1⟩ m1 o1 G hn1
 unfold Cr.l1 at G
 try dsimp only at G
 refine Rp rfl ?_
 refine Ay <| A4 (ι:=Bool) (fun (x35_2:Bool)=>mk [(2,.ptr 0 0),(3,.row 1),(4,vj x_1),(35,.val (.bool x35_2))] [(0,.box [.val (.int .i64 0),.val (.slice none 0 0),.val (.bool false),.val (.slice none 0 0)] 203),(1,.row 5 1 (Ai e8 b_1))] 2) (fun (x35_2:Bool)=>Cr.j2 x_1 b_1 x35_2=some o1) ?_ ?_
 exact Cj
 rintro x35_2 G
 unfold Cr.j2 at G
 try dsimp only at G
 refine Rp rfl ?_
 refine Kd rfl G (fun _ G=>?_) fun _ G=>?_
 refine Br 5 fun B G=>?_
 refine Iz Nu z5 qA ([(u8 x_1)]:List UInt8) e8 ?_
 exact Cj
 refine Br 2 fun B G=>?_
 refine M6 Ol Xc Sd ?_
 exact Cj
instance aVd:Wk 152:=⟨_,@sC⟩
end Go.Proofs.YtobamahlipiakaaGreat
