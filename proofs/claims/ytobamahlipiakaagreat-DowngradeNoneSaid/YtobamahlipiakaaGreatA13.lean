import Derived.Test.YtobamahlipiakaaGreatT1
import Derived.Test.YtobamahlipiakaaGreatEU
import Derived.Test.YtobamahlipiakaaGreatA9
import Derived.Test.YtobamahlipiakaaGreatA10
import Derived.Test.YtobamahlipiakaaGreatA11
import Derived.Test.YtobamahlipiakaaGreatA12
set_option linter.unusedVariables false
set_option linter.unusedSimpArgs false
set_option maxRecDepth 100000
set_option maxHeartbeats 40000000
namespace Go.Proofs.YtobamahlipiakaaGreat
open Go.RowKit
theorem aD {server suite r} (G:C6 server suite=some r):Fn Tryz.prog 47 0 [.agg (Ac.dv server),vj suite] [] (fun d' b'=>d'=.tup [vj r.1,.val (.bool r.2)]/\b'=[]):=by
 unfold C6 at G
 refine Ea 0 41 Tryz.func47 fun _ _ _=>?_
 refine Jf (.l 5 (.e 4)) fun y _ _ B G=>?_
 refine He (fun (i_1:Int)=>mk [(2,.ptr 0 0),(6,.ptr 1 0),(8,vj i_1)] [(0,.box (Ac.dv server) 29),(1,.box (Az.dv y.1) 47)] 2) G (Cd [(0,0),(1,64)]) ?_
 rintro i_1 m1 o1 G hn1
 unfold C6.l1 at G
 refine Dx (.r 2 (.e 3)) fun _ B G=>?_
 refine A4 (ι:=Bool) (fun (x39_2:Bool)=>mk [(2,.ptr 0 0),(6,.ptr 1 0),(8,vj i_1),(39,.val (.bool x39_2))] [(0,.box (Ac.dv server) 29),(1,.box (Az.dv y.1) 47)] 2) (fun (x39_2:Bool)=>C6.j2 i_1 x39_2=some o1) ?_ ?_
 refine Bg (D9 _ _ []) (by kernel_rfl) [0,1,3,7,15,31,63,31,255,511,1023,2047,31,4127,12319,32767,65535] 42 178 B rfl rfl (by kernel_rfl) ?_
 exact Cj
 rintro x39_2 G
 unfold C6.j2 at G
 exact Gn
instance aZn:Wk 47:=⟨_,@aD⟩
theorem Z2 {server offer version suite r} (G:D8 server offer version suite=some r):Fn Tryz.prog 46 0 [.agg (Ac.dv server),.sl 1 (Ai eI offer),vj version,vj suite] [] (fun d' b'=>d'=.val (.bool r)/\b'=[]):=by
 unfold D8 at G
 refine Ea 0 52 Tryz.func46 fun _ _ _=>?_
 refine Br 3 fun y _ B G=>?_
 refine Ay <| A4 (ι:=Bool) (fun (x44_1:Bool)=>mk [(3,vj suite),(4,.ptr 0 0),(44,.val (.bool x44_1))] [(0,.box (Ac.dv server) 29)] 1) (fun (x44_1:Bool)=>D8.j1 server suite x44_1=some r) ?_ ?_
 exact Cj
 rintro x44_1 G
 unfold D8.j1 at G
 exact Gn
instance bAa:Wk 46:=⟨_,@Z2⟩
theorem pY {l s r} (G:G7 l s=some r):Fn Tryz.prog 141 0 [.sl 1 (Ai eS l),vk s] [] (fun d' b'=>d'=.val (.bool r)/\b'=[]):=by
 unfold G7 at G
 refine Ea 0 18 Tryz.func141 fun _ _ _=>?_
 refine Br 4 fun B G=>?_
 refine He (fun (i_1:Int)=>mk [(0,.sl 1 (Ai eS l)),(1,vk s),(5,vj i_1)] [] 0) G (Cd []) ?_
 rintro i_1 m1 o1 G hn1
 unfold G7.l1 at G
 exact Gn
instance aVa:Wk 141:=⟨_,@pY⟩
theorem oH {l at' r} (G:Ip l at'=some r):Fn Tryz.prog 142 0 [.sl 15 (Ai Ae.enc l),vj at'] [] (fun d' b'=>d'=.val (.bool r)/\b'=[]):=by
 unfold Ip at G
 refine Ea 0 32 Tryz.func142 fun _ _ _=>?_
 refine Br 1 fun B G=>?_
 refine Ay <| A4 (ι:=Bool) (fun (x12_1:Bool)=>mk [(0,.sl 15 (Ai Ae.enc l)),(1,vj at'),(12,.val (.bool x12_1))] [] 0) (fun (x12_1:Bool)=>Ip.j1 l at' x12_1=some r) ?_ ?_
 exact Cj
 rintro x12_1 G
 unfold Ip.j1 at G
 exact Gn
instance aUh:Wk 142:=⟨_,@oH⟩
theorem eH {c key r} (G:Kv c key=some r):Fn Tryz.prog 143 0 [.agg (Ae.dv c),vj key] [] (fun d' b'=>d'=.val (.bool r)/\b'=[]):=by
 unfold Kv at G
 refine Ea 0 29 Tryz.func143 fun _ _ _=>?_
 refine Br 3 fun _ _ B G=>?_
 refine Ay <| Bg (D9 _ _ []) (by kernel_rfl) [0,1,3,7,15,31,7,127,255,511,1023,2047,4095,1023,9215,32767,65535,131071] 72 216 B rfl rfl (by kernel_rfl) ?_
 exact Cj
instance aUc:Wk 143:=⟨_,@eH⟩
theorem jH {e l i anchors hashes day name r} (G:M5 e l i anchors hashes day name=some r):Fn Tryz.prog 94 0 [vj e,.sl 15 (Ai Ae.enc l),vj i,.sl 1 (Ai eI anchors),.sl 1 (Ai eI hashes),vj day,vk name] [] (fun d' b'=>d'=.val (.bool r)/\b'=[]):=by
 unfold M5 at G
 refine Ea 0 111 Tryz.func94 fun _ _ _=>?_
 refine Jf (.l 8 (.l 1 (.l 1 (.l 1 (.e 1))))) fun _ _ _ _ _ _ B G=>?_
 refine Kd rfl G (fun _ G=>?_) fun _ G=>?_
 refine Ay <| Bg (D9 _ _ []) (by kernel_rfl) [0,1,3,7,15,7,7,71,231,487,999,2047,4095,8191] 192 304 B rfl rfl (by kernel_rfl) ?_
 exact Cj
 refine Jf (.l 1 (.r 1 (.l 2 (.e 1)))) fun _ _ _ B G=>?_
 refine Ay <| Bg (D9 _ _ []) (by kernel_rfl) [0,0,0,4,14,30,62,127,255,511] 232 312 B rfl rfl (by kernel_rfl) ?_
 exact Cj
instance aXl:Wk 94:=⟨_,@jH⟩
theorem kL {l anchors hashes day name r} (G:Dg l anchors hashes day name=some r):Fn Tryz.prog 48 0 [.sl 15 (Ai Ae.enc l),.sl 1 (Ai eI anchors),.sl 1 (Ai eI hashes),vj day,vk name] [] (fun d' b'=>d'=vj r/\b'=[]):=by
 unfold Dg at G
 refine Ea 0 48 Tryz.func48 fun _ _ _=>?_
 refine Jf (.l 3 (.l 3 (.e 2))) fun _ _ B G=>?_
 refine Iz aJe z34 aSe ([9,14,13,7,11,15,10,12]:List Int) eI ?_
 refine Br 3 fun B G=>?_
 refine He (fun (k_1:Int)=>mk [(0,.sl 15 (Ai Ae.enc l)),(1,.sl 1 (Ai eI anchors)),(2,.sl 1 (Ai eI hashes)),(3,vj day),(4,vk name),(11,.row 0),(12,vj k_1)] [(0,.row 34 1 (Ai eI ([9,14,13,7,11,15,10,12]:List Int)))] 1) G (Cd [(0,56)]) ?_
 rintro k_1 m1 o1 G hn1
 unfold Dg.l1 at G
 refine Dx (.r 2 (.e 5)) fun _ B G=>?_
 refine He (fun (i_2:Int)=>mk [(0,.sl 15 (Ai Ae.enc l)),(1,.sl 1 (Ai eI anchors)),(2,.sl 1 (Ai eI hashes)),(3,vj day),(4,vk name),(11,.row 0),(12,vj k_1),(13,vj i_2)] [(0,.row 34 1 (Ai eI ([9,14,13,7,11,15,10,12]:List Int)))] 1) G (Cd [(0,0)]) ?_
 rintro i_2 m2 o2 G hn2
 unfold Dg.l2 at G
 exact Gn
instance aYu:Wk 48:=⟨_,@kL⟩
theorem T2 {client server day most suites r} (G:B1 client server day most suites=some r):Fn Tryz.prog 14 0 [.agg (Ac.dv client),.agg (Ac.dv server),vj day,vj most,.sl 1 (Ai eI suites)] [] (fun d' b'=>d'=.tup [.agg [vj r.1.Version,vj r.1.Suite],vj r.2]/\b'=[]):=by
 unfold B1 at G
 refine Ea 0 108 Tryz.func14 fun _ _ _=>?_
 refine Br 1 fun B G=>?_
 refine Ay <| A4 (ι:=Bool) (fun (x24_1:Bool)=>mk [(2,vj day),(3,vj most),(4,.sl 1 (Ai eI suites)),(5,.ptr 0 0),(6,.ptr 1 0),(10,.ptr 2 0),(24,.val (.bool x24_1))] [(0,.box (Ac.dv client) 29),(1,.box (Ac.dv server) 29),(2,.box [.val (.int .i64 0),.val (.int .i64 0)] 38)] 3) (fun (x24_1:Bool)=>B1.j1 client server day most suites x24_1=some r) ?_ ?_
 exact Cj
 rintro x24_1 G
 unfold B1.j1 at G
 try dsimp only at G
 refine Rp rfl ?_
 refine Kd rfl G (fun _ G=>?_) fun _ G=>?_
 refine Br 1 fun B G=>?_
 refine M6 M8 Tq kM ?_
 exact Cj
 refine Br 1 fun B G=>?_
 refine Ay <| A4 (ι:=Bool) (fun (x39_2:Bool)=>mk [(2,vj day),(3,vj most),(4,.sl 1 (Ai eI suites)),(5,.ptr 0 0),(6,.ptr 1 0),(10,.ptr 2 0),(39,.val (.bool x39_2))] [(0,.box (Ac.dv client) 29),(1,.box (Ac.dv server) 29),(2,.box [.val (.int .i64 0),.val (.int .i64 0)] 38)] 3) (fun (x39_2:Bool)=>B1.j2 client server day most suites x39_2=some r) ?_ ?_
 exact Cj
 rintro x39_2 G
 unfold B1.j2 at G
 try dsimp only at G
 refine Rp rfl ?_
 refine Kd rfl G (fun _ G=>?_) fun _ G=>?_
 refine Br 1 fun B G=>?_
 refine M6 M8 Tq kM ?_
 exact Cj
 refine Br 3 fun B G=>?_
 refine Ay <| A4 (ι:=Bool) (fun (x54_3:Bool)=>mk [(2,vj day),(4,.sl 1 (Ai eI suites)),(5,.ptr 0 0),(6,.ptr 1 0),(10,.ptr 2 0),(12,.val (.int .i64 (min most server.Most))),(54,.val (.bool x54_3))] [(0,.box (Ac.dv client) 29),(1,.box (Ac.dv server) 29),(2,.box [.val (.int .i64 0),.val (.int .i64 0)] 38)] 3) (fun (x54_3:Bool)=>B1.j3 client server day most suites x54_3=some r) ?_ ?_
 exact Cj
 rintro x54_3 G
 unfold B1.j3 at G
 try dsimp only at G
 refine Rp rfl ?_
 refine Kd rfl G (fun _ G=>?_) fun _ G=>?_
 refine Br 1 fun B G=>?_
 refine M6 M8 Tq kM ?_
 exact Cj
 refine Br 2 fun B G=>?_
 refine A4 (ι:=List Int) (fun (order_4:List Int)=>mk [(2,vj day),(4,.sl 1 (Ai eI suites)),(5,.ptr 0 0),(6,.ptr 1 0),(10,.ptr 2 0),(12,.val (.int .i64 (min most server.Most))),(13,.sl 1 (Ai eI order_4))] [(0,.box (Ac.dv client) 29),(1,.box (Ac.dv server) 29),(2,.box [.val (.int .i64 0),.val (.int .i64 0)] 38)] 3) (fun (order_4:List Int)=>B1.j4 client server day most suites order_4=some r) ?_ ?_
 exact Cj
 rintro order_4 G
 unfold B1.j4 at G
 refine Lg 3 fun B G=>?_
 refine He (fun (i_5:Int)=>mk [(2,vj day),(4,.sl 1 (Ai eI suites)),(5,.ptr 0 0),(6,.ptr 1 0),(10,.ptr 2 0),(12,.val (.int .i64 (min most server.Most))),(13,.sl 1 (Ai eI order_4)),(14,vj i_5)] [(0,.box (Ac.dv client) 29),(1,.box (Ac.dv server) 29),(2,.box [.val (.int .i64 0),.val (.int .i64 0)] 38)] 3) G (Cd [(0,0),(1,1),(2,2)]) ?_
 rintro i_5 m5 o5 G hn5
 unfold B1.l5 at G
 refine Lg 2 fun B G=>?_
 refine Kd rfl G (fun _ G=>?_) fun _ G=>?_
 refine Br 3 fun B G=>?_
 refine Ay <| Ay <| Bg (D9 _ _ []) (by kernel_rfl) [0,0,0,0,0,24,56,127,255] 35 107 B rfl rfl (by kernel_rfl) ?_
 refine Jf (.l 3 (.e 1)) fun _ he _ _ _ B G=>?_
 refine Ay <| Bg (D9 _ _ []) (by kernel_rfl) [0,0,0,6,14,31,63,127,127,255,1023] 107 195 B rfl rfl (by kernel_rfl) ?_
 refine Br 2 fun _ _ B G=>?_
 refine Ay <| Ay <| Bg (D9 _ _ []) (by kernel_rfl) [0,1,0,7,15,31,0,64,0,256,0,0,2048,8191,16383] 195 315 B rfl rfl (by kernel_rfl) ?_
 refine Br 4 fun _ _ _ _ B G=>?_
 refine Kd rfl G (fun _ G=>?_) fun _ G=>?_
 refine Br 1 fun B G=>?_
 refine M6 M8 Tq kM ?_
 exact Cj
 refine Br 3 fun B G=>?_
 refine M6 M8 Tq kM ?_
 exact Cj
 refine Br 2 fun B G=>?_
 refine M6 M8 Tq kM ?_
 exact Cj
instance aZ2:Wk 14:=⟨_,@T2⟩
theorem Z9 {a b r} (G:Dj a b=some r):Fn Tryz.prog 15 0 [.sl 1 (Ai eI a),.sl 1 (Ai eI b)] [] (fun d' b'=>d'=.val (.bool r)/\b'=[]):=by
 unfold Dj at G
 refine Ea 0 26 Tryz.func15 fun _ _ _=>?_
 refine Jf (.l 3 (.e 4)) fun _ B G=>?_
 refine He (fun (i_1:Int)=>mk [(0,.sl 1 (Ai eI a)),(1,.sl 1 (Ai eI b)),(5,vj i_1)] [] 0) G (Cd []) ?_
 rintro i_1 m1 o1 G hn1
 unfold Dj.l1 at G
 refine Dx (.r 2 (.e 3)) fun _ B G=>?_
 refine Ay <| Bg (D9 _ _ []) (by kernel_rfl) [0,0,3,7,0,0,48,112,255] 32 104 B rfl rfl (by kernel_rfl) ?_
 exact Cj
instance aXq:Wk 15:=⟨_,@Z9⟩
end Go.Proofs.YtobamahlipiakaaGreat
