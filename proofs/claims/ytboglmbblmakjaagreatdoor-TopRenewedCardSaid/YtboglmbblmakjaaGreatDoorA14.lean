import Derived.Test.YtboglmbblmakjaaGreatDoorT1
import Derived.Test.YtboglmbblmakjaaGreatDoorEU
import Derived.Test.YtboglmbblmakjaaGreatDoorA1
import Derived.Test.YtboglmbblmakjaaGreatDoorA6
import Derived.Test.YtboglmbblmakjaaGreatDoorA7
import Derived.Test.YtboglmbblmakjaaGreatDoorA11
import Derived.Test.YtboglmbblmakjaaGreatDoorA12
import Derived.Test.YtboglmbblmakjaaGreatDoorA13
set_option linter.unusedVariables false
set_option linter.unusedSimpArgs false
set_option maxRecDepth 100000
set_option maxHeartbeats 40000000
namespace Go.Proofs.YtboglmbblmakjaaGreatDoor
open Go.RowKit
theorem Qi {x' r} (G:Iw x'=some r):Fn Tryz.prog 176 0 [.agg (Ap.dv x')] [] (fun d' b'=>d'=.val (.bool r)/\b'=[]):=by
 unfold Iw at G
 refine Ea 0 6 Tryz.func176 fun _ _ _=>?_
 exact C6
instance aZd:Wk 176:=⟨_,@Qi⟩
theorem Ml {s:(List Ap)} {f:Ap->Option (Bool)} (hf_f:∀ (x0:Ap) (y:Bool),f x0=some y->Fn Tryz.prog 176 0 [.agg (Ap.dv x0)] [] (fun d' b'=>d'=.val (.bool y)/\b'=[])) {r:Int} (G:Bl s f=some r):Fn Tryz.prog 117 0 [.sl 7 (Ac Ap.enc s),.clo 176 0 []] [] (fun d' b'=>d'=vk r/\b'=[]):=by
 unfold Bl at G
 refine Ea 0 19 Tryz.func117 fun _ _ _=>?_
 refine Cb 4 fun B G=>?_
 refine Ip (fun (x8_1:Int)=>mk [(0,.sl 7 (Ac Ap.enc s)),(1,.clo 176 0 []),(7,.val (.int .i64 (s.length:Int))),(8,vk x8_1)] [] 0) G (B5 []) ?_
 rintro x8_1 m1 o1 G hn1
 unfold Bl.l1 at G
 refine E6 (.r 2 (.e 7)) fun _ e _ B G=>?_
 obtain⟨y,hy,G⟩:=Af G
 refine F5 (rd:=[]) (ps:=[]) (gs:=[]) false rfl rfl (hf_f e _ hy) rfl rfl (.cons (.agg (.cons .val (.cons .val (.cons .val (.cons .val (.cons .val (.cons .val (.cons .sl .nil)))))))) .nil) rfl rfl (by intro h; cases h) rfl rfl rfl rfl ?_
 exact C6
theorem Ll {s:(List Ap)} {f:Ap->Option (Bool)} (hf_f:∀ (x0:Ap) (y:Bool),f x0=some y->Fn Tryz.prog 176 0 [.agg (Ap.dv x0)] [] (fun d' b'=>d'=.val (.bool y)/\b'=[])) {r:Bool} (G:C1 s f=some r):Fn Tryz.prog 71 0 [.sl 7 (Ac Ap.enc s),.clo 176 0 []] [] (fun d' b'=>d'=.val (.bool r)/\b'=[]):=by
 unfold C1 at G
 refine Ea 0 9 Tryz.func71 fun _ _ _=>?_
 refine Cb 2 fun B G=>?_
 obtain⟨y,hy,G⟩:=Af G
 refine P9 (@Ml s f hf_f _ hy) ?_
 exact C6
theorem Zr {x' u purpose endpoint day r} (G:Pn x' u purpose endpoint day=some r):Fn Tryz.prog 220 0 [.agg (Ap.dv x'),.agg [vk u.Alg,vk u.Bits],vk purpose,ws endpoint,vk day] [] (fun d' b'=>d'=.val (.bool r)/\b'=[]):=by
 unfold Pn at G
 refine Ea 0 41 Tryz.func220 fun _ _ _=>?_
 refine Cb 2 fun B G=>?_
 refine Ex rfl rfl (iV x'.Use u) rfl rfl ?_
 exact C6
instance aZy:Wk 220:=⟨_,@Zr⟩
theorem Uf {x' r} (G:Qf x'=some r):Fn Tryz.prog 242 0 [.agg (Ap.dv x')] [] (fun d' b'=>d'=.tup [.sl 1 (Ac e8 r.1),vk r.2]/\b'=[]):=by
 unfold Qf at G
 refine Ea 0 37 Tryz.func242 fun _ _ _=>?_
 refine Qg (.l 5 (.e 1)) fun _ _ _ B G=>?_
 refine Ar <| Ca (E4 _ _ [240]) (by kernel_rfl) [0,1,3,7,0,16,48,127,0,256,1023,0,2048,8191,0,16384,49152,131071,0,262144,786432,2097151,4194303,8388607,16777215,33554431,33554431,134217727,268435455] 64 296 B rfl rfl (by kernel_rfl) ?_
 refine Cb 6 fun y_2 _ y_3 _ y_4 _ y_5 _ y_6 _ y_7 _ B G=>?_
 refine yT (rd:=[]) rfl rfl (Fm Y3 Vf (by decide) rfl rfl rfl rfl bO (cs:=[.int .i64 y_2.Tag,.sl 1 (Ac e8 y_2.Bytes),.bool y_2.Nested,.sl 4 (Ac Aa.enc y_2.Elements),.int .i64 y_3.Tag,.sl 1 (Ac e8 y_3.Bytes),.bool y_3.Nested,.sl 4 (Ac Aa.enc y_3.Elements),.int .i64 y_4.Tag,.sl 1 (Ac e8 y_4.Bytes),.bool y_4.Nested,.sl 4 (Ac Aa.enc y_4.Elements),.int .i64 y_5.Tag,.sl 1 (Ac e8 y_5.Bytes),.bool y_5.Nested,.sl 4 (Ac Aa.enc y_5.Elements),.int .i64 y_6.Tag,.sl 1 (Ac e8 y_6.Bytes),.bool y_6.Nested,.sl 4 (Ac Aa.enc y_6.Elements),.int .i64 y_7.Tag,.sl 1 (Ac e8 y_7.Bytes),.bool y_7.Nested,.sl 4 (Ac Aa.enc y_7.Elements)]) (.cons .int (.cons .sl (.cons .bool (.cons .sl (.cons .int (.cons .sl (.cons .bool (.cons .sl (.cons .int (.cons .sl (.cons .bool (.cons .sl (.cons .int (.cons .sl (.cons .bool (.cons .sl (.cons .int (.cons .sl (.cons .bool (.cons .sl (.cons .int (.cons .sl (.cons .bool (.cons .sl .nil)))))))))))))))))))))))) rfl (l:=([y_2,y_3,y_4,y_5,y_6,y_7]:List Aa)) (f:=Aa.enc) (by simp only [Ac,aNp,aUm,Aa.enc_eq]; rfl)) rfl rfl rfl ?_
 exact C6
instance bAp:Wk 242:=⟨_,@Uf⟩
theorem aT {x' o r} (G:Cq x' o=some r):Fn Tryz.prog 221 0 [.agg (Ap.dv x'),.agg [.sl 1 (Ac eI o.Keys),vk o.Need]] [] (fun d' b'=>d'=.val (.bool r)/\b'=[]):=by
 unfold Cq at G
 refine Fn.of Tryz.func221 rfl rfl rfl fun w0 I ρ0=>?_
 show Kb _ ⟨w0,I,ρ0,0,0,62,none⟩ _ _ _
 refine Mn 0 24 Gu fun B=>?_
 refine Q1 24 80 B ?_
 refine Il ?_
 obtain⟨y,hy,G⟩:=Af G
 refine P9 (@Uf _ _ hy) ?_
 refine Jp fun B=>?_
 refine Ar <| Ba (ι:=Bool) (fun (x24_1:Bool)=>mk [(2,.ptr 0 0),(3,.ptr 1 0),(5,.sl 1 (Ac e8 y.1)),(24,.val (.bool x24_1))] [(0,.box (Ap.dv x') 177),(1,.box [.sl 1 (Ac eI o.Keys),vk o.Need] 61)] 2) (fun (x24_1:Bool)=>Cq.j1 x' o y x24_1=some r) ?_ ?_
 refine B7 (E4 _ _ []) 80 136 B rfl rfl ?_
 refine Il ?_
 rcases bc_ G with ⟨h3,G⟩ | ⟨h3,G⟩
 refine Jp fun B=>?_
 exact⟨true,G,B5 [(0,0),(1,8)]⟩
 refine Jp fun B=>?_
 exact⟨decide (o.Need < 1),G,B5 [(0,0),(1,8)]⟩
 rintro x24_1 G
 replace G:Cq.j1 x' o y x24_1=some r:=G
 show Kb _ _ _ _ (mk _ _ _)
 unfold Cq.j1 at G
 refine Ji rfl G (fun h6 G=>?_) fun h6 G=>?_
 refine Q1 2 10 Gu ?_
 exact t5_
 refine Ts ?_
 refine Q1 2 18 Gu ?_
 refine Zc (rd:=[]) rfl rfl .makeMap rfl rfl (fun _=>⟨_,rfl⟩) ?_
 rintro _ rfl
 refine Jp fun B=>?_
 refine Ar <| Mn 18 50 B fun B=>?_
 refine Da <| Ip (fun ((x29_2,sums_2):Int×(List (Int×Int)))=>mk [(3,.ptr 0 0),(5,.sl 1 (Ac e8 y.1)),(7,.row 1),(27,.sl 2 (Ac E9.enc x'.Seals)),(28,.val (.int .i64 (x'.Seals.length:Int))),(29,vk x29_2)] [(0,.box [.sl 1 (Ac eI o.Keys),vk o.Need] 61),(1,.map (Vj (vI .i64) (vI .i64) sums_2))] 2) G ((by exact Rs.lists [(0,1),(1,2)] rfl rfl ⟨⟨_,rfl,.ptr rfl⟩,⟨_,rfl,.sl _ _⟩,⟨_,rfl,.row rfl⟩,⟨_,rfl,.sl _ _⟩,⟨_,rfl,.val _⟩,⟨_,rfl,.val _⟩,trivial⟩ ⟨.inl ⟨1,_,rfl,rfl,⟨rfl,.cons (.sl _ _) (.cons (.val _) .nil)⟩⟩,.inl ⟨2,_,rfl,rfl,rfl⟩,trivial⟩)) ?_
 rintro⟨x29_2,sums_2⟩ m2 o2 G hn2
 replace G:Cq.l2 x' o y x29_2 sums_2=some o2:=G
 show Kb _ _ _ _ (mk _ _ _)
 unfold Cq.l2 at G
 refine Mn 2 10 Gu fun B=>?_
 refine Ar <| Ji rfl G (fun h11 G=>?_) fun h11 G=>?_
 refine Ts ?_
 refine Ar <| Da <| Q1 10 42 B ?_
 obtain⟨e,he,G⟩:=Af G
 refine Il ?_
 refine lE_ he ?_
 refine Jp fun B=>?_
 refine B7 (E4 _ _ []) 42 90 B rfl rfl ?_
 refine Il ?_
 refine Zc (rd:=[1]) rfl rfl (qP (f:=(vI .i64)) (g:=(vI .i64)) (l:=sums_2) (key:=e.Key) (v:=e.Sum) xZ (aNj aCj) rfl rfl (.head _)) rfl rfl (fun _=>⟨_,rfl⟩) ?_
 rintro _ rfl
 refine Xu fun B=>?_
 refine B7 (E4 _ _ []) 90 106 B rfl rfl ?_
 refine Jp fun B=>?_
 obtain rfl:=oi_ G
 exact⟨((W (x29_2 + 1),Rc sums_2 e.Key e.Sum),m2),aKf _,hn2,(by exact Rs.lists [(0,0),(1,1)] rfl rfl ⟨⟨_,rfl,.ptr rfl⟩,⟨_,rfl,.sl _ _⟩,⟨_,rfl,.row rfl⟩,⟨_,rfl,.sl _ _⟩,⟨_,rfl,.val _⟩,⟨_,rfl,.val _⟩,trivial⟩ ⟨.inl ⟨0,_,rfl,rfl,⟨rfl,.cons (.sl _ _) (.cons (.val _) .nil)⟩⟩,.inl ⟨1,_,rfl,rfl,rfl⟩,trivial⟩)⟩
 refine iC ?_
 replace G:=Lt G hn2
 refine Mn 10 18 B fun B=>?_
 refine Ar <| Q1 18 34 B ?_
 refine Il ?_
 refine Zc (rd:=[1]) rfl rfl (.range xZ (.head _)) rfl rfl (fun _=>⟨_,rfl⟩) ?_
 rintro _ rfl
 refine Xu fun B=>?_
 refine Da <| aW3 (fun sn3 (count_3:Int)=>mk [(3,.ptr 0 0),(5,.sl 1 (Ac e8 y.1)),(10,vk count_3),(40,.ptr 1 0)] [(0,.box [.sl 1 (Ac eI o.Keys),vk o.Need] 61),(1,.mit 2 ((Vj (vI .i64) (vI .i64) sums_2).length) sn3),(2,.map (Vj (vI .i64) (vI .i64) sums_2))] 3) G ((by exact Rs.lists [(0,0),(1,26),(2,1)] rfl rfl ⟨⟨_,rfl,.ptr rfl⟩,⟨_,rfl,.sl _ _⟩,⟨_,rfl,.val _⟩,⟨_,rfl,.ptr rfl⟩,trivial⟩ ⟨.inl ⟨0,_,rfl,rfl,⟨rfl,.cons (.sl _ _) (.cons (.val _) .nil)⟩⟩,.inl ⟨26,_,rfl,rfl,⟨rfl,rfl,rfl⟩⟩,.inl ⟨1,_,rfl,rfl,rfl⟩,trivial⟩)) ?_
 rintro count_3 sn3 hm3
 show Kb _ _ _ _ (mk _ _ _)
 refine Q1 3 19 Gu ?_
 refine Zc (rd:=[1,2]) rfl rfl (.next (.head _) (.tail _ (.head _)) rfl) rfl rfl (fun _=>aG7 rfl) ?_
 rintro _ (⟨hall17,rfl⟩ | ⟨ix17,pp17,hi17,hni17,rfl⟩)
 obtain⟨o3,G,hn3⟩:=MH.fin hm3 (aCc hall17)
 replace G:Cq.e3 o count_3=some o3:=G
 unfold Cq.e3 at G
 refine Jp fun B=>?_
 refine Ar <| Vg rfl (fun h=>?_) (fun h=>?_)
 exact absurd h (by first | decide | exact fun h=>nomatch (show false=true from h) | exact fun h=>nomatch (show true=false from h))
 refine iC ?_
 replace G:=Lt G hn3
 refine Mn 19 59 B fun B=>?_
 exact t3_
 obtain⟨kv,hx17,rfl⟩:=aGe hi17
 obtain⟨o3,G,hn3⟩:=MH.el hm3 hx17 hni17
 have hlt3:=aIx (aBe.1 hx17).1 hni17
 replace G:Cq.l3 o y kv count_3=some o3:=G
 unfold Cq.l3 at G
 refine Jp fun B=>?_
 refine Ar <| Vg rfl (fun h=>?_) (fun h=>?_)
 refine Ts ?_
 refine Da <| Q1 19 59 B ?_
 refine Zc (rd:=[1,2]) rfl rfl (.entry (.head _) (.tail _ (.head _)) rfl (aNh hx17)) rfl rfl (fun _=>⟨_,rfl⟩) ?_
 rintro _ rfl
 refine Jp fun B=>?_
 refine Ba (ι:=Bool) (fun (x55_4:Bool)=>mk [(3,.ptr 0 0),(5,.sl 1 (Ac e8 y.1)),(10,vk count_3),(40,.ptr 1 0),(55,.val (.bool x55_4))] [(0,.box [.sl 1 (Ac eI o.Keys),vk o.Need] 61),(1,.mit 2 ((Vj (vI .i64) (vI .i64) sums_2).length) (sn3 ++ [ix17])),(2,.map (Vj (vI .i64) (vI .i64) sums_2))] 3) (fun (x55_4:Bool)=>Cq.j4 count_3 x55_4=some o3) ?_ ?_
 refine B7 (E4 _ _ []) 59 139 B rfl rfl ?_
 refine Il ?_
 obtain⟨y_2,hy_2,G⟩:=Af G
 refine P9 (@T7 _ _ hy_2) ?_
 refine Il ?_
 rcases bc_ G with ⟨h21,G⟩ | ⟨h21,G⟩
 refine Il ?_
 obtain⟨y_3,hy_3,G⟩:=Af G
 refine P9 (@Np _ _ _ hy_3) ?_
 refine Jp fun B=>?_
 exact⟨y_3,G,(by exact Rs.lists [(0,0),(1,1),(2,2)] rfl rfl ⟨⟨_,rfl,.ptr rfl⟩,⟨_,rfl,.sl _ _⟩,⟨_,rfl,.val _⟩,⟨_,rfl,.ptr rfl⟩,⟨_,rfl,.val _⟩,trivial⟩ ⟨.inl ⟨0,_,rfl,rfl,⟨rfl,.cons (.sl _ _) (.cons (.val _) .nil)⟩⟩,.inl ⟨1,_,rfl,rfl,⟨rfl,rfl,rfl⟩⟩,.inl ⟨2,_,rfl,rfl,rfl⟩,trivial⟩)⟩
 refine Jp fun B=>?_
 exact⟨false,G,(by exact Rs.lists [(0,0),(1,1),(2,2)] rfl rfl ⟨⟨_,rfl,.ptr rfl⟩,⟨_,rfl,.sl _ _⟩,⟨_,rfl,.val _⟩,⟨_,rfl,.ptr rfl⟩,⟨_,rfl,.val _⟩,trivial⟩ ⟨.inl ⟨0,_,rfl,rfl,⟨rfl,.cons (.sl _ _) (.cons (.val _) .nil)⟩⟩,.inl ⟨1,_,rfl,rfl,⟨rfl,rfl,rfl⟩⟩,.inl ⟨2,_,rfl,rfl,rfl⟩,trivial⟩)⟩
 rintro x55_4 G
 replace G:Cq.j4 count_3 x55_4=some o3:=G
 show Kb _ _ _ _ (mk _ _ _)
 unfold Cq.j4 at G
 refine Ji rfl G (fun h24 G=>?_) fun h24 G=>?_
 refine B7 (E4 _ _ []) 3 27 Gu rfl rfl ?_
 refine Jp fun B=>?_
 obtain rfl:=oi_ G
 exact⟨(_,W (count_3 + 1)),hlt3,rW hn3,(by exact Rs.lists [(0,0),(1,1),(2,2)] rfl rfl ⟨⟨_,rfl,.ptr rfl⟩,⟨_,rfl,.sl _ _⟩,⟨_,rfl,.val _⟩,⟨_,rfl,.ptr rfl⟩,trivial⟩ ⟨.inl ⟨0,_,rfl,rfl,⟨rfl,.cons (.sl _ _) (.cons (.val _) .nil)⟩⟩,.inl ⟨1,_,rfl,rfl,⟨rfl,rfl,rfl⟩⟩,.inl ⟨2,_,rfl,rfl,rfl⟩,trivial⟩)⟩
 refine Ts ?_
 obtain rfl:=oi_ G
 exact⟨(_,count_3),hlt3,rW hn3,(by exact Rs.lists [(0,0),(1,1),(2,2)] rfl rfl ⟨⟨_,rfl,.ptr rfl⟩,⟨_,rfl,.sl _ _⟩,⟨_,rfl,.val _⟩,⟨_,rfl,.ptr rfl⟩,trivial⟩ ⟨.inl ⟨0,_,rfl,rfl,⟨rfl,.cons (.sl _ _) (.cons (.val _) .nil)⟩⟩,.inl ⟨1,_,rfl,rfl,⟨rfl,rfl,rfl⟩⟩,.inl ⟨2,_,rfl,rfl,rfl⟩,trivial⟩)⟩
 exact absurd h (by first | decide | exact fun h=>nomatch (show false=true from h) | exact fun h=>nomatch (show true=false from h))
instance aY3:Wk 221:=⟨_,@aT⟩
theorem cZ {l o u purpose endpoint day r} (G:D0 l o u purpose endpoint day=some r):Fn Tryz.prog 177 0 [.sl 7 (Ac Ap.enc l),.agg [.sl 1 (Ac eI o.Keys),vk o.Need],.agg [vk u.Alg,vk u.Bits],vk purpose,ws endpoint,vk day] [] (fun d' b'=>d'=.tup [vk r.1,.val (.bool r.2)]/\b'=[]):=by
 unfold D0 at G
 refine Ea 0 43 Tryz.func177 fun _ _ _=>?_
 refine Cb 5 fun B G=>?_
 refine Ip (fun ((most_1,some_1,x20_1):Int×Bool×Int)=>mk [(3,vk purpose),(4,ws endpoint),(5,vk day),(7,.ptr 0 0),(8,.ptr 1 0),(14,vk most_1),(15,.val (.bool some_1)),(18,.sl 7 (Ac Ap.enc l)),(19,.val (.int .i64 (l.length:Int))),(20,vk x20_1)] [(0,.box [.sl 1 (Ac eI o.Keys),vk o.Need] 61),(1,.box [vk u.Alg,vk u.Bits] 49)] 2) G (B5 [(0,0),(1,8)]) ?_
 rintro⟨most_1,some_1,x20_1⟩ m1 o1 G hn1
 unfold D0.l1 at G
 refine E6 (.r 2 (.e 1)) fun _ B G=>?_
 refine Ba (ι:=Int×Bool) (fun ((most_3,some_3):Int×Bool)=>mk [(3,vk purpose),(4,ws endpoint),(5,vk day),(7,.ptr 0 0),(8,.ptr 1 0),(14,vk most_3),(15,.val (.bool some_3)),(18,.sl 7 (Ac Ap.enc l)),(19,.val (.int .i64 (l.length:Int))),(20,vk x20_1)] [(0,.box [.sl 1 (Ac eI o.Keys),vk o.Need] 61),(1,.box [vk u.Alg,vk u.Bits] 49)] 2) (fun ((most_3,some_3):Int×Bool)=>D0.j3 x20_1 most_3 some_3=some o1) ?_ ?_
 refine Cb 4 fun e _ B G=>?_
 refine Ba (ι:=Bool) (fun (x34_2:Bool)=>mk [(3,vk purpose),(4,ws endpoint),(5,vk day),(7,.ptr 0 0),(8,.ptr 1 0),(14,vk most_1),(15,.val (.bool some_1)),(17,.ptr 2 0),(18,.sl 7 (Ac Ap.enc l)),(19,.val (.int .i64 (l.length:Int))),(20,vk x20_1),(34,.val (.bool x34_2))] [(0,.box [.sl 1 (Ac eI o.Keys),vk o.Need] 61),(1,.box [vk u.Alg,vk u.Bits] 49),(2,.box (Ap.dv e) 177)] 3) (fun (x34_2:Bool)=>D0.j2 most_1 some_1 x20_1 e x34_2=some o1) ?_ ?_
 exact C6
 rintro x34_2 G
 unfold D0.j2 at G
 exact Ik
 rintro⟨most_3,some_3⟩ G
 unfold D0.j3 at G
 exact Ik
instance aZi:Wk 177:=⟨_,@cZ⟩
theorem Yv {p l o u purpose endpoint day r} (G:Ka p l o u purpose endpoint day=some r):Fn Tryz.prog 122 0 [.agg [.sl 6 (Ac Al.enc p.Rules),.sl 2 (Ac Bk.enc p.Keeps)],.sl 7 (Ac Ap.enc l),.agg [.sl 1 (Ac eI o.Keys),vk o.Need],.agg [vk u.Alg,vk u.Bits],vk purpose,ws endpoint,vk day] [] (fun d' b'=>d'=.tup [.val (.bool r.1),vk r.2]/\b'=[]):=by
 unfold Ka at G
 refine Ea 0 51 Tryz.func122 fun _ _ _=>?_
 refine Qg (.l 6 (.e 1)) fun _ _ _ B G=>?_
 obtain⟨y_2,hy_2,G⟩:=Af G
 refine P9 (@Ll l (fun x0=>Iw x0) (fun x0 yy hh=>@Qi x0 yy hh) _ hy_2) ?_
 exact C6
instance aZ1:Wk 122:=⟨_,@Yv⟩
theorem Wv {p l o server out day r} (G:De p l o server out day=some r):Fn Tryz.prog 75 0 [.agg [.sl 6 (Ac Al.enc p.Rules),.sl 2 (Ac Bk.enc p.Keeps)],.sl 7 (Ac Ap.enc l),.agg [.sl 1 (Ac eI o.Keys),vk o.Need],.agg (Ad.dv server),.agg [vk out.Version,vk out.Suite],vk day] [] (fun d' b'=>d'=.tup [.val (.bool r.1),vk r.2]/\b'=[]):=by
 unfold De at G
 refine Ea 0 57 Tryz.func75 fun _ _ _=>?_
 refine Qg (.l 5 (.e 5)) fun y _ _ B G=>?_
 refine Ip (fun ((forbidden_1,x32_1):Bool×Int)=>mk [(1,.sl 7 (Ac Ap.enc l)),(5,vk day),(6,.ptr 0 0),(8,.ptr 1 0),(9,.ptr 2 0),(16,.val (.bool forbidden_1)),(30,.sl 2 (Ac Ah.enc y.1)),(31,.val (.int .i64 (y.1.length:Int))),(32,vk x32_1)] [(0,.box [.sl 6 (Ac Al.enc p.Rules),.sl 2 (Ac Bk.enc p.Keeps)] 39),(1,.box [.sl 1 (Ac eI o.Keys),vk o.Need] 61),(2,.box (Ad.dv server) 83)] 3) G (B5 [(0,0),(1,8),(2,16)]) ?_
 rintro⟨forbidden_1,x32_1⟩ m1 o1 G hn1
 unfold De.l1 at G
 refine E6 (.r 2 (.e 1)) fun _ B G=>?_
 refine Ba (ι:=Bool) (fun (forbidden_2:Bool)=>mk [(1,.sl 7 (Ac Ap.enc l)),(5,vk day),(6,.ptr 0 0),(8,.ptr 1 0),(9,.ptr 2 0),(16,.val (.bool forbidden_2)),(30,.sl 2 (Ac Ah.enc y.1)),(31,.val (.int .i64 (y.1.length:Int))),(32,vk x32_1)] [(0,.box [.sl 6 (Ac Al.enc p.Rules),.sl 2 (Ac Bk.enc p.Keeps)] 39),(1,.box [.sl 1 (Ac eI o.Keys),vk o.Need] 61),(2,.box (Ad.dv server) 83)] 3) (fun (forbidden_2:Bool)=>De.j2 x32_1 forbidden_2=some o1) ?_ ?_
 exact C6
 rintro forbidden_2 G
 unfold De.j2 at G
 exact Ik
instance bCx:Wk 75:=⟨_,@Wv⟩
theorem Ra {w c0 r} (G:Hv w c0=some r):Fn Tryz.prog 180 0 [.agg (Ai.dv w),.elt (([.int .i64 c0.Version,.int .i64 c0.Suite]:List C).drop 0)] [] (fun d' b'=>d'=.val (.bool r)/\b'=[]):=by
 unfold Hv at G
 refine Ea 0 8 Tryz.func180 fun _ _ _=>?_
 refine Cb 2 fun B G=>?_
 refine Ex rfl rfl (Kr aC8 (cs2:=[.int .i64 c0.Version,.int .i64 c0.Suite]) rfl (aC1 rfl)) rfl rfl ?_
 refine Ex rfl rfl (sZ w.Outcome c0) rfl rfl ?_
 exact C6
instance aXm:Wk 180:=⟨_,@Ra⟩
theorem L5 {s:(List Ai)} {f:Ai->Option (Bool)} {f_c0:C8} (hf_f:∀ (x0:Ai) (y:Bool),f x0=some y->Fn Tryz.prog 180 0 [.agg (Ai.dv x0),.elt (([.int .i64 f_c0.Version,.int .i64 f_c0.Suite]:List C).drop 0)] [] (fun d' b'=>d'=.val (.bool y)/\b'=[])) {r:Int} (G:Cu s f=some r):Fn Tryz.prog 222 0 [.sl 4 (Ac Ai.enc s),.clo 180 0 [.elt (([.int .i64 f_c0.Version,.int .i64 f_c0.Suite]:List C).drop 0)]] [] (fun d' b'=>d'=vk r/\b'=[]):=by
 unfold Cu at G
 refine Ea 0 19 Tryz.func222 fun _ _ _=>?_
 refine Cb 4 fun B G=>?_
 refine Ip (fun (x8_1:Int)=>mk [(0,.sl 4 (Ac Ai.enc s)),(1,.clo 180 0 [.elt (([.int .i64 f_c0.Version,.int .i64 f_c0.Suite]:List C).drop 0)]),(7,.val (.int .i64 (s.length:Int))),(8,vk x8_1)] [] 0) G (B5 []) ?_
 rintro x8_1 m1 o1 G hn1
 unfold Cu.l1 at G
 refine E6 (.r 2 (.e 7)) fun _ e _ B G=>?_
 obtain⟨y,hy,G⟩:=Af G
 refine F5 (rd:=[]) (ps:=[]) (gs:=[]) false rfl rfl (hf_f e _ hy) rfl rfl (.cons (.agg (.cons .val (.cons .val (.cons .val (.cons .sl .nil))))) (.cons .elt .nil)) rfl rfl (by intro h; cases h) rfl rfl rfl rfl ?_
 exact C6
theorem Lg {s:(List Ai)} {f:Ai->Option (Bool)} {f_c0:C8} (hf_f:∀ (x0:Ai) (y:Bool),f x0=some y->Fn Tryz.prog 180 0 [.agg (Ai.dv x0),.elt (([.int .i64 f_c0.Version,.int .i64 f_c0.Suite]:List C).drop 0)] [] (fun d' b'=>d'=.val (.bool y)/\b'=[])) {r:Bool} (G:Gp s f=some r):Fn Tryz.prog 179 0 [.sl 4 (Ac Ai.enc s),.clo 180 0 [.elt (([.int .i64 f_c0.Version,.int .i64 f_c0.Suite]:List C).drop 0)]] [] (fun d' b'=>d'=.val (.bool r)/\b'=[]):=by
 unfold Gp at G
 refine Ea 0 9 Tryz.func179 fun _ _ _=>?_
 refine Cb 2 fun B G=>?_
 obtain⟨y,hy,G⟩:=Af G
 refine P9 (@L5 s f f_c0 hf_f _ hy) ?_
 exact C6
theorem Ph {most suites c0 c1 c2 c3 r} (G:Es most suites c0 c1 c2 c3=some r):Fn Tryz.prog 178 1 [vk most,.sl 1 (Ac eI suites),.elt (((Ad.ec c0):List C).drop 0),.elt (((Ad.ec c1):List C).drop 0),.elt (([.int .i64 c2]:List C).drop 0),.ptr 0 0] [.box [.row 1] 186,.row 190 4 (Ac Ai.enc c3)] (fun d' b'=>d'=.tup []/\b'=[.box [.row 1] 186,.row 190 4 (Ac Ai.enc r)]):=by
 unfold Es at G
 refine Ea 2 35 Tryz.func178 fun _ _ _=>?_
 refine Cb 1 fun G=>?_
 refine Ex rfl rfl (Kr aPi (cs2:=(Ad.ec c0)) rfl (aC1 rfl)) rfl rfl ?_
 refine Ex rfl rfl (Kr aPi (cs2:=(Ad.ec c1)) rfl (aC1 rfl)) rfl rfl ?_
 refine Ex rfl rfl (Eb Z4 (c:=.int .i64 c2) rfl) rfl rfl ?_
 refine Cb 1 fun y _ B G=>?_
 refine Ba (ι:=Bool) (fun (x26_2:Bool)=>mk [(0,vk most),(1,.sl 1 (Ac eI suites)),(5,.ptr 0 0),(8,.elt (([.int .i64 y.1.Version,.int .i64 y.1.Suite]:List C).drop 0)),(26,.val (.bool x26_2))] [(0,.box [.row 1] 186),(1,.row 190 4 (Ac Ai.enc c3))] 2) (fun (x26_2:Bool)=>Es.j2 most suites c3 y x26_2=some r) ?_ ?_
 refine Gs (σ':=mk [(0,vk most),(1,.sl 1 (Ac eI suites)),(5,.ptr 0 0),(8,.elt (([.int .i64 y.1.Version,.int .i64 y.1.Suite]:List C).drop 0)),(9,vk y.2)] [(0,.box [.row 1] 186),(1,.row 190 4 (Ac Ai.enc c3))] 2) ((by exact Rs.lists [(0,0),(1,1)] rfl rfl ⟨⟨_,rfl,.val _⟩,⟨_,rfl,.sl _ _⟩,⟨_,rfl,.ptr rfl⟩,⟨_,rfl,.frzb (ks:=[none,none]) rfl (.cons .int (.cons .int .nil)) (H3 rfl)⟩,⟨_,rfl,.val _⟩,trivial⟩ ⟨.inl ⟨0,_,rfl,rfl,⟨rfl,.cons (.row rfl) .nil⟩⟩,.inl ⟨1,_,rfl,rfl,⟨rfl,rfl,rfl⟩⟩,trivial⟩)) ?_
 refine Qg (.r 1 (.e 0)) fun _ B G=>?_
 obtain⟨y_2,hy_2,G⟩:=Af G
 refine dO [1] [] [] true (@Lg c3 (fun x0=>Hv x0 y.1) y.1 (fun x0 yy hh=>@Ra x0 y.1 yy hh) _ hy_2) ?_
 exact C6
 rintro x26_2 G
 unfold Es.j2 at G
 refine E6 (.r 0 (.e 0)) fun _ B G=>?_
 refine Ca (E4 _ _ []) (by kernel_rfl) [0,0,0,0,8,30,62,127,255] 2 74 Gu rfl rfl (by kernel_rfl) ?_
 refine Cb 0 fun B G=>?_
 refine Ex rfl rfl (Kr aC8 (cs2:=[.int .i64 y.1.Version,.int .i64 y.1.Suite]) rfl (aC1 rfl)) rfl rfl ?_
 refine Cb 1 fun y_3 _ B G=>?_
 refine Ox aC5 aRv aHb ?_
 refine Kv aDn aHb yC ([(Ai.mk y.1 most y_3)]:List Ai) Ai.enc ?_
 exact C6
instance aZe:Wk 178:=⟨_,@Ph⟩
theorem Zm {code weak r} (G:Ko code weak=some r):Fn Tryz.prog 181 0 [vk code,vk weak] [] (fun d' b'=>d'=.val (.bool r)/\b'=[]):=by
 unfold Ko at G
 refine Ea 0 21 Tryz.func181 fun _ _ _=>?_
 exact C6
instance aYv:Wk 181:=⟨_,@Zm⟩
theorem Sg {a b r} (G:F2 a b=some r):Fn Tryz.prog 183 0 [.agg (Ai.dv a),.agg (Ai.dv b)] [] (fun d' b'=>d'=vk r/\b'=[]):=by
 unfold F2 at G
 refine Ea 0 21 Tryz.func183 fun _ _ _=>?_
 refine Cb 1 fun B G=>?_
 refine Ar <| Ca (E4 _ _ []) (by kernel_rfl) [0,1,3,0,8,24,63,0,128,384,0,1024,3072,8191,16383,32767,65535] 24 160 B rfl rfl (by kernel_rfl) ?_
 refine Cb 2 fun y _ y_2 _ B G=>?_
 refine Kv Hz z3 Pp ([y,y_2]:List Int) eI ?_
 obtain⟨y_3,hy_3,G⟩:=Af G
 refine dO [136] [] [] true (V0 hy_3) ?_
 exact C6
instance bAo:Wk 183:=⟨_,@Sg⟩
theorem K4 {data:List Ai} {a:Int} {b:Int} {cmp:Ai->Ai->Option (Int)} (hf_cmp:∀ (x0:Ai) (x1:Ai) (y:Int),cmp x0 x1=some y->Fn Tryz.prog 183 0 [.agg (Ai.dv x0),.agg (Ai.dv x1)] [] (fun d' b'=>d'=vk y/\b'=[])) {r:(List Ai)} (G:An data a b cmp=some r):Fn Tryz.prog 244 1 [.row 0,vk a,vk b,.clo 183 0 []] [.row 190 4 (Ac Ai.enc data)] (fun d' b'=>d'=.tup []/\b'=[.row 190 4 (Ac Ai.enc r)]):=by
 unfold An at G
 refine Ea 1 53 Tryz.func244 fun _ _ _=>?_
 refine Cb 2 fun B G=>?_
 refine Ip (fun ((i_1,data_1):Int×List Ai)=>mk [(0,.row 0),(1,vk a),(2,vk b),(3,.clo 183 0 []),(8,vk i_1)] [(0,.row 190 4 (Ac Ai.enc data_1))] 1) G (B5 [(0,0)]) ?_
 rintro⟨i_1,data_1⟩ m1 o1 G hn1
 unfold An.l1 at G
 refine E6 (.r 2 (.e 5)) fun _ B G=>?_
 refine Ip (fun ((j_2,data_2):Int×List Ai)=>mk [(0,.row 0),(1,vk a),(2,vk b),(3,.clo 183 0 []),(8,vk i_1),(9,vk j_2)] [(0,.row 190 4 (Ac Ai.enc data_2))] 1) G (B5 [(0,0)]) ?_
 rintro⟨j_2,data_2⟩ m2 o2 G hn2
 unfold An.l2 at G
 try dsimp only at G
 refine X5 rfl ?_
 refine Ar <| Ba (ι:=Bool) (fun (x34_3:Bool)=>mk [(0,.row 0),(1,vk a),(2,vk b),(3,.clo 183 0 []),(8,vk i_1),(9,vk j_2),(34,.val (.bool x34_3))] [(0,.row 190 4 (Ac Ai.enc data_2))] 1) (fun (x34_3:Bool)=>An.j3 i_1 j_2 data_2 x34_3=some o2) ?_ ?_
 refine Ca (E4 _ _ []) (by kernel_rfl) [0,0,3,7,15,15,15,111,239,15,15,1039,3599,7695,16383,32767,65535] 1 137 Gu rfl rfl (by kernel_rfl) ?_
 refine Qg (.r 0 (.e 4)) fun h5 e _ e_2 _ B G=>?_
 obtain⟨y,hy,G⟩:=Af G
 refine F5 (rd:=[]) (ps:=[]) (gs:=[]) false (Mq rfl rfl h5) rfl (hf_cmp e e_2 _ hy) rfl rfl (.cons (.agg (.cons .val (.cons .val (.cons .val (.cons .sl .nil))))) (.cons (.agg (.cons .val (.cons .val (.cons .val (.cons .sl .nil))))) .nil)) rfl rfl (by intro h; cases h) rfl rfl rfl rfl ?_
 exact C6
 rintro x34_3 G
 unfold An.j3 at G
 refine E6 (.r 0 (.e 3)) fun _ B G=>?_
 refine Ca (E4 _ _ []) (by kernel_rfl) [0,0,0,0,8,0,0,64,224,480,0,0,3072,7168,16355,32739,65535,131071] 1 145 Gu rfl rfl (by kernel_rfl) ?_
 refine Cb 4 fun e_3 _ e_4 he_4 B G=>?_
 refine sR_ yC he_4 (x':=e_3) ?_
 refine Cb 1 fun _ he_5 B G=>?_
 refine sR_ yC he_5 (x':=e_4) ?_
 exact C6
theorem M2 {data:List Ai} {a:Int} {b:Int} {limit:Int} {cmp:Ai->Ai->Option (Int)} (hf_cmp:∀ (x0:Ai) (x1:Ai) (y:Int),cmp x0 x1=some y->Fn Tryz.prog 183 0 [.agg (Ai.dv x0),.agg (Ai.dv x1)] [] (fun d' b'=>d'=vk y/\b'=[])) {r:(List Ai)} (G:Ck data a b limit cmp=some r):Fn Tryz.prog 223 1 [.row 0,vk a,vk b,vk limit,.clo 183 0 []] [.row 190 4 (Ac Ai.enc data)] (fun d' b'=>d'=.tup []/\b'=[.row 190 4 (Ac Ai.enc r)]):=by
 unfold Ck at G
 refine Ea 1 148 Tryz.func223 fun _ _ _=>?_
 refine Cb 3 fun B G=>?_
 refine Ip (fun (_:Unit)=>mk [(0,.row 0),(1,vk a),(2,vk b),(3,vk limit),(4,.clo 183 0 []),(10,.val (.bool true)),(11,.val (.bool true))] [(0,.row 190 4 (Ac Ai.enc data))] 1) G (B5 [(0,0)]) ?_
 rintro _ m1 o1 G hn1
 unfold Ck.l1 at G
 refine Q4 4 fun B G=>?_
 refine Ji rfl G (fun _ G=>?_) fun _ G=>?_
 refine Cb 1 fun B G=>?_
 obtain⟨y,hy,G⟩:=Af G
 refine dO [0] [0] [] false (@K4 data a b cmp hf_cmp _ hy) ?_
 exact C6
 refine Cb 3 fun B G=>?_
 refine Ji rfl G (fun _ G=>?_) fun _ G=>?_
 refine Cb 1 fun B G=>?_
 cases G
 refine Cb 3 fun B G=>?_
 refine Vg rfl (fun h=>?_) (fun h=>?_)
 exact absurd h (by first | decide | exact fun h=>nomatch (show false=true from h) | exact fun h=>nomatch (show true=false from h))
 refine Cb 2 fun B G=>?_
 cases G
theorem Oy {x':List Ai} {cmp:Ai->Ai->Option (Int)} (hf_cmp:∀ (x0:Ai) (x1:Ai) (y:Int),cmp x0 x1=some y->Fn Tryz.prog 183 0 [.agg (Ai.dv x0),.agg (Ai.dv x1)] [] (fun d' b'=>d'=vk y/\b'=[])) {r:(List Ai)} (G:Hn x' cmp=some r):Fn Tryz.prog 182 1 [.row 0,.clo 183 0 []] [.row 190 4 (Ac Ai.enc x')] (fun d' b'=>d'=.tup []/\b'=[.row 190 4 (Ac Ai.enc r)]):=by
 unfold Hn at G
 refine Ea 1 14 Tryz.func182 fun _ _ _=>?_
 refine Cb 4 fun y _ B G=>?_
 obtain⟨y_2,hy_2,G⟩:=Af G
 refine dO [0] [0] [] false (@M2 x' 0 (x'.length:Int) y cmp hf_cmp _ hy_2) ?_
 exact C6
theorem fA {client server day weak r} (G:Bg client server day weak=some r):Fn Tryz.prog 123 0 [.agg (Ad.dv client),.agg (Ad.dv server),vk day,vk weak] [] (fun d' b'=>d'=.tup [.sl 4 (Ac Ai.enc r.1),vk r.2]/\b'=[]):=by
 unfold Bg at G
 refine Ea 0 87 Tryz.func123 fun _ _ _=>?_
 refine Cb 3 fun B G=>?_
 refine Ba (ι:=Bool) (fun (x17_1:Bool)=>mk [(3,vk weak),(4,.ptr 0 0),(5,.ptr 1 0),(6,.ptr 2 0),(17,.val (.bool x17_1))] [(0,.box (Ad.dv client) 83),(1,.box (Ad.dv server) 83),(2,.box [vk day] 3)] 3) (fun (x17_1:Bool)=>Bg.j1 client server day weak x17_1=some r) ?_ ?_
 exact C6
 rintro x17_1 G
 unfold Bg.j1 at G
 refine E6 (.l 0 (.e 0)) fun _ B G=>?_
 refine Ba (ι:=Bool) (fun (x26_2:Bool)=>mk [(3,vk weak),(4,.ptr 0 0),(5,.ptr 1 0),(6,.ptr 2 0),(26,.val (.bool x26_2))] [(0,.box (Ad.dv client) 83),(1,.box (Ad.dv server) 83),(2,.box [vk day] 3)] 3) (fun (x26_2:Bool)=>Bg.j2 client server day weak x26_2=some r) ?_ ?_
 exact C6
 rintro x26_2 G
 unfold Bg.j2 at G
 refine E6 (.l 0 (.e 2)) fun _ B G=>?_
 refine Ar <| Gs (σ':=mk [(3,vk weak),(4,.ptr 0 0),(5,.ptr 1 0),(6,.ptr 2 0),(10,.ptr 3 0)] [(0,.box (Ad.dv client) 83),(1,.box (Ad.dv server) 83),(2,.box [vk day] 3),(3,.box [.row 4] 186),(4,.row 190 4 (Ac Ai.enc ([]:List Ai)))] 5) (B5 [(0,0),(1,1),(2,2),(3,3)]) ?_
 refine Gs (σ':=mk [(3,vk weak),(4,.elt (((Ad.ec client):List C).drop 0)),(5,.elt (((Ad.ec server):List C).drop 0)),(6,.elt (([.int .i64 day]:List C).drop 0)),(10,.ptr 0 0)] [(0,.box [.row 1] 186),(1,.row 190 4 (Ac Ai.enc ([]:List Ai)))] 2) ((by exact Rs.lists [(0,3),(1,4)] rfl rfl ⟨⟨_,rfl,.val _⟩,⟨_,rfl,.frzb (ks:=[none,none,none,some 1,none,some 4,some 1,some 1,none]) rfl (.cons .str (.cons .int (.cons .int (.cons .sl (.cons .bool (.cons .sl (.cons .sl (.cons .sl (.cons .bool .nil))))))))) (H3 rfl)⟩,⟨_,rfl,.frzb (ks:=[none,none,none,some 1,none,some 4,some 1,some 1,none]) rfl (.cons .str (.cons .int (.cons .int (.cons .sl (.cons .bool (.cons .sl (.cons .sl (.cons .sl (.cons .bool .nil))))))))) (H3 rfl)⟩,⟨_,rfl,.frzb (ks:=[none]) rfl (.cons .int .nil) (H3 rfl)⟩,⟨_,rfl,.ptr rfl⟩,trivial⟩ ⟨.inl ⟨3,_,rfl,rfl,⟨rfl,.cons (.row rfl) .nil⟩⟩,.inl ⟨4,_,rfl,rfl,⟨rfl,rfl,rfl⟩⟩,trivial⟩)) ?_
 refine Cb 2 fun B G=>?_
 refine Ex rfl rfl (Ja oX Z4 (by decide) (aC1 rfl)) rfl rfl ?_
 refine Ex rfl rfl (Eb Z4 (c:=.int .i64 client.Most) rfl) rfl rfl ?_
 refine Cb 0 fun B G=>?_
 refine Ba (ι:=Int) (fun (least_5:Int)=>mk [(3,vk weak),(4,.elt (((Ad.ec client):List C).drop 0)),(10,.ptr 0 0),(11,.clo 178 0 [.elt (((Ad.ec client):List C).drop 0),.elt (((Ad.ec server):List C).drop 0),.elt (([.int .i64 day]:List C).drop 0),.ptr 0 0]),(12,vk least_5)] [(0,.box [.row 1] 186),(1,.row 190 4 (Ac Ai.enc ([]:List Ai)))] 2) (fun (least_5:Int)=>Bg.j5 client server day weak least_5=some r) ?_ ?_
 refine Cb 1 fun B G=>?_
 refine Ex rfl rfl (Ja aEr ty4 (by decide) (aC1 rfl)) rfl rfl ?_
 refine Ex rfl rfl (Eb ty4 (c:=.bool client.Fallback) rfl) rfl rfl ?_
 refine Qg (.r 0 (.e 1)) fun _ B G=>?_
 refine Ex rfl rfl (Ja uH Z4 (by decide) (aC1 rfl)) rfl rfl ?_
 refine Ex rfl rfl (Eb Z4 (c:=.int .i64 client.Least) rfl) rfl rfl ?_
 exact C6
 rintro least_5 G
 unfold Bg.j5 at G
 refine Q4 2 fun B G=>?_
 refine Ex rfl rfl (Ja oX Z4 (by decide) (aC1 rfl)) rfl rfl ?_
 refine Ex rfl rfl (Eb Z4 (c:=.int .i64 client.Most) rfl) rfl rfl ?_
 refine Cb 1 fun B G=>?_
 refine Ip (fun ((most_6,l_6):Int×List Ai)=>mk [(3,vk weak),(4,.elt (((Ad.ec client):List C).drop 0)),(10,.ptr 0 0),(11,.clo 178 0 [.elt (((Ad.ec client):List C).drop 0),.elt (((Ad.ec server):List C).drop 0),.elt (([.int .i64 day]:List C).drop 0),.ptr 0 0]),(12,vk least_5),(13,vk most_6)] [(0,.box [.row 1] 186),(1,.row 190 4 (Ac Ai.enc l_6))] 2) G (B5 [(0,0),(1,1)]) ?_
 rintro⟨most_6,l_6⟩ m6 o6 G hn6
 unfold Bg.l6 at G
 refine Q4 2 fun B G=>?_
 refine Ji rfl G (fun _ G=>?_) fun _ G=>?_
 refine Cb 4 fun B G=>?_
 refine Ex rfl rfl (Ja wA iT (by decide) (aC1 rfl)) rfl rfl ?_
 refine Ex rfl rfl (Eb iT (c:=.sl 1 (Ac eI client.Suites)) rfl) rfl rfl ?_
 obtain⟨y_3,hy_3,G⟩:=Af G
 refine kU (rd:=[0,1]) (ps:=[0]) (gs:=[1]) false rfl rfl (Ph hy_3) rfl rfl (.cons .val (.cons .sl (.cons .elt (.cons .elt (.cons .elt (.cons (.ptr rfl) .nil)))))) ⟨_,_,_,rfl,.head _,⟨_,rfl,(by repeat' (first | exact H1.nil | apply H1.cons | exact Ag.val | exact Ag.sl | exact Ag.nils | exact Ag.ptr rfl | exact Ag.rowK rfl))⟩,⟨_,_,_,rfl,.tail _ (.head _),rfl,rfl⟩⟩ rfl (by intro h; cases h) rfl (by intro h; first | (cases h; done) | exact⟨_,_,⟨rfl,rfl⟩,by simp,by simp⟩) ?_
 rintro _ _ ⟨rfl,rfl⟩
 exact C6
 refine Cb 3 fun B G=>?_
 refine Ex rfl rfl (Ja oX Z4 (by decide) (aC1 rfl)) rfl rfl ?_
 refine Ex rfl rfl (Eb Z4 (c:=.int .i64 client.Most) rfl) rfl rfl ?_
 refine Cb 1 fun B G=>?_
 refine Ip (fun ((most_7,l_7):Int×List Ai)=>mk [(3,vk weak),(4,.elt (((Ad.ec client):List C).drop 0)),(10,.ptr 0 0),(11,.clo 178 0 [.elt (((Ad.ec client):List C).drop 0),.elt (((Ad.ec server):List C).drop 0),.elt (([.int .i64 day]:List C).drop 0),.ptr 0 0]),(14,vk most_7)] [(0,.box [.row 1] 186),(1,.row 190 4 (Ac Ai.enc l_7))] 2) G (B5 [(0,0),(1,1)]) ?_
 rintro⟨most_7,l_7⟩ m7 o7 G hn7
 unfold Bg.l7 at G
 refine Q4 2 fun B G=>?_
 refine Ex rfl rfl (Ja uH Z4 (by decide) (aC1 rfl)) rfl rfl ?_
 refine Ex rfl rfl (Eb Z4 (c:=.int .i64 client.Least) rfl) rfl rfl ?_
 refine Cb 0 fun B G=>?_
 refine Ji rfl G (fun _ G=>?_) fun _ G=>?_
 refine Cb 4 fun B G=>?_
 refine Ex rfl rfl (Ja wA iT (by decide) (aC1 rfl)) rfl rfl ?_
 refine Ex rfl rfl (Eb iT (c:=.sl 1 (Ac eI client.Suites)) rfl) rfl rfl ?_
 refine Cb 1 fun B G=>?_
 refine Ip (fun ((x71_8,l_8):Int×List Ai)=>mk [(3,vk weak),(4,.elt (((Ad.ec client):List C).drop 0)),(10,.ptr 0 0),(11,.clo 178 0 [.elt (((Ad.ec client):List C).drop 0),.elt (((Ad.ec server):List C).drop 0),.elt (([.int .i64 day]:List C).drop 0),.ptr 0 0]),(14,vk most_7),(69,.sl 1 (Ac eI client.Suites)),(70,.val (.int .i64 (client.Suites.length:Int))),(71,vk x71_8)] [(0,.box [.row 1] 186),(1,.row 190 4 (Ac Ai.enc l_8))] 2) G (B5 [(0,0),(1,1)]) ?_
 rintro⟨x71_8,l_8⟩ m8 o8 G hn8
 unfold Bg.l8 at G
 refine E6 (.r 2 (.e 1)) fun _ B G=>?_
 refine Ba (ι:=List Ai) (fun (l_9:List Ai)=>mk [(3,vk weak),(4,.elt (((Ad.ec client):List C).drop 0)),(10,.ptr 0 0),(11,.clo 178 0 [.elt (((Ad.ec client):List C).drop 0),.elt (((Ad.ec server):List C).drop 0),.elt (([.int .i64 day]:List C).drop 0),.ptr 0 0]),(14,vk most_7),(69,.sl 1 (Ac eI client.Suites)),(70,.val (.int .i64 (client.Suites.length:Int))),(71,vk x71_8)] [(0,.box [.row 1] 186),(1,.row 190 4 (Ac Ai.enc l_9))] 2) (fun (l_9:List Ai)=>Bg.j9 x71_8 l_9=some o8) ?_ ?_
 refine Qg (.r 6 (.e 0)) fun e _ _ _ _ B G=>?_
 refine B7 (E4 _ _ [82]) 58 98 B rfl rfl ?_
 refine Cb 0 fun B G=>?_
 refine wP Hz z3 Pp ([e]:List Int) eI ?_
 obtain⟨y_5,hy_5,G⟩:=Af G
 refine kU (rd:=[0,1]) (ps:=[0]) (gs:=[1]) false rfl rfl (Ph hy_5) rfl rfl (.cons .val (.cons .sl (.cons .elt (.cons .elt (.cons .elt (.cons (.ptr rfl) .nil)))))) ⟨_,_,_,rfl,.head _,⟨_,rfl,(by repeat' (first | exact H1.nil | apply H1.cons | exact Ag.val | exact Ag.sl | exact Ag.nils | exact Ag.ptr rfl | exact Ag.rowK rfl))⟩,⟨_,_,_,rfl,.tail _ (.head _),rfl,rfl⟩⟩ rfl (by intro h; cases h) rfl (by intro h; first | (cases h; done) | exact⟨_,_,⟨rfl,rfl⟩,by simp,by simp⟩) ?_
 rintro _ _ ⟨rfl,rfl⟩
 exact C6
 rintro l_9 G
 unfold Bg.j9 at G
 exact Ik
 refine Cb 2 fun B G=>?_
 obtain⟨y_6,hy_6,G⟩:=Af G
 refine dO [1] [1] [] false (@Oy l_7 (fun x0 x1=>F2 x0 x1) (fun x0 x1 yy hh=>@Sg x0 x1 yy hh) _ hy_6) ?_
 exact C6
instance aZ5:Wk 123:=⟨_,@fA⟩
end Go.Proofs.YtboglmbblmakjaaGreatDoor
