import Derived.Test.YtboglmbblmakjaaGreatDoorT1
import Derived.Test.YtboglmbblmakjaaGreatDoorEU
import Derived.Test.YtboglmbblmakjaaGreatDoorA6
set_option linter.unusedVariables false
set_option linter.unusedSimpArgs false
set_option maxRecDepth 100000
set_option maxHeartbeats 40000000
namespace Go.Proofs.YtboglmbblmakjaaGreatDoor
open Go.RowKit
theorem gA {u r} (G:Gx u=some r):Fn Tryz.prog 61 0 [.agg [vk u.Alg,vk u.Bits]] [] (fun d' b'=>d'=.val (.bool r)/\b'=[]):=by
 unfold Gx at G
 refine Ea 0 6 Tryz.func61 fun _ _ _=>?_
 exact C6
instance bCg:Wk 61:=⟨_,@gA⟩
theorem jK {alg r} (G:Kw alg=some r):Fn Tryz.prog 185 0 [vk alg] [] (fun d' b'=>d'=vk r/\b'=[]):=by
 unfold Kw at G
 refine Ea 0 12 Tryz.func185 fun _ _ _=>?_
 exact C6
instance aYe:Wk 185:=⟨_,@jK⟩
theorem Ug {n r} (G:Gn n=some r):Fn Tryz.prog 118 0 [vk n] [] (fun d' b'=>d'=.val (.bool r)/\b'=[]):=by
 unfold Gn at G
 refine Ea 0 9 Tryz.func118 fun _ _ _=>?_
 exact C6
instance aY5:Wk 118:=⟨_,@Ug⟩
theorem gD {s r} (G:Dm s=some r):Fn Tryz.prog 106 0 [ws s] [] (fun d' b'=>d'=.val (.bool r)/\b'=[]):=by
 unfold Dm at G
 refine Ea 0 27 Tryz.func106 fun _ _ _=>?_
 refine Cb 5 fun B G=>?_
 refine Ip (fun (x8_1:Int)=>mk [(0,ws s),(6,.sl 1 (Ac e8 (Q2 s))),(7,.val (.int .i64 ((Q2 s).length:Int))),(8,vk x8_1)] [] 0) G (B5 []) ?_
 rintro x8_1 m1 o1 G hn1
 unfold Dm.l1 at G
 refine E6 (.r 2 (.e 6)) fun _ e _ B G=>?_
 refine Ba (ι:=Bool) (fun (x17_2:Bool)=>mk [(0,ws s),(6,.sl 1 (Ac e8 (Q2 s))),(7,.val (.int .i64 ((Q2 s).length:Int))),(8,vk x8_1),(17,.val (.bool x17_2))] [] 0) (fun (x17_2:Bool)=>Dm.j2 x8_1 x17_2=some o1) ?_ ?_
 exact C6
 rintro x17_2 G
 unfold Dm.j2 at G
 exact Ik
instance aYr:Wk 106:=⟨_,@gD⟩
theorem Yu {l r} (G:Dd l=some r):Fn Tryz.prog 253 0 [.sl 1 (Ac eS l)] [] (fun d' b'=>d'=.val (.bool r)/\b'=[]):=by
 unfold Dd at G
 refine Ea 0 32 Tryz.func253 fun _ _ _=>?_
 refine Cb 4 fun B G=>?_
 refine Ip (fun (x7_1:Int)=>mk [(0,.sl 1 (Ac eS l)),(5,.sl 1 (Ac eS l)),(6,.val (.int .i64 (l.length:Int))),(7,vk x7_1)] [] 0) G (B5 []) ?_
 rintro x7_1 m1 o1 G hn1
 unfold Dd.l1 at G
 refine E6 (.r 2 (.e 6)) fun _ e _ B G=>?_
 refine Ba (ι:=Bool) (fun (x27_2:Bool)=>mk [(0,.sl 1 (Ac eS l)),(5,.sl 1 (Ac eS l)),(6,.val (.int .i64 (l.length:Int))),(7,vk x7_1),(27,.val (.bool x27_2))] [] 0) (fun (x27_2:Bool)=>Dd.j2 x7_1 x27_2=some o1) ?_ ?_
 exact C6
 rintro x27_2 G
 unfold Dd.j2 at G
 exact Ik
instance aZ6:Wk 253:=⟨_,@Yu⟩
theorem cG {u kind r} (G:Km u kind=some r):Fn Tryz.prog 254 0 [.agg [vk u.Alg,vk u.Bits],vk kind] [] (fun d' b'=>d'=.val (.bool r)/\b'=[]):=by
 unfold Km at G
 refine Ea 0 14 Tryz.func254 fun _ _ _=>?_
 exact C6
instance aY7:Wk 254:=⟨_,@cG⟩
theorem bF {n r} (G:Lc n=some r):Fn Tryz.prog 255 0 [vk n] [] (fun d' b'=>d'=.val (.bool r)/\b'=[]):=by
 unfold Lc at G
 refine Ea 0 9 Tryz.func255 fun _ _ _=>?_
 exact C6
instance aYg:Wk 255:=⟨_,@bF⟩
theorem Yw {c r} (G:Bj c=some r):Fn Tryz.prog 225 0 [.agg (Ab.dv c)] [] (fun d' b'=>d'=.val (.bool r)/\b'=[]):=by
 unfold Bj at G
 refine Ea 0 91 Tryz.func225 fun _ _ _=>?_
 refine Cb 1 fun B G=>?_
 refine Ar <| Ba (ι:=Bool) (fun (x28_1:Bool)=>mk [(1,.ptr 0 0),(28,.val (.bool x28_1))] [(0,.box (Ab.dv c) 148)] 1) (fun (x28_1:Bool)=>Bj.j1 c x28_1=some r) ?_ ?_
 exact C6
 rintro x28_1 G
 unfold Bj.j1 at G
 refine E6 (.l 0 (.e 1)) fun _ B G=>?_
 refine Ar <| Ba (ι:=Bool) (fun (x58_2:Bool)=>mk [(1,.ptr 0 0),(58,.val (.bool x58_2))] [(0,.box (Ab.dv c) 148)] 1) (fun (x58_2:Bool)=>Bj.j2 c x58_2=some r) ?_ ?_
 exact C6
 rintro x58_2 G
 unfold Bj.j2 at G
 refine E6 (.l 0 (.e 1)) fun _ B G=>?_
 refine Ar <| Ba (ι:=Bool) (fun (x73_3:Bool)=>mk [(1,.ptr 0 0),(73,.val (.bool x73_3))] [(0,.box (Ab.dv c) 148)] 1) (fun (x73_3:Bool)=>Bj.j3 c x73_3=some r) ?_ ?_
 exact C6
 rintro x73_3 G
 unfold Bj.j3 at G
 exact Ik
instance bAi:Wk 225:=⟨_,@Yw⟩
theorem Yy {c r} (G:Gz c=some r):Fn Tryz.prog 186 0 [.agg (Ab.dv c)] [] (fun d' b'=>d'=vk r/\b'=[]):=by
 unfold Gz at G
 refine Ea 0 6 Tryz.func186 fun _ _ _=>?_
 exact C6
instance aZr:Wk 186:=⟨_,@Yy⟩
theorem dF {key id l r} (G:Dj key id l=some r):Fn Tryz.prog 127 0 [.agg [vk key.Alg,vk key.Bits],vk id,.sl 15 (Ac Ab.enc l)] [] (fun d' b'=>d'=.val (.bool r)/\b'=[]):=by
 unfold Dj at G
 refine Ea 0 57 Tryz.func127 fun _ _ _=>?_
 refine Cb 1 fun B G=>?_
 refine Ar <| Ba (ι:=Bool) (fun (x27_1:Bool)=>mk [(1,vk id),(2,.sl 15 (Ac Ab.enc l)),(3,.ptr 0 0),(27,.val (.bool x27_1))] [(0,.box [vk key.Alg,vk key.Bits] 49)] 1) (fun (x27_1:Bool)=>Dj.j1 key id l x27_1=some r) ?_ ?_
 exact C6
 rintro x27_1 G
 unfold Dj.j1 at G
 refine E6 (.l 0 (.e 4)) fun _ B G=>?_
 refine Ip (fun (x30_2:Int)=>mk [(1,vk id),(2,.sl 15 (Ac Ab.enc l)),(3,.ptr 0 0),(28,.sl 15 (Ac Ab.enc l)),(29,.val (.int .i64 (l.length:Int))),(30,vk x30_2)] [(0,.box [vk key.Alg,vk key.Bits] 49)] 1) G (B5 [(0,0)]) ?_
 rintro x30_2 m2 o2 G hn2
 unfold Dj.l2 at G
 refine E6 (.l 2 (.e 1)) fun _ B G=>?_
 refine Ar <| Ca (E4 _ _ []) (by kernel_rfl) [0,1,3,7,15,31,63,127,15,511,1023,2047,4095,8191,16383,2047,65535,131071,262143,524287] 9 169 B rfl rfl (by kernel_rfl) ?_
 refine Qg (.l 0 (.e 3)) fun h19 e_2 he_2 B G=>?_
 refine Ex (Mq rfl rfl h19) rfl (iV e_2.Key key) rfl rfl ?_
 exact C6
instance bAs:Wk 127:=⟨_,@dF⟩
theorem Uj {r} (G:Lr=some r):Fn Tryz.prog 128 0 [.val (.func (.func 118) #[] #[])] [] (fun d' b'=>d'=.clo 129 0 [.elt (([.raw (.func (.func 118) #[] #[])]:List C).drop 0)]/\b'=[]):=by
 unfold Lr at G
 refine Ea 0 4 Tryz.func128 fun _ _ _=>?_
 refine Cb 1 fun B G=>?_
 refine Ar <| Gs (σ':=mk [(1,.elt (([.raw (.func (.func 118) #[] #[])]:List C).drop 0))] [] 0) ((by exact Rs.lists [] rfl rfl ⟨⟨_,rfl,.frzb (ks:=[none]) rfl (.cons .func .nil) (H3 rfl)⟩,trivial⟩ trivial)) ?_
 exact C6
theorem Sr {n r} (G:Ig n=some r):Fn Tryz.prog 129 0 [vk n,.elt (([.raw (.func (.func 118) #[] #[])]:List C).drop 0)] [] (fun d' b'=>d'=.val (.bool r)/\b'=[]):=by
 unfold Ig at G
 refine Ea 0 8 Tryz.func129 fun _ _ _=>?_
 refine Cb 2 fun B G=>?_
 refine Ex rfl rfl (Eb aDk (c:=.raw (.func (.func 118) #[] #[])) rfl) rfl rfl ?_
 refine Cb 0 fun B G=>?_
 obtain⟨y,hy,G⟩:=Af G
 refine U8 (rd:=[]) (ps:=[]) (gs:=[]) false rfl rfl (Ug hy) rfl rfl (.cons .val .nil) rfl rfl (by intro h; cases h) rfl rfl rfl rfl ?_
 exact C6
theorem Ma {s:(List Int)} {f:Int->Option (Bool)} (hf_f:∀ (x0:Int) (y:Bool),f x0=some y->Fn Tryz.prog 129 0 [vk x0,.elt (([.raw (.func (.func 118) #[] #[])]:List C).drop 0)] [] (fun d' b'=>d'=.val (.bool y)/\b'=[])) {r:Int} (G:Az s f=some r):Fn Tryz.prog 172 0 [.sl 1 (Ac eI s),.clo 129 0 [.elt (([.raw (.func (.func 118) #[] #[])]:List C).drop 0)]] [] (fun d' b'=>d'=vk r/\b'=[]):=by
 unfold Az at G
 refine Ea 0 19 Tryz.func172 fun _ _ _=>?_
 refine Cb 4 fun B G=>?_
 refine Ip (fun (x8_1:Int)=>mk [(0,.sl 1 (Ac eI s)),(1,.clo 129 0 [.elt (([.raw (.func (.func 118) #[] #[])]:List C).drop 0)]),(7,.val (.int .i64 (s.length:Int))),(8,vk x8_1)] [] 0) G (B5 []) ?_
 rintro x8_1 m1 o1 G hn1
 unfold Az.l1 at G
 refine E6 (.r 2 (.e 7)) fun _ e _ B G=>?_
 obtain⟨y,hy,G⟩:=Af G
 refine F5 (rd:=[]) (ps:=[]) (gs:=[]) false rfl rfl (hf_f e _ hy) rfl rfl (.cons .val (.cons .elt .nil)) rfl rfl (by intro h; cases h) rfl rfl rfl rfl ?_
 exact C6
theorem Lh {s:(List Int)} {f:Int->Option (Bool)} (hf_f:∀ (x0:Int) (y:Bool),f x0=some y->Fn Tryz.prog 129 0 [vk x0,.elt (([.raw (.func (.func 118) #[] #[])]:List C).drop 0)] [] (fun d' b'=>d'=.val (.bool y)/\b'=[])) {r:Bool} (G:Cs s f=some r):Fn Tryz.prog 130 0 [.sl 1 (Ac eI s),.clo 129 0 [.elt (([.raw (.func (.func 118) #[] #[])]:List C).drop 0)]] [] (fun d' b'=>d'=.val (.bool r)/\b'=[]):=by
 unfold Cs at G
 refine Ea 0 9 Tryz.func130 fun _ _ _=>?_
 refine Cb 2 fun B G=>?_
 obtain⟨y,hy,G⟩:=Af G
 refine P9 (@Ma s f hf_f _ hy) ?_
 exact C6
theorem Ui {r} (G:Ln=some r):Fn Tryz.prog 128 0 [.val (.func (.func 131) #[] #[])] [] (fun d' b'=>d'=.clo 129 0 [.elt (([.raw (.func (.func 131) #[] #[])]:List C).drop 0)]/\b'=[]):=by
 unfold Ln at G
 refine Ea 0 4 Tryz.func128 fun _ _ _=>?_
 refine Cb 1 fun B G=>?_
 refine Ar <| Gs (σ':=mk [(1,.elt (([.raw (.func (.func 131) #[] #[])]:List C).drop 0))] [] 0) ((by exact Rs.lists [] rfl rfl ⟨⟨_,rfl,.frzb (ks:=[none]) rfl (.cons .func .nil) (H3 rfl)⟩,trivial⟩ trivial)) ?_
 exact C6
theorem Wj {alg r} (G:Na alg=some r):Fn Tryz.prog 131 0 [vk alg] [] (fun d' b'=>d'=.val (.bool r)/\b'=[]):=by
 unfold Na at G
 refine Ea 0 6 Tryz.func131 fun _ _ _=>?_
 exact C6
instance bAe:Wk 131:=⟨_,@Wj⟩
theorem Sw {n r} (G:Ii n=some r):Fn Tryz.prog 129 0 [vk n,.elt (([.raw (.func (.func 131) #[] #[])]:List C).drop 0)] [] (fun d' b'=>d'=.val (.bool r)/\b'=[]):=by
 unfold Ii at G
 refine Ea 0 8 Tryz.func129 fun _ _ _=>?_
 refine Cb 2 fun B G=>?_
 refine Ex rfl rfl (Eb aDk (c:=.raw (.func (.func 131) #[] #[])) rfl) rfl rfl ?_
 refine Cb 0 fun B G=>?_
 obtain⟨y,hy,G⟩:=Af G
 refine U8 (rd:=[]) (ps:=[]) (gs:=[]) false rfl rfl (Wj hy) rfl rfl (.cons .val .nil) rfl rfl (by intro h; cases h) rfl rfl rfl rfl ?_
 exact C6
theorem L2 {s:(List Int)} {f:Int->Option (Bool)} (hf_f:∀ (x0:Int) (y:Bool),f x0=some y->Fn Tryz.prog 129 0 [vk x0,.elt (([.raw (.func (.func 131) #[] #[])]:List C).drop 0)] [] (fun d' b'=>d'=.val (.bool y)/\b'=[])) {r:Int} (G:Az s f=some r):Fn Tryz.prog 172 0 [.sl 1 (Ac eI s),.clo 129 0 [.elt (([.raw (.func (.func 131) #[] #[])]:List C).drop 0)]] [] (fun d' b'=>d'=vk r/\b'=[]):=by
 unfold Az at G
 refine Ea 0 19 Tryz.func172 fun _ _ _=>?_
 refine Cb 4 fun B G=>?_
 refine Ip (fun (x8_1:Int)=>mk [(0,.sl 1 (Ac eI s)),(1,.clo 129 0 [.elt (([.raw (.func (.func 131) #[] #[])]:List C).drop 0)]),(7,.val (.int .i64 (s.length:Int))),(8,vk x8_1)] [] 0) G (B5 []) ?_
 rintro x8_1 m1 o1 G hn1
 unfold Az.l1 at G
 refine E6 (.r 2 (.e 7)) fun _ e _ B G=>?_
 obtain⟨y,hy,G⟩:=Af G
 refine F5 (rd:=[]) (ps:=[]) (gs:=[]) false rfl rfl (hf_f e _ hy) rfl rfl (.cons .val (.cons .elt .nil)) rfl rfl (by intro h; cases h) rfl rfl rfl rfl ?_
 exact C6
theorem Li {s:(List Int)} {f:Int->Option (Bool)} (hf_f:∀ (x0:Int) (y:Bool),f x0=some y->Fn Tryz.prog 129 0 [vk x0,.elt (([.raw (.func (.func 131) #[] #[])]:List C).drop 0)] [] (fun d' b'=>d'=.val (.bool y)/\b'=[])) {r:Bool} (G:Cs s f=some r):Fn Tryz.prog 130 0 [.sl 1 (Ac eI s),.clo 129 0 [.elt (([.raw (.func (.func 131) #[] #[])]:List C).drop 0)]] [] (fun d' b'=>d'=.val (.bool r)/\b'=[]):=by
 unfold Cs at G
 refine Ea 0 9 Tryz.func130 fun _ _ _=>?_
 refine Cb 2 fun B G=>?_
 obtain⟨y,hy,G⟩:=Af G
 refine P9 (@L2 s f hf_f _ hy) ?_
 exact C6
theorem cN {e r} (G:Bu e=some r):Fn Tryz.prog 77 0 [.agg (Ad.dv e)] [] (fun d' b'=>d'=vk r/\b'=[]):=by
 unfold Bu at G
 refine Ea 0 83 Tryz.func77 fun _ _ _=>?_
 refine Cb 1 fun B G=>?_
 refine Ar <| Ba (ι:=Bool) (fun (x32_1:Bool)=>mk [(1,.ptr 0 0),(32,.val (.bool x32_1))] [(0,.box (Ad.dv e) 83)] 1) (fun (x32_1:Bool)=>Bu.j1 e x32_1=some r) ?_ ?_
 exact C6
 rintro x32_1 G
 unfold Bu.j1 at G
 refine E6 (.l 0 (.e 1)) fun _ B G=>?_
 refine Ar <| Ba (ι:=Bool) (fun (x54_2:Bool)=>mk [(1,.ptr 0 0),(54,.val (.bool x54_2))] [(0,.box (Ad.dv e) 83)] 1) (fun (x54_2:Bool)=>Bu.j2 e x54_2=some r) ?_ ?_
 exact C6
 rintro x54_2 G
 unfold Bu.j2 at G
 refine E6 (.l 0 (.e 4)) fun _ B G=>?_
 refine Ip (fun (x58_3:Int)=>mk [(1,.ptr 0 0),(56,.sl 4 (Ac Av.enc e.Identities)),(57,.val (.int .i64 (e.Identities.length:Int))),(58,vk x58_3)] [(0,.box (Ad.dv e) 83)] 1) G (B5 [(0,0)]) ?_
 rintro x58_3 m3 o3 G hn3
 unfold Bu.l3 at G
 refine E6 (.l 2 (.e 2)) fun _ B G=>?_
 refine Ar <| Ba (ι:=Bool) (fun (x82_4:Bool)=>mk [(82,.val (.bool x82_4))] [] 0) (fun (x82_4:Bool)=>Bu.j4 x82_4=some r) ?_ ?_
 refine Ca (E4 _ _ []) (by kernel_rfl) [0,1,0,4,15,31,63,127,63,319,1023,2047] 17 113 B rfl rfl (by kernel_rfl) ?_
 refine Cb 0 fun B G=>?_
 obtain⟨y_6,hy_6,G⟩:=Af G
 refine U8 (rd:=[]) (ps:=[]) (gs:=[]) false rfl rfl (Uj hy_6) rfl rfl (.cons .val .nil) rfl rfl (by intro h; cases h) rfl rfl rfl rfl ?_
 obtain⟨y_7,hy_7,G⟩:=Af G
 refine P9 (@Lh e.Anchors (fun x0=>Ig x0) (fun x0 yy hh=>@Sr x0 yy hh) _ hy_7) ?_
 refine Qg (.l 0 (.e 0)) fun h31 B G=>?_
 obtain⟨y_8,hy_8,G⟩:=Af G
 refine U8 (rd:=[]) (ps:=[]) (gs:=[]) false (Mq rfl rfl h31) rfl (Ui hy_8) rfl rfl (.cons .val .nil) rfl rfl (by intro h; cases h) rfl rfl rfl rfl ?_
 obtain⟨y_9,hy_9,G⟩:=Af G
 refine P9 (@Li e.Hashes (fun x0=>Ii x0) (fun x0 yy hh=>@Sw x0 yy hh) _ hy_9) ?_
 exact C6
 rintro x82_4 G
 unfold Bu.j4 at G
 exact Ik
instance bBe:Wk 77:=⟨_,@cN⟩
theorem dL {i r} (G:A9 i=some r):Fn Tryz.prog 58 0 [.agg (Aq.dv i)] [] (fun d' b'=>d'=vk r/\b'=[]):=by
 unfold A9 at G
 refine Ea 0 96 Tryz.func58 fun _ _ _=>?_
 refine Cb 1 fun B G=>?_
 refine Ba (ι:=Bool) (fun (known_1:Bool)=>mk [(1,.ptr 0 0),(3,.val (.bool known_1))] [(0,.box (Aq.dv i) 47)] 1) (fun (known_1:Bool)=>A9.j1 i known_1=some r) ?_ ?_
 exact C6
 rintro known_1 G
 unfold A9.j1 at G
 try dsimp only at G
 refine X5 rfl ?_
 refine Ar <| Ba (ι:=Bool) (fun (x43_2:Bool)=>mk [(1,.ptr 0 0),(43,.val (.bool x43_2))] [(0,.box (Aq.dv i) 47)] 1) (fun (x43_2:Bool)=>A9.j2 i x43_2=some r) ?_ ?_
 exact C6
 rintro x43_2 G
 unfold A9.j2 at G
 refine E6 (.l 0 (.e 4)) fun _ B G=>?_
 refine Ip (fun (x47_3:Int)=>mk [(1,.ptr 0 0),(45,.sl 3 (Ac A1.enc i.Links)),(46,.val (.int .i64 (i.Links.length:Int))),(47,vk x47_3)] [(0,.box (Aq.dv i) 47)] 1) G (B5 [(0,0)]) ?_
 rintro x47_3 m3 o3 G hn3
 unfold A9.l3 at G
 refine Q4 2 fun B G=>?_
 refine Ji rfl G (fun _ G=>?_) fun _ G=>?_
 refine Cb 6 fun e _ B G=>?_
 refine Ba (ι:=Bool) (fun (x81_4:Bool)=>mk [(1,.ptr 0 0),(45,.sl 3 (Ac A1.enc i.Links)),(46,.val (.int .i64 (i.Links.length:Int))),(47,vk x47_3),(81,.val (.bool x81_4))] [(0,.box (Aq.dv i) 47)] 1) (fun (x81_4:Bool)=>A9.j4 x47_3 x81_4=some o3) ?_ ?_
 refine Ca (E4 _ _ []) (by kernel_rfl) [0,1,3,7,15,31,63,127,255,511,1023,2047,4095,8191,16383,32767,65535,131071,262143,524287,262143,1310719,4194303,8388607,16777215,262143,33816575,134217727,268435455,536870911] 57 297 B rfl rfl (by kernel_rfl) ?_
 exact C6
 rintro x81_4 G
 unfold A9.j4 at G
 exact Ik
 refine Cb 1 fun B G=>?_
 refine Ar <| Ba (ι:=Bool) (fun (x95_5:Bool)=>mk [(95,.val (.bool x95_5))] [] 0) (fun (x95_5:Bool)=>A9.j5 x95_5=some r) ?_ ?_
 refine Ca (E4 _ _ []) (by kernel_rfl) [0,1,0,4,12,28,60,127,255,511,1023,2047,4095] 9 113 B rfl rfl (by kernel_rfl) ?_
 exact C6
 rintro x95_5 G
 unfold A9.j5 at G
 exact Ik
instance bDe:Wk 58:=⟨_,@dL⟩
end Go.Proofs.YtboglmbblmakjaaGreatDoor
