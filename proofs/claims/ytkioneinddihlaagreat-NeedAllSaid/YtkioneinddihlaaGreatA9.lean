import Derived.Test.YtkioneinddihlaaGreatT1
import Derived.Test.YtkioneinddihlaaGreatEU
import Derived.Test.YtkioneinddihlaaGreatA7
import Derived.Test.YtkioneinddihlaaGreatA8
set_option linter.unusedVariables false
set_option linter.unusedSimpArgs false
set_option maxRecDepth 100000
set_option maxHeartbeats 40000000
namespace Go.Proofs.YtkioneinddihlaaGreat
open Go.RowKit
theorem Sz {c r} (G:Hk c=some r):Fn Tryz.prog 111 0 [.agg (Ah.dv c)] [] (fun d' b'=>d'=vk r/\b'=[]):=by
 unfold Hk at G
 refine Ez 0 6 Tryz.func111 fun _ _ _=>?_
 exact C1
instance aKr:Wk 111:=⟨_,@Sz⟩
theorem Vm {key id l r} (G:Ct key id l=some r):Fn Tryz.prog 83 0 [.agg [vk key.Alg,vk key.Bits],vk id,.sl 15 (Ak Ah.enc l)] [] (fun d' b'=>d'=.val (.bool r)/\b'=[]):=by
 unfold Ct at G
 refine Ez 0 57 Tryz.func83 fun _ _ _=>?_
 refine B7 1 fun B G=>?_
 refine A8 <| A6 (ι:=Bool) (fun (x27_1:Bool)=>mk [(1,vk id),(2,.sl 15 (Ak Ah.enc l)),(3,.ptr 0 0),(27,.val (.bool x27_1))] [(0,.box [vk key.Alg,vk key.Bits] 40)] 1) (fun (x27_1:Bool)=>Ct.j1 key id l x27_1=some r) ?_ ?_
 exact C1
 rintro x27_1 G
 unfold Ct.j1 at G
 refine Dl (.l 0 (.e 4)) fun _ B G=>?_
 refine Gc (fun (x30_2:Int)=>mk [(1,vk id),(2,.sl 15 (Ak Ah.enc l)),(3,.ptr 0 0),(28,.sl 15 (Ak Ah.enc l)),(29,.val (.int .i64 (l.length:Int))),(30,vk x30_2)] [(0,.box [vk key.Alg,vk key.Bits] 40)] 1) G (B9 [(0,0)]) ?_
 rintro x30_2 m2 o2 G hn2
 unfold Ct.l2 at G
 refine Dl (.l 2 (.e 1)) fun _ B G=>?_
 refine A8 <| Bn (Dx _ _ []) (by kernel_rfl) [0,1,3,7,15,31,63,127,15,511,1023,2047,4095,8191,16383,2047,65535,131071,262143,524287] 9 169 B rfl rfl (by kernel_rfl) ?_
 refine Jv (.l 0 (.e 3)) fun h19 e_2 he_2 B G=>?_
 refine Fw (Ht rfl rfl h19) rfl (Za e_2.Key key) rfl rfl ?_
 exact C1
instance aNo:Wk 83:=⟨_,@Vm⟩
theorem Pt {r} (G:I3=some r):Fn Tryz.prog 84 0 [.val (.func (.func 87) #[] #[])] [] (fun d' b'=>d'=.clo 85 0 [.elt (([.raw (.func (.func 87) #[] #[])]:List C).drop 0)]/\b'=[]):=by
 unfold I3 at G
 refine Ez 0 4 Tryz.func84 fun _ _ _=>?_
 refine B7 1 fun B G=>?_
 refine A8 <| G3 (σ':=mk [(1,.elt (([.raw (.func (.func 87) #[] #[])]:List C).drop 0))] [] 0) ((by exact P4.lists [] rfl rfl ⟨⟨_,rfl,.frzb (ks:=[none]) rfl (.cons .func .nil) (Ij rfl)⟩,trivial⟩ trivial)) ?_
 exact C1
theorem N5 {n r} (G:Gh n=some r):Fn Tryz.prog 85 0 [vk n,.elt (([.raw (.func (.func 87) #[] #[])]:List C).drop 0)] [] (fun d' b'=>d'=.val (.bool r)/\b'=[]):=by
 unfold Gh at G
 refine Ez 0 8 Tryz.func85 fun _ _ _=>?_
 refine B7 2 fun B G=>?_
 refine Fw rfl rfl (Fr aDr (c:=.raw (.func (.func 87) #[] #[])) rfl) rfl rfl ?_
 refine B7 0 fun B G=>?_
 obtain⟨y,hy,G⟩:=Aq G
 refine Pw (rd:=[]) (ps:=[]) (gs:=[]) false rfl rfl (Ox hy) rfl rfl (.cons .val .nil) rfl rfl (by intro h; cases h) rfl rfl rfl rfl ?_
 exact C1
theorem Jf {s:(List Int)} {f:Int->Option (Bool)} (hf_f:∀ (x0:Int) (y:Bool),f x0=some y->Fn Tryz.prog 85 0 [vk x0,.elt (([.raw (.func (.func 87) #[] #[])]:List C).drop 0)] [] (fun d' b'=>d'=.val (.bool y)/\b'=[])) {r:Int} (G:B2 s f=some r):Fn Tryz.prog 112 0 [.sl 1 (Ak eI s),.clo 85 0 [.elt (([.raw (.func (.func 87) #[] #[])]:List C).drop 0)]] [] (fun d' b'=>d'=vk r/\b'=[]):=by
 unfold B2 at G
 refine Ez 0 19 Tryz.func112 fun _ _ _=>?_
 refine B7 4 fun B G=>?_
 refine Gc (fun (x8_1:Int)=>mk [(0,.sl 1 (Ak eI s)),(1,.clo 85 0 [.elt (([.raw (.func (.func 87) #[] #[])]:List C).drop 0)]),(7,.val (.int .i64 (s.length:Int))),(8,vk x8_1)] [] 0) G (B9 []) ?_
 rintro x8_1 m1 o1 G hn1
 unfold B2.l1 at G
 refine Dl (.r 2 (.e 7)) fun _ e _ B G=>?_
 obtain⟨y,hy,G⟩:=Aq G
 refine E0 (rd:=[]) (ps:=[]) (gs:=[]) false rfl rfl (hf_f e _ hy) rfl rfl (.cons .val (.cons .elt .nil)) rfl rfl (by intro h; cases h) rfl rfl rfl rfl ?_
 exact C1
theorem Ix {s:(List Int)} {f:Int->Option (Bool)} (hf_f:∀ (x0:Int) (y:Bool),f x0=some y->Fn Tryz.prog 85 0 [vk x0,.elt (([.raw (.func (.func 87) #[] #[])]:List C).drop 0)] [] (fun d' b'=>d'=.val (.bool y)/\b'=[])) {r:Bool} (G:D2 s f=some r):Fn Tryz.prog 86 0 [.sl 1 (Ak eI s),.clo 85 0 [.elt (([.raw (.func (.func 87) #[] #[])]:List C).drop 0)]] [] (fun d' b'=>d'=.val (.bool r)/\b'=[]):=by
 unfold D2 at G
 refine Ez 0 9 Tryz.func86 fun _ _ _=>?_
 refine B7 2 fun B G=>?_
 obtain⟨y,hy,G⟩:=Aq G
 refine Mb (@Jf s f hf_f _ hy) ?_
 exact C1
theorem Pg {r} (G:I0=some r):Fn Tryz.prog 84 0 [.val (.func (.func 88) #[] #[])] [] (fun d' b'=>d'=.clo 85 0 [.elt (([.raw (.func (.func 88) #[] #[])]:List C).drop 0)]/\b'=[]):=by
 unfold I0 at G
 refine Ez 0 4 Tryz.func84 fun _ _ _=>?_
 refine B7 1 fun B G=>?_
 refine A8 <| G3 (σ':=mk [(1,.elt (([.raw (.func (.func 88) #[] #[])]:List C).drop 0))] [] 0) ((by exact P4.lists [] rfl rfl ⟨⟨_,rfl,.frzb (ks:=[none]) rfl (.cons .func .nil) (Ij rfl)⟩,trivial⟩ trivial)) ?_
 exact C1
theorem Qo {alg r} (G:Jm alg=some r):Fn Tryz.prog 88 0 [vk alg] [] (fun d' b'=>d'=.val (.bool r)/\b'=[]):=by
 unfold Jm at G
 refine Ez 0 6 Tryz.func88 fun _ _ _=>?_
 exact C1
instance aN3:Wk 88:=⟨_,@Qo⟩
theorem Oc {n r} (G:Gf n=some r):Fn Tryz.prog 85 0 [vk n,.elt (([.raw (.func (.func 88) #[] #[])]:List C).drop 0)] [] (fun d' b'=>d'=.val (.bool r)/\b'=[]):=by
 unfold Gf at G
 refine Ez 0 8 Tryz.func85 fun _ _ _=>?_
 refine B7 2 fun B G=>?_
 refine Fw rfl rfl (Fr aDr (c:=.raw (.func (.func 88) #[] #[])) rfl) rfl rfl ?_
 refine B7 0 fun B G=>?_
 obtain⟨y,hy,G⟩:=Aq G
 refine Pw (rd:=[]) (ps:=[]) (gs:=[]) false rfl rfl (Qo hy) rfl rfl (.cons .val .nil) rfl rfl (by intro h; cases h) rfl rfl rfl rfl ?_
 exact C1
theorem Jh {s:(List Int)} {f:Int->Option (Bool)} (hf_f:∀ (x0:Int) (y:Bool),f x0=some y->Fn Tryz.prog 85 0 [vk x0,.elt (([.raw (.func (.func 88) #[] #[])]:List C).drop 0)] [] (fun d' b'=>d'=.val (.bool y)/\b'=[])) {r:Int} (G:B2 s f=some r):Fn Tryz.prog 112 0 [.sl 1 (Ak eI s),.clo 85 0 [.elt (([.raw (.func (.func 88) #[] #[])]:List C).drop 0)]] [] (fun d' b'=>d'=vk r/\b'=[]):=by
 unfold B2 at G
 refine Ez 0 19 Tryz.func112 fun _ _ _=>?_
 refine B7 4 fun B G=>?_
 refine Gc (fun (x8_1:Int)=>mk [(0,.sl 1 (Ak eI s)),(1,.clo 85 0 [.elt (([.raw (.func (.func 88) #[] #[])]:List C).drop 0)]),(7,.val (.int .i64 (s.length:Int))),(8,vk x8_1)] [] 0) G (B9 []) ?_
 rintro x8_1 m1 o1 G hn1
 unfold B2.l1 at G
 refine Dl (.r 2 (.e 7)) fun _ e _ B G=>?_
 obtain⟨y,hy,G⟩:=Aq G
 refine E0 (rd:=[]) (ps:=[]) (gs:=[]) false rfl rfl (hf_f e _ hy) rfl rfl (.cons .val (.cons .elt .nil)) rfl rfl (by intro h; cases h) rfl rfl rfl rfl ?_
 exact C1
theorem Iv {s:(List Int)} {f:Int->Option (Bool)} (hf_f:∀ (x0:Int) (y:Bool),f x0=some y->Fn Tryz.prog 85 0 [vk x0,.elt (([.raw (.func (.func 88) #[] #[])]:List C).drop 0)] [] (fun d' b'=>d'=.val (.bool y)/\b'=[])) {r:Bool} (G:D2 s f=some r):Fn Tryz.prog 86 0 [.sl 1 (Ak eI s),.clo 85 0 [.elt (([.raw (.func (.func 88) #[] #[])]:List C).drop 0)]] [] (fun d' b'=>d'=.val (.bool r)/\b'=[]):=by
 unfold D2 at G
 refine Ez 0 9 Tryz.func86 fun _ _ _=>?_
 refine B7 2 fun B G=>?_
 obtain⟨y,hy,G⟩:=Aq G
 refine Mb (@Jh s f hf_f _ hy) ?_
 exact C1
theorem Wg {e r} (G:Bz e=some r):Fn Tryz.prog 59 0 [.agg (Al.dv e)] [] (fun d' b'=>d'=vk r/\b'=[]):=by
 unfold Bz at G
 refine Ez 0 83 Tryz.func59 fun _ _ _=>?_
 refine B7 1 fun B G=>?_
 refine A8 <| A6 (ι:=Bool) (fun (x32_1:Bool)=>mk [(1,.ptr 0 0),(32,.val (.bool x32_1))] [(0,.box (Al.dv e) 59)] 1) (fun (x32_1:Bool)=>Bz.j1 e x32_1=some r) ?_ ?_
 exact C1
 rintro x32_1 G
 unfold Bz.j1 at G
 refine Dl (.l 0 (.e 1)) fun _ B G=>?_
 refine A8 <| A6 (ι:=Bool) (fun (x54_2:Bool)=>mk [(1,.ptr 0 0),(54,.val (.bool x54_2))] [(0,.box (Al.dv e) 59)] 1) (fun (x54_2:Bool)=>Bz.j2 e x54_2=some r) ?_ ?_
 exact C1
 rintro x54_2 G
 unfold Bz.j2 at G
 refine Dl (.l 0 (.e 4)) fun _ B G=>?_
 refine Gc (fun (x58_3:Int)=>mk [(1,.ptr 0 0),(56,.sl 4 (Ak A4.enc e.Identities)),(57,.val (.int .i64 (e.Identities.length:Int))),(58,vk x58_3)] [(0,.box (Al.dv e) 59)] 1) G (B9 [(0,0)]) ?_
 rintro x58_3 m3 o3 G hn3
 unfold Bz.l3 at G
 refine Dl (.l 2 (.e 2)) fun _ B G=>?_
 refine A8 <| A6 (ι:=Bool) (fun (x82_4:Bool)=>mk [(82,.val (.bool x82_4))] [] 0) (fun (x82_4:Bool)=>Bz.j4 x82_4=some r) ?_ ?_
 refine Bn (Dx _ _ []) (by kernel_rfl) [0,1,0,4,15,31,63,127,63,319,1023,2047] 17 113 B rfl rfl (by kernel_rfl) ?_
 refine B7 0 fun B G=>?_
 obtain⟨y_6,hy_6,G⟩:=Aq G
 refine Pw (rd:=[]) (ps:=[]) (gs:=[]) false rfl rfl (Pt hy_6) rfl rfl (.cons .val .nil) rfl rfl (by intro h; cases h) rfl rfl rfl rfl ?_
 obtain⟨y_7,hy_7,G⟩:=Aq G
 refine Mb (@Ix e.Anchors (fun x0=>Gh x0) (fun x0 y h=>@N5 x0 y h) _ hy_7) ?_
 refine Jv (.l 0 (.e 0)) fun h31 B G=>?_
 obtain⟨y_8,hy_8,G⟩:=Aq G
 refine Pw (rd:=[]) (ps:=[]) (gs:=[]) false (Ht rfl rfl h31) rfl (Pg hy_8) rfl rfl (.cons .val .nil) rfl rfl (by intro h; cases h) rfl rfl rfl rfl ?_
 obtain⟨y_9,hy_9,G⟩:=Aq G
 refine Mb (@Iv e.Hashes (fun x0=>Gf x0) (fun x0 y h=>@Oc x0 y h) _ hy_9) ?_
 exact C1
 rintro x82_4 G
 unfold Bz.j4 at G
 exact F0
instance aMf:Wk 59:=⟨_,@Wg⟩
theorem Wq {i r} (G:Bh i=some r):Fn Tryz.prog 62 0 [.agg (Bp.dv i)] [] (fun d' b'=>d'=vk r/\b'=[]):=by
 unfold Bh at G
 refine Ez 0 96 Tryz.func62 fun _ _ _=>?_
 refine B7 1 fun B G=>?_
 refine A6 (ι:=Bool) (fun (known_1:Bool)=>mk [(1,.ptr 0 0),(3,.val (.bool known_1))] [(0,.box (Bp.dv i) 79)] 1) (fun (known_1:Bool)=>Bh.j1 i known_1=some r) ?_ ?_
 exact C1
 rintro known_1 G
 unfold Bh.j1 at G
 try dsimp only at G
 refine Nl rfl ?_
 refine A8 <| A6 (ι:=Bool) (fun (x43_2:Bool)=>mk [(1,.ptr 0 0),(43,.val (.bool x43_2))] [(0,.box (Bp.dv i) 79)] 1) (fun (x43_2:Bool)=>Bh.j2 i x43_2=some r) ?_ ?_
 exact C1
 rintro x43_2 G
 unfold Bh.j2 at G
 refine Dl (.l 0 (.e 4)) fun _ B G=>?_
 refine Gc (fun (x47_3:Int)=>mk [(1,.ptr 0 0),(45,.sl 3 (Ak Dy.enc i.Links)),(46,.val (.int .i64 (i.Links.length:Int))),(47,vk x47_3)] [(0,.box (Bp.dv i) 79)] 1) G (B9 [(0,0)]) ?_
 rintro x47_3 m3 o3 G hn3
 unfold Bh.l3 at G
 refine Iw 2 fun B G=>?_
 refine Ja rfl G (fun _ G=>?_) fun _ G=>?_
 refine B7 6 fun e _ B G=>?_
 refine A6 (ι:=Bool) (fun (x81_4:Bool)=>mk [(1,.ptr 0 0),(45,.sl 3 (Ak Dy.enc i.Links)),(46,.val (.int .i64 (i.Links.length:Int))),(47,vk x47_3),(81,.val (.bool x81_4))] [(0,.box (Bp.dv i) 79)] 1) (fun (x81_4:Bool)=>Bh.j4 x47_3 x81_4=some o3) ?_ ?_
 refine Bn (Dx _ _ []) (by kernel_rfl) [0,1,3,7,15,31,63,127,255,511,1023,2047,4095,8191,16383,32767,65535,131071,262143,524287,262143,1310719,4194303,8388607,16777215,262143,33816575,134217727,268435455,536870911] 57 297 B rfl rfl (by kernel_rfl) ?_
 exact C1
 rintro x81_4 G
 unfold Bh.j4 at G
 exact F0
 refine B7 1 fun B G=>?_
 refine A8 <| A6 (ι:=Bool) (fun (x95_5:Bool)=>mk [(95,.val (.bool x95_5))] [] 0) (fun (x95_5:Bool)=>Bh.j5 x95_5=some r) ?_ ?_
 refine Bn (Dx _ _ []) (by kernel_rfl) [0,1,0,4,12,28,60,127,255,511,1023,2047,4095] 9 113 B rfl rfl (by kernel_rfl) ?_
 exact C1
 rintro x95_5 G
 unfold Bh.j5 at G
 exact F0
instance aN9:Wk 62:=⟨_,@Wq⟩
theorem M2 {x' r} (G:Fs x'=some r):Fn Tryz.prog 61 0 [.agg (Bp.dv x')] [] (fun d' b'=>d'=.val (.bool r)/\b'=[]):=by
 unfold Fs at G
 refine Ez 0 6 Tryz.func61 fun _ _ _=>?_
 exact C1
instance aMi:Wk 61:=⟨_,@M2⟩
theorem Kh {s:(List Bp)} {f:Bp->Option (Bool)} (hf_f:∀ (x0:Bp) (y:Bool),f x0=some y->Fn Tryz.prog 61 0 [.agg (Bp.dv x0)] [] (fun d' b'=>d'=.val (.bool y)/\b'=[])) {r:Int} (G:Bw s f=some r):Fn Tryz.prog 89 0 [.sl 5 (Ak Bp.enc s),.clo 61 0 []] [] (fun d' b'=>d'=vk r/\b'=[]):=by
 unfold Bw at G
 refine Ez 0 19 Tryz.func89 fun _ _ _=>?_
 refine B7 4 fun B G=>?_
 refine Gc (fun (x8_1:Int)=>mk [(0,.sl 5 (Ak Bp.enc s)),(1,.clo 61 0 []),(7,.val (.int .i64 (s.length:Int))),(8,vk x8_1)] [] 0) G (B9 []) ?_
 rintro x8_1 m1 o1 G hn1
 unfold Bw.l1 at G
 refine Dl (.r 2 (.e 7)) fun _ e _ B G=>?_
 obtain⟨y,hy,G⟩:=Aq G
 refine E0 (rd:=[]) (ps:=[]) (gs:=[]) false rfl rfl (hf_f e _ hy) rfl rfl (.cons (.agg (.cons .val (.cons .val (.cons .val (.cons .sl (.cons .val .nil)))))) .nil) rfl rfl (by intro h; cases h) rfl rfl rfl rfl ?_
 exact C1
theorem Jq {s:(List Bp)} {f:Bp->Option (Bool)} (hf_f:∀ (x0:Bp) (y:Bool),f x0=some y->Fn Tryz.prog 61 0 [.agg (Bp.dv x0)] [] (fun d' b'=>d'=.val (.bool y)/\b'=[])) {r:Bool} (G:Et s f=some r):Fn Tryz.prog 60 0 [.sl 5 (Ak Bp.enc s),.clo 61 0 []] [] (fun d' b'=>d'=.val (.bool r)/\b'=[]):=by
 unfold Et at G
 refine Ez 0 9 Tryz.func60 fun _ _ _=>?_
 refine B7 2 fun B G=>?_
 obtain⟨y,hy,G⟩:=Aq G
 refine Mb (@Kh s f hf_f _ hy) ?_
 exact C1
theorem Vg {l size r} (G:Bx l size=some r):Fn Tryz.prog 63 0 [.sl 2 (Ak Aw.enc l),vk size] [] (fun d' b'=>d'=.val (.bool r)/\b'=[]):=by
 unfold Bx at G
 refine Ez 0 80 Tryz.func63 fun _ _ _=>?_
 refine B7 4 fun B G=>?_
 refine Gc (fun (x9_1:Int)=>mk [(0,.sl 2 (Ak Aw.enc l)),(1,vk size),(7,.sl 2 (Ak Aw.enc l)),(8,.val (.int .i64 (l.length:Int))),(9,vk x9_1)] [] 0) G (B9 []) ?_
 rintro x9_1 m1 o1 G hn1
 unfold Bx.l1 at G
 refine Dl (.r 2 (.e 6)) fun _ e _ B G=>?_
 refine A8 <| A6 (ι:=Bool) (fun (x40_2:Bool)=>mk [(0,.sl 2 (Ak Aw.enc l)),(1,vk size),(5,vk x9_1),(6,.ptr 0 0),(7,.sl 2 (Ak Aw.enc l)),(8,.val (.int .i64 (l.length:Int))),(9,vk x9_1),(40,.val (.bool x40_2))] [(0,.box [vk e.Client,vk e.Server] 76)] 1) (fun (x40_2:Bool)=>Bx.j2 l x9_1 e x40_2=some o1) ?_ ?_
 exact C1
 rintro x40_2 G
 unfold Bx.j2 at G
 refine Dl (.l 0 (.e 1)) fun _ B G=>?_
 refine A6 (ι:=Bool) (fun (x75_3:Bool)=>mk [(0,.sl 2 (Ak Aw.enc l)),(1,vk size),(7,.sl 2 (Ak Aw.enc l)),(8,.val (.int .i64 (l.length:Int))),(9,vk x9_1),(75,.val (.bool x75_3))] [] 0) (fun (x75_3:Bool)=>Bx.j3 x9_1 x75_3=some o1) ?_ ?_
 refine Bn (Dx _ _ []) (by kernel_rfl) [0,1,3,7,7,23,63,127,255,7,519,2047,4095,8191,8191,24575,65535,131071,262143,8191,532479,2097151,4194303,8388607,8388607,25165823,67108863,134217727,268435455,8388607,545259519,2147483647,4294967295,8589934591,17179869183] 1 281 Ha rfl rfl (by kernel_rfl) ?_
 exact C1
 rintro x75_3 G
 unfold Bx.j3 at G
 exact F0
instance aN0:Wk 63:=⟨_,@Vg⟩
end Go.Proofs.YtkioneinddihlaaGreat
