import Derived.Test.YtkioneinddihlaaGreatT1
import Derived.Test.YtkioneinddihlaaGreatEU
import Derived.Test.YtkioneinddihlaaGreatA1
import Derived.Test.YtkioneinddihlaaGreatA3
import Derived.Test.YtkioneinddihlaaGreatA4
import Derived.Test.YtkioneinddihlaaGreatA9
set_option linter.unusedVariables false
set_option linter.unusedSimpArgs false
set_option maxRecDepth 100000
set_option maxHeartbeats 40000000
namespace Go.Proofs.YtkioneinddihlaaGreat
open Go.RowKit
theorem Wf {e r} (G:Ca e=some r):Fn Tryz.prog 37 0 [.agg (An.dv e)] [] (fun d' b'=>d'=vk r/\b'=[]):=by
 unfold Ca at G
 refine Ez 0 59 Tryz.func37 fun _ _ _=>?_
 refine B7 4 fun B G=>?_
 refine Gc (fun (x9_1:Int)=>mk [(1,.ptr 0 0),(7,.sl 9 (Ak Al.enc e.Endpoints)),(8,.val (.int .i64 (e.Endpoints.length:Int))),(9,vk x9_1)] [(0,.box (An.dv e) 34)] 1) G (B9 [(0,0)]) ?_
 rintro x9_1 m1 o1 G hn1
 unfold Ca.l1 at G
 refine Iw 2 fun B G=>?_
 refine Ja rfl G (fun _ G=>?_) fun _ G=>?_
 refine B7 6 fun e_2 _ B G=>?_
 refine A6 (ι:=Bool) (fun (x32_2:Bool)=>mk [(1,.ptr 0 0),(7,.sl 9 (Ak Al.enc e.Endpoints)),(8,.val (.int .i64 (e.Endpoints.length:Int))),(9,vk x9_1),(32,.val (.bool x32_2))] [(0,.box (An.dv e) 34)] 1) (fun (x32_2:Bool)=>Ca.j2 x9_1 x32_2=some o1) ?_ ?_
 refine Bn (Dx _ _ []) (by kernel_rfl) [0,1,3,7,15,31,63,127,255,127,639,2047,4095,8191,127,16511,65535,131071,262143] 57 209 B rfl rfl (by kernel_rfl) ?_
 exact C1
 rintro x32_2 G
 unfold Ca.j2 at G
 exact F0
 refine B7 2 fun B G=>?_
 obtain⟨y_2,hy_2,G⟩:=Aq G
 refine Mb (@Jq e.Items (fun x0=>Fs x0) (fun x0 y h=>@M2 x0 y h) _ hy_2) ?_
 refine B7 0 fun B G=>?_
 refine A8 <| A6 (ι:=Bool) (fun (x58_3:Bool)=>mk [(58,.val (.bool x58_3))] [] 0) (fun (x58_3:Bool)=>Ca.j3 x58_3=some r) ?_ ?_
 exact C1
 rintro x58_3 G
 unfold Ca.j3 at G
 exact F0
instance aN6:Wk 37:=⟨_,@Wf⟩
theorem cX {e c r} (G:Hn e c=some r):Fn Tryz.prog 40 0 [.agg (An.dv e),.agg (Ae.dv c)] [] (fun d' b'=>d'=.val (.bool r)/\b'=[]):=by
 unfold Hn at G
 refine Ez 0 16 Tryz.func40 fun _ _ _=>?_
 exact C1
instance aOd:Wk 40:=⟨_,@cX⟩
theorem Pr {c c0 r} (G:F4 c c0=some r):Fn Tryz.prog 39 0 [.agg (Ae.dv c),.elt (((An.ec c0):List C).drop 0)] [] (fun d' b'=>d'=.val (.bool r)/\b'=[]):=by
 unfold F4 at G
 refine Ez 0 8 Tryz.func39 fun _ _ _=>?_
 refine B7 2 fun B G=>?_
 refine Fw rfl rfl (Mn aCu (cs2:=(An.ec c0)) rfl (aEn rfl)) rfl rfl ?_
 exact C1
instance aLs:Wk 39:=⟨_,@Pr⟩
theorem Iu {s:(List Ae)} {f:Ae->Option (Bool)} {f_c0:An} (hf_f:∀ (x0:Ae) (y:Bool),f x0=some y->Fn Tryz.prog 39 0 [.agg (Ae.dv x0),.elt (((An.ec f_c0):List C).drop 0)] [] (fun d' b'=>d'=.val (.bool y)/\b'=[])) {r:Int} (G:Bq s f=some r):Fn Tryz.prog 64 0 [.sl 8 (Ak Ae.enc s),.clo 39 0 [.elt (((An.ec f_c0):List C).drop 0)]] [] (fun d' b'=>d'=vk r/\b'=[]):=by
 unfold Bq at G
 refine Ez 0 19 Tryz.func64 fun _ _ _=>?_
 refine B7 4 fun B G=>?_
 refine Gc (fun (x8_1:Int)=>mk [(0,.sl 8 (Ak Ae.enc s)),(1,.clo 39 0 [.elt (((An.ec f_c0):List C).drop 0)]),(7,.val (.int .i64 (s.length:Int))),(8,vk x8_1)] [] 0) G (B9 []) ?_
 rintro x8_1 m1 o1 G hn1
 unfold Bq.l1 at G
 refine Dl (.r 2 (.e 7)) fun _ e _ B G=>?_
 obtain⟨y,hy,G⟩:=Aq G
 refine E0 (rd:=[]) (ps:=[]) (gs:=[]) false rfl rfl (hf_f e _ hy) rfl rfl (.cons (.agg (.cons .val (.cons .val (.cons .val (.cons .val (.cons .val (.cons .val (.cons .val (.cons .sl .nil))))))))) (.cons .elt .nil)) rfl rfl (by intro h; cases h) rfl rfl rfl rfl ?_
 exact C1
theorem If {s:(List Ae)} {f:Ae->Option (Bool)} {f_c0:An} (hf_f:∀ (x0:Ae) (y:Bool),f x0=some y->Fn Tryz.prog 39 0 [.agg (Ae.dv x0),.elt (((An.ec f_c0):List C).drop 0)] [] (fun d' b'=>d'=.val (.bool y)/\b'=[])) {r:Bool} (G:Ej s f=some r):Fn Tryz.prog 38 0 [.sl 8 (Ak Ae.enc s),.clo 39 0 [.elt (((An.ec f_c0):List C).drop 0)]] [] (fun d' b'=>d'=.val (.bool r)/\b'=[]):=by
 unfold Ej at G
 refine Ez 0 9 Tryz.func38 fun _ _ _=>?_
 refine B7 2 fun B G=>?_
 obtain⟨y,hy,G⟩:=Aq G
 refine Mb (@Iu s f f_c0 hf_f _ hy) ?_
 exact C1
theorem P1 {s v r} (G:De s v=some r):Fn Tryz.prog 92 0 [.sl 2 (Ak Aw.enc s),.agg [vk v.Client,vk v.Server]] [] (fun d' b'=>d'=vk r/\b'=[]):=by
 unfold De at G
 refine Ez 0 19 Tryz.func92 fun _ _ _=>?_
 refine B7 4 fun B G=>?_
 refine Gc (fun (x8_1:Int)=>mk [(0,.sl 2 (Ak Aw.enc s)),(3,.ptr 0 0),(7,.val (.int .i64 (s.length:Int))),(8,vk x8_1)] [(0,.box [vk v.Client,vk v.Server] 76)] 1) G (B9 [(0,0)]) ?_
 rintro x8_1 m1 o1 G hn1
 unfold De.l1 at G
 refine Dl (.r 2 (.e 4)) fun _ B G=>?_
 refine A8 <| Bn (Dx _ _ []) (by kernel_rfl) [0,0,0,6,14,31] 25 73 B rfl rfl (by kernel_rfl) ?_
 refine B7 2 fun e _ B G=>?_
 refine Fw rfl rfl (Tk v e) rfl rfl ?_
 exact C1
instance aMu:Wk 92:=⟨_,@P1⟩
theorem Nk {s v r} (G:Ey s v=some r):Fn Tryz.prog 65 0 [.sl 2 (Ak Aw.enc s),.agg [vk v.Client,vk v.Server]] [] (fun d' b'=>d'=.val (.bool r)/\b'=[]):=by
 unfold Ey at G
 refine Ez 0 9 Tryz.func65 fun _ _ _=>?_
 exact C1
instance aLu:Wk 65:=⟨_,@Nk⟩
theorem aH {e a b r} (G:Kt e a b=some r):Fn Tryz.prog 41 0 [.agg (An.dv e),vk a,vk b] [] (fun d' b'=>d'=.val (.bool r)/\b'=[]):=by
 unfold Kt at G
 refine Ez 0 26 Tryz.func41 fun _ _ _=>?_
 refine Jv (.l 2 (.e 0)) fun _ B G=>?_
 refine Kp Vd jU rB ?_
 refine Jv (.l 1 (.e 0)) fun _ _ _ B G=>?_
 refine Kp Vd jU rB ?_
 exact C1
instance aMn:Wk 41:=⟨_,@aH⟩
theorem aA {e l r} (G:Ce e l=some r):Fn Tryz.prog 13 0 [.agg (An.dv e),.sl 8 (Ak Ae.enc l)] [] (fun d' b'=>d'=.tup [.sl 2 (Ak Ac.enc r.1),vk r.2]/\b'=[]):=by
 unfold Ce at G
 refine Ez 0 72 Tryz.func13 fun _ _ _=>?_
 refine Jv (.l 5 (.l 1 (.e 0))) fun y _ _ _ B G=>?_
 refine A8 <| G3 (σ':=mk [(1,.sl 8 (Ak Ae.enc l)),(2,.elt (((An.ec e):List C).drop 0))] [] 0) ((by exact P4.lists [] rfl rfl ⟨⟨_,rfl,.sl _ _⟩,⟨_,rfl,.frzb (ks:=[some 9,some 2,some 5]) rfl (.cons .sl (.cons .sl (.cons .sl .nil))) (Ij rfl)⟩,trivial⟩ trivial)) ?_
 refine B7 1 fun B G=>?_
 obtain⟨y_2,hy_2,G⟩:=Aq G
 refine Mb (@If l (fun x0=>F4 x0 e) e (fun x0 y h=>@Pr x0 e y h) _ hy_2) ?_
 refine Jv (.l 0 (.e 5)) fun _ B G=>?_
 refine Gc (fun ((x25_2,out_2):Int×List Ac)=>mk [(1,.sl 8 (Ak Ae.enc l)),(2,.elt (((An.ec e):List C).drop 0)),(6,.row 0),(23,.sl 8 (Ak Ae.enc l)),(24,.val (.int .i64 (l.length:Int))),(25,vk x25_2)] [(0,.row 25 2 (Ak Ac.enc out_2))] 1) G (B9 []) ?_
 rintro⟨x25_2,out_2⟩ m2 o2 G hn2
 unfold Ce.l2 at G
 refine Iw 2 fun B G=>?_
 refine Ja rfl G (fun _ G=>?_) fun _ G=>?_
 refine B7 8 fun e_2 _ B G=>?_
 refine Gc (fun ((x32_3,out_3):Int×List Ac)=>mk [(1,.sl 8 (Ak Ae.enc l)),(2,.elt (((An.ec e):List C).drop 0)),(6,.row 0),(7,vk x25_2),(8,.ptr 1 0),(23,.sl 8 (Ak Ae.enc l)),(24,.val (.int .i64 (l.length:Int))),(25,vk x25_2),(30,.sl 8 (Ak Ae.enc l)),(31,.val (.int .i64 (l.length:Int))),(32,vk x32_3)] [(0,.row 25 2 (Ak Ac.enc out_3)),(1,.box (Ae.dv e_2) 45)] 2) G (B9 [(0,0),(1,33)]) ?_
 rintro⟨x32_3,out_3⟩ m3 o3 G hn3
 unfold Ce.l3 at G
 refine Dl (.r 2 (.e 1)) fun _ B G=>?_
 refine A6 (ι:=List Ac) (fun (out_5:List Ac)=>mk [(1,.sl 8 (Ak Ae.enc l)),(2,.elt (((An.ec e):List C).drop 0)),(6,.row 0),(7,vk x25_2),(8,.ptr 1 0),(23,.sl 8 (Ak Ae.enc l)),(24,.val (.int .i64 (l.length:Int))),(25,vk x25_2),(30,.sl 8 (Ak Ae.enc l)),(31,.val (.int .i64 (l.length:Int))),(32,vk x32_3)] [(0,.row 25 2 (Ak Ac.enc out_5)),(1,.box (Ae.dv e_2) 45)] 2) (fun (out_5:List Ac)=>Ce.j5 x32_3 out_5=some o3) ?_ ?_
 refine B7 4 fun _ _ B G=>?_
 refine A6 (ι:=Bool) (fun (x61_4:Bool)=>mk [(1,.sl 8 (Ak Ae.enc l)),(2,.elt (((An.ec e):List C).drop 0)),(6,.row 0),(7,vk x25_2),(8,.ptr 1 0),(9,vk x32_3),(23,.sl 8 (Ak Ae.enc l)),(24,.val (.int .i64 (l.length:Int))),(25,vk x25_2),(30,.sl 8 (Ak Ae.enc l)),(31,.val (.int .i64 (l.length:Int))),(32,vk x32_3),(61,.val (.bool x61_4))] [(0,.row 25 2 (Ak Ac.enc out_3)),(1,.box (Ae.dv e_2) 45)] 2) (fun (x61_4:Bool)=>Ce.j4 x25_2 x32_3 out_3 x61_4=some o3) ?_ ?_
 refine Bn (Dx _ _ []) (by kernel_rfl) [0,1,0,4,15,31,0,127,0,256,0,1024,3840,7936,0,32767,65535,131071,262143,262143,786431,262143,2359295,8388607,16777215] 58 258 B rfl rfl (by kernel_rfl) ?_
 refine Fw rfl rfl (T7 lI tL (by decide) (aEn rfl)) rfl rfl ?_
 refine Fw rfl rfl (Fr tL (c:=.sl 9 (Ak Al.enc e.Endpoints)) rfl) rfl rfl ?_
 refine B7 3 fun _ _ _ _ B G=>?_
 refine Fw rfl rfl (T7 lI tL (by decide) (aEn rfl)) rfl rfl ?_
 refine Fw rfl rfl (Fr tL (c:=.sl 9 (Ak Al.enc e.Endpoints)) rfl) rfl rfl ?_
 refine Jv (.r 3 (.e 0)) fun _ _ _ _ h20 B G=>?_
 refine Fw (Ht rfl rfl h20) rfl (Mn aCu (cs2:=(An.ec e)) rfl (aEn rfl)) rfl rfl ?_
 exact C1
 rintro x61_4 G
 unfold Ce.j4 at G
 refine Dl (.r 0 (.e 1)) fun _ B G=>?_
 refine Kp Pb Yt Z9 ?_
 refine H0 W9 Z9 aU ([(Ac.mk x25_2 x32_3)]:List Ac) Ac.enc ?_
 exact C1
 rintro out_5 G
 unfold Ce.j5 at G
 exact F0
 refine B7 1 fun B G=>?_
 refine A8 <| G3 (σ':=mk [(6,.sl 2 (Ak Ac.enc out_2))] [] 0) (B9 []) ?_
 exact C1
instance aNc:Wk 13:=⟨_,@aA⟩
theorem fB {s r} (G:Bm s=some r):Fn Tryz.prog 97 0 [ws s] [] (fun d' b'=>d'=.val (.bool r)/\b'=[]):=by
 unfold Bm at G
 refine Ez 0 56 Tryz.func97 fun _ _ _=>?_
 refine B7 1 fun B G=>?_
 refine A8 <| A6 (ι:=Bool) (fun (x12_1:Bool)=>mk [(0,ws s),(12,.val (.bool x12_1))] [] 0) (fun (x12_1:Bool)=>Bm.j1 s x12_1=some r) ?_ ?_
 exact C1
 rintro x12_1 G
 unfold Bm.j1 at G
 refine Dl (.l 0 (.e 4)) fun _ B G=>?_
 refine Gc (fun (i_2:Int)=>mk [(0,ws s),(3,vk i_2)] [] 0) G (B9 []) ?_
 rintro i_2 m2 o2 G hn2
 unfold Bm.l2 at G
 refine Dl (.r 3 (.e 5)) fun _ c _ B G=>?_
 refine A6 (ι:=Bool) (fun (x55_3:Bool)=>mk [(0,ws s),(3,vk i_2),(55,.val (.bool x55_3))] [] 0) (fun (x55_3:Bool)=>Bm.j3 i_2 x55_3=some o2) ?_ ?_
 exact C1
 rintro x55_3 G
 unfold Bm.j3 at G
 exact F0
instance aNl:Wk 97:=⟨_,@fB⟩
theorem aN {key id chain r} (G:Dk key id chain=some r):Fn Tryz.prog 99 0 [.agg [vk key.Alg,vk key.Bits],vk id,.sl 15 (Ak Ah.enc chain)] [] (fun d' b'=>d'=.val (.bool r)/\b'=[]):=by
 unfold Dk at G
 refine Ez 0 55 Tryz.func99 fun _ _ _=>?_
 refine B7 1 fun B G=>?_
 refine A8 <| A6 (ι:=Bool) (fun (x23_1:Bool)=>mk [(1,vk id),(2,.sl 15 (Ak Ah.enc chain)),(3,.ptr 0 0),(23,.val (.bool x23_1))] [(0,.box [vk key.Alg,vk key.Bits] 40)] 1) (fun (x23_1:Bool)=>Dk.j1 key id chain x23_1=some r) ?_ ?_
 exact C1
 rintro x23_1 G
 unfold Dk.j1 at G
 refine Dl (.l 0 (.e 4)) fun _ B G=>?_
 refine Gc (fun (i_2:Int)=>mk [(1,vk id),(2,.sl 15 (Ak Ah.enc chain)),(3,.ptr 0 0),(7,vk i_2)] [(0,.box [vk key.Alg,vk key.Bits] 40)] 1) G (B9 [(0,0)]) ?_
 rintro i_2 m2 o2 G hn2
 unfold Dk.l2 at G
 refine Dl (.l 2 (.e 1)) fun _ B G=>?_
 refine A8 <| Bn (Dx _ _ []) (by kernel_rfl) [0,1,3,7,15,31,63,127,15,511,1023,2047,4095,8191,16383,2047,65535,131071,262143,524287] 33 193 B rfl rfl (by kernel_rfl) ?_
 refine Jv (.l 0 (.e 3)) fun h18 e_2 he_2 B G=>?_
 refine Fw (Ht rfl rfl h18) rfl (Za e_2.Key key) rfl rfl ?_
 exact C1
instance aNe:Wk 99:=⟨_,@aN⟩
end Go.Proofs.YtkioneinddihlaaGreat
