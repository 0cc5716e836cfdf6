import Derived.Test.YtboglmbblmakjaaGreatDoorT1
import Derived.Test.YtboglmbblmakjaaGreatDoorEU
import Derived.Test.YtboglmbblmakjaaGreatDoorA1
import Derived.Test.YtboglmbblmakjaaGreatDoorA7
set_option linter.unusedVariables false
set_option linter.unusedSimpArgs false
set_option maxRecDepth 100000
set_option maxHeartbeats 40000000
namespace Go.Proofs.YtboglmbblmakjaaGreatDoor
open Go.RowKit
theorem So {x' r} (G:Ho x'=some r):Fn Tryz.prog 79 0 [.agg (Aq.dv x')] [] (fun d' b'=>d'=.val (.bool r)/\b'=[]):=by
 unfold Ho at G
 refine Ea 0 6 Tryz.func79 fun _ _ _=>?_
 exact C6
instance bC2:Wk 79:=⟨_,@So⟩
theorem Ot {s:(List Aq)} {f:Aq->Option (Bool)} (hf_f:∀ (x0:Aq) (y:Bool),f x0=some y->Fn Tryz.prog 79 0 [.agg (Aq.dv x0)] [] (fun d' b'=>d'=.val (.bool y)/\b'=[])) {r:Int} (G:B6 s f=some r):Fn Tryz.prog 132 0 [.sl 5 (Ac Aq.enc s),.clo 79 0 []] [] (fun d' b'=>d'=vk r/\b'=[]):=by
 unfold B6 at G
 refine Ea 0 19 Tryz.func132 fun _ _ _=>?_
 refine Cb 4 fun B G=>?_
 refine Ip (fun (x8_1:Int)=>mk [(0,.sl 5 (Ac Aq.enc s)),(1,.clo 79 0 []),(7,.val (.int .i64 (s.length:Int))),(8,vk x8_1)] [] 0) G (B5 []) ?_
 rintro x8_1 m1 o1 G hn1
 unfold B6.l1 at G
 refine E6 (.r 2 (.e 7)) fun _ e _ B G=>?_
 obtain⟨y,hy,G⟩:=Af G
 refine F5 (rd:=[]) (ps:=[]) (gs:=[]) false rfl rfl (hf_f e _ hy) rfl rfl (.cons (.agg (.cons .val (.cons .val (.cons .val (.cons .sl (.cons .val .nil)))))) .nil) rfl rfl (by intro h; cases h) rfl rfl rfl rfl ?_
 exact C6
theorem Nk {s:(List Aq)} {f:Aq->Option (Bool)} (hf_f:∀ (x0:Aq) (y:Bool),f x0=some y->Fn Tryz.prog 79 0 [.agg (Aq.dv x0)] [] (fun d' b'=>d'=.val (.bool y)/\b'=[])) {r:Bool} (G:Gg s f=some r):Fn Tryz.prog 78 0 [.sl 5 (Ac Aq.enc s),.clo 79 0 []] [] (fun d' b'=>d'=.val (.bool r)/\b'=[]):=by
 unfold Gg at G
 refine Ea 0 9 Tryz.func78 fun _ _ _=>?_
 refine Cb 2 fun B G=>?_
 obtain⟨y,hy,G⟩:=Af G
 refine P9 (@Ot s f hf_f _ hy) ?_
 exact C6
theorem aQ {l size r} (G:B8 l size=some r):Fn Tryz.prog 80 0 [.sl 2 (Ac Bi.enc l),vk size] [] (fun d' b'=>d'=.val (.bool r)/\b'=[]):=by
 unfold B8 at G
 refine Ea 0 80 Tryz.func80 fun _ _ _=>?_
 refine Cb 4 fun B G=>?_
 refine Ip (fun (x9_1:Int)=>mk [(0,.sl 2 (Ac Bi.enc l)),(1,vk size),(7,.sl 2 (Ac Bi.enc l)),(8,.val (.int .i64 (l.length:Int))),(9,vk x9_1)] [] 0) G (B5 []) ?_
 rintro x9_1 m1 o1 G hn1
 unfold B8.l1 at G
 refine E6 (.r 2 (.e 6)) fun _ e _ B G=>?_
 refine Ar <| Ba (ι:=Bool) (fun (x40_2:Bool)=>mk [(0,.sl 2 (Ac Bi.enc l)),(1,vk size),(5,vk x9_1),(6,.ptr 0 0),(7,.sl 2 (Ac Bi.enc l)),(8,.val (.int .i64 (l.length:Int))),(9,vk x9_1),(40,.val (.bool x40_2))] [(0,.box [vk e.Client,vk e.Server] 98)] 1) (fun (x40_2:Bool)=>B8.j2 l x9_1 e x40_2=some o1) ?_ ?_
 exact C6
 rintro x40_2 G
 unfold B8.j2 at G
 refine E6 (.l 0 (.e 1)) fun _ B G=>?_
 refine Ba (ι:=Bool) (fun (x75_3:Bool)=>mk [(0,.sl 2 (Ac Bi.enc l)),(1,vk size),(7,.sl 2 (Ac Bi.enc l)),(8,.val (.int .i64 (l.length:Int))),(9,vk x9_1),(75,.val (.bool x75_3))] [] 0) (fun (x75_3:Bool)=>B8.j3 x9_1 x75_3=some o1) ?_ ?_
 refine Ca (E4 _ _ []) (by kernel_rfl) [0,1,3,7,7,23,63,127,255,7,519,2047,4095,8191,8191,24575,65535,131071,262143,8191,532479,2097151,4194303,8388607,8388607,25165823,67108863,134217727,268435455,8388607,545259519,2147483647,4294967295,8589934591,17179869183] 1 281 Gu rfl rfl (by kernel_rfl) ?_
 exact C6
 rintro x75_3 G
 unfold B8.j3 at G
 exact Ik
instance bCu:Wk 80:=⟨_,@aQ⟩
theorem cH {e r} (G:Cp e=some r):Fn Tryz.prog 41 0 [.agg (Ak.dv e)] [] (fun d' b'=>d'=vk r/\b'=[]):=by
 unfold Cp at G
 refine Ea 0 59 Tryz.func41 fun _ _ _=>?_
 refine Cb 4 fun B G=>?_
 refine Ip (fun (x9_1:Int)=>mk [(1,.ptr 0 0),(7,.sl 9 (Ac Ad.enc e.Endpoints)),(8,.val (.int .i64 (e.Endpoints.length:Int))),(9,vk x9_1)] [(0,.box (Ak.dv e) 31)] 1) G (B5 [(0,0)]) ?_
 rintro x9_1 m1 o1 G hn1
 unfold Cp.l1 at G
 refine Q4 2 fun B G=>?_
 refine Ji rfl G (fun _ G=>?_) fun _ G=>?_
 refine Cb 6 fun e_2 _ B G=>?_
 refine Ba (ι:=Bool) (fun (x32_2:Bool)=>mk [(1,.ptr 0 0),(7,.sl 9 (Ac Ad.enc e.Endpoints)),(8,.val (.int .i64 (e.Endpoints.length:Int))),(9,vk x9_1),(32,.val (.bool x32_2))] [(0,.box (Ak.dv e) 31)] 1) (fun (x32_2:Bool)=>Cp.j2 x9_1 x32_2=some o1) ?_ ?_
 refine Ca (E4 _ _ []) (by kernel_rfl) [0,1,3,7,15,31,63,127,255,127,639,2047,4095,8191,127,16511,65535,131071,262143] 57 209 B rfl rfl (by kernel_rfl) ?_
 exact C6
 rintro x32_2 G
 unfold Cp.j2 at G
 exact Ik
 refine Cb 2 fun B G=>?_
 obtain⟨y_2,hy_2,G⟩:=Af G
 refine P9 (@Nk e.Items (fun x0=>Ho x0) (fun x0 yy hh=>@So x0 yy hh) _ hy_2) ?_
 refine Cb 0 fun B G=>?_
 refine Ar <| Ba (ι:=Bool) (fun (x58_3:Bool)=>mk [(58,.val (.bool x58_3))] [] 0) (fun (x58_3:Bool)=>Cp.j3 x58_3=some r) ?_ ?_
 exact C6
 rintro x58_3 G
 unfold Cp.j3 at G
 exact Ik
instance bBm:Wk 41:=⟨_,@cH⟩
theorem nU {r' r} (G:Qx r'=some r):Fn Tryz.prog 102 0 [.agg (Al.dv r')] [] (fun d' b'=>d'=.val (.bool r)/\b'=[]):=by
 unfold Qx at G
 refine Ea 0 48 Tryz.func102 fun _ _ _=>?_
 exact C6
instance aZg:Wk 102:=⟨_,@nU⟩
theorem V8 {r' r} (G:I4 r'=some r):Fn Tryz.prog 101 0 [.agg (Al.dv r')] [] (fun d' b'=>d'=.val (.bool r)/\b'=[]):=by
 unfold I4 at G
 refine Ea 0 6 Tryz.func101 fun _ _ _=>?_
 exact C6
instance aXp:Wk 101:=⟨_,@V8⟩
theorem Oc {s:(List Al)} {f:Al->Option (Bool)} (hf_f:∀ (x0:Al) (y:Bool),f x0=some y->Fn Tryz.prog 101 0 [.agg (Al.dv x0)] [] (fun d' b'=>d'=.val (.bool y)/\b'=[])) {r:Int} (G:Co s f=some r):Fn Tryz.prog 160 0 [.sl 6 (Ac Al.enc s),.clo 101 0 []] [] (fun d' b'=>d'=vk r/\b'=[]):=by
 unfold Co at G
 refine Ea 0 19 Tryz.func160 fun _ _ _=>?_
 refine Cb 4 fun B G=>?_
 refine Ip (fun (x8_1:Int)=>mk [(0,.sl 6 (Ac Al.enc s)),(1,.clo 101 0 []),(7,.val (.int .i64 (s.length:Int))),(8,vk x8_1)] [] 0) G (B5 []) ?_
 rintro x8_1 m1 o1 G hn1
 unfold Co.l1 at G
 refine E6 (.r 2 (.e 7)) fun _ e _ B G=>?_
 obtain⟨y,hy,G⟩:=Af G
 refine F5 (rd:=[]) (ps:=[]) (gs:=[]) false rfl rfl (hf_f e _ hy) rfl rfl (.cons (.agg (.cons .val (.cons .val (.cons .val (.cons .val (.cons .val (.cons .val .nil))))))) .nil) rfl rfl (by intro h; cases h) rfl rfl rfl rfl ?_
 exact C6
theorem Ng {s:(List Al)} {f:Al->Option (Bool)} (hf_f:∀ (x0:Al) (y:Bool),f x0=some y->Fn Tryz.prog 101 0 [.agg (Al.dv x0)] [] (fun d' b'=>d'=.val (.bool y)/\b'=[])) {r:Bool} (G:Gf s f=some r):Fn Tryz.prog 100 0 [.sl 6 (Ac Al.enc s),.clo 101 0 []] [] (fun d' b'=>d'=.val (.bool r)/\b'=[]):=by
 unfold Gf at G
 refine Ea 0 9 Tryz.func100 fun _ _ _=>?_
 refine Cb 2 fun B G=>?_
 obtain⟨y,hy,G⟩:=Af G
 refine P9 (@Oc s f hf_f _ hy) ?_
 exact C6
theorem sE {k r} (G:R1 k=some r):Fn Tryz.prog 105 0 [.agg [vk k.Purpose,vk k.Days]] [] (fun d' b'=>d'=.val (.bool r)/\b'=[]):=by
 unfold R1 at G
 refine Ea 0 21 Tryz.func105 fun _ _ _=>?_
 exact C6
instance bAb:Wk 105:=⟨_,@sE⟩
theorem V9 {k r} (G:I6 k=some r):Fn Tryz.prog 104 0 [.agg [vk k.Purpose,vk k.Days]] [] (fun d' b'=>d'=.val (.bool r)/\b'=[]):=by
 unfold I6 at G
 refine Ea 0 6 Tryz.func104 fun _ _ _=>?_
 exact C6
instance bAk:Wk 104:=⟨_,@V9⟩
theorem Oe {s:(List Bk)} {f:Bk->Option (Bool)} (hf_f:∀ (x0:Bk) (y:Bool),f x0=some y->Fn Tryz.prog 104 0 [.agg [vk x0.Purpose,vk x0.Days]] [] (fun d' b'=>d'=.val (.bool y)/\b'=[])) {r:Int} (G:Cm s f=some r):Fn Tryz.prog 161 0 [.sl 2 (Ac Bk.enc s),.clo 104 0 []] [] (fun d' b'=>d'=vk r/\b'=[]):=by
 unfold Cm at G
 refine Ea 0 19 Tryz.func161 fun _ _ _=>?_
 refine Cb 4 fun B G=>?_
 refine Ip (fun (x8_1:Int)=>mk [(0,.sl 2 (Ac Bk.enc s)),(1,.clo 104 0 []),(7,.val (.int .i64 (s.length:Int))),(8,vk x8_1)] [] 0) G (B5 []) ?_
 rintro x8_1 m1 o1 G hn1
 unfold Cm.l1 at G
 refine E6 (.r 2 (.e 7)) fun _ e _ B G=>?_
 obtain⟨y,hy,G⟩:=Af G
 refine F5 (rd:=[]) (ps:=[]) (gs:=[]) false rfl rfl (hf_f e _ hy) rfl rfl (.cons (.agg (.cons .val (.cons .val .nil))) .nil) rfl rfl (by intro h; cases h) rfl rfl rfl rfl ?_
 exact C6
theorem M9 {s:(List Bk)} {f:Bk->Option (Bool)} (hf_f:∀ (x0:Bk) (y:Bool),f x0=some y->Fn Tryz.prog 104 0 [.agg [vk x0.Purpose,vk x0.Days]] [] (fun d' b'=>d'=.val (.bool y)/\b'=[])) {r:Bool} (G:Gi s f=some r):Fn Tryz.prog 103 0 [.sl 2 (Ac Bk.enc s),.clo 104 0 []] [] (fun d' b'=>d'=.val (.bool r)/\b'=[]):=by
 unfold Gi at G
 refine Ea 0 9 Tryz.func103 fun _ _ _=>?_
 refine Cb 2 fun B G=>?_
 obtain⟨y,hy,G⟩:=Af G
 refine P9 (@Oe s f hf_f _ hy) ?_
 exact C6
theorem nZ {p r} (G:Eg p=some r):Fn Tryz.prog 57 0 [.agg [.sl 6 (Ac Al.enc p.Rules),.sl 2 (Ac Bk.enc p.Keeps)]] [] (fun d' b'=>d'=vk r/\b'=[]):=by
 unfold Eg at G
 refine Ea 0 25 Tryz.func57 fun _ _ _=>?_
 refine Cb 1 fun B G=>?_
 refine Ba (ι:=Bool) (fun (wrong_1:Bool)=>mk [(1,.ptr 0 0),(3,.val (.bool wrong_1))] [(0,.box [.sl 6 (Ac Al.enc p.Rules),.sl 2 (Ac Bk.enc p.Keeps)] 39)] 1) (fun (wrong_1:Bool)=>Eg.j1 p wrong_1=some r) ?_ ?_
 refine Cb 1 fun B G=>?_
 obtain⟨y,hy,G⟩:=Af G
 refine P9 (@Ng p.Rules (fun x0=>I4 x0) (fun x0 yy hh=>@V8 x0 yy hh) _ hy) ?_
 refine Qg (.l 0 (.e 0)) fun _ B G=>?_
 obtain⟨y_2,hy_2,G⟩:=Af G
 refine P9 (@M9 p.Keeps (fun x0=>I6 x0) (fun x0 yy hh=>@V9 x0 yy hh) _ hy_2) ?_
 exact C6
 rintro wrong_1 G
 unfold Eg.j1 at G
 try dsimp only at G
 refine X5 rfl ?_
 refine Ar <| Ba (ι:=Bool) (fun (x24_2:Bool)=>mk [(24,.val (.bool x24_2))] [] 0) (fun (x24_2:Bool)=>Eg.j2 x24_2=some r) ?_ ?_
 exact C6
 rintro x24_2 G
 unfold Eg.j2 at G
 exact Ik
instance bBs:Wk 57:=⟨_,@nZ⟩
theorem qV {e p r} (G:N9 e p=some r):Fn Tryz.prog 33 0 [.agg (Ak.dv e),.agg [.sl 6 (Ac Al.enc p.Rules),.sl 2 (Ac Bk.enc p.Keeps)]] [] (fun d' b'=>d'=vk r/\b'=[]):=by
 unfold N9 at G
 refine Ea 0 13 Tryz.func33 fun _ _ _=>?_
 exact C6
instance bDp:Wk 33:=⟨_,@qV⟩
theorem fJ {p u purpose day r} (G:Ej p u purpose day=some r):Fn Tryz.prog 67 0 [.agg [.sl 6 (Ac Al.enc p.Rules),.sl 2 (Ac Bk.enc p.Keeps)],.agg [vk u.Alg,vk u.Bits],vk purpose,vk day] [] (fun d' b'=>d'=vk r/\b'=[]):=by
 unfold Ej at G
 refine Ea 0 34 Tryz.func67 fun _ _ _=>?_
 refine Qg (.l 5 (.l 5 (.e 0))) fun _ _ _ _ _ _ B G=>?_
 refine Ba (ι:=Bool) (fun (x19_1:Bool)=>mk [(19,.val (.bool x19_1))] [] 0) (fun (x19_1:Bool)=>Ej.j1 x19_1=some r) ?_ ?_
 exact C6
 rintro x19_1 G
 unfold Ej.j1 at G
 exact Ik
instance bCd:Wk 67:=⟨_,@fJ⟩
theorem iB {x' y r} (G:Tc x' y=some r):Fn Tryz.prog 266 0 [vk x',vk y] [] (fun d' b'=>d'=.val (.bool r)/\b'=[]):=by
 unfold Tc at G
 refine Ea 0 17 Tryz.func266 fun _ _ _=>?_
 exact C6
instance aXv:Wk 266:=⟨_,@iB⟩
theorem P4 {data a b r} (G:Bc data a b=some r):Fn Tryz.prog 260 1 [.row 0,vk a,vk b] [.row 3 1 (Ac eI data)] (fun d' b'=>d'=.tup []/\b'=[.row 3 1 (Ac eI r)]):=by
 unfold Bc at G
 refine Ea 1 49 Tryz.func260 fun _ _ _=>?_
 refine Cb 2 fun B G=>?_
 refine Ip (fun ((i_1,data_1):Int×List Int)=>mk [(0,.row 0),(1,vk a),(2,vk b),(6,vk i_1)] [(0,.row 3 1 (Ac eI data_1))] 1) G (B5 [(0,0)]) ?_
 rintro⟨i_1,data_1⟩ m1 o1 G hn1
 unfold Bc.l1 at G
 refine E6 (.r 2 (.e 5)) fun _ B G=>?_
 refine Ip (fun ((j_2,data_2):Int×List Int)=>mk [(0,.row 0),(1,vk a),(2,vk b),(6,vk i_1),(7,vk j_2)] [(0,.row 3 1 (Ac eI data_2))] 1) G (B5 [(0,0)]) ?_
 rintro⟨j_2,data_2⟩ m2 o2 G hn2
 unfold Bc.l2 at G
 try dsimp only at G
 refine X5 rfl ?_
 refine Ar <| Ba (ι:=Bool) (fun (x30_3:Bool)=>mk [(0,.row 0),(1,vk a),(2,vk b),(6,vk i_1),(7,vk j_2),(30,.val (.bool x30_3))] [(0,.row 3 1 (Ac eI data_2))] 1) (fun (x30_3:Bool)=>Bc.j3 i_1 j_2 data_2 x30_3=some o2) ?_ ?_
 refine Ca (E4 _ _ []) (by kernel_rfl) [0,0,3,7,15,15,63,127,15,15,527,1807,3855,8191,16383] 1 121 Gu rfl rfl (by kernel_rfl) ?_
 exact C6
 rintro x30_3 G
 unfold Bc.j3 at G
 refine E6 (.r 0 (.e 3)) fun _ B G=>?_
 refine Ca (E4 _ _ []) (by kernel_rfl) [0,0,0,0,8,0,0,64,224,480,0,0,3072,7168,16355,32739,65535,131071] 1 145 Gu rfl rfl (by kernel_rfl) ?_
 refine Cb 4 fun e_3 _ e_4 he_4 B G=>?_
 refine sR_ Pp he_4 (x':=e_3) ?_
 refine Cb 1 fun _ he_5 B G=>?_
 refine sR_ Pp he_5 (x':=e_4) ?_
 exact C6
instance aXc:Wk 260:=⟨_,@P4⟩
theorem Sv {data a b limit r} (G:Eh data a b limit=some r):Fn Tryz.prog 236 1 [.row 0,vk a,vk b,vk limit] [.row 3 1 (Ac eI data)] (fun d' b'=>d'=.tup []/\b'=[.row 3 1 (Ac eI r)]):=by
 unfold Eh at G
 refine Ea 1 134 Tryz.func236 fun _ _ _=>?_
 refine Cb 3 fun B G=>?_
 refine Ip (fun (_:Unit)=>mk [(0,.row 0),(1,vk a),(2,vk b),(3,vk limit),(8,.val (.bool true)),(9,.val (.bool true))] [(0,.row 3 1 (Ac eI data))] 1) G (B5 [(0,0)]) ?_
 rintro _ m1 o1 G hn1
 unfold Eh.l1 at G
 refine E6 (.l 4 (.e 3)) fun _ B G=>?_
 refine Ji rfl G (fun _ G=>?_) fun _ G=>?_
 refine Cb 1 fun B G=>?_
 cases G
 refine Cb 3 fun B G=>?_
 refine Vg rfl (fun h=>?_) (fun h=>?_)
 exact absurd h (by first | decide | exact fun h=>nomatch (show false=true from h) | exact fun h=>nomatch (show true=false from h))
 refine Cb 2 fun B G=>?_
 cases G
instance aZ8:Wk 236:=⟨_,@Sv⟩
end Go.Proofs.YtboglmbblmakjaaGreatDoor
