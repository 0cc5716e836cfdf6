import Derived.Test.YtkioneinddihlaaGreatT1
import Derived.Test.YtkioneinddihlaaGreatEU
set_option linter.unusedVariables false
set_option linter.unusedSimpArgs false
set_option maxRecDepth 100000
set_option maxHeartbeats 40000000
namespace Go.Proofs.YtkioneinddihlaaGreat
open Go.RowKit
theorem fL {l r} (G:M8 l=some r):Fn Tryz.prog 4 0 [.sl 1 (Ak eI l)] [] (fun d' b'=>d'=.val (.bool r)/\b'=[]):=by
 unfold M8 at G
 refine Ez 0 6 Tryz.func4 fun _ _ _=>?_
 exact C1
instance wk4:Wk 4:=⟨_,@fL⟩
theorem gU {e c r} (G:Cs e c=some r):Fn Tryz.prog 20 0 [.agg (Al.dv e),.agg (Ae.dv c)] [] (fun d' b'=>d'=vk r/\b'=[]):=by
 unfold Cs at G
 refine Ez 0 36 Tryz.func20 fun _ _ _=>?_
 refine B7 2 fun B G=>?_
 refine A6 (ι:=Bool) (fun (more_3:Bool)=>mk [(5,.val (.bool more_3))] [] 0) (fun (more_3:Bool)=>Cs.j3 more_3=some r) ?_ ?_
 refine B7 2 fun B G=>?_
 refine A6 (ι:=Bool) (fun (x8_1:Bool)=>mk [(2,.ptr 0 0),(3,.ptr 1 0),(5,.val (.bool false)),(7,vk c.Kind),(8,.val (.bool x8_1))] [(0,.box (Al.dv e) 59),(1,.box (Ae.dv c) 45)] 2) (fun (x8_1:Bool)=>Cs.j1 e c x8_1=some r) ?_ ?_
 exact C1
 rintro x8_1 G
 unfold Cs.j1 at G
 refine Dl (.l 0 (.l 1 (.e 0))) fun _ _ B G=>?_
 refine A6 (ι:=Bool) (fun (x13_2:Bool)=>mk [(2,.ptr 0 0),(3,.ptr 1 0),(5,.val (.bool false)),(7,vk c.Kind),(13,.val (.bool x13_2))] [(0,.box (Al.dv e) 59),(1,.box (Ae.dv c) 45)] 2) (fun (x13_2:Bool)=>Cs.j2 e c x13_2=some r) ?_ ?_
 exact C1
 rintro x13_2 G
 unfold Cs.j2 at G
 exact F0
 rintro more_3 G
 unfold Cs.j3 at G
 exact F0
instance aMx:Wk 20:=⟨_,@gU⟩
theorem Uk {x' r} (G:Bu x'=some r):Fn Tryz.prog 123 0 [.val (.int .u64 x')] [] (fun d' b'=>d'=vk r/\b'=[]):=by
 unfold Bu at G
 refine Ez 0 25 Tryz.func123 fun _ _ _=>?_
 refine eM 0 8 Ha fun B=>?_
 refine A6 (ι:=Int×Int) (fun ((x_1,n_1):Int×Int)=>mk [(0,.val (.int .u64 x_1)),(2,vk n_1)] [] 0) (fun ((x_1,n_1):Int×Int)=>Bu.j1 x_1 n_1=some r) ?_ ?_
 refine eM 8 24 B fun B=>?_
 refine Ja rfl G (fun h3 G=>?_) fun h3 G=>?_
 refine Xs 24 48 B ?_
 refine Kr ?_
 obtain⟨q,hq,G⟩:=Aq G
 refine Fw rfl rfl (dG hq) rfl rfl ?_
 refine Ni fun B=>?_
 refine Cn (Dx _ _ []) 48 56 B rfl rfl ?_
 refine Ni fun B=>?_
 exact⟨(q,32),G,B9 []⟩
 refine jP ?_
 exact⟨(x',0),G,B9 []⟩
 rintro⟨x_1,n_1⟩ G
 unfold Bu.j1 at G
 try dsimp only at G
 refine Nl rfl ?_
 refine A6 (ι:=Int×Int) (fun ((x_2,n_2):Int×Int)=>mk [(0,.val (.int .u64 x_2)),(2,vk n_2)] [] 0) (fun ((x_2,n_2):Int×Int)=>Bu.j2 x_2 n_2=some r) ?_ ?_
 refine eM 0 16 Ha fun B=>?_
 refine Ja rfl G (fun h7 G=>?_) fun h7 G=>?_
 refine Xs 16 40 B ?_
 refine Kr ?_
 obtain⟨q_2,hq_2,G⟩:=Aq G
 refine Fw rfl rfl (dG hq_2) rfl rfl ?_
 refine Ni fun B=>?_
 refine Cn (Dx _ _ []) 40 64 B rfl rfl ?_
 refine Ni fun B=>?_
 exact⟨(q_2,W (n_1 + 16)),G,B9 []⟩
 refine jP ?_
 exact⟨(x_1,n_1),G,B9 []⟩
 rintro⟨x_2,n_2⟩ G
 unfold Bu.j2 at G
 try dsimp only at G
 refine Nl rfl ?_
 refine A6 (ι:=Int×Int) (fun ((x_3,n_3):Int×Int)=>mk [(0,.val (.int .u64 x_3)),(2,vk n_3)] [] 0) (fun ((x_3,n_3):Int×Int)=>Bu.j3 x_3 n_3=some r) ?_ ?_
 refine eM 0 16 Ha fun B=>?_
 refine Ja rfl G (fun h11 G=>?_) fun h11 G=>?_
 refine Xs 16 40 B ?_
 refine Kr ?_
 obtain⟨q_3,hq_3,G⟩:=Aq G
 refine Fw rfl rfl (dG hq_3) rfl rfl ?_
 refine Ni fun B=>?_
 refine Cn (Dx _ _ []) 40 64 B rfl rfl ?_
 refine Ni fun B=>?_
 exact⟨(q_3,W (n_2 + 8)),G,B9 []⟩
 refine jP ?_
 exact⟨(x_2,n_2),G,B9 []⟩
 rintro⟨x_3,n_3⟩ G
 unfold Bu.j3 at G
 try dsimp only at G
 refine Nl rfl ?_
 refine Xs 0 56 Ha ?_
 refine Kr ?_
 refine Fw rfl rfl (cG rE aA5) rfl rfl ?_
 obtain⟨c,hc,G⟩:=Aq G
 refine Fw rfl rfl (rM aEz hc) rfl rfl ?_
 refine Fw rfl rfl (cA (u:=c) aA5 aEy) rfl rfl ?_
 exact t5_
instance aKz:Wk 123:=⟨_,@Uk⟩
theorem Xo {x' r} (G:He x'=some r):Fn Tryz.prog 94 0 [.val (.int .u64 x')] [] (fun d' b'=>d'=vk r/\b'=[]):=by
 unfold He at G
 refine Ez 0 8 Tryz.func94 fun _ _ _=>?_
 refine B7 1 fun B G=>?_
 refine A8 <| pJ (fun h=>?_) (fun h=>?_)
 exact absurd h (by first | decide | exact fun h=>nomatch (show false=true from h) | exact fun h=>nomatch (show true=false from h))
 exact C1
instance aLz:Wk 94:=⟨_,@Xo⟩
theorem Xa {x' r} (G:Jk x'=some r):Fn Tryz.prog 124 0 [vk x'] [] (fun d' b'=>d'=.val (.bool r)/\b'=[]):=by
 unfold Jk at G
 refine Ez 0 6 Tryz.func124 fun _ _ _=>?_
 exact C1
instance aKp:Wk 124:=⟨_,@Xa⟩
theorem Uq {x' y r} (G:G9 x' y=some r):Fn Tryz.prog 96 0 [vk x',vk y] [] (fun d' b'=>d'=vk r/\b'=[]):=by
 unfold G9 at G
 refine Ez 0 20 Tryz.func96 fun _ _ _=>?_
 exact C1
instance aOe:Wk 96:=⟨_,@Uq⟩
theorem U1 {vals r} (G:E3 vals=some r):Fn Tryz.prog 95 0 [.sl 1 (Ak eI vals)] [] (fun d' b'=>d'=vk r/\b'=[]):=by
 unfold E3 at G
 refine Ez 0 18 Tryz.func95 fun _ _ _=>?_
 refine B7 5 fun B G=>?_
 refine Gc (fun (x8_1:Int)=>mk [(3,.val (.int .i64 0)),(6,.sl 1 (Ak eI vals)),(7,.val (.int .i64 (vals.length:Int))),(8,vk x8_1)] [] 0) G (B9 []) ?_
 rintro x8_1 m1 o1 G hn1
 unfold E3.l1 at G
 exact F0
instance aLq:Wk 95:=⟨_,@U1⟩
theorem La {r' s r} (G:Eu r' s=some r):Fn Tryz.prog 67 0 [.agg [vk r'.First,vk r'.Then],.agg [vk s.First,vk s.Then]] [] (fun d' b'=>d'=vk r/\b'=[]):=by
 unfold Eu at G
 refine Ez 0 17 Tryz.func67 fun _ _ _=>?_
 refine B7 1 fun B G=>?_
 refine A8 <| Bn (Dx _ _ []) (by kernel_rfl) [0,1,0,4,15,0,32,0,128,511,1023,2047,4095] 24 128 B rfl rfl (by kernel_rfl) ?_
 refine B7 2 fun y _ y_2 _ B G=>?_
 refine H0 Es z3 I6 ([y,y_2]:List Int) eI ?_
 obtain⟨y_3,hy_3,G⟩:=Aq G
 refine L3 [104] [] [] true (U1 hy_3) ?_
 exact C1
instance aMo:Wk 67:=⟨_,@La⟩
theorem Hl {data:List Aa} {a:Int} {b:Int} {cmp:Aa->Aa->Option (Int)} (hf_cmp:∀ (x0:Aa) (x1:Aa) (y:Int),cmp x0 x1=some y->Fn Tryz.prog 67 0 [.agg [vk x0.First,vk x0.Then],.agg [vk x1.First,vk x1.Then]] [] (fun d' b'=>d'=vk y/\b'=[])) {r:(List Aa)} (G:Ap data a b cmp=some r):Fn Tryz.prog 114 1 [.row 0,vk a,vk b,.clo 67 0 []] [.row 120 2 (Ak Aa.enc data)] (fun d' b'=>d'=.tup []/\b'=[.row 120 2 (Ak Aa.enc r)]):=by
 unfold Ap at G
 refine Ez 1 53 Tryz.func114 fun _ _ _=>?_
 refine B7 2 fun B G=>?_
 refine Gc (fun ((i_1,data_1):Int×List Aa)=>mk [(0,.row 0),(1,vk a),(2,vk b),(3,.clo 67 0 []),(8,vk i_1)] [(0,.row 120 2 (Ak Aa.enc data_1))] 1) G (B9 [(0,0)]) ?_
 rintro⟨i_1,data_1⟩ m1 o1 G hn1
 unfold Ap.l1 at G
 refine Dl (.r 2 (.e 5)) fun _ B G=>?_
 refine Gc (fun ((j_2,data_2):Int×List Aa)=>mk [(0,.row 0),(1,vk a),(2,vk b),(3,.clo 67 0 []),(8,vk i_1),(9,vk j_2)] [(0,.row 120 2 (Ak Aa.enc data_2))] 1) G (B9 [(0,0)]) ?_
 rintro⟨j_2,data_2⟩ m2 o2 G hn2
 unfold Ap.l2 at G
 try dsimp only at G
 refine Nl rfl ?_
 refine A8 <| A6 (ι:=Bool) (fun (x34_3:Bool)=>mk [(0,.row 0),(1,vk a),(2,vk b),(3,.clo 67 0 []),(8,vk i_1),(9,vk j_2),(34,.val (.bool x34_3))] [(0,.row 120 2 (Ak Aa.enc data_2))] 1) (fun (x34_3:Bool)=>Ap.j3 i_1 j_2 data_2 x34_3=some o2) ?_ ?_
 refine Bn (Dx _ _ []) (by kernel_rfl) [0,0,3,7,15,15,15,111,239,15,15,1039,3599,7695,16383,32767,65535] 1 137 Ha rfl rfl (by kernel_rfl) ?_
 refine Jv (.r 0 (.e 4)) fun h5 e _ e_2 _ B G=>?_
 obtain⟨y,hy,G⟩:=Aq G
 refine E0 (rd:=[]) (ps:=[]) (gs:=[]) false (Ht rfl rfl h5) rfl (hf_cmp e e_2 _ hy) rfl rfl (.cons (.agg (.cons .val (.cons .val .nil))) (.cons (.agg (.cons .val (.cons .val .nil))) .nil)) rfl rfl (by intro h; cases h) rfl rfl rfl rfl ?_
 exact C1
 rintro x34_3 G
 unfold Ap.j3 at G
 refine Dl (.r 0 (.e 3)) fun _ B G=>?_
 refine Bn (Dx _ _ []) (by kernel_rfl) [0,0,0,0,8,0,0,64,224,480,0,0,3072,7168,16355,32739,65535,131071] 1 145 Ha rfl rfl (by kernel_rfl) ?_
 refine B7 4 fun e_3 _ e_4 he_4 B G=>?_
 refine Su Hs he_4 (x':=e_3) ?_
 refine B7 1 fun _ he_5 B G=>?_
 refine Su Hs he_5 (x':=e_4) ?_
 exact C1
theorem Fq {data:List Aa} {lo:Int} {hi:Int} {first:Int} {cmp:Aa->Aa->Option (Int)} (hf_cmp:∀ (x0:Aa) (x1:Aa) (y:Int),cmp x0 x1=some y->Fn Tryz.prog 67 0 [.agg [vk x0.First,vk x0.Then],.agg [vk x1.First,vk x1.Then]] [] (fun d' b'=>d'=vk y/\b'=[])) {r:(List Aa)} (G:Ao data lo hi first cmp=some r):Fn Tryz.prog 142 1 [.row 0,vk lo,vk hi,vk first,.clo 67 0 []] [.row 120 2 (Ak Aa.enc data)] (fun d' b'=>d'=.tup []/\b'=[.row 120 2 (Ak Aa.enc r)]):=by
 unfold Ao at G
 refine Ez 1 82 Tryz.func142 fun _ _ _=>?_
 refine B7 2 fun B G=>?_
 refine Gc (fun ((root_1,data_1):Int×List Aa)=>mk [(0,.row 0),(2,vk hi),(3,vk first),(4,.clo 67 0 []),(10,vk root_1)] [(0,.row 120 2 (Ak Aa.enc data_1))] 1) G (B9 [(0,0)]) ?_
 rintro⟨root_1,data_1⟩ m1 o1 G hn1
 unfold Ao.l1 at G
 refine Dl (.l 4 (.e 1)) fun _ B G=>?_
 refine A6 (ι:=Int) (fun (child_3:Int)=>mk [(0,.row 0),(2,vk hi),(3,vk first),(4,.clo 67 0 []),(10,vk root_1),(11,vk child_3)] [(0,.row 120 2 (Ak Aa.enc data_1))] 1) (fun (child_3:Int)=>Ao.j3 first cmp root_1 data_1 child_3=some o1) ?_ ?_
 refine A6 (ι:=Bool) (fun (x40_2:Bool)=>mk [(0,.row 0),(2,vk hi),(3,vk first),(4,.clo 67 0 []),(10,vk root_1),(11,.val (.int .i64 (W ((W (2 * root_1)) + 1)))),(40,.val (.bool x40_2))] [(0,.row 120 2 (Ak Aa.enc data_1))] 1) (fun (x40_2:Bool)=>Ao.j2 first cmp root_1 data_1 x40_2=some o1) ?_ ?_
 refine Bn (Dx _ _ []) (by kernel_rfl) [0,1,0,7,15,31,31,31,31,415,991,2015,31,31,31,24607,57375,127007,258079,524287,1048575,2097151] 57 233 B rfl rfl (by kernel_rfl) ?_
 refine Jv (.r 0 (.e 4)) fun h5 e _ e_2 _ B G=>?_
 obtain⟨y,hy,G⟩:=Aq G
 refine E0 (rd:=[]) (ps:=[]) (gs:=[]) false (Ht rfl rfl h5) rfl (hf_cmp e e_2 _ hy) rfl rfl (.cons (.agg (.cons .val (.cons .val .nil))) (.cons (.agg (.cons .val (.cons .val .nil))) .nil)) rfl rfl (by intro h; cases h) rfl rfl rfl rfl ?_
 exact C1
 rintro x40_2 G
 unfold Ao.j2 at G
 exact F0
 rintro child_3 G
 unfold Ao.j3 at G
 try dsimp only at G
 refine Nl rfl ?_
 refine A8 <| A8 <| Bn (Dx _ _ []) (by kernel_rfl) [0,0,0,0,12,30,62,0,0,0,768,1920,3968,8191,16383,32767] 1 129 Ha rfl rfl (by kernel_rfl) ?_
 refine B7 4 fun e_3 he_3 e_4 he_4 B G=>?_
 obtain⟨y_2,hy_2,G⟩:=Aq G
 refine E0 (rd:=[]) (ps:=[]) (gs:=[]) false rfl rfl (hf_cmp e_3 e_4 _ hy_2) rfl rfl (.cons (.agg (.cons .val (.cons .val .nil))) (.cons (.agg (.cons .val (.cons .val .nil))) .nil)) rfl rfl (by intro h; cases h) rfl rfl rfl rfl ?_
 refine B7 0 fun B G=>?_
 refine Ja rfl G (fun _ G=>?_) fun _ G=>?_
 refine fO ?_
 refine rp_ ?_
 exact C1
 refine B7 1 fun B G=>?_
 refine A8 <| Bn (Dx _ _ []) (by kernel_rfl) [0,0,0,6,0,0,0,96,0,0,0,1536,3840,7936,0,0,0,98304,245760,507904,1048335,2096911,4194303,8388607] 129 321 B rfl rfl (by kernel_rfl) ?_
 refine B7 2 fun B G=>?_
 refine Su Hs he_3 (x':=e_4) ?_
 refine B7 1 fun _ he_5 B G=>?_
 refine Su Hs he_5 (x':=e_3) ?_
 exact C1
theorem H9 {data:List Aa} {a:Int} {b:Int} {cmp:Aa->Aa->Option (Int)} (hf_cmp:∀ (x0:Aa) (x1:Aa) (y:Int),cmp x0 x1=some y->Fn Tryz.prog 67 0 [.agg [vk x0.First,vk x0.Then],.agg [vk x1.First,vk x1.Then]] [] (fun d' b'=>d'=vk y/\b'=[])) {r:(List Aa)} (G:A1 data a b cmp=some r):Fn Tryz.prog 115 1 [.row 0,vk a,vk b,.clo 67 0 []] [.row 120 2 (Ak Aa.enc data)] (fun d' b'=>d'=.tup []/\b'=[.row 120 2 (Ak Aa.enc r)]):=by
 unfold A1 at G
 refine Ez 1 60 Tryz.func115 fun _ _ _=>?_
 refine B7 7 fun _ _ B G=>?_
 refine Gc (fun ((i_1,data_1):Int×List Aa)=>mk [(0,.row 0),(3,.clo 67 0 []),(8,vk a),(9,.val (.int .i64 0)),(10,.val (.int .i64 (W (b - a)))),(11,vk i_1)] [(0,.row 120 2 (Ak Aa.enc data_1))] 1) G (B9 [(0,0)]) ?_
 rintro⟨i_1,data_1⟩ m1 o1 G hn1
 unfold A1.l1 at G
 refine Iw 2 fun B G=>?_
 refine Ja rfl G (fun _ G=>?_) fun _ G=>?_
 refine B7 4 fun B G=>?_
 obtain⟨y,hy,G⟩:=Aq G
 refine L3 [0] [0] [] false (@Fq data_1 i_1 (W (b - a)) a cmp hf_cmp _ hy) ?_
 exact C1
 refine B7 3 fun B G=>?_
 refine Gc (fun ((i_2,data_2):Int×List Aa)=>mk [(0,.row 0),(3,.clo 67 0 []),(8,vk a),(9,.val (.int .i64 0)),(12,vk i_2)] [(0,.row 120 2 (Ak Aa.enc data_2))] 1) G (B9 [(0,0)]) ?_
 rintro⟨i_2,data_2⟩ m2 o2 G hn2
 unfold A1.l2 at G
 refine Dl (.r 2 (.e 3)) fun _ B G=>?_
 refine A8 <| Bn (Dx _ _ []) (by kernel_rfl) [0,0,0,0,0,24,0,0,0,384,960,1984,0,0,12288,28672,65475,131011,262143,524287] 17 177 B rfl rfl (by kernel_rfl) ?_
 refine B7 4 fun e _ e_2 he_2 B G=>?_
 refine Su Hs he_2 (x':=e) ?_
 refine B7 1 fun _ he_3 B G=>?_
 refine Su Hs he_3 (x':=e_2) ?_
 refine B7 1 fun B G=>?_
 obtain⟨y_2,hy_2,G⟩:=Aq G
 refine L3 [0] [0] [] false (@Fq (Dj (Dj data_2 ((a).toNat) e) ((W (a + i_2)).toNat) e_2) 0 i_2 a cmp hf_cmp _ hy_2) ?_
 exact C1
theorem Pj {length r} (G:F7 length=some r):Fn Tryz.prog 143 0 [vk length] [] (fun d' b'=>d'=.val (.int .u64 r)/\b'=[]):=by
 unfold F7 at G
 refine Ez 0 7 Tryz.func143 fun _ _ _=>?_
 exact C1
instance aKl:Wk 143:=⟨_,@Pj⟩
theorem P7 {r' r} (G:Gg r'=some r):Fn Tryz.prog 144 1 [.ptr 0 0] [.box [.val (.int .u64 r')] 190] (fun d' b'=>d'=.val (.int .u64 r.1)/\b'=[.box [.val (.int .u64 r.2)] 190]):=by
 unfold Gg at G
 refine Ez 1 33 Tryz.func144 fun _ _ _=>?_
 refine B7 1 fun B G=>?_
 refine A8 <| Bn (Dx _ _ []) (by kernel_rfl) [0,1,3,0,8,24,56,127,255,511] 9 89 B rfl rfl (by kernel_rfl) ?_
 refine B7 2 fun _ _ B G=>?_
 refine A8 <| Bn (Dx _ _ []) (by kernel_rfl) [0,1,3,0,8,24,56,127,255,511] 89 169 B rfl rfl (by kernel_rfl) ?_
 refine B7 2 fun _ _ B G=>?_
 refine A8 <| Bn (Dx _ _ []) (by kernel_rfl) [0,1,3,0,8,24,56,127,255,511] 169 249 B rfl rfl (by kernel_rfl) ?_
 exact C1
instance aKy:Wk 144:=⟨_,@P7⟩
theorem Hi {data:List Aa} {a:Int} {b:Int} {cmp:Aa->Aa->Option (Int)} (hf_cmp:∀ (x0:Aa) (x1:Aa) (y:Int),cmp x0 x1=some y->Fn Tryz.prog 67 0 [.agg [vk x0.First,vk x0.Then],.agg [vk x1.First,vk x1.Then]] [] (fun d' b'=>d'=vk y/\b'=[])) {r:(List Aa)} (G:Az data a b cmp=some r):Fn Tryz.prog 116 1 [.row 0,vk a,vk b,.clo 67 0 []] [.row 120 2 (Ak Aa.enc data)] (fun d' b'=>d'=.tup []/\b'=[.row 120 2 (Ak Aa.enc r)]):=by
 unfold Az at G
 refine Ez 1 67 Tryz.func116 fun _ _ _=>?_
 refine Jv (.r 2 (.e 7)) fun _ y _ _ _ B G=>?_
 refine Gc (fun ((idx_1,data_1,random_1):Int×List Aa×Int)=>mk [(0,.row 0),(1,vk a),(8,.val (.int .i64 (W (b - a)))),(9,.ptr 1 0),(10,.val (.int .u64 y)),(11,vk idx_1)] [(0,.row 120 2 (Ak Aa.enc data_1)),(1,.box [.val (.int .u64 random_1)] 190)] 2) G (B9 [(0,0),(1,65)]) ?_
 rintro⟨idx_1,data_1,random_1⟩ m1 o1 G hn1
 unfold Az.l1 at G
 refine Dl (.r 3 (.e 8)) fun _ _ _ y_2 _ B G=>?_
 refine A6 (ι:=Int) (fun (other_2:Int)=>mk [(0,.row 0),(1,vk a),(8,.val (.int .i64 (W (b - a)))),(9,.ptr 1 0),(10,.val (.int .u64 y)),(11,vk idx_1),(12,vk other_2)] [(0,.row 120 2 (Ak Aa.enc data_1)),(1,.box [.val (.int .u64 y_2.2)] 190)] 2) (fun (other_2:Int)=>Az.j2 a idx_1 data_1 y_2 other_2=some o1) ?_ ?_
 exact C1
 rintro other_2 G
 unfold Az.j2 at G
 try dsimp only at G
 refine Nl rfl ?_
 refine Bn (Dx _ _ []) (by kernel_rfl) [0,0,0,0,0,24,0,0,0,384,960,1984,0,0,12288,28672,65475,131011,262143,524287] 2 162 Ha rfl rfl (by kernel_rfl) ?_
 refine B7 4 fun e _ e_2 he_2 B G=>?_
 refine Su Hs he_2 (x':=e) ?_
 refine B7 1 fun _ he_3 B G=>?_
 refine Su Hs he_3 (x':=e_2) ?_
 exact C1
theorem Em {data:(List Aa)} {a:Int} {b:Int} {swaps:Int} {cmp:Aa->Aa->Option (Int)} (hf_cmp:∀ (x0:Aa) (x1:Aa) (y:Int),cmp x0 x1=some y->Fn Tryz.prog 67 0 [.agg [vk x0.First,vk x0.Then],.agg [vk x1.First,vk x1.Then]] [] (fun d' b'=>d'=vk y/\b'=[])) {r:Int×Int×Int} (G:Df data a b swaps cmp=some r):Fn Tryz.prog 161 1 [.sl 2 (Ak Aa.enc data),vk a,vk b,.ptr 0 0,.clo 67 0 []] [.box [vk swaps] 3] (fun d' b'=>d'=.tup [vk r.1,vk r.2.1]/\b'=[.box [vk r.2.2] 3]):=by
 unfold Df at G
 refine Ez 1 32 Tryz.func161 fun _ _ _=>?_
 refine B7 1 fun B G=>?_
 refine A8 <| A8 <| Bn (Dx _ _ []) (by kernel_rfl) [0,0,0,6,14,0,0,96,224,511,1023] 17 105 B rfl rfl (by kernel_rfl) ?_
 refine B7 4 fun e _ e_2 _ B G=>?_
 obtain⟨y,hy,G⟩:=Aq G
 refine E0 (rd:=[]) (ps:=[]) (gs:=[]) false rfl rfl (hf_cmp e e_2 _ hy) rfl rfl (.cons (.agg (.cons .val (.cons .val .nil))) (.cons (.agg (.cons .val (.cons .val .nil))) .nil)) rfl rfl (by intro h; cases h) rfl rfl rfl rfl ?_
 exact C1
theorem Fy {data:(List Aa)} {a:Int} {b:Int} {c:Int} {swaps:Int} {cmp:Aa->Aa->Option (Int)} (hf_cmp:∀ (x0:Aa) (x1:Aa) (y:Int),cmp x0 x1=some y->Fn Tryz.prog 67 0 [.agg [vk x0.First,vk x0.Then],.agg [vk x1.First,vk x1.Then]] [] (fun d' b'=>d'=vk y/\b'=[])) {r:Int×Int} (G:Do data a b c swaps cmp=some r):Fn Tryz.prog 146 1 [.sl 2 (Ak Aa.enc data),vk a,vk b,vk c,.ptr 0 0,.clo 67 0 []] [.box [vk swaps] 3] (fun d' b'=>d'=vk r.1/\b'=[.box [vk r.2] 3]):=by
 unfold Do at G
 refine Ez 1 41 Tryz.func146 fun _ _ _=>?_
 refine B7 2 fun B G=>?_
 obtain⟨y,hy,G⟩:=Aq G
 refine L3 [0] [0] [] false (@Em data a b swaps cmp hf_cmp _ hy) ?_
 refine B7 1 fun B G=>?_
 obtain⟨y_2,hy_2,G⟩:=Aq G
 refine L3 [0] [0] [] false (@Em data y.2.1 c y.2.2 cmp hf_cmp _ hy_2) ?_
 refine B7 1 fun B G=>?_
 obtain⟨y_3,hy_3,G⟩:=Aq G
 refine L3 [0] [0] [] false (@Em data y.1 y_2.1 y_2.2.2 cmp hf_cmp _ hy_3) ?_
 exact C1
theorem D0 {data:(List Aa)} {a:Int} {swaps:Int} {cmp:Aa->Aa->Option (Int)} (hf_cmp:∀ (x0:Aa) (x1:Aa) (y:Int),cmp x0 x1=some y->Fn Tryz.prog 67 0 [.agg [vk x0.First,vk x0.Then],.agg [vk x1.First,vk x1.Then]] [] (fun d' b'=>d'=vk y/\b'=[])) {r:Int×Int} (G:Cm data a swaps cmp=some r):Fn Tryz.prog 145 1 [.sl 2 (Ak Aa.enc data),vk a,.ptr 0 0,.clo 67 0 []] [.box [vk swaps] 3] (fun d' b'=>d'=vk r.1/\b'=[.box [vk r.2] 3]):=by
 unfold Cm at G
 refine Ez 1 18 Tryz.func145 fun _ _ _=>?_
 refine B7 2 fun B G=>?_
 obtain⟨y,hy,G⟩:=Aq G
 refine L3 [0] [0] [] false (@Fy data (W (a - 1)) a (W (a + 1)) swaps cmp hf_cmp _ hy) ?_
 exact C1
theorem Hz {data:(List Aa)} {a:Int} {b:Int} {cmp:Aa->Aa->Option (Int)} (hf_cmp:∀ (x0:Aa) (x1:Aa) (y:Int),cmp x0 x1=some y->Fn Tryz.prog 67 0 [.agg [vk x0.First,vk x0.Then],.agg [vk x1.First,vk x1.Then]] [] (fun d' b'=>d'=vk y/\b'=[])) {r:Int×Int} (G:A5 data a b cmp=some r):Fn Tryz.prog 117 0 [.sl 2 (Ak Aa.enc data),vk a,vk b,.clo 67 0 []] [] (fun d' b'=>d'=.tup [vk r.1,vk r.2]/\b'=[]):=by
 unfold A5 at G
 refine Ez 0 63 Tryz.func117 fun _ _ _=>?_
 refine B7 9 fun q _ q_2 _ q_3 _ B G=>?_
 refine A6 (ι:=Int×Int) (fun ((j_2,swaps_2):Int×Int)=>mk [(11,.ptr 0 0),(13,vk j_2)] [(0,.box [vk swaps_2] 3)] 1) (fun ((j_2,swaps_2):Int×Int)=>A5.j2 j_2 swaps_2=some r) ?_ ?_
 refine Jv (.r 1 (.e 0)) fun _ B G=>?_
 refine A6 (ι:=Int×Int×Int×Int) (fun ((i_1,j_1,k_1,swaps_1):Int×Int×Int×Int)=>mk [(0,.sl 2 (Ak Aa.enc data)),(3,.clo 67 0 []),(11,.ptr 0 0),(12,vk i_1),(13,vk j_1),(14,vk k_1)] [(0,.box [vk swaps_1] 3)] 1) (fun ((i_1,j_1,k_1,swaps_1):Int×Int×Int×Int)=>A5.j1 data cmp i_1 j_1 k_1 swaps_1=some r) ?_ ?_
 refine Jv (.r 1 (.e 1)) fun _ B G=>?_
 obtain⟨y,hy,G⟩:=Aq G
 refine L3 [48] [48] [] false (@D0 data (W (a + (W (q * 1)))) 0 cmp hf_cmp _ hy) ?_
 refine B7 1 fun B G=>?_
 obtain⟨y_2,hy_2,G⟩:=Aq G
 refine L3 [48] [48] [] false (@D0 data (W (a + (W (q_2 * 2)))) y.2 cmp hf_cmp _ hy_2) ?_
 refine B7 1 fun B G=>?_
 obtain⟨y_3,hy_3,G⟩:=Aq G
 refine L3 [48] [48] [] false (@D0 data (W (a + (W (q_3 * 3)))) y_2.2 cmp hf_cmp _ hy_3) ?_
 exact C1
 rintro⟨i_1,j_1,k_1,swaps_1⟩ G
 unfold A5.j1 at G
 refine Iw 1 fun B G=>?_
 obtain⟨y_4,hy_4,G⟩:=Aq G
 refine L3 [0] [0] [] false (@Fy data i_1 j_1 k_1 swaps_1 cmp hf_cmp _ hy_4) ?_
 exact C1
 rintro⟨j_2,swaps_2⟩ G
 unfold A5.j2 at G
 exact F0
theorem Ho {data:List Aa} {a:Int} {b:Int} {cmp:Aa->Aa->Option (Int)} (hf_cmp:∀ (x0:Aa) (x1:Aa) (y:Int),cmp x0 x1=some y->Fn Tryz.prog 67 0 [.agg [vk x0.First,vk x0.Then],.agg [vk x1.First,vk x1.Then]] [] (fun d' b'=>d'=vk y/\b'=[])) {r:(List Aa)} (G:Bg data a b cmp=some r):Fn Tryz.prog 118 1 [.row 0,vk a,vk b,.clo 67 0 []] [.row 120 2 (Ak Aa.enc data)] (fun d' b'=>d'=.tup []/\b'=[.row 120 2 (Ak Aa.enc r)]):=by
 unfold Bg at G
 refine Ez 1 34 Tryz.func118 fun _ _ _=>?_
 refine B7 3 fun B G=>?_
 refine Gc (fun ((i_1,j_1,data_1):Int×Int×List Aa)=>mk [(0,.row 0),(8,vk i_1),(9,vk j_1)] [(0,.row 120 2 (Ak Aa.enc data_1))] 1) G (B9 [(0,0)]) ?_
 rintro⟨i_1,j_1,data_1⟩ m1 o1 G hn1
 unfold Bg.l1 at G
 refine Dl (.r 2 (.e 2)) fun _ B G=>?_
 refine A8 <| Bn (Dx _ _ []) (by kernel_rfl) [0,0,0,0,0,0,48,112,0,0,768,1792,4083,8179,16383,32767] 25 153 B rfl rfl (by kernel_rfl) ?_
 refine B7 4 fun e _ e_2 he_2 B G=>?_
 refine Su Hs he_2 (x':=e) ?_
 refine B7 1 fun _ he_3 B G=>?_
 refine Su Hs he_3 (x':=e_2) ?_
 exact C1
end Go.Proofs.YtkioneinddihlaaGreat
