import Derived.Test.YtobamahlipiakaaGreatT1
import Derived.Test.YtobamahlipiakaaGreatEU
import Derived.Test.YtobamahlipiakaaGreatA1
import Derived.Test.YtobamahlipiakaaGreatA2
import Derived.Test.YtobamahlipiakaaGreatA4
set_option linter.unusedVariables false
set_option linter.unusedSimpArgs false
set_option maxRecDepth 100000
set_option maxHeartbeats 40000000
namespace Go.Proofs.YtobamahlipiakaaGreat
open Go.RowKit
theorem O2 {w c0 r} (G:Hz w c0=some r):Fn Tryz.prog 40 0 [.agg (Aa.dv w),.elt (([.int .i64 c0.Version,.int .i64 c0.Suite]:List C).drop 0)] [] (fun d' b'=>d'=.val (.bool r)/\b'=[]):=by
 unfold Hz at G
 refine Ea 0 8 Tryz.func40 fun _ _ _=>?_
 refine Br 2 fun B G=>?_
 refine F0 rfl rfl (I2 aHe (cs2:=[.int .i64 c0.Version,.int .i64 c0.Suite]) rfl (aEi rfl)) rfl rfl ?_
 refine F0 rfl rfl (Pb w.Outcome c0) rfl rfl ?_
 exact Cj
instance aYr:Wk 40:=⟨_,@O2⟩
theorem Lj {s:(List Aa)} {f:Aa->Option (Bool)} {f_c0:Ap} (hf_f:∀ (x0:Aa) (y:Bool),f x0=some y->Fn Tryz.prog 40 0 [.agg (Aa.dv x0),.elt (([.int .i64 f_c0.Version,.int .i64 f_c0.Suite]:List C).drop 0)] [] (fun d' b'=>d'=.val (.bool y)/\b'=[])) {r:Int} (G:Bx s f=some r):Fn Tryz.prog 84 0 [.sl 4 (Ai Aa.enc s),.clo 40 0 [.elt (([.int .i64 f_c0.Version,.int .i64 f_c0.Suite]:List C).drop 0)]] [] (fun d' b'=>d'=vj r/\b'=[]):=by
 unfold Bx at G
 refine Ea 0 19 Tryz.func84 fun _ _ _=>?_
 refine Br 4 fun B G=>?_
 refine He (fun (x8_1:Int)=>mk [(0,.sl 4 (Ai Aa.enc s)),(1,.clo 40 0 [.elt (([.int .i64 f_c0.Version,.int .i64 f_c0.Suite]:List C).drop 0)]),(7,.val (.int .i64 (s.length:Int))),(8,vj x8_1)] [] 0) G (Cd []) ?_
 rintro x8_1 m1 o1 G hn1
 unfold Bx.l1 at G
 refine Dx (.r 2 (.e 7)) fun _ e _ B G=>?_
 obtain⟨y,hy,G⟩:=An G
 refine E1 (rd:=[]) (ps:=[]) (gs:=[]) false rfl rfl (hf_f e _ hy) rfl rfl (.cons (.agg (.cons .val (.cons .val (.cons .val (.cons .sl .nil))))) (.cons .elt .nil)) rfl rfl (by intro h; cases h) rfl rfl rfl rfl ?_
 exact Cj
theorem Kk {s:(List Aa)} {f:Aa->Option (Bool)} {f_c0:Ap} (hf_f:∀ (x0:Aa) (y:Bool),f x0=some y->Fn Tryz.prog 40 0 [.agg (Aa.dv x0),.elt (([.int .i64 f_c0.Version,.int .i64 f_c0.Suite]:List C).drop 0)] [] (fun d' b'=>d'=.val (.bool y)/\b'=[])) {r:Bool} (G:D2 s f=some r):Fn Tryz.prog 39 0 [.sl 4 (Ai Aa.enc s),.clo 40 0 [.elt (([.int .i64 f_c0.Version,.int .i64 f_c0.Suite]:List C).drop 0)]] [] (fun d' b'=>d'=.val (.bool r)/\b'=[]):=by
 unfold D2 at G
 refine Ea 0 9 Tryz.func39 fun _ _ _=>?_
 refine Br 2 fun B G=>?_
 obtain⟨y,hy,G⟩:=An G
 refine L9 (@Lj s f f_c0 hf_f _ hy) ?_
 exact Cj
theorem X3 {s r} (G:E5 s=some r):Fn Tryz.prog 41 0 [.sl 1 (Ai eI s)] [] (fun d' b'=>d'=.sl 1 (Ai eI r)/\b'=[]):=by
 unfold E5 at G
 refine Ea 0 8 Tryz.func41 fun _ _ _=>?_
 refine Br 1 fun B G=>?_
 refine Ay <| A4 (ι:=Bool) (fun (x4_1:Bool)=>mk [(0,.sl 1 (Ai eI s)),(4,.val (.bool x4_1))] [] 0) (fun (x4_1:Bool)=>E5.j1 s x4_1=some r) ?_ ?_
 refine Br 1 fun B G=>?_
 refine xO rfl rfl ⟨_,aJh⟩ rfl ?_
 intro bz hz2
 rcases bz with _ | _
 replace G:=aFb G
 exact Cj
 replace G:=aFe ((iB Mu (by decide) (hz2 rfl))) G
 exact Cj
 rintro x4_1 G
 unfold E5.j1 at G
 refine Dx (.l 0 (.e 2)) fun _ B G=>?_
 refine F0 rfl rfl (D0 Er z3 (by decide) rfl rfl rfl rfl Ia (cs:=[]) .nil rfl (l:=([]:List Int)) (f:=eI) rfl) rfl rfl ?_
 exact Cj
instance aZm:Wk 41:=⟨_,@X3⟩
theorem Np {most suites c0 c1 c2 c3 r} (G:En most suites c0 c1 c2 c3=some r):Fn Tryz.prog 37 1 [vj most,.sl 1 (Ai eI suites),.elt (((Ac.ec c0):List C).drop 0),.elt (((Ac.ec c1):List C).drop 0),.elt (([.int .i64 c2]:List C).drop 0),.ptr 0 0] [.box [.row 1] 33,.row 40 4 (Ai Aa.enc c3)] (fun d' b'=>d'=.tup []/\b'=[.box [.row 1] 33,.row 40 4 (Ai Aa.enc r)]):=by
 unfold En at G
 refine Ea 2 35 Tryz.func37 fun _ _ _=>?_
 refine Br 1 fun G=>?_
 refine F0 rfl rfl (I2 aL4 (cs2:=(Ac.ec c0)) rfl (aEi rfl)) rfl rfl ?_
 refine F0 rfl rfl (I2 aL4 (cs2:=(Ac.ec c1)) rfl (aEi rfl)) rfl rfl ?_
 refine F0 rfl rfl (Gq jA (c:=.int .i64 c2) rfl) rfl rfl ?_
 refine Br 1 fun y _ B G=>?_
 refine A4 (ι:=Bool) (fun (x26_2:Bool)=>mk [(0,vj most),(1,.sl 1 (Ai eI suites)),(5,.ptr 0 0),(8,.elt (([.int .i64 y.1.Version,.int .i64 y.1.Suite]:List C).drop 0)),(26,.val (.bool x26_2))] [(0,.box [.row 1] 33),(1,.row 40 4 (Ai Aa.enc c3))] 2) (fun (x26_2:Bool)=>En.j2 most suites c3 y x26_2=some r) ?_ ?_
 refine Hg (σ':=mk [(0,vj most),(1,.sl 1 (Ai eI suites)),(5,.ptr 0 0),(8,.elt (([.int .i64 y.1.Version,.int .i64 y.1.Suite]:List C).drop 0)),(9,vj y.2)] [(0,.box [.row 1] 33),(1,.row 40 4 (Ai Aa.enc c3))] 2) ((by exact Rr.lists [(0,0),(1,1)] rfl rfl ⟨⟨_,rfl,.val _⟩,⟨_,rfl,.sl _ _⟩,⟨_,rfl,.ptr rfl⟩,⟨_,rfl,.frzb (ks:=[none,none]) rfl (.cons .int (.cons .int .nil)) (H3 rfl)⟩,⟨_,rfl,.val _⟩,trivial⟩ ⟨.inl ⟨0,_,rfl,rfl,⟨rfl,.cons (.row rfl) .nil⟩⟩,.inl ⟨1,_,rfl,rfl,⟨rfl,rfl,rfl⟩⟩,trivial⟩)) ?_
 refine Jf (.r 1 (.e 0)) fun _ B G=>?_
 obtain⟨y_2,hy_2,G⟩:=An G
 refine R9 [1] [] [] true (@Kk c3 (fun x0=>Hz x0 y.1) y.1 (fun x0 yy hh=>@O2 x0 y.1 yy hh) _ hy_2) ?_
 exact Cj
 rintro x26_2 G
 unfold En.j2 at G
 refine Dx (.r 0 (.e 0)) fun _ B G=>?_
 refine Bg (D9 _ _ []) (by kernel_rfl) [0,0,0,0,8,30,62,127,255] 2 74 Ij rfl rfl (by kernel_rfl) ?_
 refine Br 0 fun B G=>?_
 refine F0 rfl rfl (I2 aHe (cs2:=[.int .i64 y.1.Version,.int .i64 y.1.Suite]) rfl (aEi rfl)) rfl rfl ?_
 refine Br 1 fun y_3 _ B G=>?_
 refine M6 mS aL1 z40 ?_
 refine Iz aAi z40 Ms ([(Aa.mk y.1 most y_3)]:List Aa) Aa.enc ?_
 exact Cj
instance aZ1:Wk 37:=⟨_,@Np⟩
theorem Xp {code weak r} (G:I4 code weak=some r):Fn Tryz.prog 42 0 [vj code,vj weak] [] (fun d' b'=>d'=.val (.bool r)/\b'=[]):=by
 unfold I4 at G
 refine Ea 0 21 Tryz.func42 fun _ _ _=>?_
 exact Cj
instance aZ8:Wk 42:=⟨_,@Xp⟩
theorem Y7 {x' r} (G:Bw x'=some r):Fn Tryz.prog 136 0 [.val (.int .u64 x')] [] (fun d' b'=>d'=vj r/\b'=[]):=by
 unfold Bw at G
 refine Ea 0 25 Tryz.func136 fun _ _ _=>?_
 refine eE 0 8 Ij fun B=>?_
 refine A4 (ι:=Int×Int) (fun ((x_1,n_1):Int×Int)=>mk [(0,.val (.int .u64 x_1)),(2,vj n_1)] [] 0) (fun ((x_1,n_1):Int×Int)=>Bw.j1 x_1 n_1=some r) ?_ ?_
 refine eE 8 24 B fun B=>?_
 refine Kd rfl G (fun h3 G=>?_) fun h3 G=>?_
 refine jF 24 48 B ?_
 refine P9 ?_
 obtain⟨q,hq,G⟩:=An G
 refine F0 rfl rfl (nF hq) rfl rfl ?_
 refine Ut fun B=>?_
 refine Ci (D9 _ _ []) 48 56 B rfl rfl ?_
 refine Ut fun B=>?_
 exact⟨(q,32),G,Cd []⟩
 refine sk_ ?_
 exact⟨(x',0),G,Cd []⟩
 rintro⟨x_1,n_1⟩ G
 unfold Bw.j1 at G
 try dsimp only at G
 refine Rp rfl ?_
 refine A4 (ι:=Int×Int) (fun ((x_2,n_2):Int×Int)=>mk [(0,.val (.int .u64 x_2)),(2,vj n_2)] [] 0) (fun ((x_2,n_2):Int×Int)=>Bw.j2 x_2 n_2=some r) ?_ ?_
 refine eE 0 16 Ij fun B=>?_
 refine Kd rfl G (fun h7 G=>?_) fun h7 G=>?_
 refine jF 16 40 B ?_
 refine P9 ?_
 obtain⟨q_2,hq_2,G⟩:=An G
 refine F0 rfl rfl (nF hq_2) rfl rfl ?_
 refine Ut fun B=>?_
 refine Ci (D9 _ _ []) 40 64 B rfl rfl ?_
 refine Ut fun B=>?_
 exact⟨(q_2,W (n_1 + 16)),G,Cd []⟩
 refine sk_ ?_
 exact⟨(x_1,n_1),G,Cd []⟩
 rintro⟨x_2,n_2⟩ G
 unfold Bw.j2 at G
 try dsimp only at G
 refine Rp rfl ?_
 refine A4 (ι:=Int×Int) (fun ((x_3,n_3):Int×Int)=>mk [(0,.val (.int .u64 x_3)),(2,vj n_3)] [] 0) (fun ((x_3,n_3):Int×Int)=>Bw.j3 x_3 n_3=some r) ?_ ?_
 refine eE 0 16 Ij fun B=>?_
 refine Kd rfl G (fun h11 G=>?_) fun h11 G=>?_
 refine jF 16 40 B ?_
 refine P9 ?_
 obtain⟨q_3,hq_3,G⟩:=An G
 refine F0 rfl rfl (nF hq_3) rfl rfl ?_
 refine Ut fun B=>?_
 refine Ci (D9 _ _ []) 40 64 B rfl rfl ?_
 refine Ut fun B=>?_
 exact⟨(q_3,W (n_2 + 8)),G,Cd []⟩
 refine sk_ ?_
 exact⟨(x_2,n_2),G,Cd []⟩
 rintro⟨x_3,n_3⟩ G
 unfold Bw.j3 at G
 try dsimp only at G
 refine Rp rfl ?_
 refine jF 0 56 Ij ?_
 refine P9 ?_
 refine F0 rfl rfl (mO aA8 aKz) rfl rfl ?_
 obtain⟨c,hc,G⟩:=An G
 refine F0 rfl rfl (aEg aRo hc) rfl rfl ?_
 refine F0 rfl rfl (lG (u:=c) aKz aNo) rfl rfl ?_
 exact t5_
instance aW4:Wk 136:=⟨_,@Y7⟩
theorem cP {x' r} (G:Ig x'=some r):Fn Tryz.prog 88 0 [.val (.int .u64 x')] [] (fun d' b'=>d'=vj r/\b'=[]):=by
 unfold Ig at G
 refine Ea 0 8 Tryz.func88 fun _ _ _=>?_
 refine Br 1 fun B G=>?_
 refine Ay <| aA3 (fun h=>?_) (fun h=>?_)
 exact absurd h (by first | decide | exact fun h=>nomatch (show false=true from h) | exact fun h=>nomatch (show true=false from h))
 exact Cj
instance aYz:Wk 88:=⟨_,@cP⟩
theorem cU {x' r} (G:Lt x'=some r):Fn Tryz.prog 137 0 [vj x'] [] (fun d' b'=>d'=.val (.bool r)/\b'=[]):=by
 unfold Lt at G
 refine Ea 0 6 Tryz.func137 fun _ _ _=>?_
 exact Cj
instance aV3:Wk 137:=⟨_,@cU⟩
theorem Zg {x' y r} (G:Ie x' y=some r):Fn Tryz.prog 90 0 [vj x',vj y] [] (fun d' b'=>d'=vj r/\b'=[]):=by
 unfold Ie at G
 refine Ea 0 20 Tryz.func90 fun _ _ _=>?_
 exact Cj
instance aXh:Wk 90:=⟨_,@Zg⟩
theorem Yw {vals r} (G:Gt vals=some r):Fn Tryz.prog 89 0 [.sl 1 (Ai eI vals)] [] (fun d' b'=>d'=vj r/\b'=[]):=by
 unfold Gt at G
 refine Ea 0 18 Tryz.func89 fun _ _ _=>?_
 refine Br 5 fun B G=>?_
 refine He (fun (x8_1:Int)=>mk [(3,.val (.int .i64 0)),(6,.sl 1 (Ai eI vals)),(7,.val (.int .i64 (vals.length:Int))),(8,vj x8_1)] [] 0) G (Cd []) ?_
 rintro x8_1 m1 o1 G hn1
 unfold Gt.l1 at G
 exact Gn
instance aYp:Wk 89:=⟨_,@Yw⟩
theorem P3 {a b r} (G:E9 a b=some r):Fn Tryz.prog 44 0 [.agg (Aa.dv a),.agg (Aa.dv b)] [] (fun d' b'=>d'=vj r/\b'=[]):=by
 unfold E9 at G
 refine Ea 0 21 Tryz.func44 fun _ _ _=>?_
 refine Br 1 fun B G=>?_
 refine Ay <| Bg (D9 _ _ []) (by kernel_rfl) [0,1,3,0,8,24,63,0,128,384,0,1024,3072,8191,16383,32767,65535] 24 160 B rfl rfl (by kernel_rfl) ?_
 refine Br 2 fun y _ y_2 _ B G=>?_
 refine Iz Er z3 Ia ([y,y_2]:List Int) eI ?_
 obtain⟨y_3,hy_3,G⟩:=An G
 refine R9 [136] [] [] true (Yw hy_3) ?_
 exact Cj
instance aYh:Wk 44:=⟨_,@P3⟩
theorem Js {data:List Aa} {a:Int} {b:Int} {cmp:Aa->Aa->Option (Int)} (hf_cmp:∀ (x0:Aa) (x1:Aa) (y:Int),cmp x0 x1=some y->Fn Tryz.prog 44 0 [.agg (Aa.dv x0),.agg (Aa.dv x1)] [] (fun d' b'=>d'=vj y/\b'=[])) {r:(List Aa)} (G:Ar data a b cmp=some r):Fn Tryz.prog 127 1 [.row 0,vj a,vj b,.clo 44 0 []] [.row 40 4 (Ai Aa.enc data)] (fun d' b'=>d'=.tup []/\b'=[.row 40 4 (Ai Aa.enc r)]):=by
 unfold Ar at G
 refine Ea 1 53 Tryz.func127 fun _ _ _=>?_
 refine Br 2 fun B G=>?_
 refine He (fun ((i_1,data_1):Int×List Aa)=>mk [(0,.row 0),(1,vj a),(2,vj b),(3,.clo 44 0 []),(8,vj i_1)] [(0,.row 40 4 (Ai Aa.enc data_1))] 1) G (Cd [(0,0)]) ?_
 rintro⟨i_1,data_1⟩ m1 o1 G hn1
 unfold Ar.l1 at G
 refine Dx (.r 2 (.e 5)) fun _ B G=>?_
 refine He (fun ((j_2,data_2):Int×List Aa)=>mk [(0,.row 0),(1,vj a),(2,vj b),(3,.clo 44 0 []),(8,vj i_1),(9,vj j_2)] [(0,.row 40 4 (Ai Aa.enc data_2))] 1) G (Cd [(0,0)]) ?_
 rintro⟨j_2,data_2⟩ m2 o2 G hn2
 unfold Ar.l2 at G
 try dsimp only at G
 refine Rp rfl ?_
 refine Ay <| A4 (ι:=Bool) (fun (x34_3:Bool)=>mk [(0,.row 0),(1,vj a),(2,vj b),(3,.clo 44 0 []),(8,vj i_1),(9,vj j_2),(34,.val (.bool x34_3))] [(0,.row 40 4 (Ai Aa.enc data_2))] 1) (fun (x34_3:Bool)=>Ar.j3 i_1 j_2 data_2 x34_3=some o2) ?_ ?_
 refine Bg (D9 _ _ []) (by kernel_rfl) [0,0,3,7,15,15,15,111,239,15,15,1039,3599,7695,16383,32767,65535] 1 137 Ij rfl rfl (by kernel_rfl) ?_
 refine Jf (.r 0 (.e 4)) fun h5 e _ e_2 _ B G=>?_
 obtain⟨y,hy,G⟩:=An G
 refine E1 (rd:=[]) (ps:=[]) (gs:=[]) false (Mt rfl rfl h5) rfl (hf_cmp e e_2 _ hy) rfl rfl (.cons (.agg (.cons .val (.cons .val (.cons .val (.cons .sl .nil))))) (.cons (.agg (.cons .val (.cons .val (.cons .val (.cons .sl .nil))))) .nil)) rfl rfl (by intro h; cases h) rfl rfl rfl rfl ?_
 exact Cj
 rintro x34_3 G
 unfold Ar.j3 at G
 refine Dx (.r 0 (.e 3)) fun _ B G=>?_
 refine Bg (D9 _ _ []) (by kernel_rfl) [0,0,0,0,8,0,0,64,224,480,0,0,3072,7168,16355,32739,65535,131071] 1 145 Ij rfl rfl (by kernel_rfl) ?_
 refine Br 4 fun e_3 _ e_4 he_4 B G=>?_
 refine X7 Ms he_4 (x':=e_3) ?_
 refine Br 1 fun _ he_5 B G=>?_
 refine X7 Ms he_5 (x':=e_4) ?_
 exact Cj
theorem Hn {data:List Aa} {lo:Int} {hi:Int} {first:Int} {cmp:Aa->Aa->Option (Int)} (hf_cmp:∀ (x0:Aa) (x1:Aa) (y:Int),cmp x0 x1=some y->Fn Tryz.prog 44 0 [.agg (Aa.dv x0),.agg (Aa.dv x1)] [] (fun d' b'=>d'=vj y/\b'=[])) {r:(List Aa)} (G:As data lo hi first cmp=some r):Fn Tryz.prog 172 1 [.row 0,vj lo,vj hi,vj first,.clo 44 0 []] [.row 40 4 (Ai Aa.enc data)] (fun d' b'=>d'=.tup []/\b'=[.row 40 4 (Ai Aa.enc r)]):=by
 unfold As at G
 refine Ea 1 82 Tryz.func172 fun _ _ _=>?_
 refine Br 2 fun B G=>?_
 refine He (fun ((root_1,data_1):Int×List Aa)=>mk [(0,.row 0),(2,vj hi),(3,vj first),(4,.clo 44 0 []),(10,vj root_1)] [(0,.row 40 4 (Ai Aa.enc data_1))] 1) G (Cd [(0,0)]) ?_
 rintro⟨root_1,data_1⟩ m1 o1 G hn1
 unfold As.l1 at G
 refine Dx (.l 4 (.e 1)) fun _ B G=>?_
 refine A4 (ι:=Int) (fun (child_3:Int)=>mk [(0,.row 0),(2,vj hi),(3,vj first),(4,.clo 44 0 []),(10,vj root_1),(11,vj child_3)] [(0,.row 40 4 (Ai Aa.enc data_1))] 1) (fun (child_3:Int)=>As.j3 first cmp root_1 data_1 child_3=some o1) ?_ ?_
 refine A4 (ι:=Bool) (fun (x40_2:Bool)=>mk [(0,.row 0),(2,vj hi),(3,vj first),(4,.clo 44 0 []),(10,vj root_1),(11,.val (.int .i64 (W ((W (2 * root_1)) + 1)))),(40,.val (.bool x40_2))] [(0,.row 40 4 (Ai Aa.enc data_1))] 1) (fun (x40_2:Bool)=>As.j2 first cmp root_1 data_1 x40_2=some o1) ?_ ?_
 refine Bg (D9 _ _ []) (by kernel_rfl) [0,1,0,7,15,31,31,31,31,415,991,2015,31,31,31,24607,57375,127007,258079,524287,1048575,2097151] 57 233 B rfl rfl (by kernel_rfl) ?_
 refine Jf (.r 0 (.e 4)) fun h5 e _ e_2 _ B G=>?_
 obtain⟨y,hy,G⟩:=An G
 refine E1 (rd:=[]) (ps:=[]) (gs:=[]) false (Mt rfl rfl h5) rfl (hf_cmp e e_2 _ hy) rfl rfl (.cons (.agg (.cons .val (.cons .val (.cons .val (.cons .sl .nil))))) (.cons (.agg (.cons .val (.cons .val (.cons .val (.cons .sl .nil))))) .nil)) rfl rfl (by intro h; cases h) rfl rfl rfl rfl ?_
 exact Cj
 rintro x40_2 G
 unfold As.j2 at G
 exact Gn
 rintro child_3 G
 unfold As.j3 at G
 try dsimp only at G
 refine Rp rfl ?_
 refine Ay <| Ay <| Bg (D9 _ _ []) (by kernel_rfl) [0,0,0,0,12,30,62,0,0,0,768,1920,3968,8191,16383,32767] 1 129 Ij rfl rfl (by kernel_rfl) ?_
 refine Br 4 fun e_3 he_3 e_4 he_4 B G=>?_
 obtain⟨y_2,hy_2,G⟩:=An G
 refine E1 (rd:=[]) (ps:=[]) (gs:=[]) false rfl rfl (hf_cmp e_3 e_4 _ hy_2) rfl rfl (.cons (.agg (.cons .val (.cons .val (.cons .val (.cons .sl .nil))))) (.cons (.agg (.cons .val (.cons .val (.cons .val (.cons .sl .nil))))) .nil)) rfl rfl (by intro h; cases h) rfl rfl rfl rfl ?_
 refine Br 0 fun B G=>?_
 refine Kd rfl G (fun _ G=>?_) fun _ G=>?_
 refine dL ?_
 refine rp_ ?_
 exact Cj
 refine Br 1 fun B G=>?_
 refine Ay <| Bg (D9 _ _ []) (by kernel_rfl) [0,0,0,6,0,0,0,96,0,0,0,1536,3840,7936,0,0,0,98304,245760,507904,1048335,2096911,4194303,8388607] 129 321 B rfl rfl (by kernel_rfl) ?_
 refine Br 2 fun B G=>?_
 refine X7 Ms he_3 (x':=e_4) ?_
 refine Br 1 fun _ he_5 B G=>?_
 refine X7 Ms he_5 (x':=e_3) ?_
 exact Cj
theorem K9 {data:List Aa} {a:Int} {b:Int} {cmp:Aa->Aa->Option (Int)} (hf_cmp:∀ (x0:Aa) (x1:Aa) (y:Int),cmp x0 x1=some y->Fn Tryz.prog 44 0 [.agg (Aa.dv x0),.agg (Aa.dv x1)] [] (fun d' b'=>d'=vj y/\b'=[])) {r:(List Aa)} (G:Bd data a b cmp=some r):Fn Tryz.prog 128 1 [.row 0,vj a,vj b,.clo 44 0 []] [.row 40 4 (Ai Aa.enc data)] (fun d' b'=>d'=.tup []/\b'=[.row 40 4 (Ai Aa.enc r)]):=by
 unfold Bd at G
 refine Ea 1 60 Tryz.func128 fun _ _ _=>?_
 refine Br 7 fun _ _ B G=>?_
 refine He (fun ((i_1,data_1):Int×List Aa)=>mk [(0,.row 0),(3,.clo 44 0 []),(8,vj a),(9,.val (.int .i64 0)),(10,.val (.int .i64 (W (b - a)))),(11,vj i_1)] [(0,.row 40 4 (Ai Aa.enc data_1))] 1) G (Cd [(0,0)]) ?_
 rintro⟨i_1,data_1⟩ m1 o1 G hn1
 unfold Bd.l1 at G
 refine Lg 2 fun B G=>?_
 refine Kd rfl G (fun _ G=>?_) fun _ G=>?_
 refine Br 4 fun B G=>?_
 obtain⟨y,hy,G⟩:=An G
 refine R9 [0] [0] [] false (@Hn data_1 i_1 (W (b - a)) a cmp hf_cmp _ hy) ?_
 exact Cj
 refine Br 3 fun B G=>?_
 refine He (fun ((i_2,data_2):Int×List Aa)=>mk [(0,.row 0),(3,.clo 44 0 []),(8,vj a),(9,.val (.int .i64 0)),(12,vj i_2)] [(0,.row 40 4 (Ai Aa.enc data_2))] 1) G (Cd [(0,0)]) ?_
 rintro⟨i_2,data_2⟩ m2 o2 G hn2
 unfold Bd.l2 at G
 refine Dx (.r 2 (.e 3)) fun _ B G=>?_
 refine Ay <| Bg (D9 _ _ []) (by kernel_rfl) [0,0,0,0,0,24,0,0,0,384,960,1984,0,0,12288,28672,65475,131011,262143,524287] 17 177 B rfl rfl (by kernel_rfl) ?_
 refine Br 4 fun e _ e_2 he_2 B G=>?_
 refine X7 Ms he_2 (x':=e) ?_
 refine Br 1 fun _ he_3 B G=>?_
 refine X7 Ms he_3 (x':=e_2) ?_
 refine Br 1 fun B G=>?_
 obtain⟨y_2,hy_2,G⟩:=An G
 refine R9 [0] [0] [] false (@Hn (Ex (Ex data_2 ((a).toNat) e) ((W (a + i_2)).toNat) e_2) 0 i_2 a cmp hf_cmp _ hy_2) ?_
 exact Cj
theorem S1 {length r} (G:Hf length=some r):Fn Tryz.prog 173 0 [vj length] [] (fun d' b'=>d'=.val (.int .u64 r)/\b'=[]):=by
 unfold Hf at G
 refine Ea 0 7 Tryz.func173 fun _ _ _=>?_
 exact Cj
instance aUj:Wk 173:=⟨_,@S1⟩
theorem T0 {r' r} (G:Hm r'=some r):Fn Tryz.prog 174 1 [.ptr 0 0] [.box [.val (.int .u64 r')] 219] (fun d' b'=>d'=.val (.int .u64 r.1)/\b'=[.box [.val (.int .u64 r.2)] 219]):=by
 unfold Hm at G
 refine Ea 1 33 Tryz.func174 fun _ _ _=>?_
 refine Br 1 fun B G=>?_
 refine Ay <| Bg (D9 _ _ []) (by kernel_rfl) [0,1,3,0,8,24,56,127,255,511] 9 89 B rfl rfl (by kernel_rfl) ?_
 refine Br 2 fun _ _ B G=>?_
 refine Ay <| Bg (D9 _ _ []) (by kernel_rfl) [0,1,3,0,8,24,56,127,255,511] 89 169 B rfl rfl (by kernel_rfl) ?_
 refine Br 2 fun _ _ B G=>?_
 refine Ay <| Bg (D9 _ _ []) (by kernel_rfl) [0,1,3,0,8,24,56,127,255,511] 169 249 B rfl rfl (by kernel_rfl) ?_
 exact Cj
instance aUk:Wk 174:=⟨_,@T0⟩
theorem Jl {data:List Aa} {a:Int} {b:Int} {cmp:Aa->Aa->Option (Int)} (hf_cmp:∀ (x0:Aa) (x1:Aa) (y:Int),cmp x0 x1=some y->Fn Tryz.prog 44 0 [.agg (Aa.dv x0),.agg (Aa.dv x1)] [] (fun d' b'=>d'=vj y/\b'=[])) {r:(List Aa)} (G:Ba data a b cmp=some r):Fn Tryz.prog 129 1 [.row 0,vj a,vj b,.clo 44 0 []] [.row 40 4 (Ai Aa.enc data)] (fun d' b'=>d'=.tup []/\b'=[.row 40 4 (Ai Aa.enc r)]):=by
 unfold Ba at G
 refine Ea 1 67 Tryz.func129 fun _ _ _=>?_
 refine Jf (.r 2 (.e 7)) fun _ y _ _ _ B G=>?_
 refine He (fun ((idx_1,data_1,random_1):Int×List Aa×Int)=>mk [(0,.row 0),(1,vj a),(8,.val (.int .i64 (W (b - a)))),(9,.ptr 1 0),(10,.val (.int .u64 y)),(11,vj idx_1)] [(0,.row 40 4 (Ai Aa.enc data_1)),(1,.box [.val (.int .u64 random_1)] 219)] 2) G (Cd [(0,0),(1,65)]) ?_
 rintro⟨idx_1,data_1,random_1⟩ m1 o1 G hn1
 unfold Ba.l1 at G
 refine Dx (.r 3 (.e 8)) fun _ _ _ y_2 _ B G=>?_
 refine A4 (ι:=Int) (fun (other_2:Int)=>mk [(0,.row 0),(1,vj a),(8,.val (.int .i64 (W (b - a)))),(9,.ptr 1 0),(10,.val (.int .u64 y)),(11,vj idx_1),(12,vj other_2)] [(0,.row 40 4 (Ai Aa.enc data_1)),(1,.box [.val (.int .u64 y_2.2)] 219)] 2) (fun (other_2:Int)=>Ba.j2 a idx_1 data_1 y_2 other_2=some o1) ?_ ?_
 exact Cj
 rintro other_2 G
 unfold Ba.j2 at G
 try dsimp only at G
 refine Rp rfl ?_
 refine Bg (D9 _ _ []) (by kernel_rfl) [0,0,0,0,0,24,0,0,0,384,960,1984,0,0,12288,28672,65475,131011,262143,524287] 2 162 Ij rfl rfl (by kernel_rfl) ?_
 refine Br 4 fun e _ e_2 he_2 B G=>?_
 refine X7 Ms he_2 (x':=e) ?_
 refine Br 1 fun _ he_3 B G=>?_
 refine X7 Ms he_3 (x':=e_2) ?_
 exact Cj
theorem Gi {data:(List Aa)} {a:Int} {b:Int} {swaps:Int} {cmp:Aa->Aa->Option (Int)} (hf_cmp:∀ (x0:Aa) (x1:Aa) (y:Int),cmp x0 x1=some y->Fn Tryz.prog 44 0 [.agg (Aa.dv x0),.agg (Aa.dv x1)] [] (fun d' b'=>d'=vj y/\b'=[])) {r:Int×Int×Int} (G:Ek data a b swaps cmp=some r):Fn Tryz.prog 196 1 [.sl 4 (Ai Aa.enc data),vj a,vj b,.ptr 0 0,.clo 44 0 []] [.box [vj swaps] 3] (fun d' b'=>d'=.tup [vj r.1,vj r.2.1]/\b'=[.box [vj r.2.2] 3]):=by
 unfold Ek at G
 refine Ea 1 32 Tryz.func196 fun _ _ _=>?_
 refine Br 1 fun B G=>?_
 refine Ay <| Ay <| Bg (D9 _ _ []) (by kernel_rfl) [0,0,0,6,14,0,0,96,224,511,1023] 17 105 B rfl rfl (by kernel_rfl) ?_
 refine Br 4 fun e _ e_2 _ B G=>?_
 obtain⟨y,hy,G⟩:=An G
 refine E1 (rd:=[]) (ps:=[]) (gs:=[]) false rfl rfl (hf_cmp e e_2 _ hy) rfl rfl (.cons (.agg (.cons .val (.cons .val (.cons .val (.cons .sl .nil))))) (.cons (.agg (.cons .val (.cons .val (.cons .val (.cons .sl .nil))))) .nil)) rfl rfl (by intro h; cases h) rfl rfl rfl rfl ?_
 exact Cj
theorem Hy {data:(List Aa)} {a:Int} {b:Int} {c:Int} {swaps:Int} {cmp:Aa->Aa->Option (Int)} (hf_cmp:∀ (x0:Aa) (x1:Aa) (y:Int),cmp x0 x1=some y->Fn Tryz.prog 44 0 [.agg (Aa.dv x0),.agg (Aa.dv x1)] [] (fun d' b'=>d'=vj y/\b'=[])) {r:Int×Int} (G:Fh data a b c swaps cmp=some r):Fn Tryz.prog 176 1 [.sl 4 (Ai Aa.enc data),vj a,vj b,vj c,.ptr 0 0,.clo 44 0 []] [.box [vj swaps] 3] (fun d' b'=>d'=vj r.1/\b'=[.box [vj r.2] 3]):=by
 unfold Fh at G
 refine Ea 1 41 Tryz.func176 fun _ _ _=>?_
 refine Br 2 fun B G=>?_
 obtain⟨y,hy,G⟩:=An G
 refine R9 [0] [0] [] false (@Gi data a b swaps cmp hf_cmp _ hy) ?_
 refine Br 1 fun B G=>?_
 obtain⟨y_2,hy_2,G⟩:=An G
 refine R9 [0] [0] [] false (@Gi data y.2.1 c y.2.2 cmp hf_cmp _ hy_2) ?_
 refine Br 1 fun B G=>?_
 obtain⟨y_3,hy_3,G⟩:=An G
 refine R9 [0] [0] [] false (@Gi data y.1 y_2.1 y_2.2.2 cmp hf_cmp _ hy_3) ?_
 exact Cj
theorem Fq {data:(List Aa)} {a:Int} {swaps:Int} {cmp:Aa->Aa->Option (Int)} (hf_cmp:∀ (x0:Aa) (x1:Aa) (y:Int),cmp x0 x1=some y->Fn Tryz.prog 44 0 [.agg (Aa.dv x0),.agg (Aa.dv x1)] [] (fun d' b'=>d'=vj y/\b'=[])) {r:Int×Int} (G:Dk data a swaps cmp=some r):Fn Tryz.prog 175 1 [.sl 4 (Ai Aa.enc data),vj a,.ptr 0 0,.clo 44 0 []] [.box [vj swaps] 3] (fun d' b'=>d'=vj r.1/\b'=[.box [vj r.2] 3]):=by
 unfold Dk at G
 refine Ea 1 18 Tryz.func175 fun _ _ _=>?_
 refine Br 2 fun B G=>?_
 obtain⟨y,hy,G⟩:=An G
 refine R9 [0] [0] [] false (@Hy data (W (a - 1)) a (W (a + 1)) swaps cmp hf_cmp _ hy) ?_
 exact Cj
theorem Ki {data:(List Aa)} {a:Int} {b:Int} {cmp:Aa->Aa->Option (Int)} (hf_cmp:∀ (x0:Aa) (x1:Aa) (y:Int),cmp x0 x1=some y->Fn Tryz.prog 44 0 [.agg (Aa.dv x0),.agg (Aa.dv x1)] [] (fun d' b'=>d'=vj y/\b'=[])) {r:Int×Int} (G:Bf data a b cmp=some r):Fn Tryz.prog 130 0 [.sl 4 (Ai Aa.enc data),vj a,vj b,.clo 44 0 []] [] (fun d' b'=>d'=.tup [vj r.1,vj r.2]/\b'=[]):=by
 unfold Bf at G
 refine Ea 0 63 Tryz.func130 fun _ _ _=>?_
 refine Br 9 fun q _ q_2 _ q_3 _ B G=>?_
 refine A4 (ι:=Int×Int) (fun ((j_2,swaps_2):Int×Int)=>mk [(11,.ptr 0 0),(13,vj j_2)] [(0,.box [vj swaps_2] 3)] 1) (fun ((j_2,swaps_2):Int×Int)=>Bf.j2 j_2 swaps_2=some r) ?_ ?_
 refine Jf (.r 1 (.e 0)) fun _ B G=>?_
 refine A4 (ι:=Int×Int×Int×Int) (fun ((i_1,j_1,k_1,swaps_1):Int×Int×Int×Int)=>mk [(0,.sl 4 (Ai Aa.enc data)),(3,.clo 44 0 []),(11,.ptr 0 0),(12,vj i_1),(13,vj j_1),(14,vj k_1)] [(0,.box [vj swaps_1] 3)] 1) (fun ((i_1,j_1,k_1,swaps_1):Int×Int×Int×Int)=>Bf.j1 data cmp i_1 j_1 k_1 swaps_1=some r) ?_ ?_
 refine Jf (.r 1 (.e 1)) fun _ B G=>?_
 obtain⟨y,hy,G⟩:=An G
 refine R9 [48] [48] [] false (@Fq data (W (a + (W (q * 1)))) 0 cmp hf_cmp _ hy) ?_
 refine Br 1 fun B G=>?_
 obtain⟨y_2,hy_2,G⟩:=An G
 refine R9 [48] [48] [] false (@Fq data (W (a + (W (q_2 * 2)))) y.2 cmp hf_cmp _ hy_2) ?_
 refine Br 1 fun B G=>?_
 obtain⟨y_3,hy_3,G⟩:=An G
 refine R9 [48] [48] [] false (@Fq data (W (a + (W (q_3 * 3)))) y_2.2 cmp hf_cmp _ hy_3) ?_
 exact Cj
 rintro⟨i_1,j_1,k_1,swaps_1⟩ G
 unfold Bf.j1 at G
 refine Lg 1 fun B G=>?_
 obtain⟨y_4,hy_4,G⟩:=An G
 refine R9 [0] [0] [] false (@Hy data i_1 j_1 k_1 swaps_1 cmp hf_cmp _ hy_4) ?_
 exact Cj
 rintro⟨j_2,swaps_2⟩ G
 unfold Bf.j2 at G
 exact Gn
end Go.Proofs.YtobamahlipiakaaGreat
