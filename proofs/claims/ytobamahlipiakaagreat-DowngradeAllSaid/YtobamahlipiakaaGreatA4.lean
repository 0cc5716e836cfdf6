import Derived.Test.YtobamahlipiakaaGreatT1
import Derived.Test.YtobamahlipiakaaGreatEU
import Derived.Test.YtobamahlipiakaaGreatA1
import Derived.Test.YtobamahlipiakaaGreatA2
import Derived.Test.YtobamahlipiakaaGreatA3
set_option linter.unusedVariables false
set_option linter.unusedSimpArgs false
set_option maxRecDepth 100000
set_option maxHeartbeats 40000000
namespace Go.Proofs.YtobamahlipiakaaGreat
open Go.RowKit
theorem zY {n r} (G:Ti n=some r):Fn Tryz.prog 226 0 [vj n] [] (fun d' b'=>d'=.val (.bool r)/\b'=[]):=by
 unfold Ti at G
 refine Ea 0 14 Tryz.func226 fun _ _ _=>?_
 exact Cj
instance aUi:Wk 226:=⟨_,@zY⟩
theorem dE (rec:Ab->Option (Bool)) (hrec:∀ (v:Ab) (r:Bool),rec v=some r->Fn Tryz.prog 219 0 [.agg (Ab.dv v)] [] (fun d' b'=>d'=.val (.bool r)/\b'=[])) {x':Ab} {r:Bool} (G:G5 rec x'=some r):Fn Tryz.prog 228 0 [.agg (Ab.dv x')] [] (fun d' b'=>d'=.val (.bool r)/\b'=[]):=by
 unfold G5 at G
 refine Ea 0 6 Tryz.func228 fun _ _ _=>?_
 refine Br 2 fun B G=>?_
 obtain⟨y,hy,G⟩:=An G
 refine L9 (hrec _ _ hy) ?_
 exact Cj
theorem Ma (rec:Ab->Option (Bool)) (hrec:∀ (v:Ab) (r:Bool),rec v=some r->Fn Tryz.prog 219 0 [.agg (Ab.dv v)] [] (fun d' b'=>d'=.val (.bool r)/\b'=[])) {s:(List Ab)} {f:Ab->Option (Bool)} (hf_f:∀ (x0:Ab) (y:Bool),f x0=some y->Fn Tryz.prog 228 0 [.agg (Ab.dv x0)] [] (fun d' b'=>d'=.val (.bool y)/\b'=[])) {r:Int} (G:B7 rec s f=some r):Fn Tryz.prog 232 0 [.sl 4 (Ai Ab.enc s),.clo 228 0 []] [] (fun d' b'=>d'=vj r/\b'=[]):=by
 unfold B7 at G
 refine Ea 0 19 Tryz.func232 fun _ _ _=>?_
 refine Br 4 fun B G=>?_
 refine He (fun (x8_1:Int)=>mk [(0,.sl 4 (Ai Ab.enc s)),(1,.clo 228 0 []),(7,.val (.int .i64 (s.length:Int))),(8,vj x8_1)] [] 0) G (Cd []) ?_
 rintro x8_1 m1 o1 G hn1
 unfold B7.l1 at G
 refine Dx (.r 2 (.e 6)) fun _ e he B G=>?_
 refine F0 rfl rfl (I2 Zv (Jj Ab.enc_len (D5 he) (o:=0) (m:=4) (cs:=[.int .i64 e.Tag,.sl 1 (Ai e8 e.Bytes),.bool e.Nested,.sl 4 (Ai Ab.enc e.Elements)]) (by simp only [Ab.enc_eq]; rfl) (by decide) rfl) (Ga Ab.enc_len (D5 he) (o:=0) (m:=4) (by decide) rfl)) rfl rfl ?_
 obtain⟨y,hy,G⟩:=An G
 refine E1 (rd:=[]) (ps:=[]) (gs:=[]) false rfl rfl (hf_f e _ hy) rfl rfl (.cons (.agg (.cons .val (.cons .sl (.cons .val (.cons .sl .nil))))) .nil) rfl rfl (by intro h; cases h) rfl rfl rfl rfl ?_
 exact Cj
theorem Li (rec:Ab->Option (Bool)) (hrec:∀ (v:Ab) (r:Bool),rec v=some r->Fn Tryz.prog 219 0 [.agg (Ab.dv v)] [] (fun d' b'=>d'=.val (.bool r)/\b'=[])) {s:(List Ab)} {f:Ab->Option (Bool)} (hf_f:∀ (x0:Ab) (y:Bool),f x0=some y->Fn Tryz.prog 228 0 [.agg (Ab.dv x0)] [] (fun d' b'=>d'=.val (.bool y)/\b'=[])) {r:Bool} (G:Eb rec s f=some r):Fn Tryz.prog 227 0 [.sl 4 (Ai Ab.enc s),.clo 228 0 []] [] (fun d' b'=>d'=.val (.bool r)/\b'=[]):=by
 unfold Eb at G
 refine Ea 0 9 Tryz.func227 fun _ _ _=>?_
 refine Br 2 fun B G=>?_
 obtain⟨y,hy,G⟩:=An G
 refine L9 (@Ma rec hrec s f hf_f _ hy) ?_
 exact Cj
theorem T1.F (rec:Ab->Option (Bool)) (hrec:∀ (v:Ab) (r:Bool),rec v=some r->Fn Tryz.prog 219 0 [.agg (Ab.dv v)] [] (fun d' b'=>d'=.val (.bool r)/\b'=[])) {v:Ab} {r:Bool} (G:Dp.F rec v=some r):Fn Tryz.prog 219 0 [.agg (Ab.dv v)] [] (fun d' b'=>d'=.val (.bool r)/\b'=[]):=by
 unfold Dp.F at G
 refine Ea 0 41 Tryz.func219 fun _ _ _=>?_
 refine Br 1 fun B G=>?_
 refine Ay <| A4 (ι:=Bool) (fun (x36_1:Bool)=>mk [(1,.ptr 0 0),(36,.val (.bool x36_1))] [(0,.box (Ab.dv v) 203)] 1) (fun (x36_1:Bool)=>Dp.j1 rec v x36_1=some r) ?_ ?_
 exact Cj
 rintro x36_1 G
 unfold Dp.j1 at G
 refine Dx (.l 0 (.e 2)) fun _ B G=>?_
 obtain⟨y_2,hy_2,G⟩:=An G
 refine L9 (@Li rec hrec v.Elements (fun x0=>G5 rec x0) (fun x0 yy hh=>@dE rec hrec x0 yy hh) _ hy_2) ?_
 exact Cj
theorem T1 {v:Ab} {r:Bool} (G:Dp v=some r):Fn Tryz.prog 219 0 [.agg (Ab.dv v)] [] (fun d' b'=>d'=.val (.bool r)/\b'=[]):=
 N8 (motive:=fun (x:Ab) (r:Bool)=>Fn Tryz.prog 219 0 [.agg (Ab.dv x)] [] (fun d' b'=>d'=.val (.bool r)/\b'=[])) (fun rec hrec x r h=>@T1.F _ (fun v r h=>hrec v r h) x r h) v r G
instance aUe:Wk 219:=⟨_,@T1⟩
theorem Vq.F (rec:Ab->Option (Int)) (hrec:∀ (v:Ab) (r:Int),rec v=some r->Fn Tryz.prog 220 0 [.agg (Ab.dv v)] [] (fun d' b'=>d'=vj r/\b'=[])) {v:Ab} {r:Int} (G:Et.F rec v=some r):Fn Tryz.prog 220 0 [.agg (Ab.dv v)] [] (fun d' b'=>d'=vj r/\b'=[]):=by
 unfold Et.F at G
 refine Ea 0 20 Tryz.func220 fun _ _ _=>?_
 refine Br 5 fun B G=>?_
 refine He (fun ((most_1,x9_1):Int×Int)=>mk [(3,vj most_1),(7,.sl 4 (Ai Ab.enc v.Elements)),(8,.val (.int .i64 (v.Elements.length:Int))),(9,vj x9_1)] [] 0) G (Cd []) ?_
 rintro⟨most_1,x9_1⟩ m1 o1 G hn1
 unfold Et.l1 at G
 refine Dx (.r 2 (.e 5)) fun _ e he B G=>?_
 refine F0 rfl rfl (I2 Zv (Jj Ab.enc_len (D5 he) (o:=0) (m:=4) (cs:=[.int .i64 e.Tag,.sl 1 (Ai e8 e.Bytes),.bool e.Nested,.sl 4 (Ai Ab.enc e.Elements)]) (by simp only [Ab.enc_eq]; rfl) (by decide) rfl) (Ga Ab.enc_len (D5 he) (o:=0) (m:=4) (by decide) rfl)) rfl rfl ?_
 refine Br 1 fun B G=>?_
 obtain⟨y,hy,G⟩:=An G
 refine L9 (hrec _ _ hy) ?_
 exact Cj
theorem Vq {v:Ab} {r:Int} (G:Et v=some r):Fn Tryz.prog 220 0 [.agg (Ab.dv v)] [] (fun d' b'=>d'=vj r/\b'=[]):=
 N8 (motive:=fun (x:Ab) (r:Int)=>Fn Tryz.prog 220 0 [.agg (Ab.dv x)] [] (fun d' b'=>d'=vj r/\b'=[])) (fun rec hrec x r h=>@Vq.F _ (fun v r h=>hrec v r h) x r h) v r G
instance aV7:Wk 220:=⟨_,@Vq⟩
theorem Pa {b n r} (G:Ed b n=some r):Fn Tryz.prog 230 0 [.row 0,vj n] [.row 5 1 (Ai e8 b)] (fun d' b'=>d'=.row 0/\b'=[.row 5 1 (Ai e8 r)]):=by
 unfold Ed at G
 refine Ea 1 43 Tryz.func230 fun _ _ _=>?_
 refine Br 3 fun B G=>?_
 refine Kd rfl G (fun _ G=>?_) fun _ G=>?_
 refine Br 2 fun B G=>?_
 refine Iz Nu z5 qA ([(u8 n)]:List UInt8) e8 ?_
 exact Cj
 refine Br 5 fun B G=>?_
 refine He (fun ((count_1,m_1):Int×Int)=>mk [(0,.row 0),(1,vj n),(5,vj count_1),(6,vj m_1)] [(0,.row 5 1 (Ai e8 b))] 1) G (Cd [(0,0)]) ?_
 rintro⟨count_1,m_1⟩ m1 o1 G hn1
 unfold Ed.l1 at G
 refine Dx (.l 2 (.e 3)) fun _ B G=>?_
 refine Iz Nu z5 qA ([(u8 (W (128 + count_1)))]:List UInt8) e8 ?_
 refine Br 4 fun _ _ B G=>?_
 refine He (fun ((i_2,b_2):Int×List UInt8)=>mk [(0,.row 0),(1,vj n),(7,vj i_2)] [(0,.row 5 1 (Ai e8 b_2))] 1) G (Cd [(0,57)]) ?_
 rintro⟨i_2,b_2⟩ m2 o2 G hn2
 unfold Ed.l2 at G
 refine Dx (.r 2 (.e 6)) fun _ q_2 _ B G=>?_
 refine Iz Nu z5 qA ([(u8 q_2)]:List UInt8) e8 ?_
 exact Cj
instance aUl:Wk 230:=⟨_,@Pa⟩
theorem Zr (rec:Ab->Option ((List UInt8))) (hrec:∀ (v:Ab) (r:(List UInt8)),rec v=some r->Fn Tryz.prog 229 0 [.agg (Ab.dv v)] [] (fun d' b'=>d'=.sl 1 (Ai e8 r)/\b'=[])) {b:List UInt8} {v:Ab} {r:(List UInt8)} (G:Iu rec b v=some r):Fn Tryz.prog 221 0 [.row 0,.agg (Ab.dv v)] [.row 5 1 (Ai e8 b)] (fun d' b'=>d'=.row 0/\b'=[.row 5 1 (Ai e8 r)]):=by
 unfold Iu at G
 refine Ea 1 19 Tryz.func221 fun _ _ _=>?_
 refine Br 2 fun B G=>?_
 obtain⟨y,hy,G⟩:=An G
 refine L9 (hrec _ _ hy) ?_
 refine Br 2 fun B G=>?_
 refine Iz Nu z5 qA ([(u8 v.Tag)]:List UInt8) e8 ?_
 refine Br 1 fun _ _ B G=>?_
 obtain⟨y_2,hy_2,G⟩:=An G
 refine Jw (rd:=[81]) (ps:=[]) (gs:=[81]) false rfl (Pa hy_2) rfl rfl (.cons (.rowK rfl) (.cons .val .nil)) ⟨_,_,_,rfl,.head _,rfl,rfl⟩ rfl (by intro h; cases h) rfl (by intro h; first | (cases h; done) | exact⟨_,_,⟨rfl,rfl⟩,by simp,by simp⟩) ?_
 rintro _ _ ⟨rfl,rfl⟩
 exact Cj
theorem Qu.F (rec:Ab->Option ((List UInt8))) (hrec:∀ (v:Ab) (r:(List UInt8)),rec v=some r->Fn Tryz.prog 229 0 [.agg (Ab.dv v)] [] (fun d' b'=>d'=.sl 1 (Ai e8 r)/\b'=[])) {v:Ab} {r:(List UInt8)} (G:Dd.F rec v=some r):Fn Tryz.prog 229 0 [.agg (Ab.dv v)] [] (fun d' b'=>d'=.sl 1 (Ai e8 r)/\b'=[]):=by
 unfold Dd.F at G
 refine Ea 0 23 Tryz.func229 fun _ _ _=>?_
 refine Jf (.l 3 (.e 5)) fun _ B G=>?_
 refine He (fun ((x14_1,out_1):Int×List UInt8)=>mk [(3,.row 0),(12,.sl 4 (Ai Ab.enc v.Elements)),(13,.val (.int .i64 (v.Elements.length:Int))),(14,vj x14_1)] [(0,.row 5 1 (Ai e8 out_1))] 1) G (Cd []) ?_
 rintro⟨x14_1,out_1⟩ m1 o1 G hn1
 unfold Dd.l1 at G
 refine Dx (.r 2 (.e 5)) fun _ e he B G=>?_
 refine F0 rfl rfl (I2 Zv (Jj Ab.enc_len (D5 he) (o:=0) (m:=4) (cs:=[.int .i64 e.Tag,.sl 1 (Ai e8 e.Bytes),.bool e.Nested,.sl 4 (Ai Ab.enc e.Elements)]) (by simp only [Ab.enc_eq]; rfl) (by decide) rfl) (Ga Ab.enc_len (D5 he) (o:=0) (m:=4) (by decide) rfl)) rfl rfl ?_
 refine Br 1 fun B G=>?_
 obtain⟨y,hy,G⟩:=An G
 refine Jw (rd:=[0]) (ps:=[]) (gs:=[0]) false rfl (@Zr rec hrec _ _ _ hy) rfl rfl (.cons (.rowK rfl) (.cons (.agg (.cons .val (.cons .sl (.cons .val (.cons .sl .nil))))) .nil)) ⟨_,_,_,rfl,.head _,rfl,rfl⟩ rfl (by intro h; cases h) rfl (by intro h; first | (cases h; done) | exact⟨_,_,⟨rfl,rfl⟩,by simp,by simp⟩) ?_
 rintro _ _ ⟨rfl,rfl⟩
 exact Cj
theorem Qu {v:Ab} {r:(List UInt8)} (G:Dd v=some r):Fn Tryz.prog 229 0 [.agg (Ab.dv v)] [] (fun d' b'=>d'=.sl 1 (Ai e8 r)/\b'=[]):=
 N8 (motive:=fun (x:Ab) (r:(List UInt8))=>Fn Tryz.prog 229 0 [.agg (Ab.dv x)] [] (fun d' b'=>d'=.sl 1 (Ai e8 r)/\b'=[])) (fun rec hrec x r h=>@Qu.F _ (fun v r h=>hrec v r h) x r h) v r G
instance aUt:Wk 229:=⟨_,@Qu⟩
theorem Uu {v r} (G:L7 v=some r):Fn Tryz.prog 221 0 [.val (.slice none 0 0),.agg (Ab.dv v)] [] (fun d' b'=>d'=.row 0/\b'=[.row 5 1 (Ai e8 r)]):=by
 unfold L7 at G
 refine Ea 0 19 Tryz.func221 fun _ _ _=>?_
 refine Br 5 fun _ _ B G=>?_
 refine Iz Nu z5 qA ([(u8 v.Tag)]:List UInt8) e8 ?_
 refine Br 1 fun _ _ B G=>?_
 obtain⟨y_2,hy_2,G⟩:=An G
 refine Jw (rd:=[80]) (ps:=[]) (gs:=[80]) false rfl (Pa hy_2) rfl rfl (.cons (.rowK rfl) (.cons .val .nil)) ⟨_,_,_,rfl,.head _,rfl,rfl⟩ rfl (by intro h; cases h) rfl (by intro h; first | (cases h; done) | exact⟨_,_,⟨rfl,rfl⟩,by simp,by simp⟩) ?_
 rintro _ _ ⟨rfl,rfl⟩
 exact Cj
theorem oR {v r} (G:Jr v=some r):Fn Tryz.prog 205 0 [.agg (Ab.dv v)] [] (fun d' b'=>d'=.tup [.sl 1 (Ai e8 r.1),vj r.2]/\b'=[]):=by
 unfold Jr at G
 refine Ea 0 17 Tryz.func205 fun _ _ _=>?_
 refine Jf (.l 4 (.l 4 (.e 2))) fun _ _ _ _ _ _ B G=>?_
 obtain⟨y_3,hy_3,G⟩:=An G
 refine Jw (rd:=[]) (ps:=[]) (gs:=[]) false rfl (Uu hy_3) rfl rfl (.cons .val (.cons (.agg (.cons .val (.cons .sl (.cons .val (.cons .sl .nil))))) .nil)) rfl rfl (by intro h; cases h) rfl (by intro h; first | (cases h; done) | exact⟨_,_,⟨rfl,rfl⟩,by simp,by simp⟩) ?_
 rintro _ _ ⟨rfl,rfl⟩
 exact Cj
instance aWo:Wk 205:=⟨_,@oR⟩
theorem W6 {c r} (G:In c=some r):Fn Tryz.prog 195 0 [.agg (Ae.dv c)] [] (fun d' b'=>d'=.tup [.sl 1 (Ai e8 r.1),vj r.2]/\b'=[]):=by
 unfold In at G
 refine Ea 0 12 Tryz.func195 fun _ _ _=>?_
 exact Cj
instance aV5:Wk 195:=⟨_,@W6⟩
theorem Ry {b r} (G:D7 b=some r):Fn Tryz.prog 184 0 [.sl 1 (Ai e8 b)] [] (fun d' b'=>d'=vj r/\b'=[]):=by
 unfold D7 at G
 refine Ea 0 20 Tryz.func184 fun _ _ _=>?_
 refine Br 5 fun B G=>?_
 refine He (fun ((s_1,x8_1):Int×Int)=>mk [(3,.val (.int .u32 s_1)),(6,.sl 1 (Ai e8 b)),(7,.val (.int .i64 (b.length:Int))),(8,vj x8_1)] [] 0) G (Cd []) ?_
 rintro⟨s_1,x8_1⟩ m1 o1 G hn1
 unfold D7.l1 at G
 exact Gn
instance aXc:Wk 184:=⟨_,@Ry⟩
theorem Vw {c key r} (G:H7 c key=some r):Fn Tryz.prog 168 0 [.agg (Ae.dv c),vj key] [] (fun d' b'=>d'=.val (.bool r)/\b'=[]):=by
 unfold H7 at G
 refine Ea 0 23 Tryz.func168 fun _ _ _=>?_
 refine Br 3 fun _ _ B G=>?_
 refine Ay <| Bg (D9 _ _ []) (by kernel_rfl) [0,1,3,7,15,7,7,71,231,511,1023,2047] 72 168 B rfl rfl (by kernel_rfl) ?_
 refine Jf (.r 0 (.e 1)) fun h3 y_2 _ B G=>?_
 refine M6 aE xJ tZ ?_
 refine F0 (Mt rfl rfl h3) rfl (qN c.Seal (Be.mk key y_2)) rfl rfl ?_
 exact Cj
instance aWx:Wk 168:=⟨_,@Vw⟩
theorem kI {l e r} (G:Ec l e=some r):Fn Tryz.prog 122 0 [.sl 15 (Ai Ae.enc l),vj e] [] (fun d' b'=>d'=.val (.bool r)/\b'=[]):=by
 unfold Ec at G
 refine Ea 0 51 Tryz.func122 fun _ _ _=>?_
 refine Br 4 fun B G=>?_
 refine He (fun (x9_1:Int)=>mk [(0,.sl 15 (Ai Ae.enc l)),(1,vj e),(8,.val (.int .i64 (l.length:Int))),(9,vj x9_1)] [] 0) G (Cd []) ?_
 rintro x9_1 m1 o1 G hn1
 unfold Ec.l1 at G
 refine Dx (.r 2 (.e 5)) fun _ B G=>?_
 refine A4 (ι:=Bool) (fun (wrong_2:Bool)=>mk [(0,.sl 15 (Ai Ae.enc l)),(1,vj e),(6,.val (.bool wrong_2)),(8,.val (.int .i64 (l.length:Int))),(9,vj x9_1)] [] 0) (fun (wrong_2:Bool)=>Ec.j2 x9_1 wrong_2=some o1) ?_ ?_
 refine Br 3 fun B G=>?_
 refine Kd rfl G (fun _ G=>?_) fun _ G=>?_
 refine Bg (D9 _ _ []) (by kernel_rfl) [0,1,0,4,15,31,63,63,255,511,1023,63,63,4159,14399,30783,63551,131071,262143,524287] 56 216 B rfl rfl (by kernel_rfl) ?_
 exact Cj
 refine Jf (.l 1 (.e 0)) fun _ B G=>?_
 refine Bg (D9 _ _ []) (by kernel_rfl) [0,0,3,7,0,0,48,127,255,511] 72 152 B rfl rfl (by kernel_rfl) ?_
 exact Cj
 rintro wrong_2 G
 unfold Ec.j2 at G
 exact Gn
instance aUa:Wk 122:=⟨_,@kI⟩
theorem kK {l anchors hashes day name r} (G:Cn l anchors hashes day name=some r):Fn Tryz.prog 83 0 [.sl 15 (Ai Ae.enc l),.sl 1 (Ai eI anchors),.sl 1 (Ai eI hashes),vj day,vk name] [] (fun d' b'=>d'=vj r/\b'=[]):=by
 unfold Cn at G
 refine Ea 0 63 Tryz.func83 fun _ _ _=>?_
 refine Jf (.l 4 (.l 1 (.e 1))) fun _ _ B G=>?_
 obtain⟨y,hy,G⟩:=An G
 refine L9 (@Ji l (fun x0=>Mv x0) (fun x0 yy hh=>@S2 x0 yy hh) _ hy) ?_
 refine Jf (.l 0 (.l 5 (.e 3))) fun _ _ _ _ _ _ B G=>?_
 refine F0 rfl rfl (.buildArr (sz:=1) (r:=[.val (.int .i64 13),.val (.int .i64 7)]) uW (by kernel_rfl) aPv (by kernel_rfl) rfl) rfl rfl ?_
 refine Br 1 fun B G=>?_
 refine He (fun (x35_1:Int)=>mk [(0,.sl 15 (Ai Ae.enc l)),(1,.sl 1 (Ai eI anchors)),(7,.elt (([.sl 1 (Ai eI hashes)]:List C).drop 0)),(8,.elt (([.int .i64 day]:List C).drop 0)),(34,.agg [.val (.int .i64 13),.val (.int .i64 7)]),(35,vj x35_1)] [] 0) G ((by exact Rr.lists [] rfl rfl ⟨⟨_,rfl,.sl _ _⟩,⟨_,rfl,.sl _ _⟩,⟨_,rfl,.frzb (ks:=[some 1]) rfl (.cons .sl .nil) (H3 rfl)⟩,⟨_,rfl,.frzb (ks:=[none]) rfl (.cons .int .nil) (H3 rfl)⟩,⟨_,rfl,.agg (.cons (.val _) (.cons (.val _) .nil))⟩,⟨_,rfl,.val _⟩,trivial⟩ trivial)) ?_
 rintro x35_1 m1 o1 G hn1
 unfold Cn.l1 at G
 refine Lg 2 fun B G=>?_
 refine Kd rfl G (fun _ G=>?_) fun _ G=>?_
 refine Br 4 fun B G=>?_
 obtain⟨e_2,he_2,G⟩:=An G
 refine F0 rfl rfl (.indexA uW aCi (Tl he_2) rfl (wN (D5 he_2))) rfl rfl ?_
 refine Br 0 fun B G=>?_
 refine Ay <| Hg (σ':=mk [(0,.sl 15 (Ai Ae.enc l)),(1,.sl 1 (Ai eI anchors)),(7,.elt (([.sl 1 (Ai eI hashes)]:List C).drop 0)),(8,.elt (([.int .i64 day]:List C).drop 0)),(12,.elt (([.int .i64 e_2]:List C).drop 0)),(34,.agg [.val (.int .i64 13),.val (.int .i64 7)]),(35,vj x35_1)] [] 0) ((by exact Rr.lists [] rfl rfl ⟨⟨_,rfl,.sl _ _⟩,⟨_,rfl,.sl _ _⟩,⟨_,rfl,.elt _⟩,⟨_,rfl,.elt _⟩,⟨_,rfl,.frzb (ks:=[none]) rfl (.cons .int .nil) (H3 rfl)⟩,⟨_,rfl,.agg (.cons (.val _) (.cons (.val _) .nil))⟩,⟨_,rfl,.val _⟩,trivial⟩ trivial)) ?_
 refine Br 1 fun B G=>?_
 obtain⟨y_3,hy_3,G⟩:=An G
 refine L9 (@G6 l (fun x0=>My x0 hashes day e_2) hashes day e_2 (fun x0 yy hh=>@S3 x0 hashes day e_2 yy hh) _ hy_3) ?_
 refine Jf (.r 0 (.e 1)) fun _ B G=>?_
 refine F0 rfl rfl (Gq aCi (c:=.int .i64 e_2) rfl) rfl rfl ?_
 exact Cj
 refine Br 3 fun B G=>?_
 refine F0 rfl rfl (.buildArr (sz:=1) (r:=[.val (.int .i64 11),.val (.int .i64 15),.val (.int .i64 10)]) vX (by kernel_rfl) aQ4 (by kernel_rfl) rfl) rfl rfl ?_
 refine Br 1 fun B G=>?_
 refine He (fun (x44_3:Int)=>mk [(0,.sl 15 (Ai Ae.enc l)),(1,.sl 1 (Ai eI anchors)),(43,.agg [.val (.int .i64 11),.val (.int .i64 15),.val (.int .i64 10)]),(44,vj x44_3)] [] 0) G (Cd []) ?_
 rintro x44_3 m3 o3 G hn3
 unfold Cn.l3 at G
 refine Dx (.r 2 (.e 4)) fun _ B G=>?_
 obtain⟨e_3,he_3,G⟩:=An G
 refine F0 rfl rfl (.indexA vX aCi (Tl he_3) rfl (wN (D5 he_3))) rfl rfl ?_
 exact Cj
instance aZ6:Wk 83:=⟨_,@kK⟩
theorem Na {t r} (G:Ka t=some r):Fn Tryz.prog 78 0 [.agg (Cl.dv t)] [] (fun d' b'=>d'=.sl 1 (Ai eI r)/\b'=[]):=by
 unfold Ka at G
 refine Ea 0 5 Tryz.func78 fun _ _ _=>?_
 exact Cj
instance aYi:Wk 78:=⟨_,@Na⟩
theorem Z8 {client server day most suites r} (G:Dh client server day most suites=some r):Fn Tryz.prog 38 0 [.agg (Ac.dv client),.agg (Ac.dv server),vj day,vj most,.sl 1 (Ai eI suites)] [] (fun d' b'=>d'=.tup [.agg [vj r.1.Version,vj r.1.Suite],vj r.2]/\b'=[]):=by
 unfold Dh at G
 refine Ea 0 107 Tryz.func38 fun _ _ _=>?_
 refine Br 5 fun _ _ B G=>?_
 refine Kd rfl G (fun _ G=>?_) fun _ G=>?_
 refine Br 1 fun B G=>?_
 refine F0 rfl rfl (.build (r:=[.val (.int .i64 0),.val (.int .i64 0)]) M8 Tq kM (by kernel_rfl) rfl) rfl rfl ?_
 exact Cj
 refine A4 (ι:=Bool) (fun (x24_1:Bool)=>mk [(2,vj day),(3,vj most),(4,.sl 1 (Ai eI suites)),(5,.ptr 0 0),(6,.ptr 1 0),(10,.ptr 2 0),(24,.val (.bool x24_1))] [(0,.box (Ac.dv client) 29),(1,.box (Ac.dv server) 29),(2,.box [.val (.int .i64 0),.val (.int .i64 0)] 38)] 3) (fun (x24_1:Bool)=>Dh.j1 client server day most suites x24_1=some r) ?_ ?_
 exact Cj
 rintro x24_1 G
 unfold Dh.j1 at G
 try dsimp only at G
 refine Rp rfl ?_
 refine Kd rfl G (fun _ G=>?_) fun _ G=>?_
 refine Br 1 fun B G=>?_
 refine F0 rfl rfl (.build (r:=[.val (.int .i64 0),.val (.int .i64 0)]) M8 Tq kM (by kernel_rfl) rfl) rfl rfl ?_
 exact Cj
 refine Br 3 fun B G=>?_
 refine F0 rfl rfl (.build (r:=[vk server.Name,vj server.Least,vj server.Most,.sl 1 (Ai eI server.Suites),.val (.bool server.OwnOrder),.sl 4 (Ai Al.enc server.Identities),.sl 1 (Ai eI server.Anchors),.sl 1 (Ai eI server.Hashes),.val (.bool server.Fallback),.val (.int .i64 (min most server.Most)),.sl 1 (Ai eI suites)]) nJ aQo aOw (by kernel_rfl) rfl) rfl rfl ?_
 refine Br 0 fun B G=>?_
 refine Ay <| A4 (ι:=Bool) (fun (x58_2:Bool)=>mk [(2,vj day),(5,.ptr 0 0),(6,.ptr 1 0),(10,.ptr 2 0),(12,.ptr 3 0),(58,.val (.bool x58_2))] [(0,.box (Ac.dv client) 29),(1,.box (Ac.dv server) 29),(2,.box [.val (.int .i64 0),.val (.int .i64 0)] 38),(3,.box [vk server.Name,vj server.Least,vj server.Most,.sl 1 (Ai eI server.Suites),.val (.bool server.OwnOrder),.sl 4 (Ai Al.enc server.Identities),.sl 1 (Ai eI server.Anchors),.sl 1 (Ai eI server.Hashes),.val (.bool server.Fallback),.val (.int .i64 (min most server.Most)),.sl 1 (Ai eI suites)] 134)] 4) (fun (x58_2:Bool)=>Dh.j2 client server day most suites x58_2=some r) ?_ ?_
 exact Cj
 rintro x58_2 G
 unfold Dh.j2 at G
 try dsimp only at G
 refine Rp rfl ?_
 refine Kd rfl G (fun _ G=>?_) fun _ G=>?_
 refine Br 1 fun B G=>?_
 refine F0 rfl rfl (.build (r:=[.val (.int .i64 0),.val (.int .i64 0)]) M8 Tq kM (by kernel_rfl) rfl) rfl rfl ?_
 exact Cj
 refine Br 4 fun B G=>?_
 refine Kd rfl G (fun _ G=>?_) fun _ G=>?_
 refine Br 2 fun B G=>?_
 obtain⟨y_2,hy_2,G⟩:=An G
 refine E1 (rd:=[]) (ps:=[]) (gs:=[]) false rfl rfl (Nz hy_2) rfl rfl (.cons (.agg (.cons .val (.cons .val (.cons .val (.cons .sl (.cons .val (.cons .sl (.cons .sl (.cons .sl (.cons .val (.cons .val (.cons .sl .nil)))))))))))) .nil) rfl rfl (by intro h; cases h) rfl rfl rfl rfl ?_
 refine Br 1 fun B G=>?_
 obtain⟨y_3,hy_3,G⟩:=An G
 refine L9 (@H1 y_2 (fun x0=>B2 (Cl.mk server (min most server.Most) suites) x0) (Cl.mk server (min most server.Most) suites) (fun x0 yy hh=>@Jh (Cl.mk server (min most server.Most) suites) x0 yy hh) _ hy_3) ?_
 refine Br 2 fun B G=>?_
 refine Kd rfl G (fun _ G=>?_) fun _ G=>?_
 refine Br 1 fun B G=>?_
 refine F0 rfl rfl (.build (r:=[.val (.int .i64 0),.val (.int .i64 0)]) M8 Tq kM (by kernel_rfl) rfl) rfl rfl ?_
 exact Cj
 refine Br 1 fun B G=>?_
 refine Ay <| Bg (D9 _ _ []) (by kernel_rfl) [0,0,0,6,14,31,63,127,127,255,1023] 148 236 B rfl rfl (by kernel_rfl) ?_
 refine Br 3 fun e he _ _ B G=>?_
 refine Ay <| Ay <| Bg (D9 _ _ []) (by kernel_rfl) [0,1,0,7,15,31,0,64,0,256,0,0,2048,8191,16383] 236 356 B rfl rfl (by kernel_rfl) ?_
 refine Br 4 fun _ _ _ _ B G=>?_
 refine Kd rfl G (fun _ G=>?_) fun _ G=>?_
 refine Br 1 fun B G=>?_
 refine F0 rfl rfl (.build (r:=[.val (.int .i64 0),.val (.int .i64 0)]) M8 Tq kM (by kernel_rfl) rfl) rfl rfl ?_
 exact Cj
 refine Br 1 fun B G=>?_
 refine Ay <| Bg (D9 _ _ []) (by kernel_rfl) [0,1,0,0,12,28,63,127,255] 356 428 B rfl rfl (by kernel_rfl) ?_
 refine Br 1 fun B G=>?_
 refine F0 rfl rfl (.build (r:=[.val (.int .i64 (min most server.Most)),vj e]) M8 Tq kM (by kernel_rfl) rfl) rfl rfl ?_
 exact Cj
 refine Br 2 fun B G=>?_
 obtain⟨y_6,hy_6,G⟩:=An G
 refine E1 (rd:=[]) (ps:=[]) (gs:=[]) false rfl rfl (Na hy_6) rfl rfl (.cons (.agg (.cons .val (.cons .val (.cons .val (.cons .sl (.cons .val (.cons .sl (.cons .sl (.cons .sl (.cons .val (.cons .val (.cons .sl .nil)))))))))))) .nil) rfl rfl (by intro h; cases h) rfl rfl rfl rfl ?_
 refine Br 1 fun B G=>?_
 obtain⟨y_7,hy_7,G⟩:=An G
 refine L9 (@H1 y_6 (fun x0=>B2 (Cl.mk server (min most server.Most) suites) x0) (Cl.mk server (min most server.Most) suites) (fun x0 yy hh=>@Jh (Cl.mk server (min most server.Most) suites) x0 yy hh) _ hy_7) ?_
 refine Br 2 fun B G=>?_
 refine Kd rfl G (fun _ G=>?_) fun _ G=>?_
 refine Br 1 fun B G=>?_
 refine F0 rfl rfl (.build (r:=[.val (.int .i64 0),.val (.int .i64 0)]) M8 Tq kM (by kernel_rfl) rfl) rfl rfl ?_
 exact Cj
 refine Br 1 fun B G=>?_
 refine Ay <| Bg (D9 _ _ []) (by kernel_rfl) [0,0,0,6,14,31,63,127,127,255,1023] 124 212 B rfl rfl (by kernel_rfl) ?_
 refine Br 3 fun e_3 he_3 _ _ B G=>?_
 refine Ay <| Ay <| Bg (D9 _ _ []) (by kernel_rfl) [0,1,0,7,15,31,0,64,0,256,0,0,2048,8191,16383] 212 332 B rfl rfl (by kernel_rfl) ?_
 refine Br 4 fun _ _ _ _ B G=>?_
 refine Kd rfl G (fun _ G=>?_) fun _ G=>?_
 refine Br 1 fun B G=>?_
 refine F0 rfl rfl (.build (r:=[.val (.int .i64 0),.val (.int .i64 0)]) M8 Tq kM (by kernel_rfl) rfl) rfl rfl ?_
 exact Cj
 refine Br 1 fun B G=>?_
 refine Ay <| Bg (D9 _ _ []) (by kernel_rfl) [0,1,0,0,12,28,63,127,255] 332 404 B rfl rfl (by kernel_rfl) ?_
 refine Br 1 fun B G=>?_
 refine F0 rfl rfl (.build (r:=[.val (.int .i64 (min most server.Most)),vj e_3]) M8 Tq kM (by kernel_rfl) rfl) rfl rfl ?_
 exact Cj
instance aY1:Wk 38:=⟨_,@Z8⟩
end Go.Proofs.YtobamahlipiakaaGreat
