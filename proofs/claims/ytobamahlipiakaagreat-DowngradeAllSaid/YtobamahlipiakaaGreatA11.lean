import Derived.Test.YtobamahlipiakaaGreatT1
import Derived.Test.YtobamahlipiakaaGreatEU
import Derived.Test.YtobamahlipiakaaGreatA9
import Derived.Test.YtobamahlipiakaaGreatA10
set_option linter.unusedVariables false
set_option linter.unusedSimpArgs false
set_option maxRecDepth 100000
set_option maxHeartbeats 40000000
namespace Go.Proofs.YtobamahlipiakaaGreat
open Go.RowKit
theorem Q2.F (rec:(List Ab)->Option ((List Ab))) (hrec:∀ (l:(List Ab)) (r:(List Ab)),rec l=some r->Fn Tryz.prog 188 0 [.sl 4 (Ai Ab.enc l)] [] (fun d' b'=>d'=.sl 4 (Ai Ab.enc r)/\b'=[])) {l:(List Ab)} {r:(List Ab)} (G:Dl.F rec l=some r):Fn Tryz.prog 188 0 [.sl 4 (Ai Ab.enc l)] [] (fun d' b'=>d'=.sl 4 (Ai Ab.enc r)/\b'=[]):=by
 unfold Dl.F at G
 refine Ea 0 30 Tryz.func188 fun _ _ _=>?_
 refine Br 5 fun B G=>?_
 refine He (fun ((i_1,out_1):Int×List Ab)=>mk [(0,.sl 4 (Ai Ab.enc l)),(3,.row 0),(4,vj i_1)] [(0,.row 203 4 (Ai Ab.enc out_1))] 1) G (Cd []) ?_
 rintro⟨i_1,out_1⟩ m1 o1 G hn1
 unfold Dl.l1 at G
 refine Dx (.r 2 (.e 5)) fun _ e he B G=>?_
 refine F0 rfl rfl (I2 Zv (Jj Ab.enc_len (D5 he) (o:=0) (m:=4) (cs:=[.int .i64 e.Tag,.sl 1 (Ai e8 e.Bytes),.bool e.Nested,.sl 4 (Ai Ab.enc e.Elements)]) (by simp only [Ab.enc_eq]; rfl) (by decide) rfl) (Ga Ab.enc_len (D5 he) (o:=0) (m:=4) (by decide) rfl)) rfl rfl ?_
 refine Br 1 fun B G=>?_
 refine F0 rfl rfl (D0 Nu z5 (by decide) rfl rfl rfl rfl qA (cs:=[]) .nil rfl (l:=([]:List UInt8)) (f:=e8) rfl) rfl rfl ?_
 refine Br 2 fun l_2 _ B G=>?_
 obtain⟨y,hy,G⟩:=An G
 refine L9 (hrec _ _ hy) ?_
 refine Br 0 fun B G=>?_
 refine Hg (σ':=mk [(0,.sl 4 (Ai Ab.enc l)),(3,.row 0),(4,vj i_1),(5,.ptr 1 0)] [(0,.row 203 4 (Ai Ab.enc out_1)),(1,.box [vj e.Tag,.sl 1 (Ai e8 l_2),.val (.bool e.Nested),.sl 4 (Ai Ab.enc y)] 203)] 2) (Cd [(0,0),(1,65)]) ?_
 refine Br 1 fun B G=>?_
 refine F0 rfl rfl (D0 U5 Sd (by decide) rfl rfl rfl rfl Xb (cs:=[.int .i64 e.Tag,.sl 1 (Ai e8 l_2),.bool e.Nested,.sl 4 (Ai Ab.enc y)]) (.cons .int (.cons .sl (.cons .bool (.cons .sl .nil)))) rfl (l:=([(Ab.mk e.Tag l_2 e.Nested y)]:List Ab)) (f:=Ab.enc) (by simp only [Ai,aOo,aVf,Ab.enc_eq]; rfl)) rfl rfl ?_
 exact Cj
theorem Q2 {l:(List Ab)} {r:(List Ab)} (G:Dl l=some r):Fn Tryz.prog 188 0 [.sl 4 (Ai Ab.enc l)] [] (fun d' b'=>d'=.sl 4 (Ai Ab.enc r)/\b'=[]):=
 N8 (motive:=fun (x:(List Ab)) (r:(List Ab))=>Fn Tryz.prog 188 0 [.sl 4 (Ai Ab.enc x)] [] (fun d' b'=>d'=.sl 4 (Ai Ab.enc r)/\b'=[])) (fun rec hrec x r h=>@Q2.F _ (fun l r h=>hrec l r h) x r h) l r G
instance aWj:Wk 188:=⟨_,@Q2⟩
theorem nB {l r} (G:H2 l=some r):Fn Tryz.prog 155 0 [.sl 4 (Ai Ab.enc l)] [] (fun d' b'=>d'=.agg (Ab.dv r)/\b'=[]):=by
 unfold H2 at G
 refine Ea 0 6 Tryz.func155 fun _ _ _=>?_
 refine Br 3 fun _ _ B G=>?_
 refine M6 Ol Xc Sd ?_
 exact Cj
instance aWu:Wk 155:=⟨_,@nB⟩
theorem rM {u r} (G:Ns u=some r):Fn Tryz.prog 215 0 [.agg [vj u.Alg,vj u.Bits]] [] (fun d' b'=>d'=.agg (Ab.dv r)/\b'=[]):=by
 unfold Ns at G
 refine Ea 0 11 Tryz.func215 fun _ _ _=>?_
 refine Br 1 fun B G=>?_
 refine Ay <| Bg (D9 _ _ [64]) (by kernel_rfl) [0,1,3,0,8,31,63,127,255] 16 88 B rfl rfl (by kernel_rfl) ?_
 refine Br 2 fun y _ y_2 _ B G=>?_
 refine wA (rd:=[]) rfl rfl (D0 U5 Sd (by decide) rfl rfl rfl rfl Xb (cs:=[.int .i64 y.Tag,.sl 1 (Ai e8 y.Bytes),.bool y.Nested,.sl 4 (Ai Ab.enc y.Elements),.int .i64 y_2.Tag,.sl 1 (Ai e8 y_2.Bytes),.bool y_2.Nested,.sl 4 (Ai Ab.enc y_2.Elements)]) (.cons .int (.cons .sl (.cons .bool (.cons .sl (.cons .int (.cons .sl (.cons .bool (.cons .sl .nil)))))))) rfl (l:=([y,y_2]:List Ab)) (f:=Ab.enc) (by simp only [Ai,aOo,aVf,Ab.enc_eq]; rfl)) rfl rfl rfl ?_
 exact Cj
instance aXd:Wk 215:=⟨_,@rM⟩
theorem qD {b r} (G:Qa b=some r):Fn Tryz.prog 216 0 [.val (.bool b)] [] (fun d' b'=>d'=.agg (Ab.dv r)/\b'=[]):=by
 unfold Qa at G
 refine Ea 0 8 Tryz.func216 fun _ _ _=>?_
 refine Br 3 fun B G=>?_
 refine Kd rfl G (fun _ G=>?_) fun _ G=>?_
 refine Br 1 fun B G=>?_
 refine Iz Nu z5 qA ([(255:UInt8)]:List UInt8) e8 ?_
 refine M6 Ol Xc Sd ?_
 exact Cj
 refine Br 2 fun B G=>?_
 refine Iz Nu z5 qA ([(0:UInt8)]:List UInt8) e8 ?_
 refine M6 Ol Xc Sd ?_
 exact Cj
instance aWs:Wk 216:=⟨_,@qD⟩
theorem pJ {c r} (G:Gk c=some r):Fn Tryz.prog 197 0 [.agg (Ae.dv c)] [] (fun d' b'=>d'=.agg (Ab.dv r)/\b'=[]):=by
 unfold Gk at G
 refine Ea 0 55 Tryz.func197 fun _ _ _=>?_
 refine Br 5 fun B G=>?_
 refine He (fun ((i_1,names_1):Int×List Ab)=>mk [(1,.ptr 0 0),(2,.ptr 1 0),(3,.row 2),(4,vj i_1)] [(0,.box (Ae.dv c) 146),(1,.box [.val (.int .i64 0),.val (.slice none 0 0),.val (.bool false),.val (.slice none 0 0)] 203),(2,.row 203 4 (Ai Ab.enc names_1))] 3) G (Cd [(0,0),(1,8)]) ?_
 rintro⟨i_1,names_1⟩ m1 o1 G hn1
 unfold Gk.l1 at G
 refine Lg 2 fun B G=>?_
 refine Kd rfl G (fun _ G=>?_) fun _ G=>?_
 refine Br 7 fun _ _ y _ B G=>?_
 refine F0 rfl rfl (D0 U5 Sd (by decide) rfl rfl rfl rfl Xb (cs:=[.int .i64 y.Tag,.sl 1 (Ai e8 y.Bytes),.bool y.Nested,.sl 4 (Ai Ab.enc y.Elements)]) (.cons .int (.cons .sl (.cons .bool (.cons .sl .nil)))) rfl (l:=([y]:List Ab)) (f:=Ab.enc) (by simp only [Ai,aOo,aVf,Ab.enc_eq]; rfl)) rfl rfl ?_
 exact Cj
 refine Br 1 fun B G=>?_
 refine Ay <| Hg (σ':=mk [(1,.ptr 0 0),(2,.ptr 1 0),(3,.sl 4 (Ai Ab.enc names_1))] [(0,.box (Ae.dv c) 146),(1,.box [.val (.int .i64 0),.val (.slice none 0 0),.val (.bool false),.val (.slice none 0 0)] 203)] 2) (Cd [(0,0),(1,1)]) ?_
 refine Bg (D9 _ _ [258]) (by kernel_rfl) [0,1,3,0,8,31,0,64,255,0,512,2047,0,4096,16383,0,32768,131071,0,262144,1048575,0,2097152,8388607,0,16777216,67108863,0,134217728,536870911,0,2147483647,4294967295,8589934591,17179869183] 2 282 Ij rfl rfl (by kernel_rfl) ?_
 refine Br 11 fun y_12 _ y_13 _ y_14 _ y_15 _ y_16 _ y_17 _ y_18 _ y_19 _ y_20 _ y_21 _ y_22 _ B G=>?_
 refine wA (rd:=[]) rfl rfl (D0 U5 Sd (by decide) rfl rfl rfl rfl Xb (cs:=[.int .i64 y_12.Tag,.sl 1 (Ai e8 y_12.Bytes),.bool y_12.Nested,.sl 4 (Ai Ab.enc y_12.Elements),.int .i64 y_13.Tag,.sl 1 (Ai e8 y_13.Bytes),.bool y_13.Nested,.sl 4 (Ai Ab.enc y_13.Elements),.int .i64 y_14.Tag,.sl 1 (Ai e8 y_14.Bytes),.bool y_14.Nested,.sl 4 (Ai Ab.enc y_14.Elements),.int .i64 y_15.Tag,.sl 1 (Ai e8 y_15.Bytes),.bool y_15.Nested,.sl 4 (Ai Ab.enc y_15.Elements),.int .i64 y_16.Tag,.sl 1 (Ai e8 y_16.Bytes),.bool y_16.Nested,.sl 4 (Ai Ab.enc y_16.Elements),.int .i64 y_17.Tag,.sl 1 (Ai e8 y_17.Bytes),.bool y_17.Nested,.sl 4 (Ai Ab.enc y_17.Elements),.int .i64 y_18.Tag,.sl 1 (Ai e8 y_18.Bytes),.bool y_18.Nested,.sl 4 (Ai Ab.enc y_18.Elements),.int .i64 y_19.Tag,.sl 1 (Ai e8 y_19.Bytes),.bool y_19.Nested,.sl 4 (Ai Ab.enc y_19.Elements),.int .i64 y_20.Tag,.sl 1 (Ai e8 y_20.Bytes),.bool y_20.Nested,.sl 4 (Ai Ab.enc y_20.Elements),.int .i64 y_21.Tag,.sl 1 (Ai e8 y_21.Bytes),.bool y_21.Nested,.sl 4 (Ai Ab.enc y_21.Elements),.int .i64 y_22.Tag,.sl 1 (Ai e8 y_22.Bytes),.bool y_22.Nested,.sl 4 (Ai Ab.enc y_22.Elements)]) (.cons .int (.cons .sl (.cons .bool (.cons .sl (.cons .int (.cons .sl (.cons .bool (.cons .sl (.cons .int (.cons .sl (.cons .bool (.cons .sl (.cons .int (.cons .sl (.cons .bool (.cons .sl (.cons .int (.cons .sl (.cons .bool (.cons .sl (.cons .int (.cons .sl (.cons .bool (.cons .sl (.cons .int (.cons .sl (.cons .bool (.cons .sl (.cons .int (.cons .sl (.cons .bool (.cons .sl (.cons .int (.cons .sl (.cons .bool (.cons .sl (.cons .int (.cons .sl (.cons .bool (.cons .sl (.cons .int (.cons .sl (.cons .bool (.cons .sl .nil)))))))))))))))))))))))))))))))))))))))))))) rfl (l:=([y_12,y_13,y_14,y_15,y_16,y_17,y_18,y_19,y_20,y_21,y_22]:List Ab)) (f:=Ab.enc) (by simp only [Ai,aOo,aVf,Ab.enc_eq]; rfl)) rfl rfl rfl ?_
 exact Cj
instance aT9:Wk 197:=⟨_,@pJ⟩
theorem tQ {n r} (G:Pn n=some r):Fn Tryz.prog 209 0 [vj n] [] (fun d' b'=>d'=.val (.bool r)/\b'=[]):=by
 unfold Pn at G
 refine Ea 0 14 Tryz.func209 fun _ _ _=>?_
 exact Cj
instance aU0:Wk 209:=⟨_,@tQ⟩
theorem Re.F (rec:Ab->Option (Bool)) (hrec:∀ (v:Ab) (r:Bool),rec v=some r->Fn Tryz.prog 185 0 [.agg (Ab.dv v)] [] (fun d' b'=>d'=.val (.bool r)/\b'=[])) {v:Ab} {r:Bool} (G:B6.F rec v=some r):Fn Tryz.prog 185 0 [.agg (Ab.dv v)] [] (fun d' b'=>d'=.val (.bool r)/\b'=[]):=by
 unfold B6.F at G
 refine Ea 0 53 Tryz.func185 fun _ _ _=>?_
 refine Br 1 fun B G=>?_
 refine Ay <| A4 (ι:=Bool) (fun (x38_1:Bool)=>mk [(1,.ptr 0 0),(38,.val (.bool x38_1))] [(0,.box (Ab.dv v) 203)] 1) (fun (x38_1:Bool)=>B6.j1 rec v x38_1=some r) ?_ ?_
 exact Cj
 rintro x38_1 G
 unfold B6.j1 at G
 refine Dx (.l 0 (.e 4)) fun _ B G=>?_
 refine He (fun (i_2:Int)=>mk [(1,.ptr 0 0),(3,vj i_2)] [(0,.box (Ab.dv v) 203)] 1) G (Cd [(0,0)]) ?_
 rintro i_2 m2 o2 G hn2
 unfold B6.l2 at G
 refine Dx (.r 2 (.e 5)) fun _ e he B G=>?_
 refine F0 rfl rfl (I2 Zv (Jj Ab.enc_len (D5 he) (o:=0) (m:=4) (cs:=[.int .i64 e.Tag,.sl 1 (Ai e8 e.Bytes),.bool e.Nested,.sl 4 (Ai Ab.enc e.Elements)]) (by simp only [Ab.enc_eq]; rfl) (by decide) rfl) (Ga Ab.enc_len (D5 he) (o:=0) (m:=4) (by decide) rfl)) rfl rfl ?_
 obtain⟨y_2,hy_2,G⟩:=An G
 refine L9 (hrec _ _ hy_2) ?_
 exact Cj
theorem Re {v:Ab} {r:Bool} (G:B6 v=some r):Fn Tryz.prog 185 0 [.agg (Ab.dv v)] [] (fun d' b'=>d'=.val (.bool r)/\b'=[]):=
 N8 (motive:=fun (x:Ab) (r:Bool)=>Fn Tryz.prog 185 0 [.agg (Ab.dv x)] [] (fun d' b'=>d'=.val (.bool r)/\b'=[])) (fun rec hrec x r h=>@Re.F _ (fun v r h=>hrec v r h) x r h) v r G
instance aVb:Wk 185:=⟨_,@Re⟩
theorem Si.F (rec:Ab->Option (Int)) (hrec:∀ (v:Ab) (r:Int),rec v=some r->Fn Tryz.prog 186 0 [.agg (Ab.dv v)] [] (fun d' b'=>d'=vj r/\b'=[])) {v:Ab} {r:Int} (G:Dt.F rec v=some r):Fn Tryz.prog 186 0 [.agg (Ab.dv v)] [] (fun d' b'=>d'=vj r/\b'=[]):=by
 unfold Dt.F at G
 refine Ea 0 22 Tryz.func186 fun _ _ _=>?_
 refine Br 5 fun B G=>?_
 refine He (fun ((d_1,i_1):Int×Int)=>mk [(1,.ptr 0 0),(3,vj d_1),(4,vj i_1)] [(0,.box (Ab.dv v) 203)] 1) G (Cd [(0,0)]) ?_
 rintro⟨d_1,i_1⟩ m1 o1 G hn1
 unfold Dt.l1 at G
 refine Dx (.r 2 (.e 5)) fun _ e he B G=>?_
 refine F0 rfl rfl (I2 Zv (Jj Ab.enc_len (D5 he) (o:=0) (m:=4) (cs:=[.int .i64 e.Tag,.sl 1 (Ai e8 e.Bytes),.bool e.Nested,.sl 4 (Ai Ab.enc e.Elements)]) (by simp only [Ab.enc_eq]; rfl) (by decide) rfl) (Ga Ab.enc_len (D5 he) (o:=0) (m:=4) (by decide) rfl)) rfl rfl ?_
 obtain⟨y,hy,G⟩:=An G
 refine L9 (hrec _ _ hy) ?_
 exact Cj
theorem Si {v:Ab} {r:Int} (G:Dt v=some r):Fn Tryz.prog 186 0 [.agg (Ab.dv v)] [] (fun d' b'=>d'=vj r/\b'=[]):=
 N8 (motive:=fun (x:Ab) (r:Int)=>Fn Tryz.prog 186 0 [.agg (Ab.dv x)] [] (fun d' b'=>d'=vj r/\b'=[])) (fun rec hrec x r h=>@Si.F _ (fun v r h=>hrec v r h) x r h) v r G
instance aVz:Wk 186:=⟨_,@Si⟩
theorem fZ {n r} (G:F3 n=some r):Fn Tryz.prog 210 0 [vj n] [] (fun d' b'=>d'=.sl 1 (Ai e8 r)/\b'=[]):=by
 unfold F3 at G
 refine Ea 0 26 Tryz.func210 fun _ _ _=>?_
 refine Br 3 fun B G=>?_
 refine Kd rfl G (fun _ G=>?_) fun _ G=>?_
 refine Br 2 fun B G=>?_
 refine Iz Nu z5 qA ([(u8 n)]:List UInt8) e8 ?_
 exact Cj
 refine Br 4 fun B G=>?_
 refine He (fun ((n_1,b_1):Int×List UInt8)=>mk [(0,vj n_1),(3,.row 0)] [(0,.row 5 1 (Ai e8 b_1))] 1) G (Cd []) ?_
 rintro⟨n_1,b_1⟩ m1 o1 G hn1
 unfold F3.l1 at G
 refine Lg 2 fun B G=>?_
 refine Kd rfl G (fun _ G=>?_) fun _ G=>?_
 refine Br 5 fun q _ B G=>?_
 refine Iz Nu z5 qA ([(u8 q)]:List UInt8) e8 ?_
 exact Cj
 refine Br 3 fun B G=>?_
 refine Iz Nu z5 qA ([(u8 (W (128 + (b_1.length:Int))))]:List UInt8) e8 ?_
 exact Cj
instance aW5:Wk 210:=⟨_,@fZ⟩
theorem Vr.F (rec:Ab->Option ((List UInt8))) (hrec:∀ (v:Ab) (r:(List UInt8)),rec v=some r->Fn Tryz.prog 187 0 [.agg (Ab.dv v)] [] (fun d' b'=>d'=.sl 1 (Ai e8 r)/\b'=[])) {v:Ab} {r:(List UInt8)} (G:Eu.F rec v=some r):Fn Tryz.prog 187 0 [.agg (Ab.dv v)] [] (fun d' b'=>d'=.sl 1 (Ai e8 r)/\b'=[]):=by
 unfold Eu.F at G
 refine Ea 0 34 Tryz.func187 fun _ _ _=>?_
 refine Br 2 fun B G=>?_
 refine F0 rfl rfl (D0 Nu z5 (by decide) rfl rfl rfl rfl qA (cs:=[]) .nil rfl (l:=([]:List UInt8)) (f:=e8) rfl) rfl rfl ?_
 refine Br 4 fun _ _ B G=>?_
 refine He (fun ((i_1,b_1):Int×List UInt8)=>mk [(1,.ptr 0 0),(3,.row 1),(4,vj i_1)] [(0,.box (Ab.dv v) 203),(1,.row 5 1 (Ai e8 b_1))] 2) G (Cd [(0,0),(1,40)]) ?_
 rintro⟨i_1,b_1⟩ m1 o1 G hn1
 unfold Eu.l1 at G
 refine Lg 2 fun B G=>?_
 refine Kd rfl G (fun _ G=>?_) fun _ G=>?_
 refine Br 5 fun e he B G=>?_
 refine F0 rfl rfl (I2 Zv (Jj Ab.enc_len (D5 he) (o:=0) (m:=4) (cs:=[.int .i64 e.Tag,.sl 1 (Ai e8 e.Bytes),.bool e.Nested,.sl 4 (Ai Ab.enc e.Elements)]) (by simp only [Ab.enc_eq]; rfl) (by decide) rfl) (Ga Ab.enc_len (D5 he) (o:=0) (m:=4) (by decide) rfl)) rfl rfl ?_
 obtain⟨y,hy,G⟩:=An G
 refine L9 (hrec _ _ hy) ?_
 exact Cj
 refine Br 1 fun B G=>?_
 refine Ay <| Bg (D9 _ _ []) (by kernel_rfl) [0,1,3,7,0,16,48,127,0,511,1023] 42 130 B rfl rfl (by kernel_rfl) ?_
 refine Br 1 fun B G=>?_
 refine Iz Nu z5 qA ([(u8 v.Tag)]:List UInt8) e8 ?_
 exact Cj
theorem Vr {v:Ab} {r:(List UInt8)} (G:Eu v=some r):Fn Tryz.prog 187 0 [.agg (Ab.dv v)] [] (fun d' b'=>d'=.sl 1 (Ai e8 r)/\b'=[]):=
 N8 (motive:=fun (x:Ab) (r:(List UInt8))=>Fn Tryz.prog 187 0 [.agg (Ab.dv x)] [] (fun d' b'=>d'=.sl 1 (Ai e8 r)/\b'=[])) (fun rec hrec x r h=>@Vr.F _ (fun v r h=>hrec v r h) x r h) v r G
instance aVc:Wk 187:=⟨_,@Vr⟩
theorem fA {v r} (G:H4 v=some r):Fn Tryz.prog 154 0 [.agg (Ab.dv v)] [] (fun d' b'=>d'=.tup [.sl 1 (Ai e8 r.1),vj r.2]/\b'=[]):=by
 unfold H4 at G
 refine Ea 0 17 Tryz.func154 fun _ _ _=>?_
 exact Cj
instance aVg:Wk 154:=⟨_,@fA⟩
theorem jM {c r} (G:Jz c=some r):Fn Tryz.prog 179 0 [.agg (Ae.dv c)] [] (fun d' b'=>d'=.tup [.sl 1 (Ai e8 r.1),vj r.2]/\b'=[]):=by
 unfold Jz at G
 refine Ea 0 12 Tryz.func179 fun _ _ _=>?_
 exact Cj
instance aUz:Wk 179:=⟨_,@jM⟩
theorem tK {b r} (G:F7 b=some r):Fn Tryz.prog 104 0 [.sl 1 (Ai e8 b)] [] (fun d' b'=>d'=vj r/\b'=[]):=by
 unfold F7 at G
 refine Ea 0 21 Tryz.func104 fun _ _ _=>?_
 refine Br 5 fun B G=>?_
 refine He (fun ((h_1,i_1):Int×Int)=>mk [(0,.sl 1 (Ai e8 b)),(3,.val (.int .u32 h_1)),(4,vj i_1)] [] 0) G (Cd []) ?_
 rintro⟨h_1,i_1⟩ m1 o1 G hn1
 unfold F7.l1 at G
 exact Gn
instance aVm:Wk 104:=⟨_,@tK⟩
theorem pA {c key r} (G:Gv c key=some r):Fn Tryz.prog 156 0 [.agg (Ae.dv c),vj key] [] (fun d' b'=>d'=.tup [.agg (Ae.dv r.1),vj r.2]/\b'=[]):=by
 unfold Gv at G
 refine Ea 0 35 Tryz.func156 fun _ _ _=>?_
 refine Br 4 fun y _ B G=>?_
 refine M6 aE xJ tZ ?_
 refine Br 0 fun B G=>?_
 refine Ay <| A4 (ι:=Bool) (fun (x22_1:Bool)=>mk [(1,vj key),(2,.ptr 0 0),(4,.ptr 1 0),(22,.val (.bool x22_1))] [(0,.box [vj y.Serial,vk y.Issuer,vk y.Subject,vj y.Key.Alg,vj y.Key.Bits,vj y.KeyId,vj y.Hash.Alg,vj y.Hash.Bits,vj y.From,vj y.To,.val (.bool y.Authority),vj y.Path,.sl 1 (Ai eS y.Names),.val (.int .i64 0),.val (.int .i64 0)] 146),(1,.box [.val (.int .i64 0),.val (.string (⟨#[]⟩:ByteArray)),.val (.string (⟨#[]⟩:ByteArray)),.val (.int .i64 0),.val (.int .i64 0),.val (.int .i64 0),.val (.int .i64 0),.val (.int .i64 0),.val (.int .i64 0),.val (.int .i64 0),.val (.bool false),.val (.int .i64 0),.val (.slice none 0 0),.val (.int .i64 0),.val (.int .i64 0)] 146)] 2) (fun (x22_1:Bool)=>Gv.j1 key y x22_1=some r) ?_ ?_
 exact Cj
 rintro x22_1 G
 unfold Gv.j1 at G
 try dsimp only at G
 refine Rp rfl ?_
 refine Kd rfl G (fun _ G=>?_) fun _ G=>?_
 refine Br 1 fun B G=>?_
 refine M6 Of aJ1 aAz ?_
 exact Cj
 refine Br 5 fun _ _ _ _ B G=>?_
 refine M6 aE xJ tZ ?_
 exact Cj
instance aUp:Wk 156:=⟨_,@pA⟩
theorem Xq {d issuer subject key id signer authority r} (G:C2 d issuer subject key id signer authority=some r):Fn Tryz.prog 105 1 [.ptr 0 0,vk issuer,vk subject,.agg [vj key.Alg,vj key.Bits],vj id,vj signer,.val (.bool authority)] [.box [.sl 1 (Ai eI d.L),vj d.At] 91] (fun d' b'=>d'=.agg (Ae.dv r.1)/\b'=[.box [.sl 1 (Ai eI r.2.L),vj r.2.At] 91]):=by
 unfold C2 at G
 refine Ea 1 58 Tryz.func105 fun _ _ _=>?_
 refine Br 1 fun B G=>?_
 refine Ay <| Bg (D9 _ _ [73,105,129]) (by kernel_rfl) [0,1,0,0,0,0,0,0,195,451,0,0,3523,0,0,32195,0,131071,0,524287] 17 177 B rfl rfl (by kernel_rfl) ?_
 refine Br 1 fun y _ B G=>?_
 refine Rk Er z3 Ia ([3,2,4,1]:List Int) eI ?_
 refine Br 1 fun y_2 _ B G=>?_
 refine M6 P5 Yb rV ?_
 refine Br 0 fun B G=>?_
 refine Rk Er z3 Ia ([0,5,10]:List Int) eI ?_
 refine Br 1 fun y_3 _ B G=>?_
 refine Rk Er z3 Ia ([1000,100,50,20]:List Int) eI ?_
 refine Br 1 fun y_4 _ B G=>?_
 refine M6 Of aJ1 aAz ?_
 refine Br 0 fun B G=>?_
 refine A4 (ι:=Ad×Int) (fun ((d_1,c_1):Ad×Int)=>mk [(0,.ptr 0 0),(2,vk subject),(5,vj signer),(14,.ptr 1 0),(15,.ptr 2 0)] [(0,.box [.sl 1 (Ai eI d_1.L),vj d_1.At] 91),(1,.box [.val (.int .i64 0),.val (.string (⟨#[]⟩:ByteArray)),.val (.string (⟨#[]⟩:ByteArray)),.val (.int .i64 0),.val (.int .i64 0),.val (.int .i64 0),.val (.int .i64 0),.val (.int .i64 0),.val (.int .i64 0),.val (.int .i64 0),.val (.bool false),.val (.int .i64 0),.val (.slice none 0 0),.val (.int .i64 0),.val (.int .i64 0)] 146),(2,.box [vj y.1,vk issuer,vk subject,vj key.Alg,vj key.Bits,vj id,vj y_2.1,.val (.int .i64 0),vj y_3.1,vj y_4.1,.val (.bool authority),vj c_1,.val (.slice none 0 0),.val (.int .i64 0),.val (.int .i64 0)] 146)] 3) (fun ((d_1,c_1):Ad×Int)=>C2.j1 issuer subject key id signer authority y y_2 y_3 y_4 d_1 c_1=some r) ?_ ?_
 refine Jf (.r 1 (.e 0)) fun _ B G=>?_
 refine Ci (D9 _ _ [193]) 185 225 B rfl rfl ?_
 refine Br 0 fun B G=>?_
 refine Rk Er z3 Ia ([3,0,1]:List Int) eI ?_
 exact Cj
 rintro⟨d_1,c_1⟩ G
 unfold C2.j1 at G
 refine Lg 1 fun B G=>?_
 refine Iz lK z9 ck9 ([subject]:List ByteArray) eS ?_
 refine Br 0 fun B G=>?_
 refine A4 (ι:=Ad×List ByteArray) (fun ((b_2,l_2):Ad×List ByteArray)=>mk [(5,vj signer),(14,.ptr 1 0),(15,.ptr 2 0)] [(0,.box [.sl 1 (Ai eI b_2.L),vj b_2.At] 91),(1,.box [.val (.int .i64 0),.val (.string (⟨#[]⟩:ByteArray)),.val (.string (⟨#[]⟩:ByteArray)),.val (.int .i64 0),.val (.int .i64 0),.val (.int .i64 0),.val (.int .i64 0),.val (.int .i64 0),.val (.int .i64 0),.val (.int .i64 0),.val (.bool false),.val (.int .i64 0),.val (.slice none 0 0),.val (.int .i64 0),.val (.int .i64 0)] 146),(2,.box [vj y.1,vk issuer,vk subject,vj key.Alg,vj key.Bits,vj id,vj y_2.1,.val (.int .i64 0),vj y_3.1,vj y_4.1,.val (.bool authority),vj c_1,.row 3,.val (.int .i64 0),.val (.int .i64 0)] 146),(3,.row 9 1 (Ai eS l_2))] 4) (fun ((b_2,l_2):Ad×List ByteArray)=>C2.j2 issuer subject key id signer authority y y_2 y_3 y_4 c_1 b_2 l_2=some r) ?_ ?_
 refine Jf (.r 2 (.e 2)) fun y_6 _ _ s _ B G=>?_
 refine Iz lK z9 ck9 ([s]:List ByteArray) eS ?_
 exact Cj
 rintro⟨b_2,l_2⟩ G
 unfold C2.j2 at G
 try dsimp only at G
 refine Rp rfl ?_
 refine Ay <| Hg (σ':=mk [(5,vj signer),(14,.ptr 1 0),(15,.ptr 2 0)] [(0,.box [.sl 1 (Ai eI b_2.L),vj b_2.At] 91),(1,.box [.val (.int .i64 0),.val (.string (⟨#[]⟩:ByteArray)),.val (.string (⟨#[]⟩:ByteArray)),.val (.int .i64 0),.val (.int .i64 0),.val (.int .i64 0),.val (.int .i64 0),.val (.int .i64 0),.val (.int .i64 0),.val (.int .i64 0),.val (.bool false),.val (.int .i64 0),.val (.slice none 0 0),.val (.int .i64 0),.val (.int .i64 0)] 146),(2,.box [vj y.1,vk issuer,vk subject,vj key.Alg,vj key.Bits,vj id,vj y_2.1,.val (.int .i64 0),vj y_3.1,vj y_4.1,.val (.bool authority),vj c_1,.sl 1 (Ai eS l_2),.val (.int .i64 0),.val (.int .i64 0)] 146)] 3) (Cd [(0,0),(1,1),(2,2)]) ?_
 exact Cj
instance aWc:Wk 105:=⟨_,@Xq⟩
theorem Zc {d name key id r} (G:Hs d name key id=some r):Fn Tryz.prog 60 1 [.ptr 0 0,vk name,.agg [vj key.Alg,vj key.Bits],vj id] [.box [.sl 1 (Ai eI d.L),vj d.At] 91] (fun d' b'=>d'=.sl 15 (Ai Ae.enc r.1)/\b'=[.box [.sl 1 (Ai eI r.2.L),vj r.2.At] 91]):=by
 unfold Hs at G
 refine Ea 1 56 Tryz.func60 fun _ _ _=>?_
 refine Br 1 fun B G=>?_
 refine Ay <| Ci (D9 _ _ [25]) 17 49 B rfl rfl ?_
 refine Br 0 fun B G=>?_
 refine Rk Er z3 Ia ([1,0,2]:List Int) eI ?_
 refine Br 7 fun y _ _ _ B G=>?_
 refine He (fun ((signer_1,issuer_1,i_1,d_1,above_1):Int×ByteArray×Int×Ad×List Ae)=>mk [(0,.ptr 0 0),(1,vk name),(3,vj id),(6,.ptr 1 0),(9,vj y.1),(10,vj signer_1),(11,vk issuer_1),(12,.row 2),(13,vj i_1)] [(0,.box [.sl 1 (Ai eI d_1.L),vj d_1.At] 91),(1,.box [vj key.Alg,vj key.Bits] 45),(2,.row 146 15 (Ai Ae.enc above_1))] 3) G (Cd [(0,0),(1,1)]) ?_
 rintro⟨signer_1,issuer_1,i_1,d_1,above_1⟩ m1 o1 G hn1
 unfold Hs.l1 at G
 refine Lg 2 fun B G=>?_
 refine Kd rfl G (fun _ G=>?_) fun _ G=>?_
 refine Br 4 fun B G=>?_
 refine Iz lK z9 ck9 ([(⟨#[99,97]⟩:ByteArray),(⟨#[99,98]⟩:ByteArray),(⟨#[99,99]⟩:ByteArray)]:List ByteArray) eS ?_
 refine Br 3 fun e _ B G=>?_
 refine M6 P5 Yb rV ?_
 refine Br 2 fun y_3 _ B G=>?_
 refine Iz aHo aAz aE1 ([y_3.1]:List Ae) Ae.enc ?_
 exact Cj
 refine Br 3 fun y_4 _ B G=>?_
 refine Iz aHo aAz aE1 ([y_4.1]:List Ae) Ae.enc ?_
 exact Cj
instance aZw:Wk 60:=⟨_,@Zc⟩
theorem Py {d name r} (G:B9 d name=some r):Fn Tryz.prog 35 1 [.ptr 0 0,vk name] [.box [.sl 1 (Ai eI d.L),vj d.At] 91] (fun d' b'=>d'=.agg [vk r.1.Name,vj r.1.Least,vj r.1.Most,.row 1,.val (.bool r.1.OwnOrder),.sl 4 (Ai Al.enc r.1.Identities),.sl 1 (Ai eI r.1.Anchors),.sl 1 (Ai eI r.1.Hashes),.val (.bool r.1.Fallback)]/\b'=[.box [.sl 1 (Ai eI r.2.L),vj r.2.At] 91,.row 3 1 (Ai eI r.1.Suites)]):=by
 unfold B9 at G
 refine Ea 1 100 Tryz.func35 fun _ _ _=>?_
 refine Br 1 fun B G=>?_
 refine Ay <| Ci (D9 _ _ [25]) 9 113 B rfl rfl ?_
 refine Br 0 fun B G=>?_
 refine Rk Er z3 Ia ([1,1,2,3]:List Int) eI ?_
 refine Br 1 fun y _ B G=>?_
 obtain⟨y_2,hy_2,G⟩:=An G
 refine Jw (rd:=[0]) (ps:=[0]) (gs:=[]) false rfl (Rx hy_2) rfl rfl (.cons (.ptr rfl) .nil) ⟨_,_,_,rfl,.head _,⟨_,rfl,(by repeat' (first | exact K0.nil | apply K0.cons | exact Ag.val | exact Ag.sl | exact Ag.nils | exact Ag.ptr rfl | exact Ag.rowK rfl))⟩,rfl⟩ rfl (by intro h; cases h) rfl (by intro h; first | (cases h; done) | exact⟨_,_,⟨rfl,rfl⟩,by simp,by simp⟩) ?_
 rintro _ _ ⟨rfl,rfl⟩
 refine Br 2 fun y_3 _ y_4 _ B G=>?_
 refine M6 Ug aM5 z29 ?_
 refine Br 0 fun B G=>?_
 refine Ay <| Bg (D9 _ _ []) (by kernel_rfl) [0,1,0,0,8,24,60,127,255,511] 113 193 B rfl rfl (by kernel_rfl) ?_
 refine Br 1 fun y_5 _ B G=>?_
 refine A4 (ι:=List Int×Int×Int×Int) (fun ((d_1,d_1_2,e_1,e_1_2):List Int×Int×Int×Int)=>mk [(0,.ptr 0 0),(1,vk name),(4,.ptr 1 0),(5,.ptr 2 0)] [(0,.box [.sl 1 (Ai eI d_1),vj d_1_2] 91),(1,.box [.val (.string (⟨#[]⟩:ByteArray)),.val (.int .i64 0),.val (.int .i64 0),.val (.slice none 0 0),.val (.bool false),.val (.slice none 0 0),.val (.slice none 0 0),.val (.slice none 0 0),.val (.bool false)] 29),(2,.box [vk name,vj e_1,vj e_1_2,.row 3,.val (.bool y_3.1),.val (.slice none 0 0),.val (.slice none 0 0),.val (.slice none 0 0),.val (.bool y_4.1)] 29),(3,.row 3 1 (Ai eI y_2.1))] 4) (fun ((d_1,d_1_2,e_1,e_1_2):List Int×Int×Int×Int)=>B9.j1 name y_2 y_3 y_4 d_1 d_1_2 e_1 e_1_2=some r) ?_ ?_
 refine Jf (.r 2 (.e 0)) fun _ _ _ B G=>?_
 refine Ci (D9 _ _ [225]) 217 273 B rfl rfl ?_
 refine Br 0 fun B G=>?_
 refine Rk Er z3 Ia ([3,4,2]:List Int) eI ?_
 exact Cj
 rintro⟨d_1,d_1_2,e_1,e_1_2⟩ G
 unfold B9.j1 at G
 try dsimp only at G
 refine Rp rfl ?_
 refine Ay <| Ay <| Ci (D9 _ _ [12]) 4 36 Ij rfl rfl ?_
 refine Br 0 fun B G=>?_
 refine Rk Er z3 Ia ([1,2,1,3,0]:List Int) eI ?_
 refine Br 2 fun _ _ B G=>?_
 refine He (fun ((i_2,d_2,d_2_2,l_2):Int×List Int×Int×List Al)=>mk [(0,.ptr 0 0),(1,vk name),(4,.ptr 1 0),(5,.ptr 2 0),(6,vj i_2)] [(0,.box [.sl 1 (Ai eI d_2),vj d_2_2] 91),(1,.box [.val (.string (⟨#[]⟩:ByteArray)),.val (.int .i64 0),.val (.int .i64 0),.val (.slice none 0 0),.val (.bool false),.val (.slice none 0 0),.val (.slice none 0 0),.val (.slice none 0 0),.val (.bool false)] 29),(2,.box [vk name,vj e_1,vj e_1_2,.row 3,.val (.bool y_3.1),.row 4,.val (.slice none 0 0),.val (.slice none 0 0),.val (.bool y_4.1)] 29),(3,.row 3 1 (Ai eI y_2.1)),(4,.row 89 4 (Ai Al.enc l_2))] 5) G (Cd [(0,0),(1,1),(2,2),(3,3)]) ?_
 rintro⟨i_2,d_2,d_2_2,l_2⟩ m2 o2 G hn2
 unfold B9.l2 at G
 refine Lg 2 fun B G=>?_
 refine Kd rfl G (fun _ G=>?_) fun _ G=>?_
 refine Br 5 fun y_9 _ B G=>?_
 refine A4 (ι:=List Int×Int×Int×Int) (fun ((d_3,d_3_2,key_3,key_3_2):List Int×Int×Int×Int)=>mk [(0,.ptr 0 0),(1,vk name),(4,.ptr 1 0),(5,.ptr 2 0),(6,vj i_2),(7,.ptr 3 0)] [(0,.box [.sl 1 (Ai eI d_3),vj d_3_2] 91),(1,.box [.val (.string (⟨#[]⟩:ByteArray)),.val (.int .i64 0),.val (.int .i64 0),.val (.slice none 0 0),.val (.bool false),.val (.slice none 0 0),.val (.slice none 0 0),.val (.slice none 0 0),.val (.bool false)] 29),(2,.box [vk name,vj e_1,vj e_1_2,.row 4,.val (.bool y_3.1),.row 5,.val (.slice none 0 0),.val (.slice none 0 0),.val (.bool y_4.1)] 29),(3,.box [vj key_3,vj key_3_2] 45),(4,.row 3 1 (Ai eI y_2.1)),(5,.row 89 4 (Ai Al.enc l_2))] 6) (fun ((d_3,d_3_2,key_3,key_3_2):List Int×Int×Int×Int)=>B9.j3 name i_2 l_2 d_3 d_3_2 key_3 key_3_2=some o2) ?_ ?_
 refine Jf (.r 2 (.e 0)) fun _ _ _ B G=>?_
 refine Ay <| Ci (D9 _ _ [85]) 77 117 B rfl rfl ?_
 refine Br 0 fun B G=>?_
 refine Rk Er z3 Ia ([5,7]:List Int) eI ?_
 refine Br 1 fun y_11 _ B G=>?_
 refine M6 P5 Yb rV ?_
 exact Cj
 rintro⟨d_3,d_3_2,key_3,key_3_2⟩ G
 unfold B9.j3 at G
 refine Lg 3 fun y_13 _ B G=>?_
 refine M6 gT aG7 z89 ?_
 refine Br 0 fun B G=>?_
 refine A4 (ι:=List Int×Int×List Ae) (fun ((d_4,d_4_2,x_4):List Int×Int×List Ae)=>mk [(0,.ptr 0 0),(1,vk name),(4,.ptr 1 0),(5,.ptr 2 0),(6,vj i_2),(9,.ptr 3 0)] [(0,.box [.sl 1 (Ai eI d_4),vj d_4_2] 91),(1,.box [.val (.string (⟨#[]⟩:ByteArray)),.val (.int .i64 0),.val (.int .i64 0),.val (.slice none 0 0),.val (.bool false),.val (.slice none 0 0),.val (.slice none 0 0),.val (.slice none 0 0),.val (.bool false)] 29),(2,.box [vk name,vj e_1,vj e_1_2,.row 4,.val (.bool y_3.1),.row 5,.val (.slice none 0 0),.val (.slice none 0 0),.val (.bool y_4.1)] 29),(3,.box [vj key_3,vj key_3_2,.val (.int .i64 (W (100 + y_13.1))),.sl 15 (Ai Ae.enc x_4)] 89),(4,.row 3 1 (Ai eI y_2.1)),(5,.row 89 4 (Ai Al.enc l_2))] 6) (fun ((d_4,d_4_2,x_4):List Int×Int×List Ae)=>B9.j4 i_2 l_2 key_3 key_3_2 y_13 d_4 d_4_2 x_4=some o2) ?_ ?_
 exact Cj
 rintro⟨d_4,d_4_2,x_4⟩ G
 unfold B9.j4 at G
 refine Lg 1 fun B G=>?_
 refine Iz dH z89 uO ([(Al.mk (Ao.mk key_3 key_3_2) (W (100 + y_13.1)) x_4)]:List Al) Al.enc ?_
 exact Cj
 refine Br 1 fun B G=>?_
 refine Ay <| Ci (D9 _ _ [21,29,37,45]) 21 109 B rfl rfl ?_
 refine Rk Er z3 Ia ([1,2]:List Int) eI ?_
 refine Rk Er z3 Ia ([1,2]:List Int) eI ?_
 refine Rk Er z3 Ia ([1]:List Int) eI ?_
 refine Rk Er z3 Ia ([2,11]:List Int) eI ?_
 refine Iz aEz z22 aO2 ([([1,2]:List Int),([1,2]:List Int),([1]:List Int),([2,11]:List Int),([]:(List Int))]:List (List Int)) (eL 1 eI) ?_
 refine Br 2 fun _ _ e he B G=>?_
 refine Sk (rd:=[53]) rfl rfl (.loadR1 qS (Pu (wC _ _) (D5 he) (o:=0) (c:=.sl 1 (Ai eI e)) rfl rfl)) rfl rfl ?_
 refine Br 0 fun B G=>?_
 refine Ay <| Ci (D9 _ _ [109,117,125]) 109 189 B rfl rfl ?_
 refine Rk Er z3 Ia ([1,2,3,4]:List Int) eI ?_
 refine Rk Er z3 Ia ([2,3,4]:List Int) eI ?_
 refine Rk Er z3 Ia ([3,4]:List Int) eI ?_
 refine Iz aEz z22 aO2 ([([1,2,3,4]:List Int),([2,3,4]:List Int),([3,4]:List Int)]:List (List Int)) (eL 1 eI) ?_
 refine Br 2 fun _ _ e_2 he_2 B G=>?_
 refine Sk (rd:=[133]) rfl rfl (.loadR1 qS (Pu (wC _ _) (D5 he_2) (o:=0) (c:=.sl 1 (Ai eI e_2)) rfl rfl)) rfl rfl ?_
 exact Cj
instance aYc:Wk 35:=⟨_,@Py⟩
end Go.Proofs.YtobamahlipiakaaGreat
