import Derived.Test.YtobamahlipiakaaGreatT1
import Derived.Test.YtobamahlipiakaaGreatEU
import Derived.Test.YtobamahlipiakaaGreatA1
import Derived.Test.YtobamahlipiakaaGreatA2
import Derived.Test.YtobamahlipiakaaGreatA3
import Derived.Test.YtobamahlipiakaaGreatA4
import Derived.Test.YtobamahlipiakaaGreatA7
set_option linter.unusedVariables false
set_option linter.unusedSimpArgs false
set_option maxRecDepth 100000
set_option maxHeartbeats 40000000
namespace Go.Proofs.YtobamahlipiakaaGreat
open Go.RowKit
theorem Km {u:Ao} {purpose:Int} {day:Int} {yield':Int->Aw->(Nat×Int)->Option (Bool×(Nat×Int))} {c0:(List Aw)} {q:(Nat×Int)} {r:(Nat×Int)} (G:B0 yield' c0 q=some r) {rc:Loop} (hR:∀ (x0:Int) (x1:Aw) (q':Nat×Int) (y':Bool×(Nat×Int)),yield' x0 x1 q'=some y'->Rnd Tryz.prog [5,6,7,8] [.ptr 0 0,.ptr 1 0,.ptr 2 0,.ptr 3 0] 33 (Wt rc 0) 4 5 [vj x0,.agg (Aw.dv x1)] [.box [vj u.Alg,vj u.Bits] 45,.box [vj purpose] 3,.box [vj day] 3,.box [vj q'.2] 3,.lop [5,6,7,8] [.ptr 0 0,.ptr 1 0,.ptr 2 0,.ptr 3 0] 33 (Wt rc q'.1)] (fun b1 b2=>b1=y'.1/\b2=[.box [vj u.Alg,vj u.Bits] 45,.box [vj purpose] 3,.box [vj day] 3,.box [vj y'.2.2] 3,.lop [5,6,7,8] [.ptr 0 0,.ptr 1 0,.ptr 2 0,.ptr 3 0] 33 (Wt rc y'.2.1)])):Itr Tryz.prog 204 4 5 [.elt (([.sl 6 (Ai Aw.enc c0)]:List C).drop 0)] [.box [vj u.Alg,vj u.Bits] 45,.box [vj purpose] 3,.box [vj day] 3,.box [vj q.2] 3,.lop [5,6,7,8] [.ptr 0 0,.ptr 1 0,.ptr 2 0,.ptr 3 0] 33 (Wt rc q.1)] (fun b'=>b'=[.box [vj u.Alg,vj u.Bits] 45,.box [vj purpose] 3,.box [vj day] 3,.box [vj r.2] 3,.lop [5,6,7,8] [.ptr 0 0,.ptr 1 0,.ptr 2 0,.ptr 3 0] 33 (Wt rc r.1)]):=by
 unfold B0 at G
 refine Itr.of Tryz.func204 rfl rfl rfl rfl fun w0 I ρ0 l hl=>?_
 show M1 _ ⟨w0,I,ρ0,5,5,19,none⟩ _ _ _
 refine jF 5 37 Ij ?_
 refine F0 rfl rfl (Gq aLw (c:=.sl 6 (Ai Aw.enc c0)) rfl) rfl rfl ?_
 refine Ut fun B=>?_
 refine Ly <| He (fun ((i_1,q_1):Int×(Nat×Int))=>mk [(0,.val (.func (.yield l) #[] #[])),(1,.elt (([.sl 6 (Ai Aw.enc c0)]:List C).drop 0)),(3,vj i_1)] [(0,.box [vj u.Alg,vj u.Bits] 45),(1,.box [vj purpose] 3),(2,.box [vj day] 3),(3,.box [vj q_1.2] 3),(4,.lop [5,6,7,8] [.ptr 0 0,.ptr 1 0,.ptr 2 0,.ptr 3 0] 33 (Wt rc q_1.1))] 5) G (Cd [(0,0),(1,1),(2,2),(3,3),(4,4)]) ?_
 rintro⟨i_1,q_1⟩ m1 o1 G hn1
 replace G:B0.l1 yield' c0 i_1 q_1=some o1:=G
 show M1 _ _ _ _ (mk _ _ _)
 unfold B0.l1 at G
 refine Ay <| eE 5 21 Ij fun B=>?_
 refine Kd rfl G (fun h3 G=>?_) fun h3 G=>?_
 refine sk_ ?_
 refine Ay <| Ly <| Ay <| tP ?_
 refine Sc.chain (D9 _ _ []) 6 21 69 B rfl rfl ?_
 show Chain _ _ _ _ (idx 0 [_,_,_,_,_,_]) _ _ _
 refine P9 ?_
 refine F0 rfl rfl (Gq aLw (c:=.sl 6 (Ai Aw.enc c0)) rfl) rfl rfl ?_
 refine P9 ?_
 obtain⟨e,he,G⟩:=An G
 refine P9 ?_
 refine lE_ he ?_
 refine aQj fun B=>?_
 obtain⟨y,hy,G⟩:=An G
 refine yl_ 69 [0,1,2,3,4] [] [0,1,2,3,4] false B hl (hR _ _ _ _ hy) (.cons .val (.cons (.agg (.cons .val (.cons .val (.cons .val (.cons .val (.cons .val (.cons .val .nil))))))) .nil)) ⟨_,_,_,rfl,.head _,⟨_,rfl,(by repeat' (first | exact K0.nil | apply K0.cons | exact Ag.val | exact Ag.sl | exact Ag.nils | exact Ag.ptr rfl | exact Ag.rowK rfl | exact Ag.elt))⟩,⟨_,_,_,rfl,.tail _ (.head _),⟨_,rfl,(by repeat' (first | exact K0.nil | apply K0.cons | exact Ag.val | exact Ag.sl | exact Ag.nils | exact Ag.ptr rfl | exact Ag.rowK rfl | exact Ag.elt))⟩,⟨_,_,_,rfl,.tail _ (.tail _ (.head _)),⟨_,rfl,(by repeat' (first | exact K0.nil | apply K0.cons | exact Ag.val | exact Ag.sl | exact Ag.nils | exact Ag.ptr rfl | exact Ag.rowK rfl | exact Ag.elt))⟩,⟨_,_,_,rfl,.tail _ (.tail _ (.tail _ (.head _))),⟨_,rfl,(by repeat' (first | exact K0.nil | apply K0.cons | exact Ag.val | exact Ag.sl | exact Ag.nils | exact Ag.ptr rfl | exact Ag.rowK rfl | exact Ag.elt))⟩,⟨_,_,_,rfl,.tail _ (.tail _ (.tail _ (.tail _ (.head _)))),⟨_,rfl,(by repeat' (first | exact K0.nil | apply K0.cons | exact Ag.val | exact Ag.sl | exact Ag.nils | exact Ag.ptr rfl | exact Ag.rowK rfl | exact Ag.elt))⟩,rfl⟩⟩⟩⟩⟩ fun B=>?_
 refine Sc.chain (D9 _ _ []) 1 77 85 B rfl rfl ?_
 show Chain _ _ _ _ (idx 0 [_]) _ _ _
 refine P9 ?_
 refine aQj fun B=>?_
 refine Sc.fin ?_
 refine rp_ ?_
 refine Kd rfl G (fun h7 G=>?_) fun h7 G=>?_
 refine dL ?_
 refine rp_ ?_
 replace G:=sU G hn1
 obtain rfl:=oi_ G
 exact Sb [(0,0),(1,1),(2,2),(3,3),(4,4)] ⟨rfl,rfl⟩
 refine sk_ ?_
 refine Ci (D9 _ _ []) 85 109 B rfl rfl ?_
 refine Ut fun B=>?_
 obtain rfl:=oi_ G
 exact⟨((W (i_1 - 1),y.2),m1),bAn _,hn1,Cd [(0,0),(1,1),(2,2),(3,3),(4,4)]⟩
 refine ex_ ?_
 replace G:=sU G hn1
 obtain rfl:=oi_ G
 exact Sb [(0,0),(1,1),(2,2),(3,3),(4,4)] ⟨rfl,rfl⟩
theorem Zd {p u purpose day r} (G:Cm p u purpose day=some r):Fn Tryz.prog 146 0 [.agg [.sl 6 (Ai Aw.enc p.Rules),.sl 2 (Ai Bl.enc p.Keeps)],.agg [vj u.Alg,vj u.Bits],vj purpose,vj day] [] (fun d' b'=>d'=vj r/\b'=[]):=by
 unfold Cm at G
 refine Fn.of Tryz.func146 rfl rfl rfl fun w0 I ρ0=>?_
 show M1 _ ⟨w0,I,ρ0,0,0,33,none⟩ _ _ _
 refine eE 0 40 Ij fun B=>?_
 refine Ay <| jF 40 64 B ?_
 refine P9 ?_
 obtain⟨y,hy,G⟩:=An G
 refine L9 (@Mr _ _ hy) ?_
 refine qK fun B=>?_
 refine Ly ?_
 obtain⟨y_3,hy_3,G⟩:=An G
 refine Hg (σ':=mk [(5,.ptr 0 0),(6,.ptr 1 0),(7,.ptr 2 0),(8,.ptr 3 0),(13,.clo 204 0 [.elt (([.sl 6 (Ai Aw.enc y)]:List C).drop 0)])] [(0,.box [vj u.Alg,vj u.Bits] 45),(1,.box [vj purpose] 3),(2,.box [vj day] 3),(3,.box [.val (.int .i64 0)] 3)] 4) (Cd [(0,8),(1,16),(2,24),(3,32)]) ?_
 refine aT4 (c:=y_3.1) (ts:=[5,6,7,8]) (ds:=[.ptr 0 0,.ptr 1 0,.ptr 2 0,.ptr 3 0]) 4 [0,1,2,3,4] [] [0,1,2,3,4] false Ij (@Km u purpose day (fun a0' a1' q'=>yld (fun s'=>Cm.r1 u purpose day a0' a1' s') q') y (0,0) _ hy_3) (by repeat' first | exact trivial | refine And.intro rfl ?_) (fun _ _=>.cons .elt .nil) (fun _ _=>⟨_,_,_,rfl,.head _,⟨_,rfl,(by repeat' (first | exact K0.nil | apply K0.cons | exact Ag.val | exact Ag.sl | exact Ag.nils | exact Ag.ptr rfl | exact Ag.rowK rfl | exact Ag.elt))⟩,⟨_,_,_,rfl,.tail _ (.head _),⟨_,rfl,(by repeat' (first | exact K0.nil | apply K0.cons | exact Ag.val | exact Ag.sl | exact Ag.nils | exact Ag.ptr rfl | exact Ag.rowK rfl | exact Ag.elt))⟩,⟨_,_,_,rfl,.tail _ (.tail _ (.head _)),⟨_,rfl,(by repeat' (first | exact K0.nil | apply K0.cons | exact Ag.val | exact Ag.sl | exact Ag.nils | exact Ag.ptr rfl | exact Ag.rowK rfl | exact Ag.elt))⟩,⟨_,_,_,rfl,.tail _ (.tail _ (.tail _ (.head _))),⟨_,rfl,(by repeat' (first | exact K0.nil | apply K0.cons | exact Ag.val | exact Ag.sl | exact Ag.nils | exact Ag.ptr rfl | exact Ag.rowK rfl | exact Ag.elt))⟩,⟨_,_,_,rfl,.tail _ (.tail _ (.tail _ (.tail _ (.head _)))),⟨_,rfl,(by repeat' (first | exact K0.nil | apply K0.cons | exact Ag.val | exact Ag.sl | exact Ag.nils | exact Ag.ptr rfl | exact Ag.rowK rfl | exact Ag.elt))⟩,rfl⟩⟩⟩⟩⟩) ?_ ?_
 intro _ _ a a_2 _ _ hq
 obtain⟨b_1,o1,rfl,rfl,G⟩:=aC6 hq
 replace G:Cm.r1 u purpose day a a_2 b_1=some o1:=G
 unfold Cm.r1 at G
 refine Rnd.of rfl rfl (by kernel_rfl) fun w0 I ρ0 l hl=>?_
 show M1 _ ⟨w0,I,ρ0,5,5,33,some l⟩ _ _ _
 refine eE 5 13 Ij fun B=>?_
 refine Ci (D9 _ _ []) 13 29 B rfl rfl ?_
 refine Ut fun B=>?_
 refine ag_ B rfl rfl fun rb1 hrb1 B=>?_
 refine Ly <| A4 (ι:=Bool) (fun (x31_2:Bool)=>mk [(8,.ptr 3 0),(9,vj a),(31,.val (.bool x31_2))] [(0,.box [vj u.Alg,vj u.Bits] 45),(1,.box [vj purpose] 3),(2,.box [vj day] 3),(3,.box [vj b_1] 3),(4,.lop [5,6,7,8] [.ptr 0 0,.ptr 1 0,.ptr 2 0,.ptr 3 0] 33 rb1)] 5) (fun (x31_2:Bool)=>Cm.j2 b_1 a x31_2=some o1) ?_ ?_
 refine Ci (D9 _ _ []) 29 157 B rfl rfl ?_
 refine P9 ?_
 obtain⟨y_2,hy_2,G⟩:=An G
 refine L9 (@Q3 _ _ _ _ hy_2) ?_
 refine P9 ?_
 rcases bc_ G with ⟨h6,G⟩ | ⟨h6,G⟩
 refine P9 ?_
 rcases bc_ G with ⟨h7,G⟩ | ⟨h7,G⟩
 refine Ut fun B=>?_
 exact⟨decide (day < a_2.To),G,Cd [(0,0),(1,1),(2,2),(3,3),(4,4)]⟩
 refine Ut fun B=>?_
 exact⟨false,G,Cd [(0,0),(1,1),(2,2),(3,3),(4,4)]⟩
 refine Ut fun B=>?_
 exact⟨false,G,Cd [(0,0),(1,1),(2,2),(3,3),(4,4)]⟩
 rintro x31_2 G
 replace G:Cm.j2 b_1 a x31_2=some o1:=G
 show M1 _ _ _ _ (mk _ _ _)
 unfold Cm.j2 at G
 refine Kd rfl G (fun h11 G=>?_) fun h11 G=>?_
 refine eE 5 21 Ij fun B=>?_
 refine aCd ?_
 obtain rfl:=oi_ G
 exact rr_ (rf_ 1 hrb1 [(0,0),(1,1),(2,2),(3,3),(4,4)] rfl ⟨rfl,rfl⟩)
 refine sk_ ?_
 obtain rfl:=oi_ G
 exact rn_ (rf_ 0 hrb1 [(0,0),(1,1),(2,2),(3,3),(4,4)] rfl ⟨rfl,rfl⟩)
 intro _ _ B
 rcases jc_ G with ⟨hj,G⟩ | G
 refine rk0 hj ?_
 refine rp_ ?_
 refine eE 20 28 B fun B=>?_
 exact t3_
 rcases jc_ G with ⟨hj,G⟩ | G
 refine rk1 hj ?_
 refine rp_ ?_
 exact t2_
 cases G
instance aUm:Wk 146:=⟨_,@Zd⟩
theorem Yr {p u purpose day r} (G:Jm p u purpose day=some r):Fn Tryz.prog 145 0 [.agg [.sl 6 (Ai Aw.enc p.Rules),.sl 2 (Ai Bl.enc p.Keeps)],.agg [vj u.Alg,vj u.Bits],vj purpose,vj day] [] (fun d' b'=>d'=.val (.bool r)/\b'=[]):=by
 unfold Jm at G
 refine Ea 0 25 Tryz.func145 fun _ _ _=>?_
 exact Cj
instance aUw:Wk 145:=⟨_,@Yr⟩
theorem Yu {p u purpose day r} (G:Jo p u purpose day=some r):Fn Tryz.prog 98 0 [.agg [.sl 6 (Ai Aw.enc p.Rules),.sl 2 (Ai Bl.enc p.Keeps)],.agg [vj u.Alg,vj u.Bits],vj purpose,vj day] [] (fun d' b'=>d'=.tup [.val (.bool r.1),vj r.2.1,vj r.2.2]/\b'=[]):=by
 unfold Jo at G
 refine Ea 0 30 Tryz.func98 fun _ _ _=>?_
 refine Jf (.l 5 (.e 1)) fun _ _ _ B G=>?_
 refine Ay <| Bg (D9 _ _ []) (by kernel_rfl) [0,0,0,0,15,0,0,0,0,511,1023,2047,4095] 104 208 B rfl rfl (by kernel_rfl) ?_
 exact Cj
instance aYy:Wk 98:=⟨_,@Yu⟩
theorem Ym {x' r} (G:A7 x'=some r):Fn Tryz.prog 101 0 [.agg (Ah.dv x')] [] (fun d' b'=>d'=vj r/\b'=[]):=by
 unfold A7 at G
 refine Ea 0 89 Tryz.func101 fun _ _ _=>?_
 refine Br 1 fun B G=>?_
 refine Ay <| A4 (ι:=Bool) (fun (x24_1:Bool)=>mk [(1,.ptr 0 0),(24,.val (.bool x24_1))] [(0,.box (Ah.dv x') 78)] 1) (fun (x24_1:Bool)=>A7.j1 x' x24_1=some r) ?_ ?_
 exact Cj
 rintro x24_1 G
 unfold A7.j1 at G
 refine Dx (.l 0 (.e 1)) fun _ B G=>?_
 refine Ay <| A4 (ι:=Bool) (fun (x49_2:Bool)=>mk [(1,.ptr 0 0),(49,.val (.bool x49_2))] [(0,.box (Ah.dv x') 78)] 1) (fun (x49_2:Bool)=>A7.j2 x' x49_2=some r) ?_ ?_
 exact Cj
 rintro x49_2 G
 unfold A7.j2 at G
 refine Dx (.l 0 (.e 4)) fun _ B G=>?_
 refine He (fun (x53_3:Int)=>mk [(1,.ptr 0 0),(51,.sl 2 (Ai Be.enc x'.Seals)),(52,.val (.int .i64 (x'.Seals.length:Int))),(53,vj x53_3)] [(0,.box (Ah.dv x') 78)] 1) G (Cd [(0,0)]) ?_
 rintro x53_3 m3 o3 G hn3
 unfold A7.l3 at G
 refine Dx (.r 2 (.e 6)) fun _ e _ B G=>?_
 refine A4 (ι:=Bool) (fun (x87_4:Bool)=>mk [(1,.ptr 0 0),(51,.sl 2 (Ai Be.enc x'.Seals)),(52,.val (.int .i64 (x'.Seals.length:Int))),(53,vj x53_3),(87,.val (.bool x87_4))] [(0,.box (Ah.dv x') 78)] 1) (fun (x87_4:Bool)=>A7.j4 x53_3 x87_4=some o3) ?_ ?_
 refine Bg (D9 _ _ []) (by kernel_rfl) [0,1,3,7,15,31,63,127,255,511,1023,2047,4095,8191,16383,32767,65535,131071,262143,524287,262143,1310719,4194303,8388607,16777215,262143,33816575,134217727,268435455,536870911] 57 297 B rfl rfl (by kernel_rfl) ?_
 exact Cj
 rintro x87_4 G
 unfold A7.j4 at G
 exact Gn
instance aUx:Wk 101:=⟨_,@Ym⟩
theorem N9 {x' r} (G:Fy x'=some r):Fn Tryz.prog 100 0 [.agg (Ah.dv x')] [] (fun d' b'=>d'=.val (.bool r)/\b'=[]):=by
 unfold Fy at G
 refine Ea 0 6 Tryz.func100 fun _ _ _=>?_
 exact Cj
instance aU2:Wk 100:=⟨_,@N9⟩
theorem K2 {s:(List Ah)} {f:Ah->Option (Bool)} (hf_f:∀ (x0:Ah) (y:Bool),f x0=some y->Fn Tryz.prog 100 0 [.agg (Ah.dv x0)] [] (fun d' b'=>d'=.val (.bool y)/\b'=[])) {r:Int} (G:Bt s f=some r):Fn Tryz.prog 147 0 [.sl 7 (Ai Ah.enc s),.clo 100 0 []] [] (fun d' b'=>d'=vj r/\b'=[]):=by
 unfold Bt at G
 refine Ea 0 19 Tryz.func147 fun _ _ _=>?_
 refine Br 4 fun B G=>?_
 refine He (fun (x8_1:Int)=>mk [(0,.sl 7 (Ai Ah.enc s)),(1,.clo 100 0 []),(7,.val (.int .i64 (s.length:Int))),(8,vj x8_1)] [] 0) G (Cd []) ?_
 rintro x8_1 m1 o1 G hn1
 unfold Bt.l1 at G
 refine Dx (.r 2 (.e 7)) fun _ e _ B G=>?_
 obtain⟨y,hy,G⟩:=An G
 refine E1 (rd:=[]) (ps:=[]) (gs:=[]) false rfl rfl (hf_f e _ hy) rfl rfl (.cons (.agg (.cons .val (.cons .val (.cons .val (.cons .val (.cons .val (.cons .val (.cons .sl .nil)))))))) .nil) rfl rfl (by intro h; cases h) rfl rfl rfl rfl ?_
 exact Cj
theorem J8 {s:(List Ah)} {f:Ah->Option (Bool)} (hf_f:∀ (x0:Ah) (y:Bool),f x0=some y->Fn Tryz.prog 100 0 [.agg (Ah.dv x0)] [] (fun d' b'=>d'=.val (.bool y)/\b'=[])) {r:Bool} (G:Fe s f=some r):Fn Tryz.prog 99 0 [.sl 7 (Ai Ah.enc s),.clo 100 0 []] [] (fun d' b'=>d'=.val (.bool r)/\b'=[]):=by
 unfold Fe at G
 refine Ea 0 9 Tryz.func99 fun _ _ _=>?_
 refine Br 2 fun B G=>?_
 obtain⟨y,hy,G⟩:=An G
 refine L9 (@K2 s f hf_f _ hy) ?_
 exact Cj
theorem X2 {x' u purpose endpoint day r} (G:I8 x' u purpose endpoint day=some r):Fn Tryz.prog 149 0 [.agg (Ah.dv x'),.agg [vj u.Alg,vj u.Bits],vj purpose,vk endpoint,vj day] [] (fun d' b'=>d'=.val (.bool r)/\b'=[]):=by
 unfold I8 at G
 refine Ea 0 41 Tryz.func149 fun _ _ _=>?_
 refine Br 2 fun B G=>?_
 refine F0 rfl rfl (T5 x'.Use u) rfl rfl ?_
 exact Cj
instance aWv:Wk 149:=⟨_,@X2⟩
theorem Ru {x' r} (G:Hu x'=some r):Fn Tryz.prog 183 0 [.agg (Ah.dv x')] [] (fun d' b'=>d'=.tup [.sl 1 (Ai e8 r.1),vj r.2]/\b'=[]):=by
 unfold Hu at G
 refine Ea 0 37 Tryz.func183 fun _ _ _=>?_
 refine Jf (.l 5 (.e 1)) fun _ _ _ B G=>?_
 refine Ay <| Bg (D9 _ _ [240]) (by kernel_rfl) [0,1,3,7,0,16,48,127,0,256,1023,0,2048,8191,0,16384,49152,131071,0,262144,786432,2097151,4194303,8388607,16777215,33554431,33554431,134217727,268435455] 64 296 B rfl rfl (by kernel_rfl) ?_
 refine Br 6 fun y_2 _ y_3 _ y_4 _ y_5 _ y_6 _ y_7 _ B G=>?_
 refine wA (rd:=[]) rfl rfl (D0 U5 Sd (by decide) rfl rfl rfl rfl Xb (cs:=[.int .i64 y_2.Tag,.sl 1 (Ai e8 y_2.Bytes),.bool y_2.Nested,.sl 4 (Ai Ab.enc y_2.Elements),.int .i64 y_3.Tag,.sl 1 (Ai e8 y_3.Bytes),.bool y_3.Nested,.sl 4 (Ai Ab.enc y_3.Elements),.int .i64 y_4.Tag,.sl 1 (Ai e8 y_4.Bytes),.bool y_4.Nested,.sl 4 (Ai Ab.enc y_4.Elements),.int .i64 y_5.Tag,.sl 1 (Ai e8 y_5.Bytes),.bool y_5.Nested,.sl 4 (Ai Ab.enc y_5.Elements),.int .i64 y_6.Tag,.sl 1 (Ai e8 y_6.Bytes),.bool y_6.Nested,.sl 4 (Ai Ab.enc y_6.Elements),.int .i64 y_7.Tag,.sl 1 (Ai e8 y_7.Bytes),.bool y_7.Nested,.sl 4 (Ai Ab.enc y_7.Elements)]) (.cons .int (.cons .sl (.cons .bool (.cons .sl (.cons .int (.cons .sl (.cons .bool (.cons .sl (.cons .int (.cons .sl (.cons .bool (.cons .sl (.cons .int (.cons .sl (.cons .bool (.cons .sl (.cons .int (.cons .sl (.cons .bool (.cons .sl (.cons .int (.cons .sl (.cons .bool (.cons .sl .nil)))))))))))))))))))))))) rfl (l:=([y_2,y_3,y_4,y_5,y_6,y_7]:List Ab)) (f:=Ab.enc) (by simp only [Ai,aOo,aVf,Ab.enc_eq]; rfl)) rfl rfl rfl ?_
 exact Cj
instance aUg:Wk 183:=⟨_,@Ru⟩
theorem Zf {x' o r} (G:Bc x' o=some r):Fn Tryz.prog 150 0 [.agg (Ah.dv x'),.agg [.sl 1 (Ai eI o.Keys),vj o.Need]] [] (fun d' b'=>d'=.val (.bool r)/\b'=[]):=by
 unfold Bc at G
 refine Fn.of Tryz.func150 rfl rfl rfl fun w0 I ρ0=>?_
 show M1 _ ⟨w0,I,ρ0,0,0,62,none⟩ _ _ _
 refine eE 0 24 Ij fun B=>?_
 refine jF 24 80 B ?_
 refine P9 ?_
 obtain⟨y,hy,G⟩:=An G
 refine L9 (@Ru _ _ hy) ?_
 refine Ut fun B=>?_
 refine Ay <| A4 (ι:=Bool) (fun (x24_1:Bool)=>mk [(2,.ptr 0 0),(3,.ptr 1 0),(5,.sl 1 (Ai e8 y.1)),(24,.val (.bool x24_1))] [(0,.box (Ah.dv x') 78),(1,.box [.sl 1 (Ai eI o.Keys),vj o.Need] 70)] 2) (fun (x24_1:Bool)=>Bc.j1 x' o y x24_1=some r) ?_ ?_
 refine Ci (D9 _ _ []) 80 136 B rfl rfl ?_
 refine P9 ?_
 rcases bc_ G with ⟨h3,G⟩ | ⟨h3,G⟩
 refine Ut fun B=>?_
 exact⟨true,G,Cd [(0,0),(1,8)]⟩
 refine Ut fun B=>?_
 exact⟨decide (o.Need < 1),G,Cd [(0,0),(1,8)]⟩
 rintro x24_1 G
 replace G:Bc.j1 x' o y x24_1=some r:=G
 show M1 _ _ _ _ (mk _ _ _)
 unfold Bc.j1 at G
 refine Kd rfl G (fun h6 G=>?_) fun h6 G=>?_
 refine jF 2 10 Ij ?_
 exact t5_
 refine sk_ ?_
 refine jF 2 18 Ij ?_
 refine aAk (rd:=[]) rfl rfl .makeMap rfl rfl (fun _=>⟨_,rfl⟩) ?_
 rintro _ rfl
 refine Ut fun B=>?_
 refine Ay <| eE 18 50 B fun B=>?_
 refine Ly <| He (fun ((x29_2,sums_2):Int×(List (Int×Int)))=>mk [(3,.ptr 0 0),(5,.sl 1 (Ai e8 y.1)),(7,.row 1),(27,.sl 2 (Ai Be.enc x'.Seals)),(28,.val (.int .i64 (x'.Seals.length:Int))),(29,vj x29_2)] [(0,.box [.sl 1 (Ai eI o.Keys),vj o.Need] 70),(1,.map (Wx (vI .i64) (vI .i64) sums_2))] 2) G ((by exact Rr.lists [(0,1),(1,2)] rfl rfl ⟨⟨_,rfl,.ptr rfl⟩,⟨_,rfl,.sl _ _⟩,⟨_,rfl,.row rfl⟩,⟨_,rfl,.sl _ _⟩,⟨_,rfl,.val _⟩,⟨_,rfl,.val _⟩,trivial⟩ ⟨.inl ⟨1,_,rfl,rfl,⟨rfl,.cons (.sl _ _) (.cons (.val _) .nil)⟩⟩,.inl ⟨2,_,rfl,rfl,rfl⟩,trivial⟩)) ?_
 rintro⟨x29_2,sums_2⟩ m2 o2 G hn2
 replace G:Bc.l2 x' o y x29_2 sums_2=some o2:=G
 show M1 _ _ _ _ (mk _ _ _)
 unfold Bc.l2 at G
 refine eE 2 10 Ij fun B=>?_
 refine Ay <| Kd rfl G (fun h11 G=>?_) fun h11 G=>?_
 refine sk_ ?_
 refine Ay <| Ly <| jF 10 42 B ?_
 obtain⟨e,he,G⟩:=An G
 refine P9 ?_
 refine lE_ he ?_
 refine Ut fun B=>?_
 refine Ci (D9 _ _ []) 42 90 B rfl rfl ?_
 refine P9 ?_
 refine aAk (rd:=[1]) rfl rfl (aCb (f:=(vI .i64)) (g:=(vI .i64)) (l:=sums_2) (key:=e.Key) (v:=e.Sum) wS (aS4 aNo) rfl rfl (.head _)) rfl rfl (fun _=>⟨_,rfl⟩) ?_
 rintro _ rfl
 refine qK fun B=>?_
 refine Ci (D9 _ _ []) 90 106 B rfl rfl ?_
 refine Ut fun B=>?_
 obtain rfl:=oi_ G
 exact⟨((W (x29_2 + 1),Oc sums_2 e.Key e.Sum),m2),bAn _,hn2,(by exact Rr.lists [(0,0),(1,1)] rfl rfl ⟨⟨_,rfl,.ptr rfl⟩,⟨_,rfl,.sl _ _⟩,⟨_,rfl,.row rfl⟩,⟨_,rfl,.sl _ _⟩,⟨_,rfl,.val _⟩,⟨_,rfl,.val _⟩,trivial⟩ ⟨.inl ⟨0,_,rfl,rfl,⟨rfl,.cons (.sl _ _) (.cons (.val _) .nil)⟩⟩,.inl ⟨1,_,rfl,rfl,rfl⟩,trivial⟩)⟩
 refine ex_ ?_
 replace G:=sU G hn2
 refine eE 10 18 B fun B=>?_
 refine Ay <| jF 18 34 B ?_
 refine P9 ?_
 refine aAk (rd:=[1]) rfl rfl (.range wS (.head _)) rfl rfl (fun _=>⟨_,rfl⟩) ?_
 rintro _ rfl
 refine qK fun B=>?_
 refine Ly <| aTy (fun sn3 (count_3:Int)=>mk [(3,.ptr 0 0),(5,.sl 1 (Ai e8 y.1)),(10,vj count_3),(40,.ptr 1 0)] [(0,.box [.sl 1 (Ai eI o.Keys),vj o.Need] 70),(1,.mit 2 ((Wx (vI .i64) (vI .i64) sums_2).length) sn3),(2,.map (Wx (vI .i64) (vI .i64) sums_2))] 3) G ((by exact Rr.lists [(0,0),(1,26),(2,1)] rfl rfl ⟨⟨_,rfl,.ptr rfl⟩,⟨_,rfl,.sl _ _⟩,⟨_,rfl,.val _⟩,⟨_,rfl,.ptr rfl⟩,trivial⟩ ⟨.inl ⟨0,_,rfl,rfl,⟨rfl,.cons (.sl _ _) (.cons (.val _) .nil)⟩⟩,.inl ⟨26,_,rfl,rfl,⟨rfl,rfl,rfl⟩⟩,.inl ⟨1,_,rfl,rfl,rfl⟩,trivial⟩)) ?_
 rintro count_3 sn3 hm3
 show M1 _ _ _ _ (mk _ _ _)
 refine jF 3 19 Ij ?_
 refine aAk (rd:=[1,2]) rfl rfl (.next (.head _) (.tail _ (.head _)) rfl) rfl rfl (fun _=>aIo rfl) ?_
 rintro _ (⟨hall17,rfl⟩ | ⟨ix17,pp17,hi17,hni17,rfl⟩)
 obtain⟨o3,G,hn3⟩:=MH.fin hm3 (aCm hall17)
 replace G:Bc.e3 o count_3=some o3:=G
 unfold Bc.e3 at G
 refine Ut fun B=>?_
 refine Ay <| eO rfl (fun h=>?_) (fun h=>?_)
 exact absurd h (by first | decide | exact fun h=>nomatch (show false=true from h) | exact fun h=>nomatch (show true=false from h))
 refine ex_ ?_
 replace G:=sU G hn3
 refine eE 19 59 B fun B=>?_
 exact t3_
 obtain⟨kv,hx17,rfl⟩:=aHx hi17
 obtain⟨o3,G,hn3⟩:=MH.el hm3 hx17 hni17
 have hlt3:=aGl (aDx.1 hx17).1 hni17
 replace G:Bc.l3 o y kv count_3=some o3:=G
 unfold Bc.l3 at G
 refine Ut fun B=>?_
 refine Ay <| eO rfl (fun h=>?_) (fun h=>?_)
 refine sk_ ?_
 refine Ly <| jF 19 59 B ?_
 refine aAk (rd:=[1,2]) rfl rfl (.entry (.head _) (.tail _ (.head _)) rfl (aLa hx17)) rfl rfl (fun _=>⟨_,rfl⟩) ?_
 rintro _ rfl
 refine Ut fun B=>?_
 refine A4 (ι:=Bool) (fun (x55_4:Bool)=>mk [(3,.ptr 0 0),(5,.sl 1 (Ai e8 y.1)),(10,vj count_3),(40,.ptr 1 0),(55,.val (.bool x55_4))] [(0,.box [.sl 1 (Ai eI o.Keys),vj o.Need] 70),(1,.mit 2 ((Wx (vI .i64) (vI .i64) sums_2).length) (sn3 ++ [ix17])),(2,.map (Wx (vI .i64) (vI .i64) sums_2))] 3) (fun (x55_4:Bool)=>Bc.j4 count_3 x55_4=some o3) ?_ ?_
 refine Ci (D9 _ _ []) 59 139 B rfl rfl ?_
 refine P9 ?_
 obtain⟨y_2,hy_2,G⟩:=An G
 refine L9 (@Ry _ _ hy_2) ?_
 refine P9 ?_
 rcases bc_ G with ⟨h21,G⟩ | ⟨h21,G⟩
 refine P9 ?_
 obtain⟨y_3,hy_3,G⟩:=An G
 refine L9 (@L3 _ _ _ hy_3) ?_
 refine Ut fun B=>?_
 exact⟨y_3,G,(by exact Rr.lists [(0,0),(1,1),(2,2)] rfl rfl ⟨⟨_,rfl,.ptr rfl⟩,⟨_,rfl,.sl _ _⟩,⟨_,rfl,.val _⟩,⟨_,rfl,.ptr rfl⟩,⟨_,rfl,.val _⟩,trivial⟩ ⟨.inl ⟨0,_,rfl,rfl,⟨rfl,.cons (.sl _ _) (.cons (.val _) .nil)⟩⟩,.inl ⟨1,_,rfl,rfl,⟨rfl,rfl,rfl⟩⟩,.inl ⟨2,_,rfl,rfl,rfl⟩,trivial⟩)⟩
 refine Ut fun B=>?_
 exact⟨false,G,(by exact Rr.lists [(0,0),(1,1),(2,2)] rfl rfl ⟨⟨_,rfl,.ptr rfl⟩,⟨_,rfl,.sl _ _⟩,⟨_,rfl,.val _⟩,⟨_,rfl,.ptr rfl⟩,⟨_,rfl,.val _⟩,trivial⟩ ⟨.inl ⟨0,_,rfl,rfl,⟨rfl,.cons (.sl _ _) (.cons (.val _) .nil)⟩⟩,.inl ⟨1,_,rfl,rfl,⟨rfl,rfl,rfl⟩⟩,.inl ⟨2,_,rfl,rfl,rfl⟩,trivial⟩)⟩
 rintro x55_4 G
 replace G:Bc.j4 count_3 x55_4=some o3:=G
 show M1 _ _ _ _ (mk _ _ _)
 unfold Bc.j4 at G
 refine Kd rfl G (fun h24 G=>?_) fun h24 G=>?_
 refine Ci (D9 _ _ []) 3 27 Ij rfl rfl ?_
 refine Ut fun B=>?_
 obtain rfl:=oi_ G
 exact⟨(_,W (count_3 + 1)),hlt3,qU hn3,(by exact Rr.lists [(0,0),(1,1),(2,2)] rfl rfl ⟨⟨_,rfl,.ptr rfl⟩,⟨_,rfl,.sl _ _⟩,⟨_,rfl,.val _⟩,⟨_,rfl,.ptr rfl⟩,trivial⟩ ⟨.inl ⟨0,_,rfl,rfl,⟨rfl,.cons (.sl _ _) (.cons (.val _) .nil)⟩⟩,.inl ⟨1,_,rfl,rfl,⟨rfl,rfl,rfl⟩⟩,.inl ⟨2,_,rfl,rfl,rfl⟩,trivial⟩)⟩
 refine sk_ ?_
 obtain rfl:=oi_ G
 exact⟨(_,count_3),hlt3,qU hn3,(by exact Rr.lists [(0,0),(1,1),(2,2)] rfl rfl ⟨⟨_,rfl,.ptr rfl⟩,⟨_,rfl,.sl _ _⟩,⟨_,rfl,.val _⟩,⟨_,rfl,.ptr rfl⟩,trivial⟩ ⟨.inl ⟨0,_,rfl,rfl,⟨rfl,.cons (.sl _ _) (.cons (.val _) .nil)⟩⟩,.inl ⟨1,_,rfl,rfl,⟨rfl,rfl,rfl⟩⟩,.inl ⟨2,_,rfl,rfl,rfl⟩,trivial⟩)⟩
 exact absurd h (by first | decide | exact fun h=>nomatch (show false=true from h) | exact fun h=>nomatch (show true=false from h))
instance aUq:Wk 150:=⟨_,@Zf⟩
theorem Z0 {l o u purpose endpoint day r} (G:Ct l o u purpose endpoint day=some r):Fn Tryz.prog 102 0 [.sl 7 (Ai Ah.enc l),.agg [.sl 1 (Ai eI o.Keys),vj o.Need],.agg [vj u.Alg,vj u.Bits],vj purpose,vk endpoint,vj day] [] (fun d' b'=>d'=.tup [vj r.1,.val (.bool r.2)]/\b'=[]):=by
 unfold Ct at G
 refine Ea 0 43 Tryz.func102 fun _ _ _=>?_
 refine Br 5 fun B G=>?_
 refine He (fun ((most_1,some_1,x20_1):Int×Bool×Int)=>mk [(3,vj purpose),(4,vk endpoint),(5,vj day),(7,.ptr 0 0),(8,.ptr 1 0),(14,vj most_1),(15,.val (.bool some_1)),(18,.sl 7 (Ai Ah.enc l)),(19,.val (.int .i64 (l.length:Int))),(20,vj x20_1)] [(0,.box [.sl 1 (Ai eI o.Keys),vj o.Need] 70),(1,.box [vj u.Alg,vj u.Bits] 45)] 2) G (Cd [(0,0),(1,8)]) ?_
 rintro⟨most_1,some_1,x20_1⟩ m1 o1 G hn1
 unfold Ct.l1 at G
 refine Dx (.r 2 (.e 1)) fun _ B G=>?_
 refine A4 (ι:=Int×Bool) (fun ((most_3,some_3):Int×Bool)=>mk [(3,vj purpose),(4,vk endpoint),(5,vj day),(7,.ptr 0 0),(8,.ptr 1 0),(14,vj most_3),(15,.val (.bool some_3)),(18,.sl 7 (Ai Ah.enc l)),(19,.val (.int .i64 (l.length:Int))),(20,vj x20_1)] [(0,.box [.sl 1 (Ai eI o.Keys),vj o.Need] 70),(1,.box [vj u.Alg,vj u.Bits] 45)] 2) (fun ((most_3,some_3):Int×Bool)=>Ct.j3 x20_1 most_3 some_3=some o1) ?_ ?_
 refine Br 4 fun e _ B G=>?_
 refine A4 (ι:=Bool) (fun (x34_2:Bool)=>mk [(3,vj purpose),(4,vk endpoint),(5,vj day),(7,.ptr 0 0),(8,.ptr 1 0),(14,vj most_1),(15,.val (.bool some_1)),(17,.ptr 2 0),(18,.sl 7 (Ai Ah.enc l)),(19,.val (.int .i64 (l.length:Int))),(20,vj x20_1),(34,.val (.bool x34_2))] [(0,.box [.sl 1 (Ai eI o.Keys),vj o.Need] 70),(1,.box [vj u.Alg,vj u.Bits] 45),(2,.box (Ah.dv e) 78)] 3) (fun (x34_2:Bool)=>Ct.j2 most_1 some_1 x20_1 e x34_2=some o1) ?_ ?_
 exact Cj
 rintro x34_2 G
 unfold Ct.j2 at G
 exact Gn
 rintro⟨most_3,some_3⟩ G
 unfold Ct.j3 at G
 exact Gn
instance aWr:Wk 102:=⟨_,@Z0⟩
theorem Wu {p l o u purpose endpoint day r} (G:Il p l o u purpose endpoint day=some r):Fn Tryz.prog 57 0 [.agg [.sl 6 (Ai Aw.enc p.Rules),.sl 2 (Ai Bl.enc p.Keeps)],.sl 7 (Ai Ah.enc l),.agg [.sl 1 (Ai eI o.Keys),vj o.Need],.agg [vj u.Alg,vj u.Bits],vj purpose,vk endpoint,vj day] [] (fun d' b'=>d'=.tup [.val (.bool r.1),vj r.2]/\b'=[]):=by
 unfold Il at G
 refine Ea 0 51 Tryz.func57 fun _ _ _=>?_
 refine Jf (.l 6 (.e 1)) fun _ _ _ B G=>?_
 obtain⟨y_2,hy_2,G⟩:=An G
 refine L9 (@J8 l (fun x0=>Fy x0) (fun x0 yy hh=>@N9 x0 yy hh) _ hy_2) ?_
 exact Cj
instance aYj:Wk 57:=⟨_,@Wu⟩
theorem O1 {p l o server out day r} (G:By p l o server out day=some r):Fn Tryz.prog 26 0 [.agg [.sl 6 (Ai Aw.enc p.Rules),.sl 2 (Ai Bl.enc p.Keeps)],.sl 7 (Ai Ah.enc l),.agg [.sl 1 (Ai eI o.Keys),vj o.Need],.agg (Ac.dv server),.agg [vj out.Version,vj out.Suite],vj day] [] (fun d' b'=>d'=.tup [.val (.bool r.1),vj r.2]/\b'=[]):=by
 unfold By at G
 refine Ea 0 57 Tryz.func26 fun _ _ _=>?_
 refine Jf (.l 5 (.e 5)) fun y _ _ B G=>?_
 refine He (fun ((forbidden_1,x32_1):Bool×Int)=>mk [(1,.sl 7 (Ai Ah.enc l)),(5,vj day),(6,.ptr 0 0),(8,.ptr 1 0),(9,.ptr 2 0),(16,.val (.bool forbidden_1)),(30,.sl 2 (Ai Ao.enc y.1)),(31,.val (.int .i64 (y.1.length:Int))),(32,vj x32_1)] [(0,.box [.sl 6 (Ai Aw.enc p.Rules),.sl 2 (Ai Bl.enc p.Keeps)] 67),(1,.box [.sl 1 (Ai eI o.Keys),vj o.Need] 70),(2,.box (Ac.dv server) 29)] 3) G (Cd [(0,0),(1,8),(2,16)]) ?_
 rintro⟨forbidden_1,x32_1⟩ m1 o1 G hn1
 unfold By.l1 at G
 refine Dx (.r 2 (.e 1)) fun _ B G=>?_
 refine A4 (ι:=Bool) (fun (forbidden_2:Bool)=>mk [(1,.sl 7 (Ai Ah.enc l)),(5,vj day),(6,.ptr 0 0),(8,.ptr 1 0),(9,.ptr 2 0),(16,.val (.bool forbidden_2)),(30,.sl 2 (Ai Ao.enc y.1)),(31,.val (.int .i64 (y.1.length:Int))),(32,vj x32_1)] [(0,.box [.sl 6 (Ai Aw.enc p.Rules),.sl 2 (Ai Bl.enc p.Keeps)] 67),(1,.box [.sl 1 (Ai eI o.Keys),vj o.Need] 70),(2,.box (Ac.dv server) 29)] 3) (fun (forbidden_2:Bool)=>By.j2 x32_1 forbidden_2=some o1) ?_ ?_
 exact Cj
 rintro forbidden_2 G
 unfold By.j2 at G
 exact Gn
instance aY8:Wk 26:=⟨_,@O1⟩
end Go.Proofs.YtobamahlipiakaaGreat
