import Derived.Test.YtboglmbblmakjaaGreatDoorT1
import Derived.Test.YtboglmbblmakjaaGreatDoorEU
import Derived.Test.YtboglmbblmakjaaGreatDoorA6
import Derived.Test.YtboglmbblmakjaaGreatDoorA7
import Derived.Test.YtboglmbblmakjaaGreatDoorA11
import Derived.Test.YtboglmbblmakjaaGreatDoorA12
set_option linter.unusedVariables false
set_option linter.unusedSimpArgs false
set_option maxRecDepth 100000
set_option maxHeartbeats 40000000
namespace Go.Proofs.YtboglmbblmakjaaGreatDoor
open Go.RowKit
theorem Wz.F (rec:Aa->Option (Int)) (hrec:∀ (v:Aa) (r:Int),rec v=some r->Fn Tryz.prog 283 0 [.agg (Aa.dv v)] [] (fun d' b'=>d'=vk r/\b'=[])) {v:Aa} {r:Int} (G:Fb.F rec v=some r):Fn Tryz.prog 283 0 [.agg (Aa.dv v)] [] (fun d' b'=>d'=vk r/\b'=[]):=by
 unfold Fb.F at G
 refine Ea 0 20 Tryz.func283 fun _ _ _=>?_
 refine Cb 5 fun B G=>?_
 refine Ip (fun ((most_1,x9_1):Int×Int)=>mk [(3,vk most_1),(7,.sl 4 (Ac Aa.enc v.Elements)),(8,.val (.int .i64 (v.Elements.length:Int))),(9,vk x9_1)] [] 0) G (B5 []) ?_
 rintro⟨most_1,x9_1⟩ m1 o1 G hn1
 unfold Fb.l1 at G
 refine E6 (.r 2 (.e 5)) fun _ e he B G=>?_
 refine Ex rfl rfl (Kr Z7 (K9 Aa.enc_len (Cf he) (o:=0) (m:=4) (cs:=[.int .i64 e.Tag,.sl 1 (Ac e8 e.Bytes),.bool e.Nested,.sl 4 (Ac Aa.enc e.Elements)]) (by simp only [Aa.enc_eq]; rfl) (by decide) rfl) (Fh Aa.enc_len (Cf he) (o:=0) (m:=4) (by decide) rfl)) rfl rfl ?_
 refine Cb 1 fun B G=>?_
 obtain⟨y,hy,G⟩:=Af G
 refine P9 (hrec _ _ hy) ?_
 exact C6
theorem Wz {v:Aa} {r:Int} (G:Fb v=some r):Fn Tryz.prog 283 0 [.agg (Aa.dv v)] [] (fun d' b'=>d'=vk r/\b'=[]):=
 Ro (motive:=fun (x:Aa) (r:Int)=>Fn Tryz.prog 283 0 [.agg (Aa.dv x)] [] (fun d' b'=>d'=vk r/\b'=[])) (fun rec hrec x r h=>@Wz.F _ (fun v r h=>hrec v r h) x r h) v r G
instance aYu:Wk 283:=⟨_,@Wz⟩
theorem Ri {b n r} (G:Ey b n=some r):Fn Tryz.prog 295 0 [.row 0,vk n] [.row 5 1 (Ac e8 b)] (fun d' b'=>d'=.row 0/\b'=[.row 5 1 (Ac e8 r)]):=by
 unfold Ey at G
 refine Ea 1 43 Tryz.func295 fun _ _ _=>?_
 refine Cb 3 fun B G=>?_
 refine Ji rfl G (fun _ G=>?_) fun _ G=>?_
 refine Cb 2 fun B G=>?_
 refine Kv Pz z5 nT ([(u8 n)]:List UInt8) e8 ?_
 exact C6
 refine Cb 5 fun B G=>?_
 refine Ip (fun ((count_1,m_1):Int×Int)=>mk [(0,.row 0),(1,vk n),(5,vk count_1),(6,vk m_1)] [(0,.row 5 1 (Ac e8 b))] 1) G (B5 [(0,0)]) ?_
 rintro⟨count_1,m_1⟩ m1 o1 G hn1
 unfold Ey.l1 at G
 refine E6 (.l 2 (.e 3)) fun _ B G=>?_
 refine Kv Pz z5 nT ([(u8 (W (128 + count_1)))]:List UInt8) e8 ?_
 refine Cb 4 fun _ _ B G=>?_
 refine Ip (fun ((i_2,b_2):Int×List UInt8)=>mk [(0,.row 0),(1,vk n),(7,vk i_2)] [(0,.row 5 1 (Ac e8 b_2))] 1) G (B5 [(0,57)]) ?_
 rintro⟨i_2,b_2⟩ m2 o2 G hn2
 unfold Ey.l2 at G
 refine E6 (.r 2 (.e 6)) fun _ q_2 _ B G=>?_
 refine Kv Pz z5 nT ([(u8 q_2)]:List UInt8) e8 ?_
 exact C6
instance aYo:Wk 295:=⟨_,@Ri⟩
theorem Z9 (rec:Aa->Option ((List UInt8))) (hrec:∀ (v:Aa) (r:(List UInt8)),rec v=some r->Fn Tryz.prog 294 0 [.agg (Aa.dv v)] [] (fun d' b'=>d'=.sl 1 (Ac e8 r)/\b'=[])) {b:List UInt8} {v:Aa} {r:(List UInt8)} (G:Kj rec b v=some r):Fn Tryz.prog 284 0 [.row 0,.agg (Aa.dv v)] [.row 5 1 (Ac e8 b)] (fun d' b'=>d'=.row 0/\b'=[.row 5 1 (Ac e8 r)]):=by
 unfold Kj at G
 refine Ea 1 19 Tryz.func284 fun _ _ _=>?_
 refine Cb 2 fun B G=>?_
 obtain⟨y,hy,G⟩:=Af G
 refine P9 (hrec _ _ hy) ?_
 refine Cb 2 fun B G=>?_
 refine Kv Pz z5 nT ([(u8 v.Tag)]:List UInt8) e8 ?_
 refine Cb 1 fun _ _ B G=>?_
 obtain⟨y_2,hy_2,G⟩:=Af G
 refine Gt (rd:=[81]) (ps:=[]) (gs:=[81]) false rfl (Ri hy_2) rfl rfl (.cons (.rowK rfl) (.cons .val .nil)) ⟨_,_,_,rfl,.head _,rfl,rfl⟩ rfl (by intro h; cases h) rfl (by intro h; first | (cases h; done) | exact⟨_,_,⟨rfl,rfl⟩,by simp,by simp⟩) ?_
 rintro _ _ ⟨rfl,rfl⟩
 exact C6
theorem Tb.F (rec:Aa->Option ((List UInt8))) (hrec:∀ (v:Aa) (r:(List UInt8)),rec v=some r->Fn Tryz.prog 294 0 [.agg (Aa.dv v)] [] (fun d' b'=>d'=.sl 1 (Ac e8 r)/\b'=[])) {v:Aa} {r:(List UInt8)} (G:Dt.F rec v=some r):Fn Tryz.prog 294 0 [.agg (Aa.dv v)] [] (fun d' b'=>d'=.sl 1 (Ac e8 r)/\b'=[]):=by
 unfold Dt.F at G
 refine Ea 0 23 Tryz.func294 fun _ _ _=>?_
 refine Qg (.l 3 (.e 5)) fun _ B G=>?_
 refine Ip (fun ((x14_1,out_1):Int×List UInt8)=>mk [(3,.row 0),(12,.sl 4 (Ac Aa.enc v.Elements)),(13,.val (.int .i64 (v.Elements.length:Int))),(14,vk x14_1)] [(0,.row 5 1 (Ac e8 out_1))] 1) G (B5 []) ?_
 rintro⟨x14_1,out_1⟩ m1 o1 G hn1
 unfold Dt.l1 at G
 refine E6 (.r 2 (.e 5)) fun _ e he B G=>?_
 refine Ex rfl rfl (Kr Z7 (K9 Aa.enc_len (Cf he) (o:=0) (m:=4) (cs:=[.int .i64 e.Tag,.sl 1 (Ac e8 e.Bytes),.bool e.Nested,.sl 4 (Ac Aa.enc e.Elements)]) (by simp only [Aa.enc_eq]; rfl) (by decide) rfl) (Fh Aa.enc_len (Cf he) (o:=0) (m:=4) (by decide) rfl)) rfl rfl ?_
 refine Cb 1 fun B G=>?_
 obtain⟨y,hy,G⟩:=Af G
 refine Gt (rd:=[0]) (ps:=[]) (gs:=[0]) false rfl (@Z9 rec hrec _ _ _ hy) rfl rfl (.cons (.rowK rfl) (.cons (.agg (.cons .val (.cons .sl (.cons .val (.cons .sl .nil))))) .nil)) ⟨_,_,_,rfl,.head _,rfl,rfl⟩ rfl (by intro h; cases h) rfl (by intro h; first | (cases h; done) | exact⟨_,_,⟨rfl,rfl⟩,by simp,by simp⟩) ?_
 rintro _ _ ⟨rfl,rfl⟩
 exact C6
theorem Tb {v:Aa} {r:(List UInt8)} (G:Dt v=some r):Fn Tryz.prog 294 0 [.agg (Aa.dv v)] [] (fun d' b'=>d'=.sl 1 (Ac e8 r)/\b'=[]):=
 Ro (motive:=fun (x:Aa) (r:(List UInt8))=>Fn Tryz.prog 294 0 [.agg (Aa.dv x)] [] (fun d' b'=>d'=.sl 1 (Ac e8 r)/\b'=[])) (fun rec hrec x r h=>@Tb.F _ (fun v r h=>hrec v r h) x r h) v r G
instance bA7:Wk 294:=⟨_,@Tb⟩
theorem Ws {v r} (G:Nv v=some r):Fn Tryz.prog 284 0 [.val (.slice none 0 0),.agg (Aa.dv v)] [] (fun d' b'=>d'=.row 0/\b'=[.row 5 1 (Ac e8 r)]):=by
 unfold Nv at G
 refine Ea 0 19 Tryz.func284 fun _ _ _=>?_
 refine Cb 5 fun _ _ B G=>?_
 refine Kv Pz z5 nT ([(u8 v.Tag)]:List UInt8) e8 ?_
 refine Cb 1 fun _ _ B G=>?_
 obtain⟨y_2,hy_2,G⟩:=Af G
 refine Gt (rd:=[80]) (ps:=[]) (gs:=[80]) false rfl (Ri hy_2) rfl rfl (.cons (.rowK rfl) (.cons .val .nil)) ⟨_,_,_,rfl,.head _,rfl,rfl⟩ rfl (by intro h; cases h) rfl (by intro h; first | (cases h; done) | exact⟨_,_,⟨rfl,rfl⟩,by simp,by simp⟩) ?_
 rintro _ _ ⟨rfl,rfl⟩
 exact C6
theorem pU {v r} (G:Oq v=some r):Fn Tryz.prog 270 0 [.agg (Aa.dv v)] [] (fun d' b'=>d'=.tup [.sl 1 (Ac e8 r.1),vk r.2]/\b'=[]):=by
 unfold Oq at G
 refine Ea 0 17 Tryz.func270 fun _ _ _=>?_
 refine Qg (.l 4 (.l 4 (.e 2))) fun _ _ _ _ _ _ B G=>?_
 obtain⟨y_3,hy_3,G⟩:=Af G
 refine Gt (rd:=[]) (ps:=[]) (gs:=[]) false rfl (Ws hy_3) rfl rfl (.cons .val (.cons (.agg (.cons .val (.cons .sl (.cons .val (.cons .sl .nil))))) .nil)) rfl rfl (by intro h; cases h) rfl (by intro h; first | (cases h; done) | exact⟨_,_,⟨rfl,rfl⟩,by simp,by simp⟩) ?_
 rintro _ _ ⟨rfl,rfl⟩
 exact C6
instance bA5:Wk 270:=⟨_,@pU⟩
theorem Ys {c r} (G:Kc c=some r):Fn Tryz.prog 269 0 [.agg (Ab.dv c)] [] (fun d' b'=>d'=.tup [.sl 1 (Ac e8 r.1),vk r.2]/\b'=[]):=by
 unfold Kc at G
 refine Ea 0 12 Tryz.func269 fun _ _ _=>?_
 exact C6
instance aXj:Wk 269:=⟨_,@Ys⟩
theorem T7 {b r} (G:Ez b=some r):Fn Tryz.prog 243 0 [.sl 1 (Ac e8 b)] [] (fun d' b'=>d'=vk r/\b'=[]):=by
 unfold Ez at G
 refine Ea 0 20 Tryz.func243 fun _ _ _=>?_
 refine Cb 5 fun B G=>?_
 refine Ip (fun ((s_1,x8_1):Int×Int)=>mk [(3,.val (.int .u32 s_1)),(6,.sl 1 (Ac e8 b)),(7,.val (.int .i64 (b.length:Int))),(8,vk x8_1)] [] 0) G (B5 []) ?_
 rintro⟨s_1,x8_1⟩ m1 o1 G hn1
 unfold Ez.l1 at G
 exact Ik
instance aY2:Wk 243:=⟨_,@T7⟩
theorem Xf {c key r} (G:Jo c key=some r):Fn Tryz.prog 240 0 [.agg (Ab.dv c),vk key] [] (fun d' b'=>d'=.val (.bool r)/\b'=[]):=by
 unfold Jo at G
 refine Ea 0 23 Tryz.func240 fun _ _ _=>?_
 refine Cb 3 fun _ _ B G=>?_
 refine Ar <| Ca (E4 _ _ []) (by kernel_rfl) [0,1,3,7,15,7,7,71,231,511,1023,2047] 72 168 B rfl rfl (by kernel_rfl) ?_
 refine Qg (.r 0 (.e 1)) fun h3 y_2 _ B G=>?_
 refine Ox kR aDs aHv ?_
 refine Ex (Mq rfl rfl h3) rfl (tB c.Seal (E9.mk key y_2)) rfl rfl ?_
 exact C6
instance aYs:Wk 240:=⟨_,@Xf⟩
theorem lN {l e r} (G:Ew l e=some r):Fn Tryz.prog 219 0 [.sl 15 (Ac Ab.enc l),vk e] [] (fun d' b'=>d'=.val (.bool r)/\b'=[]):=by
 unfold Ew at G
 refine Ea 0 51 Tryz.func219 fun _ _ _=>?_
 refine Cb 4 fun B G=>?_
 refine Ip (fun (x9_1:Int)=>mk [(0,.sl 15 (Ac Ab.enc l)),(1,vk e),(8,.val (.int .i64 (l.length:Int))),(9,vk x9_1)] [] 0) G (B5 []) ?_
 rintro x9_1 m1 o1 G hn1
 unfold Ew.l1 at G
 refine E6 (.r 2 (.e 5)) fun _ B G=>?_
 refine Ba (ι:=Bool) (fun (wrong_2:Bool)=>mk [(0,.sl 15 (Ac Ab.enc l)),(1,vk e),(6,.val (.bool wrong_2)),(8,.val (.int .i64 (l.length:Int))),(9,vk x9_1)] [] 0) (fun (wrong_2:Bool)=>Ew.j2 x9_1 wrong_2=some o1) ?_ ?_
 refine Cb 3 fun B G=>?_
 refine Ji rfl G (fun _ G=>?_) fun _ G=>?_
 refine Ca (E4 _ _ []) (by kernel_rfl) [0,1,0,4,15,31,63,63,255,511,1023,63,63,4159,14399,30783,63551,131071,262143,524287] 56 216 B rfl rfl (by kernel_rfl) ?_
 exact C6
 refine Qg (.l 1 (.e 0)) fun _ B G=>?_
 refine Ca (E4 _ _ []) (by kernel_rfl) [0,0,3,7,0,0,48,127,255,511] 72 152 B rfl rfl (by kernel_rfl) ?_
 exact C6
 rintro wrong_2 G
 unfold Ew.j2 at G
 exact Ik
instance aYb:Wk 219:=⟨_,@lN⟩
theorem lP {l anchors hashes day name r} (G:Db l anchors hashes day name=some r):Fn Tryz.prog 175 0 [.sl 15 (Ac Ab.enc l),.sl 1 (Ac eI anchors),.sl 1 (Ac eI hashes),vk day,ws name] [] (fun d' b'=>d'=vk r/\b'=[]):=by
 unfold Db at G
 refine Ea 0 63 Tryz.func175 fun _ _ _=>?_
 refine Qg (.l 4 (.l 1 (.e 1))) fun _ _ B G=>?_
 obtain⟨y,hy,G⟩:=Af G
 refine P9 (@K5 l (fun x0=>Og x0) (fun x0 yy hh=>@Uw x0 yy hh) _ hy) ?_
 refine Qg (.l 0 (.l 5 (.e 3))) fun _ _ _ _ _ _ B G=>?_
 refine Ex rfl rfl (.buildArr (sz:=1) (r:=[.val (.int .i64 13),.val (.int .i64 7)]) tX (by kernel_rfl) aQ4 (by kernel_rfl) rfl) rfl rfl ?_
 refine Cb 1 fun B G=>?_
 refine Ip (fun (x35_1:Int)=>mk [(0,.sl 15 (Ac Ab.enc l)),(1,.sl 1 (Ac eI anchors)),(7,.elt (([.sl 1 (Ac eI hashes)]:List C).drop 0)),(8,.elt (([.int .i64 day]:List C).drop 0)),(34,.agg [.val (.int .i64 13),.val (.int .i64 7)]),(35,vk x35_1)] [] 0) G ((by exact Rs.lists [] rfl rfl ⟨⟨_,rfl,.sl _ _⟩,⟨_,rfl,.sl _ _⟩,⟨_,rfl,.frzb (ks:=[some 1]) rfl (.cons .sl .nil) (H3 rfl)⟩,⟨_,rfl,.frzb (ks:=[none]) rfl (.cons .int .nil) (H3 rfl)⟩,⟨_,rfl,.agg (.cons (.val _) (.cons (.val _) .nil))⟩,⟨_,rfl,.val _⟩,trivial⟩ trivial)) ?_
 rintro x35_1 m1 o1 G hn1
 unfold Db.l1 at G
 refine Q4 2 fun B G=>?_
 refine Ji rfl G (fun _ G=>?_) fun _ G=>?_
 refine Cb 4 fun B G=>?_
 obtain⟨e_2,he_2,G⟩:=Af G
 refine Ex rfl rfl (.indexA tX aDg (L0 he_2) rfl (yJ (Cf he_2))) rfl rfl ?_
 refine Cb 0 fun B G=>?_
 refine Ar <| Gs (σ':=mk [(0,.sl 15 (Ac Ab.enc l)),(1,.sl 1 (Ac eI anchors)),(7,.elt (([.sl 1 (Ac eI hashes)]:List C).drop 0)),(8,.elt (([.int .i64 day]:List C).drop 0)),(12,.elt (([.int .i64 e_2]:List C).drop 0)),(34,.agg [.val (.int .i64 13),.val (.int .i64 7)]),(35,vk x35_1)] [] 0) ((by exact Rs.lists [] rfl rfl ⟨⟨_,rfl,.sl _ _⟩,⟨_,rfl,.sl _ _⟩,⟨_,rfl,.elt _⟩,⟨_,rfl,.elt _⟩,⟨_,rfl,.frzb (ks:=[none]) rfl (.cons .int .nil) (H3 rfl)⟩,⟨_,rfl,.agg (.cons (.val _) (.cons (.val _) .nil))⟩,⟨_,rfl,.val _⟩,trivial⟩ trivial)) ?_
 refine Cb 1 fun B G=>?_
 obtain⟨y_3,hy_3,G⟩:=Af G
 refine P9 (@H4 l (fun x0=>Om x0 hashes day e_2) hashes day e_2 (fun x0 yy hh=>@Vb x0 hashes day e_2 yy hh) _ hy_3) ?_
 refine Qg (.r 0 (.e 1)) fun _ B G=>?_
 refine Ex rfl rfl (Eb aDg (c:=.int .i64 e_2) rfl) rfl rfl ?_
 exact C6
 refine Cb 3 fun B G=>?_
 refine Ex rfl rfl (.buildArr (sz:=1) (r:=[.val (.int .i64 11),.val (.int .i64 15),.val (.int .i64 10)]) vR (by kernel_rfl) aTd (by kernel_rfl) rfl) rfl rfl ?_
 refine Cb 1 fun B G=>?_
 refine Ip (fun (x44_3:Int)=>mk [(0,.sl 15 (Ac Ab.enc l)),(1,.sl 1 (Ac eI anchors)),(43,.agg [.val (.int .i64 11),.val (.int .i64 15),.val (.int .i64 10)]),(44,vk x44_3)] [] 0) G (B5 []) ?_
 rintro x44_3 m3 o3 G hn3
 unfold Db.l3 at G
 refine E6 (.r 2 (.e 4)) fun _ B G=>?_
 obtain⟨e_3,he_3,G⟩:=Af G
 refine Ex rfl rfl (.indexA vR aDg (L0 he_3) rfl (yJ (Cf he_3))) rfl rfl ?_
 exact C6
instance aXz:Wk 175:=⟨_,@lP⟩
theorem Pa {t r} (G:Lm t=some r):Fn Tryz.prog 170 0 [.agg (Cw.dv t)] [] (fun d' b'=>d'=.sl 1 (Ac eI r)/\b'=[]):=by
 unfold Lm at G
 refine Ea 0 5 Tryz.func170 fun _ _ _=>?_
 exact C6
instance bAx:Wk 170:=⟨_,@Pa⟩
theorem eD {client server day most suites r} (G:Di client server day most suites=some r):Fn Tryz.prog 120 0 [.agg (Ad.dv client),.agg (Ad.dv server),vk day,vk most,.sl 1 (Ac eI suites)] [] (fun d' b'=>d'=.tup [.agg [vk r.1.Version,vk r.1.Suite],vk r.2]/\b'=[]):=by
 unfold Di at G
 refine Ea 0 107 Tryz.func120 fun _ _ _=>?_
 refine Cb 5 fun _ _ B G=>?_
 refine Ji rfl G (fun _ G=>?_) fun _ G=>?_
 refine Cb 1 fun B G=>?_
 refine Ex rfl rfl (.build (r:=[.val (.int .i64 0),.val (.int .i64 0)]) R9 Y4 kV (by kernel_rfl) rfl) rfl rfl ?_
 exact C6
 refine Ba (ι:=Bool) (fun (x24_1:Bool)=>mk [(2,vk day),(3,vk most),(4,.sl 1 (Ac eI suites)),(5,.ptr 0 0),(6,.ptr 1 0),(10,.ptr 2 0),(24,.val (.bool x24_1))] [(0,.box (Ad.dv client) 83),(1,.box (Ad.dv server) 83),(2,.box [.val (.int .i64 0),.val (.int .i64 0)] 181)] 3) (fun (x24_1:Bool)=>Di.j1 client server day most suites x24_1=some r) ?_ ?_
 exact C6
 rintro x24_1 G
 unfold Di.j1 at G
 try dsimp only at G
 refine X5 rfl ?_
 refine Ji rfl G (fun _ G=>?_) fun _ G=>?_
 refine Cb 1 fun B G=>?_
 refine Ex rfl rfl (.build (r:=[.val (.int .i64 0),.val (.int .i64 0)]) R9 Y4 kV (by kernel_rfl) rfl) rfl rfl ?_
 exact C6
 refine Cb 3 fun B G=>?_
 refine Ex rfl rfl (.build (r:=[ws server.Name,vk server.Least,vk server.Most,.sl 1 (Ac eI server.Suites),.val (.bool server.OwnOrder),.sl 4 (Ac Av.enc server.Identities),.sl 1 (Ac eI server.Anchors),.sl 1 (Ac eI server.Hashes),.val (.bool server.Fallback),.val (.int .i64 (min most server.Most)),.sl 1 (Ac eI suites)]) qC aRo aQ6 (by kernel_rfl) rfl) rfl rfl ?_
 refine Cb 0 fun B G=>?_
 refine Ar <| Ba (ι:=Bool) (fun (x58_2:Bool)=>mk [(2,vk day),(5,.ptr 0 0),(6,.ptr 1 0),(10,.ptr 2 0),(12,.ptr 3 0),(58,.val (.bool x58_2))] [(0,.box (Ad.dv client) 83),(1,.box (Ad.dv server) 83),(2,.box [.val (.int .i64 0),.val (.int .i64 0)] 181),(3,.box [ws server.Name,vk server.Least,vk server.Most,.sl 1 (Ac eI server.Suites),.val (.bool server.OwnOrder),.sl 4 (Ac Av.enc server.Identities),.sl 1 (Ac eI server.Anchors),.sl 1 (Ac eI server.Hashes),.val (.bool server.Fallback),.val (.int .i64 (min most server.Most)),.sl 1 (Ac eI suites)] 290)] 4) (fun (x58_2:Bool)=>Di.j2 client server day most suites x58_2=some r) ?_ ?_
 exact C6
 rintro x58_2 G
 unfold Di.j2 at G
 try dsimp only at G
 refine X5 rfl ?_
 refine Ji rfl G (fun _ G=>?_) fun _ G=>?_
 refine Cb 1 fun B G=>?_
 refine Ex rfl rfl (.build (r:=[.val (.int .i64 0),.val (.int .i64 0)]) R9 Y4 kV (by kernel_rfl) rfl) rfl rfl ?_
 exact C6
 refine Cb 4 fun B G=>?_
 refine Ji rfl G (fun _ G=>?_) fun _ G=>?_
 refine Cb 2 fun B G=>?_
 obtain⟨y_2,hy_2,G⟩:=Af G
 refine F5 (rd:=[]) (ps:=[]) (gs:=[]) false rfl rfl (Px hy_2) rfl rfl (.cons (.agg (.cons .val (.cons .val (.cons .val (.cons .sl (.cons .val (.cons .sl (.cons .sl (.cons .sl (.cons .val (.cons .val (.cons .sl .nil)))))))))))) .nil) rfl rfl (by intro h; cases h) rfl rfl rfl rfl ?_
 refine Cb 1 fun B G=>?_
 obtain⟨y_3,hy_3,G⟩:=Af G
 refine P9 (@I9 y_2 (fun x0=>Bx (Cw.mk server (min most server.Most) suites) x0) (Cw.mk server (min most server.Most) suites) (fun x0 yy hh=>@K6 (Cw.mk server (min most server.Most) suites) x0 yy hh) _ hy_3) ?_
 refine Cb 2 fun B G=>?_
 refine Ji rfl G (fun _ G=>?_) fun _ G=>?_
 refine Cb 1 fun B G=>?_
 refine Ex rfl rfl (.build (r:=[.val (.int .i64 0),.val (.int .i64 0)]) R9 Y4 kV (by kernel_rfl) rfl) rfl rfl ?_
 exact C6
 refine Cb 1 fun B G=>?_
 refine Ar <| Ca (E4 _ _ []) (by kernel_rfl) [0,0,0,6,14,31,63,127,127,255,1023] 148 236 B rfl rfl (by kernel_rfl) ?_
 refine Cb 3 fun e he _ _ B G=>?_
 refine Ar <| Ar <| Ca (E4 _ _ []) (by kernel_rfl) [0,1,0,7,15,31,0,64,0,256,0,0,2048,8191,16383] 236 356 B rfl rfl (by kernel_rfl) ?_
 refine Cb 4 fun _ _ _ _ B G=>?_
 refine Ji rfl G (fun _ G=>?_) fun _ G=>?_
 refine Cb 1 fun B G=>?_
 refine Ex rfl rfl (.build (r:=[.val (.int .i64 0),.val (.int .i64 0)]) R9 Y4 kV (by kernel_rfl) rfl) rfl rfl ?_
 exact C6
 refine Cb 1 fun B G=>?_
 refine Ar <| Ca (E4 _ _ []) (by kernel_rfl) [0,1,0,0,12,28,63,127,255] 356 428 B rfl rfl (by kernel_rfl) ?_
 refine Cb 1 fun B G=>?_
 refine Ex rfl rfl (.build (r:=[.val (.int .i64 (min most server.Most)),vk e]) R9 Y4 kV (by kernel_rfl) rfl) rfl rfl ?_
 exact C6
 refine Cb 2 fun B G=>?_
 obtain⟨y_6,hy_6,G⟩:=Af G
 refine F5 (rd:=[]) (ps:=[]) (gs:=[]) false rfl rfl (Pa hy_6) rfl rfl (.cons (.agg (.cons .val (.cons .val (.cons .val (.cons .sl (.cons .val (.cons .sl (.cons .sl (.cons .sl (.cons .val (.cons .val (.cons .sl .nil)))))))))))) .nil) rfl rfl (by intro h; cases h) rfl rfl rfl rfl ?_
 refine Cb 1 fun B G=>?_
 obtain⟨y_7,hy_7,G⟩:=Af G
 refine P9 (@I9 y_6 (fun x0=>Bx (Cw.mk server (min most server.Most) suites) x0) (Cw.mk server (min most server.Most) suites) (fun x0 yy hh=>@K6 (Cw.mk server (min most server.Most) suites) x0 yy hh) _ hy_7) ?_
 refine Cb 2 fun B G=>?_
 refine Ji rfl G (fun _ G=>?_) fun _ G=>?_
 refine Cb 1 fun B G=>?_
 refine Ex rfl rfl (.build (r:=[.val (.int .i64 0),.val (.int .i64 0)]) R9 Y4 kV (by kernel_rfl) rfl) rfl rfl ?_
 exact C6
 refine Cb 1 fun B G=>?_
 refine Ar <| Ca (E4 _ _ []) (by kernel_rfl) [0,0,0,6,14,31,63,127,127,255,1023] 124 212 B rfl rfl (by kernel_rfl) ?_
 refine Cb 3 fun e_3 he_3 _ _ B G=>?_
 refine Ar <| Ar <| Ca (E4 _ _ []) (by kernel_rfl) [0,1,0,7,15,31,0,64,0,256,0,0,2048,8191,16383] 212 332 B rfl rfl (by kernel_rfl) ?_
 refine Cb 4 fun _ _ _ _ B G=>?_
 refine Ji rfl G (fun _ G=>?_) fun _ G=>?_
 refine Cb 1 fun B G=>?_
 refine Ex rfl rfl (.build (r:=[.val (.int .i64 0),.val (.int .i64 0)]) R9 Y4 kV (by kernel_rfl) rfl) rfl rfl ?_
 exact C6
 refine Cb 1 fun B G=>?_
 refine Ar <| Ca (E4 _ _ []) (by kernel_rfl) [0,1,0,0,12,28,63,127,255] 332 404 B rfl rfl (by kernel_rfl) ?_
 refine Cb 1 fun B G=>?_
 refine Ex rfl rfl (.build (r:=[.val (.int .i64 (min most server.Most)),vk e_3]) R9 Y4 kV (by kernel_rfl) rfl) rfl rfl ?_
 exact C6
instance bA0:Wk 120:=⟨_,@eD⟩
theorem Z2 {client server day r} (G:Kt client server day=some r):Fn Tryz.prog 74 0 [.agg (Ad.dv client),.agg (Ad.dv server),vk day] [] (fun d' b'=>d'=.tup [.agg [vk r.1.Version,vk r.1.Suite],vk r.2]/\b'=[]):=by
 unfold Kt at G
 refine Ea 0 23 Tryz.func74 fun _ _ _=>?_
 refine Qg (.r 4 (.e 1)) fun _ _ _ B G=>?_
 refine Ox R9 Y4 kV ?_
 exact C6
instance bBr:Wk 74:=⟨_,@Z2⟩
theorem Ou {more r} (G:Hu more=some r):Fn Tryz.prog 38 0 [.val (.slice none 0 0),.sl 3 (Ac Ay.enc more)] [] (fun d' b'=>d'=.row 0/\b'=[.row 64 3 (Ac Ay.enc r)]):=by
 unfold Hu at G
 refine Ea 0 8 Tryz.func38 fun _ _ _=>?_
 exact C6
theorem dG {server o r} (G:Gj server o=some r):Fn Tryz.prog 121 0 [.agg (Ad.dv server),.agg [vk o.Version,vk o.Suite]] [] (fun d' b'=>d'=.tup [.sl 2 (Ac Ah.enc r.1),vk r.2]/\b'=[]):=by
 unfold Gj at G
 refine Ea 0 57 Tryz.func121 fun _ _ _=>?_
 refine Qg (.l 5 (.l 5 (.l 5 (.e 5)))) fun _ _ _ y_2 _ _ _ _ _ e _ B G=>?_
 refine Ba (ι:=Int) (fun (s_1:Int)=>mk [(7,.ptr 0 0),(11,.ptr 1 0)] [(0,.box [vk y_2.1.Code,ws y_2.1.Name,vk y_2.1.Exchange.Alg,vk s_1,vk y_2.1.Sign.Alg,vk y_2.1.Sign.Bits,vk y_2.1.Cipher.Alg,vk y_2.1.Cipher.Bits,vk y_2.1.Mac.Alg,vk y_2.1.Mac.Bits,vk y_2.1.Least,vk y_2.1.Most] 201),(1,.box [vk e.Key.Alg,vk e.Key.Bits] 49)] 2) (fun (s_1:Int)=>Gj.j1 y_2 e s_1=some r) ?_ ?_
 exact C6
 rintro s_1 G
 unfold Gj.j1 at G
 refine Q4 1 fun B G=>?_
 refine Kv aJb tL aNx ([(Ah.mk y_2.1.Exchange.Alg s_1),e.Key,y_2.1.Cipher,y_2.1.Mac]:List Ah) Ah.enc ?_
 exact C6
instance bAd:Wk 121:=⟨_,@dG⟩
end Go.Proofs.YtboglmbblmakjaaGreatDoor
