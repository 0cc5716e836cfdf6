import Derived.Test.YtboglmbblmakjaaGreatDoorT1
import Derived.Test.YtboglmbblmakjaaGreatDoorEU
import Derived.Test.YtboglmbblmakjaaGreatDoorA2
set_option linter.unusedVariables false
set_option linter.unusedSimpArgs false
set_option maxRecDepth 100000
set_option maxHeartbeats 40000000
namespace Go.Proofs.YtboglmbblmakjaaGreatDoor
open Go.RowKit
theorem L8 {s:(List Aw)} {f:Aw->Option (Bool)} {f_c0:Int} (hf_f:∀ (x0:Aw) (y:Bool),f x0=some y->Fn Tryz.prog 95 0 [.agg (Aw.dv x0),.elt (([.int .i64 f_c0]:List C).drop 0)] [] (fun d' b'=>d'=.val (.bool y)/\b'=[])) {r:Int} (G:Be s f=some r):Fn Tryz.prog 94 0 [.sl 3 (Ac Aw.enc s),.clo 95 0 [.elt (([.int .i64 f_c0]:List C).drop 0)]] [] (fun d' b'=>d'=vk r/\b'=[]):=by
 unfold Be at G
 refine Ea 0 19 Tryz.func94 fun _ _ _=>?_
 refine Cb 4 fun B G=>?_
 refine Ip (fun (x8_1:Int)=>mk [(0,.sl 3 (Ac Aw.enc s)),(1,.clo 95 0 [.elt (([.int .i64 f_c0]:List C).drop 0)]),(7,.val (.int .i64 (s.length:Int))),(8,vk x8_1)] [] 0) G (B5 []) ?_
 rintro x8_1 m1 o1 G hn1
 unfold Be.l1 at G
 refine E6 (.r 2 (.e 7)) fun _ e _ B G=>?_
 obtain⟨y,hy,G⟩:=Af G
 refine F5 (rd:=[]) (ps:=[]) (gs:=[]) false rfl rfl (hf_f e _ hy) rfl rfl (.cons (.agg (.cons .val (.cons .val (.cons .sl .nil)))) (.cons .elt .nil)) rfl rfl (by intro h; cases h) rfl rfl rfl rfl ?_
 exact C6
theorem rL {c day r} (G:Ry c day=some r):Fn Tryz.prog 52 0 [.agg (A5.dv c),vk day] [] (fun d' b'=>d'=vk r/\b'=[]):=by
 unfold Ry at G
 refine Ea 0 9 Tryz.func52 fun _ _ _=>?_
 refine Cb 1 fun B G=>?_
 refine Ar <| Gs (σ':=mk [(2,.ptr 0 0),(3,.elt (([.int .i64 day]:List C).drop 0))] [(0,.box (A5.dv c) 77)] 1) ((by exact Rs.lists [(0,0)] rfl rfl ⟨⟨_,rfl,.ptr rfl⟩,⟨_,rfl,.frzb (ks:=[none]) rfl (.cons .int .nil) (H3 rfl)⟩,trivial⟩ ⟨.inl ⟨0,_,rfl,rfl,⟨rfl,.cons (.sl _ _) (.cons (.sl _ _) (.cons (.sl _ _) .nil))⟩⟩,trivial⟩)) ?_
 refine Cb 1 fun B G=>?_
 obtain⟨y,hy,G⟩:=Af G
 refine P9 (@L8 c.Windows (fun x0=>Mf x0 day) day (fun x0 yy hh=>@Xe x0 day yy hh) _ hy) ?_
 exact C6
instance bDh:Wk 52:=⟨_,@rL⟩
theorem rK {c day r} (G:Rw c day=some r):Fn Tryz.prog 16 0 [.agg (A5.dv c),vk day] [] (fun d' b'=>d'=.tup [vk r.1,.val (.bool r.2.1),vk r.2.2]/\b'=[]):=by
 unfold Rw at G
 refine Ea 0 21 Tryz.func16 fun _ _ _=>?_
 exact C6
instance bDk:Wk 16:=⟨_,@rK⟩
theorem lL {s r} (G:Iq s=some r):Fn Tryz.prog 18 0 [ws s] [] (fun d' b'=>d'=vk r/\b'=[]):=by
 unfold Iq at G
 refine Ea 0 20 Tryz.func18 fun _ _ _=>?_
 refine Cb 6 fun B G=>?_
 refine Ip (fun ((h_1,x7_1):Int×Int)=>mk [(0,ws s),(3,.val (.int .u32 h_1)),(6,.val (.int .i64 (s.size:Int))),(7,vk x7_1)] [] 0) G (B5 []) ?_
 rintro⟨h_1,x7_1⟩ m1 o1 G hn1
 unfold Iq.l1 at G
 exact Ik
instance bBy:Wk 18:=⟨_,@lL⟩
theorem rF {e c r} (G:D7 e c=some r):Fn Tryz.prog 19 0 [.agg (Ad.dv e),.agg (Fx.dv c)] [] (fun d' b'=>d'=vk r/\b'=[]):=by
 unfold D7 at G
 refine Ea 0 36 Tryz.func19 fun _ _ _=>?_
 refine Cb 2 fun B G=>?_
 refine Ba (ι:=Bool) (fun (more_3:Bool)=>mk [(5,.val (.bool more_3))] [] 0) (fun (more_3:Bool)=>D7.j3 more_3=some r) ?_ ?_
 refine Cb 2 fun B G=>?_
 refine Ba (ι:=Bool) (fun (x8_1:Bool)=>mk [(2,.ptr 0 0),(3,.ptr 1 0),(5,.val (.bool false)),(7,vk c.Kind),(8,.val (.bool x8_1))] [(0,.box (Ad.dv e) 83),(1,.box (Fx.dv c) 88)] 2) (fun (x8_1:Bool)=>D7.j1 e c x8_1=some r) ?_ ?_
 exact C6
 rintro x8_1 G
 unfold D7.j1 at G
 refine E6 (.l 0 (.l 1 (.e 0))) fun _ _ B G=>?_
 refine Ba (ι:=Bool) (fun (x13_2:Bool)=>mk [(2,.ptr 0 0),(3,.ptr 1 0),(5,.val (.bool false)),(7,vk c.Kind),(13,.val (.bool x13_2))] [(0,.box (Ad.dv e) 83),(1,.box (Fx.dv c) 88)] 2) (fun (x13_2:Bool)=>D7.j2 e c x13_2=some r) ?_ ?_
 exact C6
 rintro x13_2 G
 unfold D7.j2 at G
 exact Ik
 rintro more_3 G
 unfold D7.j3 at G
 exact Ik
instance bBt:Wk 19:=⟨_,@rF⟩
theorem bB {r} (G:Iz=some r):Fn Tryz.prog 5 0 [] [] (fun d' b'=>d'=.val (.bool r)/\b'=[]):=by
 unfold Iz at G
 refine Ea 0 46 Tryz.func5 fun _ _ _=>?_
 refine Cb 1 fun B G=>?_
 refine Ar <| B7 (E4 _ _ [16]) 8 72 B rfl rfl ?_
 refine Ox aCt aVc z71 ?_
 refine wP aTw z71 aV1 ([(Bq.mk 0 1)]:List Bq) Bq.enc ?_
 refine Qg (.r 5 (.r 0 (.r 0 (.r 0 (.r 0 (.r 1 (.e 0))))))) fun _ _ _ _ _ _ _ _ _ _ _ _ _ _ B G=>?_
 refine Ox W9 aRa z83 ?_
 refine Ox aB8 aWe z88 ?_
 exact C6
instance wk5:Wk 5:=⟨_,@bB⟩
theorem eG {l r} (G:Ue l=some r):Fn Tryz.prog 6 0 [.sl 1 (Ac eI l)] [] (fun d' b'=>d'=.ptr 0 0/\b'=[.box [.sl 1 (Ac eI r.L),vk r.At] 90]):=by
 unfold Ue at G
 refine Ea 0 6 Tryz.func6 fun _ _ _=>?_
 refine Cb 2 fun B G=>?_
 refine Ox aDx aVv z90 ?_
 exact C6
instance wk6:Wk 6:=⟨_,@eG⟩
theorem uF {n k r} (G:Tt n k=some r):Fn Tryz.prog 53 0 [vk n,vk k] [] (fun d' b'=>d'=vk r/\b'=[]):=by
 unfold Tt at G
 refine Ea 0 14 Tryz.func53 fun _ _ _=>?_
 exact C6
instance bB4:Wk 53:=⟨_,@uF⟩
theorem L6 {d n r} (G:Et d n=some r):Fn Tryz.prog 20 1 [.ptr 0 0,vk n] [.box [.sl 1 (Ac eI d.L),vk d.At] 90] (fun d' b'=>d'=vk r.1/\b'=[.box [.sl 1 (Ac eI r.2.L),vk r.2.At] 90]):=by
 unfold Et at G
 refine Ea 1 35 Tryz.func20 fun _ _ _=>?_
 refine Cb 1 fun B G=>?_
 refine Ar <| Ar <| Ca (E4 _ _ []) (by kernel_rfl) [0,1,3,7,0,16,48,112,240,511] 9 89 B rfl rfl (by kernel_rfl) ?_
 refine Qg (.l 0 (.e 2)) fun _ B G=>?_
 refine Ar <| Ca (E4 _ _ []) (by kernel_rfl) [0,1,3,7,0,16,48,112,240,511,1023,0,4095,8191] 153 265 B rfl rfl (by kernel_rfl) ?_
 exact C6
instance bCt:Wk 20:=⟨_,@L6⟩
theorem X0 {d l r} (G:Ir d l=some r):Fn Tryz.prog 8 1 [.ptr 0 0,.sl 1 (Ac eI l)] [.box [.sl 1 (Ac eI d.L),vk d.At] 90] (fun d' b'=>d'=vk r.1/\b'=[.box [.sl 1 (Ac eI r.2.L),vk r.2.At] 90]):=by
 unfold Ir at G
 refine Ea 1 12 Tryz.func8 fun _ _ _=>?_
 exact C6
instance wk8:Wk 8:=⟨_,@X0⟩
theorem Sd {d n r} (G:La d n=some r):Fn Tryz.prog 21 1 [.ptr 0 0,vk n] [.box [.sl 1 (Ac eI d.L),vk d.At] 90] (fun d' b'=>d'=.val (.bool r.1)/\b'=[.box [.sl 1 (Ac eI r.2.L),vk r.2.At] 90]):=by
 unfold La at G
 refine Ea 1 11 Tryz.func21 fun _ _ _=>?_
 exact C6
instance bCj:Wk 21:=⟨_,@Sd⟩
theorem iS {r} (G:V2=some r):Fn Tryz.prog 23 0 [] [] (fun d' b'=>d'=.agg [vk r.Alg,vk r.Bits]/\b'=[]):=by
 unfold V2 at G
 refine Ea 0 2 Tryz.func23 fun _ _ _=>?_
 refine Cb 2 fun B G=>?_
 refine Ox T3 fW tL ?_
 exact C6
instance bDj:Wk 23:=⟨_,@iS⟩
theorem oV {c r} (G:Qo c=some r):Fn Tryz.prog 96 0 [.agg (Ab.dv c)] [] (fun d' b'=>d'=.agg (Ab.dv r)/\b'=[]):=by
 unfold Qo at G
 refine Ea 0 9 Tryz.func96 fun _ _ _=>?_
 refine Cb 2 fun B G=>?_
 refine Ex rfl rfl (Fm eE z9 (by decide) rfl rfl rfl rfl ck9 (cs:=[]) .nil rfl (l:=([]:List ByteArray)) (f:=eS) rfl) rfl rfl ?_
 exact C6
instance bBd:Wk 96:=⟨_,@oV⟩
theorem oK {s r} (G:Dx s=some r):Fn Tryz.prog 154 0 [ws s] [] (fun d' b'=>d'=.val (.bool r)/\b'=[]):=by
 unfold Dx at G
 refine Ea 0 28 Tryz.func154 fun _ _ _=>?_
 refine Cb 1 fun B G=>?_
 refine Ar <| Ba (ι:=Bool) (fun (x11_1:Bool)=>mk [(0,ws s),(11,.val (.bool x11_1))] [] 0) (fun (x11_1:Bool)=>Dx.j1 s x11_1=some r) ?_ ?_
 exact C6
 rintro x11_1 G
 unfold Dx.j1 at G
 refine E6 (.l 0 (.e 4)) fun _ B G=>?_
 refine Ip (fun (i_2:Int)=>mk [(0,ws s),(3,vk i_2)] [] 0) G (B5 []) ?_
 rintro i_2 m2 o2 G hn2
 unfold Dx.l2 at G
 refine E6 (.r 3 (.e 3)) fun _ B G=>?_
 refine Ba (ι:=Bool) (fun (x27_3:Bool)=>mk [(0,ws s),(3,vk i_2),(27,.val (.bool x27_3))] [] 0) (fun (x27_3:Bool)=>Dx.j3 i_2 x27_3=some o2) ?_ ?_
 exact C6
 rintro x27_3 G
 unfold Dx.j3 at G
 exact Ik
instance bAl:Wk 154:=⟨_,@oK⟩
theorem fZ {b r} (G:Fk b=some r):Fn Tryz.prog 230 0 [vk b] [] (fun d' b'=>d'=vk r/\b'=[]):=by
 unfold Fk at G
 refine Ea 0 25 Tryz.func230 fun _ _ _=>?_
 refine Cb 3 fun B G=>?_
 refine Ba (ι:=Bool) (fun (x3_1:Bool)=>mk [(0,vk b),(3,.val (.bool x3_1))] [] 0) (fun (x3_1:Bool)=>Fk.j1 b x3_1=some r) ?_ ?_
 exact C6
 rintro x3_1 G
 unfold Fk.j1 at G
 exact Ik
instance aZ7:Wk 230:=⟨_,@fZ⟩
theorem Lq {b sizes strengths r} (G:C3 b sizes strengths=some r):Fn Tryz.prog 231 0 [vk b,.sl 1 (Ac eI sizes),.sl 1 (Ac eI strengths)] [] (fun d' b'=>d'=vk r/\b'=[]):=by
 unfold C3 at G
 refine Ea 0 24 Tryz.func231 fun _ _ _=>?_
 refine Cb 4 fun B G=>?_
 refine Ip (fun (i_1:Int)=>mk [(0,vk b),(1,.sl 1 (Ac eI sizes)),(2,.sl 1 (Ac eI strengths)),(7,vk i_1)] [] 0) G (B5 []) ?_
 rintro i_1 m1 o1 G hn1
 unfold C3.l1 at G
 exact Ik
instance aYq:Wk 231:=⟨_,@Lq⟩
theorem kD {alg r} (G:E8 alg=some r):Fn Tryz.prog 232 0 [vk alg] [] (fun d' b'=>d'=vk r/\b'=[]):=by
 unfold E8 at G
 refine Ea 0 21 Tryz.func232 fun _ _ _=>?_
 refine Qg (.l 5 (.l 1 (.e 0))) fun _ _ B G=>?_
 refine Ba (ι:=Bool) (fun (x8_1:Bool)=>mk [(3,vk alg),(8,.val (.bool x8_1))] [] 0) (fun (x8_1:Bool)=>E8.j1 alg x8_1=some r) ?_ ?_
 exact C6
 rintro x8_1 G
 unfold E8.j1 at G
 refine E6 (.l 0 (.l 1 (.e 0))) fun _ _ B G=>?_
 refine Ba (ι:=Bool) (fun (x14_2:Bool)=>mk [(3,vk alg),(14,.val (.bool x14_2))] [] 0) (fun (x14_2:Bool)=>E8.j2 alg x14_2=some r) ?_ ?_
 exact C6
 rintro x14_2 G
 unfold E8.j2 at G
 exact Ik
instance bAr:Wk 232:=⟨_,@kD⟩
theorem cF {u r} (G:Au u=some r):Fn Tryz.prog 199 0 [.agg [vk u.Alg,vk u.Bits]] [] (fun d' b'=>d'=vk r/\b'=[]):=by
 unfold Au at G
 refine Ea 0 76 Tryz.func199 fun _ _ _=>?_
 refine Cb 5 fun B G=>?_
 refine Ba (ι:=Bool) (fun (x8_1:Bool)=>mk [(1,.ptr 0 0),(3,vk u.Bits),(7,vk u.Alg),(8,.val (.bool x8_1))] [(0,.box [vk u.Alg,vk u.Bits] 49)] 1) (fun (x8_1:Bool)=>Au.j1 u x8_1=some r) ?_ ?_
 exact C6
 rintro x8_1 G
 unfold Au.j1 at G
 refine E6 (.l 0 (.e 0)) fun _ B G=>?_
 refine Ba (ι:=Bool) (fun (x15_2:Bool)=>mk [(1,.ptr 0 0),(3,vk u.Bits),(7,vk u.Alg),(15,.val (.bool x15_2))] [(0,.box [vk u.Alg,vk u.Bits] 49)] 1) (fun (x15_2:Bool)=>Au.j2 u x15_2=some r) ?_ ?_
 exact C6
 rintro x15_2 G
 unfold Au.j2 at G
 try dsimp only at G
 refine X5 rfl ?_
 refine Ji rfl G (fun _ G=>?_) fun _ G=>?_
 refine Ar <| Ba (ι:=Bool) (fun (x35_3:Bool)=>mk [(3,vk u.Bits),(35,.val (.bool x35_3))] [] 0) (fun (x35_3:Bool)=>Au.j3 u x35_3=some r) ?_ ?_
 exact C6
 rintro x35_3 G
 unfold Au.j3 at G
 exact Ik
 refine Cb 1 fun B G=>?_
 refine Ji rfl G (fun _ G=>?_) fun _ G=>?_
 refine Cb 1 fun B G=>?_
 refine Kv Hz z3 Pp ([44,65,87]:List Int) eI ?_
 refine Kv Hz z3 Pp ([128,192,256]:List Int) eI ?_
 obtain⟨y_2,hy_2,G⟩:=Af G
 refine dO [25,33] [] [] true (Lq hy_2) ?_
 exact C6
 refine Cb 1 fun B G=>?_
 refine Ji rfl G (fun _ G=>?_) fun _ G=>?_
 refine Cb 1 fun B G=>?_
 refine Kv Hz z3 Pp ([512,768,1024]:List Int) eI ?_
 refine Kv Hz z3 Pp ([128,192,256]:List Int) eI ?_
 obtain⟨y_3,hy_3,G⟩:=Af G
 refine dO [41,49] [] [] true (Lq hy_3) ?_
 exact C6
 refine Cb 1 fun B G=>?_
 refine Ji rfl G (fun _ G=>?_) fun _ G=>?_
 refine Cb 1 fun B G=>?_
 refine Kv Hz z3 Pp ([40,128]:List Int) eI ?_
 refine Kv Hz z3 Pp ([40,60]:List Int) eI ?_
 obtain⟨y_4,hy_4,G⟩:=Af G
 refine dO [57,65] [] [] true (Lq hy_4) ?_
 exact C6
 refine Cb 1 fun B G=>?_
 refine Ji rfl G (fun _ G=>?_) fun _ G=>?_
 refine Cb 1 fun B G=>?_
 refine Kv Hz z3 Pp ([112,168]:List Int) eI ?_
 refine Kv Hz z3 Pp ([80,112]:List Int) eI ?_
 obtain⟨y_5,hy_5,G⟩:=Af G
 refine dO [73,81] [] [] true (Lq hy_5) ?_
 exact C6
 refine Ba (ι:=Bool) (fun (x62_4:Bool)=>mk [(1,.ptr 0 0),(3,vk u.Bits),(62,.val (.bool x62_4))] [(0,.box [vk u.Alg,vk u.Bits] 49)] 1) (fun (x62_4:Bool)=>Au.j4 u x62_4=some r) ?_ ?_
 exact C6
 rintro x62_4 G
 unfold Au.j4 at G
 try dsimp only at G
 refine X5 rfl ?_
 refine Ji rfl G (fun _ G=>?_) fun _ G=>?_
 refine Cb 1 fun B G=>?_
 refine Kv Hz z3 Pp ([128,256]:List Int) eI ?_
 refine Kv Hz z3 Pp ([128,256]:List Int) eI ?_
 obtain⟨y_6,hy_6,G⟩:=Af G
 refine dO [9,17] [] [] true (Lq hy_6) ?_
 exact C6
 refine Cb 2 fun B G=>?_
 refine Kv Hz z3 Pp ([0]:List Int) eI ?_
 refine Cb 1 fun y_7 _ B G=>?_
 refine Kv Hz z3 Pp ([y_7]:List Int) eI ?_
 obtain⟨y_8,hy_8,G⟩:=Af G
 refine dO [9,41] [] [] true (Lq hy_8) ?_
 exact C6
instance aXe:Wk 199:=⟨_,@cF⟩
theorem lS {u r} (G:Ni u=some r):Fn Tryz.prog 156 0 [.agg [vk u.Alg,vk u.Bits]] [] (fun d' b'=>d'=.val (.bool r)/\b'=[]):=by
 unfold Ni at G
 refine Ea 0 6 Tryz.func156 fun _ _ _=>?_
 exact C6
instance bAy:Wk 156:=⟨_,@lS⟩
theorem nP {r} (G:V5=some r):Fn Tryz.prog 200 0 [] [] (fun d' b'=>d'=.sl 2 (Ac Ao.enc r)/\b'=[]):=by
 unfold V5 at G
 refine Ea 0 25 Tryz.func200 fun _ _ _=>?_
 refine Cb 2 fun B G=>?_
 refine Ex rfl rfl (.build (r:=[.val (.string (⟨#[]⟩:ByteArray)),.val (.int .i64 0)]) Ke Ob Se (by kernel_rfl) rfl) rfl rfl ?_
 refine Ex rfl rfl (.build (r:=[.val (.string (⟨#[109,100,53]⟩:ByteArray)),.val (.int .i64 1)]) Ke Ob Se (by kernel_rfl) rfl) rfl rfl ?_
 refine Ex rfl rfl (.build (r:=[.val (.string (⟨#[115,104,97,49]⟩:ByteArray)),.val (.int .i64 1)]) Ke Ob Se (by kernel_rfl) rfl) rfl rfl ?_
 refine Ex rfl rfl (.build (r:=[.val (.string (⟨#[115,104,97,50,53,54]⟩:ByteArray)),.val (.int .i64 1)]) Ke Ob Se (by kernel_rfl) rfl) rfl rfl ?_
 refine Ex rfl rfl (.build (r:=[.val (.string (⟨#[115,104,97,51,56,52]⟩:ByteArray)),.val (.int .i64 1)]) Ke Ob Se (by kernel_rfl) rfl) rfl rfl ?_
 refine Ex rfl rfl (.build (r:=[.val (.string (⟨#[114,115,97]⟩:ByteArray)),.val (.int .i64 2)]) Ke Ob Se (by kernel_rfl) rfl) rfl rfl ?_
 refine Ex rfl rfl (.build (r:=[.val (.string (⟨#[100,115,97]⟩:ByteArray)),.val (.int .i64 2)]) Ke Ob Se (by kernel_rfl) rfl) rfl rfl ?_
 refine Ex rfl rfl (.build (r:=[.val (.string (⟨#[101,99,100,115,97]⟩:ByteArray)),.val (.int .i64 2)]) Ke Ob Se (by kernel_rfl) rfl) rfl rfl ?_
 refine Ex rfl rfl (.build (r:=[.val (.string (⟨#[101,100,50,53,53,49,57]⟩:ByteArray)),.val (.int .i64 2)]) Ke Ob Se (by kernel_rfl) rfl) rfl rfl ?_
 refine Ex rfl rfl (.build (r:=[.val (.string (⟨#[109,108,100,115,97]⟩:ByteArray)),.val (.int .i64 2)]) Ke Ob Se (by kernel_rfl) rfl) rfl rfl ?_
 refine Ex rfl rfl (.build (r:=[.val (.string (⟨#[114,115,97,107,120]⟩:ByteArray)),.val (.int .i64 3)]) Ke Ob Se (by kernel_rfl) rfl) rfl rfl ?_
 refine Ex rfl rfl (.build (r:=[.val (.string (⟨#[100,104,101]⟩:ByteArray)),.val (.int .i64 3)]) Ke Ob Se (by kernel_rfl) rfl) rfl rfl ?_
 refine Ex rfl rfl (.build (r:=[.val (.string (⟨#[101,99,100,104,101]⟩:ByteArray)),.val (.int .i64 3)]) Ke Ob Se (by kernel_rfl) rfl) rfl rfl ?_
 refine Ex rfl rfl (.build (r:=[.val (.string (⟨#[109,108,107,101,109]⟩:ByteArray)),.val (.int .i64 3)]) Ke Ob Se (by kernel_rfl) rfl) rfl rfl ?_
 refine Ex rfl rfl (.build (r:=[.val (.string (⟨#[114,99,52]⟩:ByteArray)),.val (.int .i64 4)]) Ke Ob Se (by kernel_rfl) rfl) rfl rfl ?_
 refine Ex rfl rfl (.build (r:=[.val (.string (⟨#[100,101,115,51]⟩:ByteArray)),.val (.int .i64 4)]) Ke Ob Se (by kernel_rfl) rfl) rfl rfl ?_
 refine Ex rfl rfl (.build (r:=[.val (.string (⟨#[97,101,115,99,98,99]⟩:ByteArray)),.val (.int .i64 4)]) Ke Ob Se (by kernel_rfl) rfl) rfl rfl ?_
 refine Ex rfl rfl (.build (r:=[.val (.string (⟨#[97,101,115,103,99,109]⟩:ByteArray)),.val (.int .i64 4)]) Ke Ob Se (by kernel_rfl) rfl) rfl rfl ?_
 refine Ex rfl rfl (.build (r:=[.val (.string (⟨#[99,104,97,99,104,97]⟩:ByteArray)),.val (.int .i64 4)]) Ke Ob Se (by kernel_rfl) rfl) rfl rfl ?_
 refine Ex rfl rfl (.build (r:=[.val (.string (⟨#[104,109,97,99,109,100,53]⟩:ByteArray)),.val (.int .i64 5)]) Ke Ob Se (by kernel_rfl) rfl) rfl rfl ?_
 refine Ex rfl rfl (.build (r:=[.val (.string (⟨#[104,109,97,99,115,104,97,49]⟩:ByteArray)),.val (.int .i64 5)]) Ke Ob Se (by kernel_rfl) rfl) rfl rfl ?_
 refine Ex rfl rfl (.build (r:=[.val (.string (⟨#[104,109,97,99,115,104,97,50,53,54]⟩:ByteArray)),.val (.int .i64 5)]) Ke Ob Se (by kernel_rfl) rfl) rfl rfl ?_
 refine Ex rfl rfl (.build (r:=[.val (.string (⟨#[97,101,97,100]⟩:ByteArray)),.val (.int .i64 5)]) Ke Ob Se (by kernel_rfl) rfl) rfl rfl ?_
 refine Kv aLh Se aQv ([(Ao.mk (⟨#[]⟩:ByteArray) 0),(Ao.mk (⟨#[109,100,53]⟩:ByteArray) 1),(Ao.mk (⟨#[115,104,97,49]⟩:ByteArray) 1),(Ao.mk (⟨#[115,104,97,50,53,54]⟩:ByteArray) 1),(Ao.mk (⟨#[115,104,97,51,56,52]⟩:ByteArray) 1),(Ao.mk (⟨#[114,115,97]⟩:ByteArray) 2),(Ao.mk (⟨#[100,115,97]⟩:ByteArray) 2),(Ao.mk (⟨#[101,99,100,115,97]⟩:ByteArray) 2),(Ao.mk (⟨#[101,100,50,53,53,49,57]⟩:ByteArray) 2),(Ao.mk (⟨#[109,108,100,115,97]⟩:ByteArray) 2),(Ao.mk (⟨#[114,115,97,107,120]⟩:ByteArray) 3),(Ao.mk (⟨#[100,104,101]⟩:ByteArray) 3),(Ao.mk (⟨#[101,99,100,104,101]⟩:ByteArray) 3),(Ao.mk (⟨#[109,108,107,101,109]⟩:ByteArray) 3),(Ao.mk (⟨#[114,99,52]⟩:ByteArray) 4),(Ao.mk (⟨#[100,101,115,51]⟩:ByteArray) 4),(Ao.mk (⟨#[97,101,115,99,98,99]⟩:ByteArray) 4),(Ao.mk (⟨#[97,101,115,103,99,109]⟩:ByteArray) 4),(Ao.mk (⟨#[99,104,97,99,104,97]⟩:ByteArray) 4),(Ao.mk (⟨#[104,109,97,99,109,100,53]⟩:ByteArray) 5),(Ao.mk (⟨#[104,109,97,99,115,104,97,49]⟩:ByteArray) 5),(Ao.mk (⟨#[104,109,97,99,115,104,97,50,53,54]⟩:ByteArray) 5),(Ao.mk (⟨#[97,101,97,100]⟩:ByteArray) 5)]:List Ao) Ao.enc ?_
 exact C6
instance bAg:Wk 200:=⟨_,@nP⟩
end Go.Proofs.YtboglmbblmakjaaGreatDoor
