import Derived.Test.YtbpchmikjiinpaaGreatT1
import Derived.Test.YtbpchmikjiinpaaGreatEU
set_option linter.unusedVariables false
set_option linter.unusedSimpArgs false
set_option maxRecDepth 100000
set_option maxHeartbeats 40000000
namespace Go.Proofs.YtbpchmikjiinpaaGreat
open Go.RowKit
theorem hQ {l r} (G:O6 l=some r):Fn Tryz.prog 4 0 [.sl 1 (Aj eI l)] [] (fun d' b'=>d'=.val (.bool r)/\b'=[]):=by
 unfold O6 at G
 refine Dx 0 6 Tryz.func4 fun _ _ _=>?_
 exact Cf
instance wk4:Wk 4:=⟨_,@hQ⟩
theorem rR {host day r} (G:Mv host day=some r):Fn Tryz.prog 14 0 [ws host,vk day] [] (fun d' b'=>d'=.agg (Aa.dv r)/\b'=[]):=by
 unfold Mv at G
 refine Dx 0 8 Tryz.func14 fun _ _ _=>?_
 refine Bt 2 fun B G=>?_
 refine L1 Qt zK eH ?_
 exact Cf
instance aQ5:Wk 14:=⟨_,@rR⟩
theorem Vw {s v r} (G:Ch s v=some r):Fn Tryz.prog 65 0 [.sl 1 (Aj eI s),vk v] [] (fun d' b'=>d'=vk r/\b'=[]):=by
 unfold Ch at G
 refine Dx 0 19 Tryz.func65 fun _ _ _=>?_
 refine Bt 4 fun B G=>?_
 refine G7 (fun (x8_1:Int)=>mk [(0,.sl 1 (Aj eI s)),(1,vk v),(7,.val (.int .i64 (s.length:Int))),(8,vk x8_1)] [] 0) G (B9 []) ?_
 rintro x8_1 m1 o1 G hn1
 unfold Ch.l1 at G
 exact Hf
instance aRe:Wk 65:=⟨_,@Vw⟩
theorem Ns {s v r} (G:Db s v=some r):Fn Tryz.prog 37 0 [.sl 1 (Aj eI s),vk v] [] (fun d' b'=>d'=.val (.bool r)/\b'=[]):=by
 unfold Db at G
 refine Dx 0 9 Tryz.func37 fun _ _ _=>?_
 exact Cf
instance aR6:Wk 37:=⟨_,@Ns⟩
theorem M7 {x' c0 r} (G:F0 x' c0=some r):Fn Tryz.prog 39 0 [.agg (Am.dv x'),.elt (((Aa.ec c0):List C).drop 0)] [] (fun d' b'=>d'=.val (.bool r)/\b'=[]):=by
 unfold F0 at G
 refine Dx 0 16 Tryz.func39 fun _ _ _=>?_
 refine Bt 2 fun B G=>?_
 refine Et rfl rfl (Se xE aE5 (by decide) (aCt rfl)) rfl rfl ?_
 refine Et rfl rfl (Ef aE5 (cs2:=[.int .i64 c0.Use.Alg,.int .i64 c0.Use.Bits]) rfl (aCt rfl)) rfl rfl ?_
 refine Et rfl rfl (Lg x'.Key c0.Use) rfl rfl ?_
 refine Md (.r 0 (.e 0)) fun h2 B G=>?_
 refine Et (Nn rfl rfl h2) rfl (Se yJ yW (by decide) (aCt rfl)) rfl rfl ?_
 refine Et (Nn rfl rfl h2) rfl (En yW (c:=.int .i64 c0.Number) rfl) rfl rfl ?_
 exact Cf
instance aPp:Wk 39:=⟨_,@M7⟩
theorem Jm {s:(List Am)} {f:Am->Option (Bool)} {f_c0:Aa} (hf_f:∀ (x0:Am) (y:Bool),f x0=some y->Fn Tryz.prog 39 0 [.agg (Am.dv x0),.elt (((Aa.ec f_c0):List C).drop 0)] [] (fun d' b'=>d'=.val (.bool y)/\b'=[])) {r:Int} (G:Bo s f=some r):Fn Tryz.prog 66 0 [.sl 4 (Aj Am.enc s),.clo 39 0 [.elt (((Aa.ec f_c0):List C).drop 0)]] [] (fun d' b'=>d'=vk r/\b'=[]):=by
 unfold Bo at G
 refine Dx 0 19 Tryz.func66 fun _ _ _=>?_
 refine Bt 4 fun B G=>?_
 refine G7 (fun (x8_1:Int)=>mk [(0,.sl 4 (Aj Am.enc s)),(1,.clo 39 0 [.elt (((Aa.ec f_c0):List C).drop 0)]),(7,.val (.int .i64 (s.length:Int))),(8,vk x8_1)] [] 0) G (B9 []) ?_
 rintro x8_1 m1 o1 G hn1
 unfold Bo.l1 at G
 refine D4 (.r 2 (.e 7)) fun _ e _ B G=>?_
 obtain⟨y,hy,G⟩:=Ak G
 refine Cm (rd:=[]) (ps:=[]) (gs:=[]) false rfl rfl (hf_f e _ hy) rfl rfl (.cons (.agg (.cons .val (.cons .val (.cons .val (.cons .sl .nil))))) (.cons .elt .nil)) rfl rfl (by intro h; cases h) rfl rfl rfl rfl ?_
 exact Cf
theorem Iy {s:(List Am)} {f:Am->Option (Bool)} {f_c0:Aa} (hf_f:∀ (x0:Am) (y:Bool),f x0=some y->Fn Tryz.prog 39 0 [.agg (Am.dv x0),.elt (((Aa.ec f_c0):List C).drop 0)] [] (fun d' b'=>d'=.val (.bool y)/\b'=[])) {r:Bool} (G:Eh s f=some r):Fn Tryz.prog 38 0 [.sl 4 (Aj Am.enc s),.clo 39 0 [.elt (((Aa.ec f_c0):List C).drop 0)]] [] (fun d' b'=>d'=.val (.bool r)/\b'=[]):=by
 unfold Eh at G
 refine Dx 0 9 Tryz.func38 fun _ _ _=>?_
 refine Bt 2 fun B G=>?_
 obtain⟨y,hy,G⟩:=Ak G
 refine Ni (@Jm s f f_c0 hf_f _ hy) ?_
 exact Cf
theorem L5 {e f r} (G:El e f=some r):Fn Tryz.prog 12 0 [.agg (Ad.dv e),.agg (Aa.dv f)] [] (fun d' b'=>d'=.val (.bool r)/\b'=[]):=by
 unfold El at G
 refine Dx 0 49 Tryz.func12 fun _ _ _=>?_
 refine Md (.l 3 (.l 5 (.r 1 (.e 0)))) fun _ _ _ B G=>?_
 refine Au <| Ew (σ':=mk [(2,.ptr 0 0),(3,.elt (((Aa.ec f):List C).drop 0))] [(0,.box (Ad.dv e) 43)] 1) ((by exact O5.lists [(0,0)] rfl rfl ⟨⟨_,rfl,.ptr rfl⟩,⟨_,rfl,.frzb (ks:=[none,none,none,none,none,none,none,none,none,none,none]) rfl (.cons .int (.cons .str (.cons .int (.cons .int (.cons .int (.cons .int (.cons .str (.cons .int (.cons .int (.cons .int (.cons .str .nil))))))))))) (Fr rfl)⟩,trivial⟩ ⟨.inl ⟨0,_,rfl,rfl,⟨rfl,.cons (.val _) (.cons (.val _) (.cons (.val _) (.cons (.sl _ _) (.cons (.val _) (.cons (.sl _ _) (.cons (.sl _ _) (.cons (.sl _ _) (.cons (.val _) .nil))))))))⟩⟩,trivial⟩)) ?_
 refine Bt 1 fun B G=>?_
 obtain⟨y_2,hy_2,G⟩:=Ak G
 refine Ni (@Iy e.Identities (fun x0=>F0 x0 f) f (fun x0 y h=>@M7 x0 f y h) _ hy_2) ?_
 exact Cf
instance aRi:Wk 12:=⟨_,@L5⟩
theorem dN {r} (G:Ky=some r):Fn Tryz.prog 5 0 [] [] (fun d' b'=>d'=.val (.bool r)/\b'=[]):=by
 unfold Ky at G
 refine Dx 0 20 Tryz.func5 fun _ _ _=>?_
 refine Bt 2 fun B G=>?_
 refine Hj Eb z3 I7 ([10]:List Int) eI ?_
 refine L1 Vr aGa z43 ?_
 refine Bt 6 fun _ _ B G=>?_
 obtain⟨y_2,hy_2,G⟩:=Ak G
 refine P5 [8] [] [] true (L5 hy_2) ?_
 refine Md (.r 0 (.e 0)) fun _ B G=>?_
 obtain⟨y_3,hy_3,G⟩:=Ak G
 refine P5 [8] [] [] true (L5 hy_3) ?_
 exact Cf
instance wk5:Wk 5:=⟨_,@dN⟩
theorem Zh {l r} (G:Q6 l=some r):Fn Tryz.prog 6 0 [.sl 1 (Aj eI l)] [] (fun d' b'=>d'=.ptr 0 0/\b'=[.box [.sl 1 (Aj eI r.L),vk r.At] 61]):=by
 unfold Q6 at G
 refine Dx 0 6 Tryz.func6 fun _ _ _=>?_
 refine Bt 2 fun B G=>?_
 refine L1 tX aMz z61 ?_
 exact Cf
instance wk6:Wk 6:=⟨_,@Zh⟩
theorem nH {n k r} (G:P8 n k=some r):Fn Tryz.prog 33 0 [vk n,vk k] [] (fun d' b'=>d'=vk r/\b'=[]):=by
 unfold P8 at G
 refine Dx 0 14 Tryz.func33 fun _ _ _=>?_
 exact Cf
instance aQk:Wk 33:=⟨_,@nH⟩
theorem Kc {d n r} (G:Bi d n=some r):Fn Tryz.prog 10 1 [.ptr 0 0,vk n] [.box [.sl 1 (Aj eI d.L),vk d.At] 61] (fun d' b'=>d'=vk r.1/\b'=[.box [.sl 1 (Aj eI r.2.L),vk r.2.At] 61]):=by
 unfold Bi at G
 refine Dx 1 35 Tryz.func10 fun _ _ _=>?_
 refine Bt 1 fun B G=>?_
 refine Au <| Au <| Bb (Df _ _ []) (by kernel_rfl) [0,1,3,7,0,16,48,112,240,511] 9 89 B rfl rfl (by kernel_rfl) ?_
 refine Md (.l 0 (.e 2)) fun _ B G=>?_
 refine Au <| Bb (Df _ _ []) (by kernel_rfl) [0,1,3,7,0,16,48,112,240,511,1023,0,4095,8191] 153 265 B rfl rfl (by kernel_rfl) ?_
 exact Cf
instance aQ3:Wk 10:=⟨_,@Kc⟩
theorem Un {d l r} (G:B3 d l=some r):Fn Tryz.prog 27 1 [.ptr 0 0,.sl 1 (Aj eI l)] [.box [.sl 1 (Aj eI d.L),vk d.At] 61] (fun d' b'=>d'=vk r.1/\b'=[.box [.sl 1 (Aj eI r.2.L),vk r.2.At] 61]):=by
 unfold B3 at G
 refine Dx 1 12 Tryz.func27 fun _ _ _=>?_
 exact Cf
instance aQr:Wk 27:=⟨_,@Un⟩
theorem On {d n r} (G:E3 d n=some r):Fn Tryz.prog 8 1 [.ptr 0 0,vk n] [.box [.sl 1 (Aj eI d.L),vk d.At] 61] (fun d' b'=>d'=.val (.bool r.1)/\b'=[.box [.sl 1 (Aj eI r.2.L),vk r.2.At] 61]):=by
 unfold E3 at G
 refine Dx 1 11 Tryz.func8 fun _ _ _=>?_
 exact Cf
instance wk8:Wk 8:=⟨_,@On⟩
theorem cF {r} (G:Sz=some r):Fn Tryz.prog 29 0 [] [] (fun d' b'=>d'=.agg [vk r.Alg,vk r.Bits]/\b'=[]):=by
 unfold Sz at G
 refine Dx 0 2 Tryz.func29 fun _ _ _=>?_
 refine Bt 2 fun B G=>?_
 refine L1 Hh Lt S8 ?_
 exact Cf
instance aRg:Wk 29:=⟨_,@cF⟩
theorem jA {c r} (G:M3 c=some r):Fn Tryz.prog 80 0 [.agg (Ah.dv c)] [] (fun d' b'=>d'=.agg (Ah.dv r)/\b'=[]):=by
 unfold M3 at G
 refine Dx 0 9 Tryz.func80 fun _ _ _=>?_
 refine Bt 2 fun B G=>?_
 refine Et rfl rfl (Fw Px z9 (by decide) rfl rfl rfl rfl rL (cs:=[]) .nil rfl (l:=([]:List ByteArray)) (f:=eS) rfl) rfl rfl ?_
 exact Cf
instance aQo:Wk 80:=⟨_,@jA⟩
theorem hY {s r} (G:Cj s=some r):Fn Tryz.prog 109 0 [ws s] [] (fun d' b'=>d'=.val (.bool r)/\b'=[]):=by
 unfold Cj at G
 refine Dx 0 28 Tryz.func109 fun _ _ _=>?_
 refine Bt 1 fun B G=>?_
 refine Au <| Ba (ι:=Bool) (fun (x11_1:Bool)=>mk [(0,ws s),(11,.val (.bool x11_1))] [] 0) (fun (x11_1:Bool)=>Cj.j1 s x11_1=some r) ?_ ?_
 exact Cf
 rintro x11_1 G
 unfold Cj.j1 at G
 refine D4 (.l 0 (.e 4)) fun _ B G=>?_
 refine G7 (fun (i_2:Int)=>mk [(0,ws s),(3,vk i_2)] [] 0) G (B9 []) ?_
 rintro i_2 m2 o2 G hn2
 unfold Cj.l2 at G
 refine D4 (.r 3 (.e 3)) fun _ B G=>?_
 refine Ba (ι:=Bool) (fun (x27_3:Bool)=>mk [(0,ws s),(3,vk i_2),(27,.val (.bool x27_3))] [] 0) (fun (x27_3:Bool)=>Cj.j3 i_2 x27_3=some o2) ?_ ?_
 exact Cf
 rintro x27_3 G
 unfold Cj.j3 at G
 exact Hf
instance aOn:Wk 109:=⟨_,@hY⟩
theorem aA {b r} (G:D1 b=some r):Fn Tryz.prog 174 0 [vk b] [] (fun d' b'=>d'=vk r/\b'=[]):=by
 unfold D1 at G
 refine Dx 0 25 Tryz.func174 fun _ _ _=>?_
 refine Bt 3 fun B G=>?_
 refine Ba (ι:=Bool) (fun (x3_1:Bool)=>mk [(0,vk b),(3,.val (.bool x3_1))] [] 0) (fun (x3_1:Bool)=>D1.j1 b x3_1=some r) ?_ ?_
 exact Cf
 rintro x3_1 G
 unfold D1.j1 at G
 exact Hf
instance aNb:Wk 174:=⟨_,@aA⟩
theorem Jv {b sizes strengths r} (G:B7 b sizes strengths=some r):Fn Tryz.prog 175 0 [vk b,.sl 1 (Aj eI sizes),.sl 1 (Aj eI strengths)] [] (fun d' b'=>d'=vk r/\b'=[]):=by
 unfold B7 at G
 refine Dx 0 24 Tryz.func175 fun _ _ _=>?_
 refine Bt 4 fun B G=>?_
 refine G7 (fun (i_1:Int)=>mk [(0,vk b),(1,.sl 1 (Aj eI sizes)),(2,.sl 1 (Aj eI strengths)),(7,vk i_1)] [] 0) G (B9 []) ?_
 rintro i_1 m1 o1 G hn1
 unfold B7.l1 at G
 exact Hf
instance aOw:Wk 175:=⟨_,@Jv⟩
theorem cB {alg r} (G:Dt alg=some r):Fn Tryz.prog 176 0 [vk alg] [] (fun d' b'=>d'=vk r/\b'=[]):=by
 unfold Dt at G
 refine Dx 0 21 Tryz.func176 fun _ _ _=>?_
 refine Md (.l 5 (.l 1 (.e 0))) fun _ _ B G=>?_
 refine Ba (ι:=Bool) (fun (x8_1:Bool)=>mk [(3,vk alg),(8,.val (.bool x8_1))] [] 0) (fun (x8_1:Bool)=>Dt.j1 alg x8_1=some r) ?_ ?_
 exact Cf
 rintro x8_1 G
 unfold Dt.j1 at G
 refine D4 (.l 0 (.l 1 (.e 0))) fun _ _ B G=>?_
 refine Ba (ι:=Bool) (fun (x14_2:Bool)=>mk [(3,vk alg),(14,.val (.bool x14_2))] [] 0) (fun (x14_2:Bool)=>Dt.j2 alg x14_2=some r) ?_ ?_
 exact Cf
 rintro x14_2 G
 unfold Dt.j2 at G
 exact Hf
instance aO3:Wk 176:=⟨_,@cB⟩
theorem X5 {u r} (G:Av u=some r):Fn Tryz.prog 144 0 [.agg [vk u.Alg,vk u.Bits]] [] (fun d' b'=>d'=vk r/\b'=[]):=by
 unfold Av at G
 refine Dx 0 76 Tryz.func144 fun _ _ _=>?_
 refine Bt 5 fun B G=>?_
 refine Ba (ι:=Bool) (fun (x8_1:Bool)=>mk [(1,.ptr 0 0),(3,vk u.Bits),(7,vk u.Alg),(8,.val (.bool x8_1))] [(0,.box [vk u.Alg,vk u.Bits] 24)] 1) (fun (x8_1:Bool)=>Av.j1 u x8_1=some r) ?_ ?_
 exact Cf
 rintro x8_1 G
 unfold Av.j1 at G
 refine D4 (.l 0 (.e 0)) fun _ B G=>?_
 refine Ba (ι:=Bool) (fun (x15_2:Bool)=>mk [(1,.ptr 0 0),(3,vk u.Bits),(7,vk u.Alg),(15,.val (.bool x15_2))] [(0,.box [vk u.Alg,vk u.Bits] 24)] 1) (fun (x15_2:Bool)=>Av.j2 u x15_2=some r) ?_ ?_
 exact Cf
 rintro x15_2 G
 unfold Av.j2 at G
 try dsimp only at G
 refine R3 rfl ?_
 refine Jf rfl G (fun _ G=>?_) fun _ G=>?_
 refine Au <| Ba (ι:=Bool) (fun (x35_3:Bool)=>mk [(3,vk u.Bits),(35,.val (.bool x35_3))] [] 0) (fun (x35_3:Bool)=>Av.j3 u x35_3=some r) ?_ ?_
 exact Cf
 rintro x35_3 G
 unfold Av.j3 at G
 exact Hf
 refine Bt 1 fun B G=>?_
 refine Jf rfl G (fun _ G=>?_) fun _ G=>?_
 refine Bt 1 fun B G=>?_
 refine Hj Eb z3 I7 ([44,65,87]:List Int) eI ?_
 refine Hj Eb z3 I7 ([128,192,256]:List Int) eI ?_
 obtain⟨y_2,hy_2,G⟩:=Ak G
 refine P5 [25,33] [] [] true (Jv hy_2) ?_
 exact Cf
 refine Bt 1 fun B G=>?_
 refine Jf rfl G (fun _ G=>?_) fun _ G=>?_
 refine Bt 1 fun B G=>?_
 refine Hj Eb z3 I7 ([512,768,1024]:List Int) eI ?_
 refine Hj Eb z3 I7 ([128,192,256]:List Int) eI ?_
 obtain⟨y_3,hy_3,G⟩:=Ak G
 refine P5 [41,49] [] [] true (Jv hy_3) ?_
 exact Cf
 refine Bt 1 fun B G=>?_
 refine Jf rfl G (fun _ G=>?_) fun _ G=>?_
 refine Bt 1 fun B G=>?_
 refine Hj Eb z3 I7 ([40,128]:List Int) eI ?_
 refine Hj Eb z3 I7 ([40,60]:List Int) eI ?_
 obtain⟨y_4,hy_4,G⟩:=Ak G
 refine P5 [57,65] [] [] true (Jv hy_4) ?_
 exact Cf
 refine Bt 1 fun B G=>?_
 refine Jf rfl G (fun _ G=>?_) fun _ G=>?_
 refine Bt 1 fun B G=>?_
 refine Hj Eb z3 I7 ([112,168]:List Int) eI ?_
 refine Hj Eb z3 I7 ([80,112]:List Int) eI ?_
 obtain⟨y_5,hy_5,G⟩:=Ak G
 refine P5 [73,81] [] [] true (Jv hy_5) ?_
 exact Cf
 refine Ba (ι:=Bool) (fun (x62_4:Bool)=>mk [(1,.ptr 0 0),(3,vk u.Bits),(62,.val (.bool x62_4))] [(0,.box [vk u.Alg,vk u.Bits] 24)] 1) (fun (x62_4:Bool)=>Av.j4 u x62_4=some r) ?_ ?_
 exact Cf
 rintro x62_4 G
 unfold Av.j4 at G
 try dsimp only at G
 refine R3 rfl ?_
 refine Jf rfl G (fun _ G=>?_) fun _ G=>?_
 refine Bt 1 fun B G=>?_
 refine Hj Eb z3 I7 ([128,256]:List Int) eI ?_
 refine Hj Eb z3 I7 ([128,256]:List Int) eI ?_
 obtain⟨y_6,hy_6,G⟩:=Ak G
 refine P5 [9,17] [] [] true (Jv hy_6) ?_
 exact Cf
 refine Bt 2 fun B G=>?_
 refine Hj Eb z3 I7 ([0]:List Int) eI ?_
 refine Bt 1 fun y_7 _ B G=>?_
 refine Hj Eb z3 I7 ([y_7]:List Int) eI ?_
 obtain⟨y_8,hy_8,G⟩:=Ak G
 refine P5 [9,41] [] [] true (Jv hy_8) ?_
 exact Cf
instance aPi:Wk 144:=⟨_,@X5⟩
theorem eF {u r} (G:Ik u=some r):Fn Tryz.prog 110 0 [.agg [vk u.Alg,vk u.Bits]] [] (fun d' b'=>d'=.val (.bool r)/\b'=[]):=by
 unfold Ik at G
 refine Dx 0 6 Tryz.func110 fun _ _ _=>?_
 exact Cf
instance aO6:Wk 110:=⟨_,@eF⟩
theorem gS {r} (G:S3=some r):Fn Tryz.prog 116 0 [] [] (fun d' b'=>d'=.sl 2 (Aj As.enc r)/\b'=[]):=by
 unfold S3 at G
 refine Dx 0 25 Tryz.func116 fun _ _ _=>?_
 refine Bt 2 fun B G=>?_
 refine Et rfl rfl (.build (r:=[.val (.string (⟨#[]⟩:ByteArray)),.val (.int .i64 0)]) Ij Lr Oq (by kernel_rfl) rfl) rfl rfl ?_
 refine Et rfl rfl (.build (r:=[.val (.string (⟨#[109,100,53]⟩:ByteArray)),.val (.int .i64 1)]) Ij Lr Oq (by kernel_rfl) rfl) rfl rfl ?_
 refine Et rfl rfl (.build (r:=[.val (.string (⟨#[115,104,97,49]⟩:ByteArray)),.val (.int .i64 1)]) Ij Lr Oq (by kernel_rfl) rfl) rfl rfl ?_
 refine Et rfl rfl (.build (r:=[.val (.string (⟨#[115,104,97,50,53,54]⟩:ByteArray)),.val (.int .i64 1)]) Ij Lr Oq (by kernel_rfl) rfl) rfl rfl ?_
 refine Et rfl rfl (.build (r:=[.val (.string (⟨#[115,104,97,51,56,52]⟩:ByteArray)),.val (.int .i64 1)]) Ij Lr Oq (by kernel_rfl) rfl) rfl rfl ?_
 refine Et rfl rfl (.build (r:=[.val (.string (⟨#[114,115,97]⟩:ByteArray)),.val (.int .i64 2)]) Ij Lr Oq (by kernel_rfl) rfl) rfl rfl ?_
 refine Et rfl rfl (.build (r:=[.val (.string (⟨#[100,115,97]⟩:ByteArray)),.val (.int .i64 2)]) Ij Lr Oq (by kernel_rfl) rfl) rfl rfl ?_
 refine Et rfl rfl (.build (r:=[.val (.string (⟨#[101,99,100,115,97]⟩:ByteArray)),.val (.int .i64 2)]) Ij Lr Oq (by kernel_rfl) rfl) rfl rfl ?_
 refine Et rfl rfl (.build (r:=[.val (.string (⟨#[101,100,50,53,53,49,57]⟩:ByteArray)),.val (.int .i64 2)]) Ij Lr Oq (by kernel_rfl) rfl) rfl rfl ?_
 refine Et rfl rfl (.build (r:=[.val (.string (⟨#[109,108,100,115,97]⟩:ByteArray)),.val (.int .i64 2)]) Ij Lr Oq (by kernel_rfl) rfl) rfl rfl ?_
 refine Et rfl rfl (.build (r:=[.val (.string (⟨#[114,115,97,107,120]⟩:ByteArray)),.val (.int .i64 3)]) Ij Lr Oq (by kernel_rfl) rfl) rfl rfl ?_
 refine Et rfl rfl (.build (r:=[.val (.string (⟨#[100,104,101]⟩:ByteArray)),.val (.int .i64 3)]) Ij Lr Oq (by kernel_rfl) rfl) rfl rfl ?_
 refine Et rfl rfl (.build (r:=[.val (.string (⟨#[101,99,100,104,101]⟩:ByteArray)),.val (.int .i64 3)]) Ij Lr Oq (by kernel_rfl) rfl) rfl rfl ?_
 refine Et rfl rfl (.build (r:=[.val (.string (⟨#[109,108,107,101,109]⟩:ByteArray)),.val (.int .i64 3)]) Ij Lr Oq (by kernel_rfl) rfl) rfl rfl ?_
 refine Et rfl rfl (.build (r:=[.val (.string (⟨#[114,99,52]⟩:ByteArray)),.val (.int .i64 4)]) Ij Lr Oq (by kernel_rfl) rfl) rfl rfl ?_
 refine Et rfl rfl (.build (r:=[.val (.string (⟨#[100,101,115,51]⟩:ByteArray)),.val (.int .i64 4)]) Ij Lr Oq (by kernel_rfl) rfl) rfl rfl ?_
 refine Et rfl rfl (.build (r:=[.val (.string (⟨#[97,101,115,99,98,99]⟩:ByteArray)),.val (.int .i64 4)]) Ij Lr Oq (by kernel_rfl) rfl) rfl rfl ?_
 refine Et rfl rfl (.build (r:=[.val (.string (⟨#[97,101,115,103,99,109]⟩:ByteArray)),.val (.int .i64 4)]) Ij Lr Oq (by kernel_rfl) rfl) rfl rfl ?_
 refine Et rfl rfl (.build (r:=[.val (.string (⟨#[99,104,97,99,104,97]⟩:ByteArray)),.val (.int .i64 4)]) Ij Lr Oq (by kernel_rfl) rfl) rfl rfl ?_
 refine Et rfl rfl (.build (r:=[.val (.string (⟨#[104,109,97,99,109,100,53]⟩:ByteArray)),.val (.int .i64 5)]) Ij Lr Oq (by kernel_rfl) rfl) rfl rfl ?_
 refine Et rfl rfl (.build (r:=[.val (.string (⟨#[104,109,97,99,115,104,97,49]⟩:ByteArray)),.val (.int .i64 5)]) Ij Lr Oq (by kernel_rfl) rfl) rfl rfl ?_
 refine Et rfl rfl (.build (r:=[.val (.string (⟨#[104,109,97,99,115,104,97,50,53,54]⟩:ByteArray)),.val (.int .i64 5)]) Ij Lr Oq (by kernel_rfl) rfl) rfl rfl ?_
 refine Et rfl rfl (.build (r:=[.val (.string (⟨#[97,101,97,100]⟩:ByteArray)),.val (.int .i64 5)]) Ij Lr Oq (by kernel_rfl) rfl) rfl rfl ?_
 refine Hj aC3 Oq aI0 ([(As.mk (⟨#[]⟩:ByteArray) 0),(As.mk (⟨#[109,100,53]⟩:ByteArray) 1),(As.mk (⟨#[115,104,97,49]⟩:ByteArray) 1),(As.mk (⟨#[115,104,97,50,53,54]⟩:ByteArray) 1),(As.mk (⟨#[115,104,97,51,56,52]⟩:ByteArray) 1),(As.mk (⟨#[114,115,97]⟩:ByteArray) 2),(As.mk (⟨#[100,115,97]⟩:ByteArray) 2),(As.mk (⟨#[101,99,100,115,97]⟩:ByteArray) 2),(As.mk (⟨#[101,100,50,53,53,49,57]⟩:ByteArray) 2),(As.mk (⟨#[109,108,100,115,97]⟩:ByteArray) 2),(As.mk (⟨#[114,115,97,107,120]⟩:ByteArray) 3),(As.mk (⟨#[100,104,101]⟩:ByteArray) 3),(As.mk (⟨#[101,99,100,104,101]⟩:ByteArray) 3),(As.mk (⟨#[109,108,107,101,109]⟩:ByteArray) 3),(As.mk (⟨#[114,99,52]⟩:ByteArray) 4),(As.mk (⟨#[100,101,115,51]⟩:ByteArray) 4),(As.mk (⟨#[97,101,115,99,98,99]⟩:ByteArray) 4),(As.mk (⟨#[97,101,115,103,99,109]⟩:ByteArray) 4),(As.mk (⟨#[99,104,97,99,104,97]⟩:ByteArray) 4),(As.mk (⟨#[104,109,97,99,109,100,53]⟩:ByteArray) 5),(As.mk (⟨#[104,109,97,99,115,104,97,49]⟩:ByteArray) 5),(As.mk (⟨#[104,109,97,99,115,104,97,50,53,54]⟩:ByteArray) 5),(As.mk (⟨#[97,101,97,100]⟩:ByteArray) 5)]:List As) As.enc ?_
 exact Cf
instance aPe:Wk 116:=⟨_,@gS⟩
theorem jO {alg r} (G:Fq alg=some r):Fn Tryz.prog 90 0 [vk alg] [] (fun d' b'=>d'=vk r/\b'=[]):=by
 unfold Fq at G
 refine Dx 0 14 Tryz.func90 fun _ _ _=>?_
 refine Bt 1 fun B G=>?_
 refine Au <| Ba (ι:=Bool) (fun (x8_1:Bool)=>mk [(0,vk alg),(8,.val (.bool x8_1))] [] 0) (fun (x8_1:Bool)=>Fq.j1 alg x8_1=some r) ?_ ?_
 exact Cf
 rintro x8_1 G
 unfold Fq.j1 at G
 exact Hf
instance aPk:Wk 90:=⟨_,@jO⟩
end Go.Proofs.YtbpchmikjiinpaaGreat
