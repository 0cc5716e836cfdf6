import Derived.Test.YtkoflhimdenjaaaGreatT1
set_option linter.unusedVariables false
set_option linter.unusedSimpArgs false
set_option maxRecDepth 100000
set_option maxHeartbeats 1600000
namespace Go.Proofs.YtkoflhimdenjaaaGreat
open Go.RowKit
theorem fX (l:(List Int)) (r:Bool) (G:Ny l=some r):Fn Tryz.prog 6 0 [.sl 1 (As eI l)] [] (fun d' b'=>d'=.val (.bool r)/\b'=[]):=by
 unfold Ny at G
 refine Fn.of Tryz.func6 rfl rfl rfl fun w0 I ρ0=>?_
 show B4 _ ⟨w0,I,ρ0,0,0,6⟩ _ _ _
 refine Bk 0 8 Ay fun B=>?_
 refine Bk 8 40 B fun B=>?_
 exact K0
theorem dI (host:ByteArray) (day:Int) (r:Aa) (G:Mh host day=some r):Fn Tryz.prog 12 0 [ws host,vk day] [] (fun d' b'=>d'=.agg (Aa.dv r)/\b'=[]):=by
 unfold Mh at G
 refine Fn.of Tryz.func12 rfl rfl rfl fun w0 I ρ0=>?_
 show B4 _ ⟨w0,I,ρ0,0,0,8⟩ _ _ _
 refine Bk 0 8 Ay fun B=>?_
 refine Ca 8 40 B ?_
 refine Aw ?_
 refine Mv S7 aIr z48 ?_
 exact Df
theorem O0 (s:(List Int)) (v:Int) (r:Int) (G:Ci s v=some r):Fn Tryz.prog 78 0 [.sl 1 (As eI s),vk v] [] (fun d' b'=>d'=vk r/\b'=[]):=by
 unfold Ci at G
 refine Fn.of Tryz.func78 rfl rfl rfl fun w0 I ρ0=>?_
 show B4 _ ⟨w0,I,ρ0,0,0,19⟩ _ _ _
 refine Bk 0 8 Ay fun B=>?_
 refine Ak <| Bk 8 32 B fun B=>?_
 refine Aq <| Jp (fun (x8_1:Int)=>mk [(0,.sl 1 (As eI s)),(1,vk v),(7,.val (.int .i64 (s.length:Int))),(8,vk x8_1)] [] 0) G (Av []) ?_
 rintro x8_1 m1 o1 G hn1
 replace G:Ci.l1 s v x8_1=some o1:=G
 show B4 _ _ _ _ (mk _ _ _)
 unfold Ci.l1 at G
 refine Bk 0 8 Ay fun B=>?_
 refine Ak <| Cr rfl G (fun h4 G=>?_) fun h4 G=>?_
 refine C9 ?_
 refine Ak <| Aq <| Bk 8 24 B fun B=>?_
 refine Ca 24 72 B ?_
 refine Aw ?_
 obtain⟨e,he,G⟩:=Ab G
 refine Aw ?_
 refine Rg he ?_
 refine Bi fun B=>?_
 refine Cr rfl G (fun h7 G=>?_) fun h7 G=>?_
 refine Bk 72 88 B fun B=>?_
 refine Fj ?_
 replace G:=Ce G hn1
 exact Ts
 refine C9 ?_
 refine Al (Ch _ _ []) 72 88 B rfl rfl ?_
 refine Bi fun B=>?_
 obtain rfl:=oi_ G
 exact⟨(W (x8_1 + 1),m1),aBj _,hn1,Av []⟩
 refine Jl ?_
 replace G:=Ce G hn1
 refine Bk 8 16 B fun B=>?_
 exact K0
theorem It (s:(List Int)) (v:Int) (r:Bool) (G:C5 s v=some r):Fn Tryz.prog 50 0 [.sl 1 (As eI s),vk v] [] (fun d' b'=>d'=.val (.bool r)/\b'=[]):=by
 unfold C5 at G
 refine Fn.of Tryz.func50 rfl rfl rfl fun w0 I ρ0=>?_
 show B4 _ ⟨w0,I,ρ0,0,0,9⟩ _ _ _
 refine Bk 0 8 Ay fun B=>?_
 refine Ca 8 48 B ?_
 refine Aw ?_
 obtain⟨y,hy,G⟩:=Ab G
 refine Dl (O0 _ _ _ hy) ?_
 exact Df
theorem Rr (x':Am) (c0:Aa) (r:Bool) (G:Ei x' c0=some r):Fn Tryz.prog 52 0 [.agg (Am.dv x'),.elt (((Aa.ec c0):List C).drop 0)] [] (fun d' b'=>d'=.val (.bool r)/\b'=[]):=by
 unfold Ei at G
 refine Fn.of Tryz.func52 rfl rfl rfl fun w0 I ρ0=>?_
 show B4 _ ⟨w0,I,ρ0,0,0,16⟩ _ _ _
 refine Bk 0 16 Ay fun B=>?_
 refine Ca 16 120 B ?_
 refine Aw ?_
 refine C1 rfl rfl (Fa sY Zy (by decide) (aBe rfl)) rfl rfl ?_
 refine C1 rfl rfl (D4 Zy (cs2:=[.int .i64 c0.Use.Alg,.int .i64 c0.Use.Bits]) rfl (aBe rfl)) rfl rfl ?_
 refine C1 rfl rfl (Pl x'.Key c0.Use) rfl rfl ?_
 refine Aw ?_
 rcases Dj G with ⟨h2,G⟩ | ⟨h2,G⟩
 refine Aw ?_
 refine C1 (Dx rfl rfl h2) rfl (Fa uY Sq (by decide) (aBe rfl)) rfl rfl ?_
 refine C1 (Dx rfl rfl h2) rfl (Da Sq (c:=.int .i64 c0.Number) rfl) rfl rfl ?_
 exact Df
 exact Df
theorem I5 (s:(List Am)) (f:Am->Option (Bool)) (f_c0:Aa) (hf_f:∀ (x0:Am) (y:Bool),f x0=some y->Fn Tryz.prog 52 0 [.agg (Am.dv x0),.elt (((Aa.ec f_c0):List C).drop 0)] [] (fun d' b'=>d'=.val (.bool y)/\b'=[])) (r:Int) (G:Bm s f=some r):Fn Tryz.prog 79 0 [.sl 4 (As Am.enc s),.clo 52 0 [.elt (((Aa.ec f_c0):List C).drop 0)]] [] (fun d' b'=>d'=vk r/\b'=[]):=by
 unfold Bm at G
 refine Fn.of Tryz.func79 rfl rfl rfl fun w0 I ρ0=>?_
 show B4 _ ⟨w0,I,ρ0,0,0,19⟩ _ _ _
 refine Bk 0 8 Ay fun B=>?_
 refine Ak <| Bk 8 32 B fun B=>?_
 refine Aq <| Jp (fun (x8_1:Int)=>mk [(0,.sl 4 (As Am.enc s)),(1,.clo 52 0 [.elt (((Aa.ec f_c0):List C).drop 0)]),(7,.val (.int .i64 (s.length:Int))),(8,vk x8_1)] [] 0) G (Av []) ?_
 rintro x8_1 m1 o1 G hn1
 replace G:Bm.l1 s f x8_1=some o1:=G
 show B4 _ _ _ _ (mk _ _ _)
 unfold Bm.l1 at G
 refine Bk 0 8 Ay fun B=>?_
 refine Ak <| Cr rfl G (fun h4 G=>?_) fun h4 G=>?_
 refine C9 ?_
 refine Ak <| Aq <| Bk 8 24 B fun B=>?_
 refine Ca 24 72 B ?_
 refine Aw ?_
 obtain⟨e,he,G⟩:=Ab G
 refine Aw ?_
 refine Wv he ?_
 obtain⟨y,hy,G⟩:=Ab G
 refine Cw (rd:=[]) (ps:=[]) (gs:=[]) false rfl rfl (hf_f e _ hy) rfl rfl (.cons (.agg (.cons .val (.cons .val (.cons .val (.cons .sl .nil))))) (.cons .elt .nil)) rfl rfl (by intro h; cases h) rfl rfl rfl rfl ?_
 refine G9 fun B=>?_
 refine Cr rfl G (fun h7 G=>?_) fun h7 G=>?_
 refine Bk 72 88 B fun B=>?_
 refine Fj ?_
 replace G:=Ce G hn1
 exact Ts
 refine C9 ?_
 refine Al (Ch _ _ []) 72 88 B rfl rfl ?_
 refine Bi fun B=>?_
 obtain rfl:=oi_ G
 exact⟨(W (x8_1 + 1),m1),aBj _,hn1,Av []⟩
 refine Jl ?_
 replace G:=Ce G hn1
 refine Bk 8 16 B fun B=>?_
 exact K0
theorem In (s:(List Am)) (f:Am->Option (Bool)) (f_c0:Aa) (hf_f:∀ (x0:Am) (y:Bool),f x0=some y->Fn Tryz.prog 52 0 [.agg (Am.dv x0),.elt (((Aa.ec f_c0):List C).drop 0)] [] (fun d' b'=>d'=.val (.bool y)/\b'=[])) (r:Bool) (G:Ea s f=some r):Fn Tryz.prog 51 0 [.sl 4 (As Am.enc s),.clo 52 0 [.elt (((Aa.ec f_c0):List C).drop 0)]] [] (fun d' b'=>d'=.val (.bool r)/\b'=[]):=by
 unfold Ea at G
 refine Fn.of Tryz.func51 rfl rfl rfl fun w0 I ρ0=>?_
 show B4 _ ⟨w0,I,ρ0,0,0,9⟩ _ _ _
 refine Bk 0 8 Ay fun B=>?_
 refine Ca 8 48 B ?_
 refine Aw ?_
 obtain⟨y,hy,G⟩:=Ab G
 refine Dl (I5 s f f_c0 hf_f _ hy) ?_
 exact Df
theorem K6 (e:Af) (f:Aa) (r:Bool) (G:Ef e f=some r):Fn Tryz.prog 20 0 [.agg (Af.dv e),.agg (Aa.dv f)] [] (fun d' b'=>d'=.val (.bool r)/\b'=[]):=by
 unfold Ef at G
 refine Fn.of Tryz.func20 rfl rfl rfl fun w0 I ρ0=>?_
 show B4 _ ⟨w0,I,ρ0,0,0,49⟩ _ _ _
 refine Bk 0 24 Ay fun B=>?_
 refine Ak <| Bk 24 64 B fun B=>?_
 refine Cr rfl G (fun h3 G=>?_) fun h3 G=>?_
 refine Ca 64 72 B ?_
 exact Df
 refine C9 ?_
 refine Ak <| Bk 64 80 B fun B=>?_
 refine Aq <| Bk 80 96 B fun B=>?_
 refine Cr rfl G (fun h7 G=>?_) fun h7 G=>?_
 refine Ca 96 152 B ?_
 refine Aw ?_
 obtain⟨y,hy,G⟩:=Ab G
 refine Dl (It _ _ _ hy) ?_
 exact Df
 refine Bk 96 112 B fun B=>?_
 refine Cr rfl G (fun h10 G=>?_) fun h10 G=>?_
 refine Ak <| Ey (σ':=mk [(2,.ptr 0 0),(3,.elt (((Aa.ec f):List C).drop 0))] [(0,.box (Af.dv e) 43)] 1) ((by exact Pt.lists [(0,0)] rfl rfl ⟨⟨_,rfl,.ptr rfl⟩,⟨_,rfl,.frzb (ks:=[none,none,none,none,none,none,none,none,none,none,none]) rfl (.cons .int (.cons .str (.cons .int (.cons .int (.cons .int (.cons .int (.cons .str (.cons .int (.cons .int (.cons .int (.cons .str .nil))))))))))) (Fg rfl)⟩,trivial⟩ ⟨.inl ⟨0,_,rfl,rfl,⟨rfl,.cons (.val _) (.cons (.val _) (.cons (.val _) (.cons (.sl _ _) (.cons (.val _) (.cons (.sl _ _) (.cons (.sl _ _) (.cons (.sl _ _) (.cons (.val _) .nil))))))))⟩⟩,trivial⟩)) ?_
 refine Al (Ch _ _ []) 1 49 Ay rfl rfl ?_
 refine Aw ?_
 obtain⟨y_2,hy_2,G⟩:=Ab G
 refine Dl (In e.Identities (fun x0=>Ei x0 f) f (fun x0 y h=>Rr x0 f y h) _ hy_2) ?_
 exact Df
 refine Bk 112 128 B fun B=>?_
 refine Cr rfl G (fun h13 G=>?_) fun h13 G=>?_
 refine Ca 128 176 B ?_
 exact Df
 refine Bk 128 144 B fun B=>?_
 refine Cr rfl G (fun h16 G=>?_) fun h16 G=>?_
 refine Ca 144 192 B ?_
 exact Df
 refine Bk 144 160 B fun B=>?_
 refine Cr rfl G (fun h19 G=>?_) fun h19 G=>?_
 refine Ca 160 216 B ?_
 refine Aw ?_
 obtain⟨y_3,hy_3,G⟩:=Ab G
 refine Dl (It _ _ _ hy_3) ?_
 exact Df
 refine C9 ?_
 refine Bk 160 168 B fun B=>?_
 exact K0
theorem P9  (r:Bool) (G:H8=some r):Fn Tryz.prog 7 0 [] [] (fun d' b'=>d'=.val (.bool r)/\b'=[]):=by
 unfold H8 at G
 refine Fn.of Tryz.func7 rfl rfl rfl fun w0 I ρ0=>?_
 show B4 _ ⟨w0,I,ρ0,0,0,20⟩ _ _ _
 refine Bk 0 8 Ay fun B=>?_
 refine Ca 8 40 B ?_
 refine Kx F0 z3 Oq ([10]:List Int) eI ?_
 refine Mv Qo xB z43 ?_
 refine Bi fun B=>?_
 refine Ca 40 64 B ?_
 obtain⟨y,hy,G⟩:=Ab G
 refine Dl (dI _ _ _ hy) ?_
 refine Bi fun B=>?_
 refine Bk 64 96 B fun B=>?_
 refine Bk 96 120 B fun B=>?_
 refine Bk 120 136 B fun B=>?_
 refine Ca 136 216 B ?_
 refine Aw ?_
 obtain⟨y_2,hy_2,G⟩:=Ab G
 refine Ki [8] [] [] true (K6 _ _ _ hy_2) ?_
 refine Aw ?_
 rcases Dj G with ⟨h7,G⟩ | ⟨h7,G⟩
 refine Aw ?_
 obtain⟨y_3,hy_3,G⟩:=Ab G
 refine Ki [8] [] [] true (K6 _ _ _ hy_3) ?_
 exact Df
 exact Df
theorem gV (l:(List Int)) (r:Ah) (G:P3 l=some r):Fn Tryz.prog 8 0 [.sl 1 (As eI l)] [] (fun d' b'=>d'=.ptr 0 0/\b'=[.box [.sl 1 (As eI r.L),vk r.At] 71]):=by
 unfold P3 at G
 refine Fn.of Tryz.func8 rfl rfl rfl fun w0 I ρ0=>?_
 show B4 _ ⟨w0,I,ρ0,0,0,6⟩ _ _ _
 refine Bk 0 8 Ay fun B=>?_
 refine Ca 8 40 B ?_
 refine Aw ?_
 refine Mv tO aIj z71 ?_
 refine Bi fun B=>?_
 refine Fj ?_
 obtain rfl:=oi_ G
 exact Ip [(0,24)] ⟨rfl,rfl⟩
theorem kQ (n:Int) (k:Int) (r:Int) (G:Pa n k=some r):Fn Tryz.prog 46 0 [vk n,vk k] [] (fun d' b'=>d'=vk r/\b'=[]):=by
 unfold Pa at G
 refine Fn.of Tryz.func46 rfl rfl rfl fun w0 I ρ0=>?_
 show B4 _ ⟨w0,I,ρ0,0,0,14⟩ _ _ _
 refine Bk 0 8 Ay fun B=>?_
 refine Ak <| Bk 8 24 B fun B=>?_
 refine Cr rfl G (fun h3 G=>?_) fun h3 G=>?_
 refine Ca 24 32 B ?_
 exact Df
 refine C9 ?_
 refine Ca 24 88 B ?_
 refine Aw ?_
 obtain⟨q,hq,G⟩:=Ab G
 refine C1 rfl rfl (iC hq) rfl rfl ?_
 refine Aw ?_
 obtain⟨q_2,hq_2,G⟩:=Ab G
 refine C1 rfl rfl (iC hq_2) rfl rfl ?_
 exact Df
theorem B6 (d:Ah) (n:Int) (r:Int×Ah) (G:B0 d n=some r):Fn Tryz.prog 18 1 [.ptr 0 0,vk n] [.box [.sl 1 (As eI d.L),vk d.At] 71] (fun d' b'=>d'=vk r.1/\b'=[.box [.sl 1 (As eI r.2.L),vk r.2.At] 71]):=by
 unfold B0 at G
 refine Fn.of Tryz.func18 rfl rfl rfl fun w0 I ρ0=>?_
 show B4 _ ⟨w0,I,ρ0,1,1,35⟩ _ _ _
 refine Bk 1 9 Ay fun B=>?_
 refine Ak <| Ak <| Bu (Ch _ _ []) (by kernel_rfl) [0,1,3,7,0,16,48,112,240,511] 9 89 B rfl rfl (by kernel_rfl) ?_
 refine Bi fun B=>?_
 refine Cr rfl G (fun h3 G=>?_) fun h3 G=>?_
 refine Bk 89 97 B fun B=>?_
 refine Fj ?_
 obtain rfl:=oi_ G
 exact Ip [(0,0)] ⟨rfl,rfl⟩
 refine C9 ?_
 refine Bk 89 153 B fun B=>?_
 refine Ak <| Bu (Ch _ _ []) (by kernel_rfl) [0,1,3,7,0,16,48,112,240,511,1023,0,4095,8191] 153 265 B rfl rfl (by kernel_rfl) ?_
 refine Aw ?_
 obtain⟨e,he,G⟩:=Ab G
 refine Aw ?_
 refine Rg he ?_
 refine Aw ?_
 obtain⟨y,hy,G⟩:=Ab G
 refine Dl (kQ _ _ _ hy) ?_
 refine Bi fun B=>?_
 refine Fj ?_
 obtain rfl:=oi_ G
 exact Ip [(0,0)] ⟨rfl,rfl⟩
theorem Ot (d:Ah) (l:(List Int)) (r:Int×Ah) (G:Im d l=some r):Fn Tryz.prog 31 1 [.ptr 0 0,.sl 1 (As eI l)] [.box [.sl 1 (As eI d.L),vk d.At] 71] (fun d' b'=>d'=vk r.1/\b'=[.box [.sl 1 (As eI r.2.L),vk r.2.At] 71]):=by
 unfold Im at G
 refine Fn.of Tryz.func31 rfl rfl rfl fun w0 I ρ0=>?_
 show B4 _ ⟨w0,I,ρ0,1,1,12⟩ _ _ _
 refine Bk 1 9 Ay fun B=>?_
 refine Ca 9 73 B ?_
 refine Aw ?_
 obtain⟨y,hy,G⟩:=Ab G
 refine Ki [0] [0] [] false (B6 _ _ _ hy) ?_
 obtain⟨e,he,G⟩:=Ab G
 refine Aw ?_
 refine Rg he ?_
 refine Bi fun B=>?_
 refine Fj ?_
 obtain rfl:=oi_ G
 exact Ip [(0,0)] ⟨rfl,rfl⟩
theorem Le (d:Ah) (n:Int) (r:Bool×Ah) (G:Gr d n=some r):Fn Tryz.prog 16 1 [.ptr 0 0,vk n] [.box [.sl 1 (As eI d.L),vk d.At] 71] (fun d' b'=>d'=.val (.bool r.1)/\b'=[.box [.sl 1 (As eI r.2.L),vk r.2.At] 71]):=by
 unfold Gr at G
 refine Fn.of Tryz.func16 rfl rfl rfl fun w0 I ρ0=>?_
 show B4 _ ⟨w0,I,ρ0,1,1,11⟩ _ _ _
 refine Bk 1 9 Ay fun B=>?_
 refine Ca 9 65 B ?_
 refine Aw ?_
 obtain⟨y,hy,G⟩:=Ab G
 refine Ki [0] [0] [] false (B6 _ _ _ hy) ?_
 refine Bi fun B=>?_
 refine Fj ?_
 obtain rfl:=oi_ G
 exact Ip [(0,0)] ⟨rfl,rfl⟩
theorem Z2  (r:Ar) (G:Ol=some r):Fn Tryz.prog 33 0 [] [] (fun d' b'=>d'=.agg [vk r.Alg,vk r.Bits]/\b'=[]):=by
 unfold Ol at G
 refine Fn.of Tryz.func33 rfl rfl rfl fun w0 I ρ0=>?_
 show B4 _ ⟨w0,I,ρ0,0,0,2⟩ _ _ _
 refine Bk 0 8 Ay fun B=>?_
 refine Ca 8 24 B ?_
 refine Mv Kv Qd X1 ?_
 exact Df
theorem gC (c:Ae) (r:Ae) (G:Lr c=some r):Fn Tryz.prog 87 0 [.agg (Ae.dv c)] [] (fun d' b'=>d'=.agg (Ae.dv r)/\b'=[]):=by
 unfold Lr at G
 refine Fn.of Tryz.func87 rfl rfl rfl fun w0 I ρ0=>?_
 show B4 _ ⟨w0,I,ρ0,0,0,9⟩ _ _ _
 refine Bk 0 16 Ay fun B=>?_
 refine Ca 16 64 B ?_
 refine C1 rfl rfl (H7 Yd z9 (by decide) rfl rfl rfl rfl ck9 (cs:=[]) .nil rfl (l:=([]:List ByteArray)) (f:=eS) rfl) rfl rfl ?_
 refine Aw ?_
 obtain⟨l,hl,G⟩:=Ab G
 refine Gs (rd:=[16]) rfl rfl (Dp Yd Zq .row rfl .sl rfl hl rfl) rfl rfl ?_
 refine Bi fun B=>?_
 refine Bk 64 80 B fun B=>?_
 exact K0
theorem Nv (s:ByteArray) (r:Bool) (G:Cn s=some r):Fn Tryz.prog 96 0 [ws s] [] (fun d' b'=>d'=.val (.bool r)/\b'=[]):=by
 unfold Cn at G
 refine Fn.of Tryz.func96 rfl rfl rfl fun w0 I ρ0=>?_
 show B4 _ ⟨w0,I,ρ0,0,0,28⟩ _ _ _
 refine Bk 0 8 Ay fun B=>?_
 refine Ak <| Bs (ι:=Bool) (fun (x11_1:Bool)=>mk [(0,ws s),(11,.val (.bool x11_1))] [] 0) (fun (x11_1:Bool)=>Cn.j1 s x11_1=some r) ?_ ?_
 refine Al (Ch _ _ []) 8 72 B rfl rfl ?_
 refine Aw ?_
 refine C1 rfl rfl (Qa S4) rfl rfl ?_
 refine Aw ?_
 rcases Dj G with ⟨h2,G⟩ | ⟨h2,G⟩
 refine Bi fun B=>?_
 exact⟨true,G,Av []⟩
 refine Aw ?_
 refine C1 (Dx rfl rfl h2) rfl (Qa S4) rfl rfl ?_
 refine Bi fun B=>?_
 exact⟨decide (32 < (s.size:Int)),G,Av []⟩
 rintro x11_1 G
 replace G:Cn.j1 s x11_1=some r:=G
 show B4 _ _ _ _ (mk _ _ _)
 unfold Cn.j1 at G
 refine Cr rfl G (fun h5 G=>?_) fun h5 G=>?_
 refine Ca 0 8 Ay ?_
 exact Df
 refine C9 ?_
 refine Ak <| Bk 0 8 Ay fun B=>?_
 refine Aq <| Jp (fun (i_2:Int)=>mk [(0,ws s),(3,vk i_2)] [] 0) G (Av []) ?_
 rintro i_2 m2 o2 G hn2
 replace G:Cn.l2 s i_2=some o2:=G
 show B4 _ _ _ _ (mk _ _ _)
 unfold Cn.l2 at G
 refine Ak <| Ca 0 32 Ay ?_
 refine Aw ?_
 refine C1 rfl rfl (Qa S4) rfl rfl ?_
 refine Bi fun B=>?_
 refine Cr rfl G (fun h9 G=>?_) fun h9 G=>?_
 refine C9 ?_
 refine Ak <| Aq <| Bs (ι:=Bool) (fun (x27_3:Bool)=>mk [(0,ws s),(3,vk i_2),(27,.val (.bool x27_3))] [] 0) (fun (x27_3:Bool)=>Cn.j3 i_2 x27_3=some o2) ?_ ?_
 refine Al (Ch _ _ []) 32 112 B rfl rfl ?_
 refine Aw ?_
 obtain⟨c,hc,G⟩:=Ab G
 refine C1 rfl rfl (fU S4 hc) rfl rfl ?_
 refine Aw ?_
 rcases Dj G with ⟨h10,G⟩ | ⟨h10,G⟩
 refine Bi fun B=>?_
 exact⟨true,G,Av []⟩
 refine Aw ?_
 obtain⟨c_2,hc_2,G⟩:=Ab G
 refine C1 (Dx rfl rfl h10) rfl (fU S4 hc_2) rfl rfl ?_
 refine Bi fun B=>?_
 exact⟨decide (126 < (c_2.toNat:Int)),G,Av []⟩
 rintro x27_3 G
 replace G:Cn.j3 i_2 x27_3=some o2:=G
 show B4 _ _ _ _ (mk _ _ _)
 unfold Cn.j3 at G
 refine Cr rfl G (fun h13 G=>?_) fun h13 G=>?_
 refine Bk 0 8 Ay fun B=>?_
 refine Fj ?_
 replace G:=Ce G hn2
 exact Ts
 refine C9 ?_
 refine Al (Ch _ _ []) 0 24 Ay rfl rfl ?_
 refine Bi fun B=>?_
 obtain rfl:=oi_ G
 exact⟨(W (i_2 + 1),m2),aBj _,hn2,Av []⟩
 refine Jl ?_
 replace G:=Ce G hn2
 refine Bk 32 40 B fun B=>?_
 exact K0
theorem Yy (b:Int) (r:Int) (G:Dv b=some r):Fn Tryz.prog 172 0 [vk b] [] (fun d' b'=>d'=vk r/\b'=[]):=by
 unfold Dv at G
 refine Fn.of Tryz.func172 rfl rfl rfl fun w0 I ρ0=>?_
 show B4 _ ⟨w0,I,ρ0,0,0,25⟩ _ _ _
 refine Bk 0 8 Ay fun B=>?_
 refine Ak <| Aq <| Bs (ι:=Bool) (fun (x3_1:Bool)=>mk [(0,vk b),(3,.val (.bool x3_1))] [] 0) (fun (x3_1:Bool)=>Dv.j1 b x3_1=some r) ?_ ?_
 refine Al (Ch _ _ []) 8 64 B rfl rfl ?_
 refine Aw ?_
 rcases Dj G with ⟨h2,G⟩ | ⟨h2,G⟩
 refine Bi fun B=>?_
 exact⟨true,G,Av []⟩
 refine Bi fun B=>?_
 exact⟨decide (16384 < b),G,Av []⟩
 rintro x3_1 G
 replace G:Dv.j1 b x3_1=some r:=G
 show B4 _ _ _ _ (mk _ _ _)
 unfold Dv.j1 at G
 refine Cr rfl G (fun h5 G=>?_) fun h5 G=>?_
 refine Ca 0 8 Ay ?_
 exact Df
 refine Bk 0 24 Ay fun B=>?_
 refine Cr rfl G (fun h8 G=>?_) fun h8 G=>?_
 refine Ca 24 32 B ?_
 exact Df
 refine Bk 24 48 B fun B=>?_
 refine Cr rfl G (fun h11 G=>?_) fun h11 G=>?_
 refine Ca 48 56 B ?_
 exact Df
 refine Bk 48 72 B fun B=>?_
 refine Cr rfl G (fun h14 G=>?_) fun h14 G=>?_
 refine Ca 72 80 B ?_
 exact Df
 refine Bk 72 96 B fun B=>?_
 refine Cr rfl G (fun h17 G=>?_) fun h17 G=>?_
 refine Ca 96 104 B ?_
 exact Df
 refine Bk 96 120 B fun B=>?_
 refine Cr rfl G (fun h20 G=>?_) fun h20 G=>?_
 refine Ca 120 128 B ?_
 exact Df
 refine C9 ?_
 refine Bk 120 128 B fun B=>?_
 exact K0
theorem J0 (b:Int) (sizes:(List Int)) (strengths:(List Int)) (r:Int) (G:B9 b sizes strengths=some r):Fn Tryz.prog 173 0 [vk b,.sl 1 (As eI sizes),.sl 1 (As eI strengths)] [] (fun d' b'=>d'=vk r/\b'=[]):=by
 unfold B9 at G
 refine Fn.of Tryz.func173 rfl rfl rfl fun w0 I ρ0=>?_
 show B4 _ ⟨w0,I,ρ0,0,0,24⟩ _ _ _
 refine Bk 0 8 Ay fun B=>?_
 refine Ak <| Bk 8 16 B fun B=>?_
 refine Aq <| Jp (fun (i_1:Int)=>mk [(0,vk b),(1,.sl 1 (As eI sizes)),(2,.sl 1 (As eI strengths)),(7,vk i_1)] [] 0) G (Av []) ?_
 rintro i_1 m1 o1 G hn1
 replace G:B9.l1 b sizes strengths i_1=some o1:=G
 show B4 _ _ _ _ (mk _ _ _)
 unfold B9.l1 at G
 refine Ak <| Bk 0 32 Ay fun B=>?_
 refine Cr rfl G (fun h4 G=>?_) fun h4 G=>?_
 refine C9 ?_
 refine Ak <| Aq <| Ca 32 80 B ?_
 refine Aw ?_
 obtain⟨e,he,G⟩:=Ab G
 refine Aw ?_
 refine Rg he ?_
 refine Bi fun B=>?_
 refine Cr rfl G (fun h6 G=>?_) fun h6 G=>?_
 refine Ca 80 120 B ?_
 refine Aw ?_
 obtain⟨e_2,he_2,G⟩:=Ab G
 refine Aw ?_
 refine Rg he_2 ?_
 refine Bi fun B=>?_
 refine Fj ?_
 replace G:=Ce G hn1
 exact Ts
 refine C9 ?_
 refine Al (Ch _ _ []) 80 104 B rfl rfl ?_
 refine Bi fun B=>?_
 obtain rfl:=oi_ G
 exact⟨(W (i_1 + 1),m1),aBj _,hn1,Av []⟩
 refine Jl ?_
 replace G:=Ce G hn1
 refine Bk 32 40 B fun B=>?_
 exact K0
theorem bC (alg:Int) (r:Int) (G:Do alg=some r):Fn Tryz.prog 174 0 [vk alg] [] (fun d' b'=>d'=vk r/\b'=[]):=by
 unfold Do at G
 refine Fn.of Tryz.func174 rfl rfl rfl fun w0 I ρ0=>?_
 show B4 _ ⟨w0,I,ρ0,0,0,21⟩ _ _ _
 refine Bk 0 8 Ay fun B=>?_
 refine Ak <| Bk 8 16 B fun B=>?_
 refine Aq <| Bk 16 32 B fun B=>?_
 refine Cr rfl G (fun h4 G=>?_) fun h4 G=>?_
 refine Ca 32 40 B ?_
 exact Df
 refine Bk 32 48 B fun B=>?_
 refine Cr rfl G (fun h7 G=>?_) fun h7 G=>?_
 refine Ca 48 56 B ?_
 exact Df
 refine Bs (ι:=Bool) (fun (x8_1:Bool)=>mk [(3,vk alg),(8,.val (.bool x8_1))] [] 0) (fun (x8_1:Bool)=>Do.j1 alg x8_1=some r) ?_ ?_
 refine Bk 48 64 B fun B=>?_
 refine Cr rfl G (fun h10 G=>?_) fun h10 G=>?_
 refine C9 ?_
 exact⟨decide (alg=3),G,Av []⟩
 refine Bk 64 80 B fun B=>?_
 refine Cr rfl G (fun h12 G=>?_) fun h12 G=>?_
 refine C9 ?_
 exact⟨decide (alg=8),G,Av []⟩
 refine Al (Ch _ _ []) 80 96 B rfl rfl ?_
 refine Bi fun B=>?_
 exact⟨decide (alg=21),G,Av []⟩
 rintro x8_1 G
 replace G:Do.j1 alg x8_1=some r:=G
 show B4 _ _ _ _ (mk _ _ _)
 unfold Do.j1 at G
 refine Cr rfl G (fun h14 G=>?_) fun h14 G=>?_
 refine Ca 0 8 Ay ?_
 exact Df
 refine Bk 0 16 Ay fun B=>?_
 refine Cr rfl G (fun h17 G=>?_) fun h17 G=>?_
 refine Ca 16 24 B ?_
 exact Df
 refine Bs (ι:=Bool) (fun (x14_2:Bool)=>mk [(3,vk alg),(14,.val (.bool x14_2))] [] 0) (fun (x14_2:Bool)=>Do.j2 alg x14_2=some r) ?_ ?_
 refine Bk 16 32 B fun B=>?_
 refine Cr rfl G (fun h20 G=>?_) fun h20 G=>?_
 refine C9 ?_
 exact⟨decide (alg=18),G,Av []⟩
 refine Al (Ch _ _ []) 32 48 B rfl rfl ?_
 refine Bi fun B=>?_
 exact⟨decide (alg=22),G,Av []⟩
 rintro x14_2 G
 replace G:Do.j2 alg x14_2=some r:=G
 show B4 _ _ _ _ (mk _ _ _)
 unfold Do.j2 at G
 refine Cr rfl G (fun h22 G=>?_) fun h22 G=>?_
 refine Ca 0 8 Ay ?_
 exact Df
 refine Bk 0 16 Ay fun B=>?_
 refine Cr rfl G (fun h25 G=>?_) fun h25 G=>?_
 refine Ca 16 24 B ?_
 exact Df
 refine Bk 16 32 B fun B=>?_
 refine Cr rfl G (fun h28 G=>?_) fun h28 G=>?_
 refine Ca 32 40 B ?_
 exact Df
 refine C9 ?_
 refine Bk 32 40 B fun B=>?_
 exact K0
theorem Xu (u:Ar) (r:Int) (G:Az u=some r):Fn Tryz.prog 125 0 [.agg [vk u.Alg,vk u.Bits]] [] (fun d' b'=>d'=vk r/\b'=[]):=by
 unfold Az at G
 refine Fn.of Tryz.func125 rfl rfl rfl fun w0 I ρ0=>?_
 show B4 _ ⟨w0,I,ρ0,0,0,76⟩ _ _ _
 refine Bk 0 16 Ay fun B=>?_
 refine Bk 16 40 B fun B=>?_
 refine Ak <| Bk 40 56 B fun B=>?_
 refine Aq <| Bs (ι:=Bool) (fun (x8_1:Bool)=>mk [(1,.ptr 0 0),(3,vk u.Bits),(7,vk u.Alg),(8,.val (.bool x8_1))] [(0,.box [vk u.Alg,vk u.Bits] 34)] 1) (fun (x8_1:Bool)=>Az.j1 u x8_1=some r) ?_ ?_
 refine Bk 56 72 B fun B=>?_
 refine Cr rfl G (fun h5 G=>?_) fun h5 G=>?_
 refine C9 ?_
 exact⟨decide (u.Alg=5),G,Av [(0,0)]⟩
 refine Bk 72 88 B fun B=>?_
 refine Cr rfl G (fun h7 G=>?_) fun h7 G=>?_
 refine C9 ?_
 exact⟨decide (u.Alg=6),G,Av [(0,0)]⟩
 refine Bk 88 104 B fun B=>?_
 refine Cr rfl G (fun h9 G=>?_) fun h9 G=>?_
 refine C9 ?_
 exact⟨decide (u.Alg=10),G,Av [(0,0)]⟩
 refine Al (Ch _ _ []) 104 120 B rfl rfl ?_
 refine Bi fun B=>?_
 exact⟨decide (u.Alg=11),G,Av [(0,0)]⟩
 rintro x8_1 G
 replace G:Az.j1 u x8_1=some r:=G
 show B4 _ _ _ _ (mk _ _ _)
 unfold Az.j1 at G
 refine Cr rfl G (fun h11 G=>?_) fun h11 G=>?_
 refine Ca 1 25 Ay ?_
 refine Aw ?_
 obtain⟨y,hy,G⟩:=Ab G
 refine Dl (Yy _ _ hy) ?_
 exact Df
 refine Bs (ι:=Bool) (fun (x15_2:Bool)=>mk [(1,.ptr 0 0),(3,vk u.Bits),(7,vk u.Alg),(15,.val (.bool x15_2))] [(0,.box [vk u.Alg,vk u.Bits] 34)] 1) (fun (x15_2:Bool)=>Az.j2 u x15_2=some r) ?_ ?_
 refine Bk 1 17 Ay fun B=>?_
 refine Cr rfl G (fun h14 G=>?_) fun h14 G=>?_
 refine C9 ?_
 exact⟨decide (u.Alg=7),G,Av [(0,0)]⟩
 refine Al (Ch _ _ []) 17 33 B rfl rfl ?_
 refine Bi fun B=>?_
 exact⟨decide (u.Alg=12),G,Av [(0,0)]⟩
 rintro x15_2 G
 replace G:Az.j2 u x15_2=some r:=G
 show B4 _ _ _ _ (mk _ _ _)
 unfold Az.j2 at G
 refine Cr rfl G (fun h16 G=>?_) fun h16 G=>?_
 refine Ak <| Bs (ι:=Bool) (fun (x35_3:Bool)=>mk [(3,vk u.Bits),(35,.val (.bool x35_3))] [] 0) (fun (x35_3:Bool)=>Az.j3 u x35_3=some r) ?_ ?_
 refine Al (Ch _ _ []) 1 145 Ay rfl rfl ?_
 refine Aw ?_
 rcases Dj G with ⟨h17,G⟩ | ⟨h17,G⟩
 refine Bi fun B=>?_
 exact⟨true,G,Av []⟩
 refine Aw ?_
 rcases Dj G with ⟨h19,G⟩ | ⟨h19,G⟩
 refine Bi fun B=>?_
 exact⟨true,G,Av []⟩
 refine Aw ?_
 rcases Dj G with ⟨h21,G⟩ | ⟨h21,G⟩
 refine Bi fun B=>?_
 exact⟨true,G,Av []⟩
 refine Aw ?_
 rcases Dj G with ⟨h23,G⟩ | ⟨h23,G⟩
 refine Bi fun B=>?_
 exact⟨true,G,Av []⟩
 refine Bi fun B=>?_
 exact⟨decide (u.Bits=521),G,Av []⟩
 rintro x35_3 G
 replace G:Az.j3 u x35_3=some r:=G
 show B4 _ _ _ _ (mk _ _ _)
 unfold Az.j3 at G
 refine Cr rfl G (fun h26 G=>?_) fun h26 G=>?_
 refine Ca 0 24 Ay ?_
 refine Aw ?_
 obtain⟨q,hq,G⟩:=Ab G
 refine C1 rfl rfl (Sx hq) rfl rfl ?_
 exact Df
 refine C9 ?_
 refine Bk 0 8 Ay fun B=>?_
 exact K0
 refine Bk 1 17 Ay fun B=>?_
 refine Cr rfl G (fun h30 G=>?_) fun h30 G=>?_
 refine Ca 17 57 B ?_
 refine Aw ?_
 refine Kx F0 z3 Oq ([44,65,87]:List Int) eI ?_
 refine Kx F0 z3 Oq ([128,192,256]:List Int) eI ?_
 obtain⟨y_2,hy_2,G⟩:=Ab G
 refine Ki [25,33] [] [] true (J0 _ _ _ _ hy_2) ?_
 exact Df
 refine Bk 17 33 B fun B=>?_
 refine Cr rfl G (fun h33 G=>?_) fun h33 G=>?_
 refine Ca 33 73 B ?_
 refine Aw ?_
 refine Kx F0 z3 Oq ([512,768,1024]:List Int) eI ?_
 refine Kx F0 z3 Oq ([128,192,256]:List Int) eI ?_
 obtain⟨y_3,hy_3,G⟩:=Ab G
 refine Ki [41,49] [] [] true (J0 _ _ _ _ hy_3) ?_
 exact Df
 refine Bk 33 49 B fun B=>?_
 refine Cr rfl G (fun h36 G=>?_) fun h36 G=>?_
 refine Ca 49 89 B ?_
 refine Aw ?_
 refine Kx F0 z3 Oq ([40,128]:List Int) eI ?_
 refine Kx F0 z3 Oq ([40,60]:List Int) eI ?_
 obtain⟨y_4,hy_4,G⟩:=Ab G
 refine Ki [57,65] [] [] true (J0 _ _ _ _ hy_4) ?_
 exact Df
 refine Bk 49 65 B fun B=>?_
 refine Cr rfl G (fun h39 G=>?_) fun h39 G=>?_
 refine Ca 65 105 B ?_
 refine Aw ?_
 refine Kx F0 z3 Oq ([112,168]:List Int) eI ?_
 refine Kx F0 z3 Oq ([80,112]:List Int) eI ?_
 obtain⟨y_5,hy_5,G⟩:=Ab G
 refine Ki [73,81] [] [] true (J0 _ _ _ _ hy_5) ?_
 exact Df
 refine Bs (ι:=Bool) (fun (x62_4:Bool)=>mk [(1,.ptr 0 0),(3,vk u.Bits),(62,.val (.bool x62_4))] [(0,.box [vk u.Alg,vk u.Bits] 34)] 1) (fun (x62_4:Bool)=>Az.j4 u x62_4=some r) ?_ ?_
 refine Bk 65 81 B fun B=>?_
 refine Cr rfl G (fun h42 G=>?_) fun h42 G=>?_
 refine C9 ?_
 exact⟨decide (u.Alg=16),G,Av [(0,0)]⟩
 refine Al (Ch _ _ []) 81 97 B rfl rfl ?_
 refine Bi fun B=>?_
 exact⟨decide (u.Alg=17),G,Av [(0,0)]⟩
 rintro x62_4 G
 replace G:Az.j4 u x62_4=some r:=G
 show B4 _ _ _ _ (mk _ _ _)
 unfold Az.j4 at G
 refine Cr rfl G (fun h44 G=>?_) fun h44 G=>?_
 refine Ca 1 41 Ay ?_
 refine Aw ?_
 refine Kx F0 z3 Oq ([128,256]:List Int) eI ?_
 refine Kx F0 z3 Oq ([128,256]:List Int) eI ?_
 obtain⟨y_6,hy_6,G⟩:=Ab G
 refine Ki [9,17] [] [] true (J0 _ _ _ _ hy_6) ?_
 exact Df
 refine C9 ?_
 refine Ca 1 65 Ay ?_
 refine Aw ?_
 refine Kx F0 z3 Oq ([0]:List Int) eI ?_
 refine Aw ?_
 obtain⟨y_7,hy_7,G⟩:=Ab G
 refine Dl (bC _ _ hy_7) ?_
 refine Kx F0 z3 Oq ([y_7]:List Int) eI ?_
 obtain⟨y_8,hy_8,G⟩:=Ab G
 refine Ki [9,41] [] [] true (J0 _ _ _ _ hy_8) ?_
 exact Df
theorem P6 (u:Ar) (r:Bool) (G:I9 u=some r):Fn Tryz.prog 97 0 [.agg [vk u.Alg,vk u.Bits]] [] (fun d' b'=>d'=.val (.bool r)/\b'=[]):=by
 unfold I9 at G
 refine Fn.of Tryz.func97 rfl rfl rfl fun w0 I ρ0=>?_
 show B4 _ ⟨w0,I,ρ0,0,0,6⟩ _ _ _
 refine Bk 0 16 Ay fun B=>?_
 refine Ca 16 48 B ?_
 refine Aw ?_
 obtain⟨y,hy,G⟩:=Ab G
 refine Dl (Xu _ _ hy) ?_
 exact Df
theorem gE  (r:(List Au)) (G:R1=some r):Fn Tryz.prog 124 0 [] [] (fun d' b'=>d'=.sl 2 (As Au.enc r)/\b'=[]):=by
 unfold R1 at G
 refine Fn.of Tryz.func124 rfl rfl rfl fun w0 I ρ0=>?_
 show B4 _ ⟨w0,I,ρ0,0,0,25⟩ _ _ _
 refine Bk 0 8 Ay fun B=>?_
 refine Ca 8 208 B ?_
 refine C1 rfl rfl (.build (r:=[.val (.string (⟨#[]⟩:ByteArray)),.val (.int .i64 0)]) H5 Ku Nj (by kernel_rfl) rfl) rfl rfl ?_
 refine C1 rfl rfl (.build (r:=[.val (.string (⟨#[109,100,53]⟩:ByteArray)),.val (.int .i64 1)]) H5 Ku Nj (by kernel_rfl) rfl) rfl rfl ?_
 refine C1 rfl rfl (.build (r:=[.val (.string (⟨#[115,104,97,49]⟩:ByteArray)),.val (.int .i64 1)]) H5 Ku Nj (by kernel_rfl) rfl) rfl rfl ?_
 refine C1 rfl rfl (.build (r:=[.val (.string (⟨#[115,104,97,50,53,54]⟩:ByteArray)),.val (.int .i64 1)]) H5 Ku Nj (by kernel_rfl) rfl) rfl rfl ?_
 refine C1 rfl rfl (.build (r:=[.val (.string (⟨#[115,104,97,51,56,52]⟩:ByteArray)),.val (.int .i64 1)]) H5 Ku Nj (by kernel_rfl) rfl) rfl rfl ?_
 refine C1 rfl rfl (.build (r:=[.val (.string (⟨#[114,115,97]⟩:ByteArray)),.val (.int .i64 2)]) H5 Ku Nj (by kernel_rfl) rfl) rfl rfl ?_
 refine C1 rfl rfl (.build (r:=[.val (.string (⟨#[100,115,97]⟩:ByteArray)),.val (.int .i64 2)]) H5 Ku Nj (by kernel_rfl) rfl) rfl rfl ?_
 refine C1 rfl rfl (.build (r:=[.val (.string (⟨#[101,99,100,115,97]⟩:ByteArray)),.val (.int .i64 2)]) H5 Ku Nj (by kernel_rfl) rfl) rfl rfl ?_
 refine C1 rfl rfl (.build (r:=[.val (.string (⟨#[101,100,50,53,53,49,57]⟩:ByteArray)),.val (.int .i64 2)]) H5 Ku Nj (by kernel_rfl) rfl) rfl rfl ?_
 refine C1 rfl rfl (.build (r:=[.val (.string (⟨#[109,108,100,115,97]⟩:ByteArray)),.val (.int .i64 2)]) H5 Ku Nj (by kernel_rfl) rfl) rfl rfl ?_
 refine C1 rfl rfl (.build (r:=[.val (.string (⟨#[114,115,97,107,120]⟩:ByteArray)),.val (.int .i64 3)]) H5 Ku Nj (by kernel_rfl) rfl) rfl rfl ?_
 refine C1 rfl rfl (.build (r:=[.val (.string (⟨#[100,104,101]⟩:ByteArray)),.val (.int .i64 3)]) H5 Ku Nj (by kernel_rfl) rfl) rfl rfl ?_
 refine C1 rfl rfl (.build (r:=[.val (.string (⟨#[101,99,100,104,101]⟩:ByteArray)),.val (.int .i64 3)]) H5 Ku Nj (by kernel_rfl) rfl) rfl rfl ?_
 refine C1 rfl rfl (.build (r:=[.val (.string (⟨#[109,108,107,101,109]⟩:ByteArray)),.val (.int .i64 3)]) H5 Ku Nj (by kernel_rfl) rfl) rfl rfl ?_
 refine C1 rfl rfl (.build (r:=[.val (.string (⟨#[114,99,52]⟩:ByteArray)),.val (.int .i64 4)]) H5 Ku Nj (by kernel_rfl) rfl) rfl rfl ?_
 refine C1 rfl rfl (.build (r:=[.val (.string (⟨#[100,101,115,51]⟩:ByteArray)),.val (.int .i64 4)]) H5 Ku Nj (by kernel_rfl) rfl) rfl rfl ?_
 refine C1 rfl rfl (.build (r:=[.val (.string (⟨#[97,101,115,99,98,99]⟩:ByteArray)),.val (.int .i64 4)]) H5 Ku Nj (by kernel_rfl) rfl) rfl rfl ?_
 refine C1 rfl rfl (.build (r:=[.val (.string (⟨#[97,101,115,103,99,109]⟩:ByteArray)),.val (.int .i64 4)]) H5 Ku Nj (by kernel_rfl) rfl) rfl rfl ?_
 refine C1 rfl rfl (.build (r:=[.val (.string (⟨#[99,104,97,99,104,97]⟩:ByteArray)),.val (.int .i64 4)]) H5 Ku Nj (by kernel_rfl) rfl) rfl rfl ?_
 refine C1 rfl rfl (.build (r:=[.val (.string (⟨#[104,109,97,99,109,100,53]⟩:ByteArray)),.val (.int .i64 5)]) H5 Ku Nj (by kernel_rfl) rfl) rfl rfl ?_
 refine C1 rfl rfl (.build (r:=[.val (.string (⟨#[104,109,97,99,115,104,97,49]⟩:ByteArray)),.val (.int .i64 5)]) H5 Ku Nj (by kernel_rfl) rfl) rfl rfl ?_
 refine C1 rfl rfl (.build (r:=[.val (.string (⟨#[104,109,97,99,115,104,97,50,53,54]⟩:ByteArray)),.val (.int .i64 5)]) H5 Ku Nj (by kernel_rfl) rfl) rfl rfl ?_
 refine C1 rfl rfl (.build (r:=[.val (.string (⟨#[97,101,97,100]⟩:ByteArray)),.val (.int .i64 5)]) H5 Ku Nj (by kernel_rfl) rfl) rfl rfl ?_
 refine Kx aAe Nj aGi ([(Au.mk (⟨#[]⟩:ByteArray) 0),(Au.mk (⟨#[109,100,53]⟩:ByteArray) 1),(Au.mk (⟨#[115,104,97,49]⟩:ByteArray) 1),(Au.mk (⟨#[115,104,97,50,53,54]⟩:ByteArray) 1),(Au.mk (⟨#[115,104,97,51,56,52]⟩:ByteArray) 1),(Au.mk (⟨#[114,115,97]⟩:ByteArray) 2),(Au.mk (⟨#[100,115,97]⟩:ByteArray) 2),(Au.mk (⟨#[101,99,100,115,97]⟩:ByteArray) 2),(Au.mk (⟨#[101,100,50,53,53,49,57]⟩:ByteArray) 2),(Au.mk (⟨#[109,108,100,115,97]⟩:ByteArray) 2),(Au.mk (⟨#[114,115,97,107,120]⟩:ByteArray) 3),(Au.mk (⟨#[100,104,101]⟩:ByteArray) 3),(Au.mk (⟨#[101,99,100,104,101]⟩:ByteArray) 3),(Au.mk (⟨#[109,108,107,101,109]⟩:ByteArray) 3),(Au.mk (⟨#[114,99,52]⟩:ByteArray) 4),(Au.mk (⟨#[100,101,115,51]⟩:ByteArray) 4),(Au.mk (⟨#[97,101,115,99,98,99]⟩:ByteArray) 4),(Au.mk (⟨#[97,101,115,103,99,109]⟩:ByteArray) 4),(Au.mk (⟨#[99,104,97,99,104,97]⟩:ByteArray) 4),(Au.mk (⟨#[104,109,97,99,109,100,53]⟩:ByteArray) 5),(Au.mk (⟨#[104,109,97,99,115,104,97,49]⟩:ByteArray) 5),(Au.mk (⟨#[104,109,97,99,115,104,97,50,53,54]⟩:ByteArray) 5),(Au.mk (⟨#[97,101,97,100]⟩:ByteArray) 5)]:List Au) Au.enc ?_
 exact Df
theorem Rx (alg:Int) (r:Int) (G:Ew alg=some r):Fn Tryz.prog 95 0 [vk alg] [] (fun d' b'=>d'=vk r/\b'=[]):=by
 unfold Ew at G
 refine Fn.of Tryz.func95 rfl rfl rfl fun w0 I ρ0=>?_
 show B4 _ ⟨w0,I,ρ0,0,0,14⟩ _ _ _
 refine Bk 0 8 Ay fun B=>?_
 refine Ak <| Bs (ι:=Bool) (fun (x8_1:Bool)=>mk [(0,vk alg),(8,.val (.bool x8_1))] [] 0) (fun (x8_1:Bool)=>Ew.j1 alg x8_1=some r) ?_ ?_
 refine Al (Ch _ _ []) 8 56 B rfl rfl ?_
 refine Aw ?_
 rcases Dj G with ⟨h2,G⟩ | ⟨h2,G⟩
 refine Bi fun B=>?_
 exact⟨true,G,Av []⟩
 refine Bi fun B=>?_
 exact⟨decide (22 < alg),G,Av []⟩
 rintro x8_1 G
 replace G:Ew.j1 alg x8_1=some r:=G
 show B4 _ _ _ _ (mk _ _ _)
 unfold Ew.j1 at G
 refine Cr rfl G (fun h5 G=>?_) fun h5 G=>?_
 refine Ca 0 8 Ay ?_
 exact Df
 refine C9 ?_
 refine Ca 0 48 Ay ?_
 obtain⟨y,hy,G⟩:=Ab G
 refine Dl (gE _ hy) ?_
 refine Aw ?_
 obtain⟨e,he,G⟩:=Ab G
 refine Aw ?_
 refine C1 rfl rfl (Fa nQ Sq (by decide) (Jb Au.enc_len (B3 he) (o:=1) (by decide) rfl)) rfl rfl ?_
 refine C1 rfl rfl (Da Sq (Eo Au.enc_len (B3 he) (o:=1) (c:=.int .i64 e.kind) rfl rfl)) rfl rfl ?_
 exact Df
end Go.Proofs.YtkoflhimdenjaaaGreat
