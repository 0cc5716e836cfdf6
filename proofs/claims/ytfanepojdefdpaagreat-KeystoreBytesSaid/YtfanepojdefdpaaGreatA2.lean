import Derived.Test.YtfanepojdefdpaaGreatT1
import Derived.Test.YtfanepojdefdpaaGreatA1
set_option linter.unusedVariables false
set_option linter.unusedSimpArgs false
set_option maxRecDepth 100000
set_option maxHeartbeats 1600000
namespace Go.Proofs.YtfanepojdefdpaaGreat
open Go.RowKit
theorem Jw (l:(List Ac)) (r:Int) (D:By l=some r):Fn Tryz.prog 16 0 [.sl 6 (An Ac.enc l)] [] (fun d' b'=>d'=vj r/\b'=[]):=by
 unfold By at D
 refine Fn.of Tryz.func16 rfl rfl rfl fun w0 I ρ0=>?_
 show Ca _ ⟨w0,I,ρ0,0,0,45⟩ _ _ _
 refine A6 0 8 Az ?_
 refine Ak ?_
 refine Ai fun B=>?_
 refine Ah ?_
 refine A6 8 32 B ?_
 refine Ak ?_
 refine Ai fun B=>?_
 refine Au ?_
 refine Lu (fun (x7_1:Int)=>mk [(0,.sl 6 (An Ac.enc l)),(5,.sl 6 (An Ac.enc l)),(6,.val (.int .i64 (l.length:Int))),(7,vj x7_1)] [] 0) D (Ay []) ?_
 rintro x7_1 m1 o1 D hn1
 replace D:By.l1 l x7_1=some o1:=D
 show Ca _ _ _ _ (mk _ _ _)
 unfold By.l1 at D
 refine A6 0 8 Az ?_
 refine Ak ?_
 refine Ai fun B=>?_
 refine Ah ?_
 refine Dh rfl D (fun h4 D=>?_) fun h4 D=>?_
 ·refine Ao ?_
  repeat first | refine Cw ?_ | refine Cy ?_
  refine Ah ?_
  refine Au ?_
  refine A6 8 56 B ?_
  refine Ak ?_
  obtain⟨e,he,D⟩:=Ae D
  refine Ak ?_
  refine Bj rfl rfl (Dx Uu (Cm Ac.enc_len (Aq he) (o:=0) (m:=6) (cs:=(Ac.ec e)) rfl (by decide) rfl) (Bn Ac.enc_len (Aq he) (o:=0) (m:=6) (by decide) rfl)) rfl rfl ?_
  refine Ak ?_
  refine Ai fun B=>?_
  refine Bm (ι:=Bool) (fun (x40_2:Bool)=>mk [(0,.sl 6 (An Ac.enc l)),(5,.sl 6 (An Ac.enc l)),(6,.val (.int .i64 (l.length:Int))),(7,vj x7_1),(40,.val (.bool x40_2))] [] 0) (fun (x40_2:Bool)=>By.j2 x7_1 x40_2=some o1) ?_ ?_
  ·refine Cs (Bi _ _ []) (by kernel_rfl) [0,1,3,7,15,31,63,127,255,255,767,2047,4095,8191,255,16639,65535,131071,262143,524287,1048575,2097151,1048575,5242879,1048575,17825791,67108863,134217727,268435455] 56 288 B rfl rfl (by kernel_rfl) ?_
   refine Ak ?_
   obtain⟨y,hy,D⟩:=Ae D
   refine Ek (Kg _ _ hy) ?_
   refine Ak ?_
   rcases Eb D with ⟨h6,D⟩ | ⟨h6,D⟩
   ·refine Ak ?_
    refine Ai fun B=>?_
    exact⟨true,D,Ay []⟩
   ·refine Ak ?_
    rcases Eb D with ⟨h8,D⟩ | ⟨h8,D⟩
    ·refine Ak ?_
     obtain⟨e_2,he_2,D⟩:=Ae D
     refine Ak ?_
     refine Bj (Cj rfl rfl h8) rfl (Eu R3 Wv (by decide) (Gh Ac.enc_len (Aq he_2) (o:=0) (by decide) rfl)) rfl rfl ?_
     refine Bj (Cj rfl rfl h8) rfl (Bl Wv (Bf Ac.enc_len (Aq he_2) (o:=0) (c:=.str e_2.Alias) rfl rfl)) rfl rfl ?_
     refine Ak ?_
     refine Bj (Cj rfl rfl h8) rfl bQ rfl rfl ?_
     refine Ak ?_
     rcases Eb D with ⟨h9,D⟩ | ⟨h9,D⟩
     ·refine Ak ?_
      refine Ai fun B=>?_
      exact⟨true,D,Ay []⟩
     ·refine Ak ?_
      obtain⟨y_2,hy_2,D⟩:=Ae D
      refine Ek (Nw _ _ _ _ hy_2) ?_
      refine Ak ?_
      refine Ai fun B=>?_
      exact⟨!y_2,D,Ay []⟩
    ·refine Ak ?_
     obtain⟨y_3,hy_3,D⟩:=Ae D
     refine Ek (Nw _ _ _ _ hy_3) ?_
     refine Ak ?_
     refine Ai fun B=>?_
     exact⟨!y_3,D,Ay []⟩
  ·rintro x40_2 D
   replace D:By.j2 x7_1 x40_2=some o1:=D
   show Ca _ _ _ _ (mk _ _ _)
   unfold By.j2 at D
   refine Dh rfl D (fun h13 D=>?_) fun h13 D=>?_
   ·refine Ah ?_
    refine Af (Bi _ _ []) 0 8 Az rfl rfl ?_
    refine Ak ?_
    refine Ai fun B=>?_
    refine A4 ?_
    replace D:=C5 D hn1
    obtain rfl:=oi_ D
    exact A3 [] ⟨rfl,rfl⟩
   ·refine Ao ?_
    repeat first | refine Cw ?_ | refine Cy ?_
    refine Af (Bi _ _ []) 0 16 Az rfl rfl ?_
    refine Ak ?_
    refine Ai fun B=>?_
    obtain rfl:=oi_ D
    exact⟨(W (x7_1 + 1),m1),aDn _,hn1,Ay []⟩
 ·refine B8 ?_
  repeat first | refine Cw ?_ | refine Cy ?_
  replace D:=C5 D hn1
  refine Ah ?_
  refine A6 8 32 B ?_
  refine Ak ?_
  refine Ai fun B=>?_
  refine Dh rfl D (fun h17 D=>?_) fun h17 D=>?_
  ·refine Ah ?_
   refine Af (Bi _ _ []) 32 40 B rfl rfl ?_
   refine Ak ?_
   refine Ai fun B=>?_
   refine A4 ?_
   obtain rfl:=oi_ D
   exact A3 [] ⟨rfl,rfl⟩
  ·refine Ao ?_
   repeat first | refine Cw ?_ | refine Cy ?_
   refine A6 32 40 B ?_
   refine Ak ?_
   refine Ai fun B=>?_
   refine A4 ?_
   obtain rfl:=oi_ D
   exact A3 [] ⟨rfl,rfl⟩
theorem R7 (x':Ac) (c0:ByteArray) (r:Bool) (D:Hn x' c0=some r):Fn Tryz.prog 40 0 [.agg (Ac.dv x'),.elt (([.str c0]:List C).drop 0)] [] (fun d' b'=>d'=.val (.bool r)/\b'=[]):=by
 unfold Hn at D
 refine Fn.of Tryz.func40 rfl rfl rfl fun w0 I ρ0=>?_
 show Ca _ ⟨w0,I,ρ0,0,0,8⟩ _ _ _
 refine A6 0 16 Az ?_
 refine Ak ?_
 refine Ai fun B=>?_
 refine A6 16 56 B ?_
 refine Ak ?_
 refine Bj rfl rfl (Bl Wv (c:=.str c0) rfl) rfl rfl ?_
 refine Ak ?_
 refine Ai fun B=>?_
 refine A4 ?_
 obtain rfl:=oi_ D
 exact A3 [] ⟨rfl,rfl⟩
theorem Im (s:(List Ac)) (f:Ac->Option (Bool)) (f_c0:ByteArray) (hf_f:∀ (x0:Ac) (y:Bool),f x0=some y->Fn Tryz.prog 40 0 [.agg (Ac.dv x0),.elt (([.str f_c0]:List C).drop 0)] [] (fun d' b'=>d'=.val (.bool y)/\b'=[])) (r:Int) (D:Ba s f=some r):Fn Tryz.prog 39 0 [.sl 6 (An Ac.enc s),.clo 40 0 [.elt (([.str f_c0]:List C).drop 0)]] [] (fun d' b'=>d'=vj r/\b'=[]):=by
 unfold Ba at D
 refine Fn.of Tryz.func39 rfl rfl rfl fun w0 I ρ0=>?_
 show Ca _ ⟨w0,I,ρ0,0,0,19⟩ _ _ _
 refine A6 0 8 Az ?_
 refine Ak ?_
 refine Ai fun B=>?_
 refine Ah ?_
 refine A6 8 32 B ?_
 refine Ak ?_
 refine Ai fun B=>?_
 refine Au ?_
 refine Lu (fun (x8_1:Int)=>mk [(0,.sl 6 (An Ac.enc s)),(1,.clo 40 0 [.elt (([.str f_c0]:List C).drop 0)]),(7,.val (.int .i64 (s.length:Int))),(8,vj x8_1)] [] 0) D (Ay []) ?_
 rintro x8_1 m1 o1 D hn1
 replace D:Ba.l1 s f x8_1=some o1:=D
 show Ca _ _ _ _ (mk _ _ _)
 unfold Ba.l1 at D
 refine A6 0 8 Az ?_
 refine Ak ?_
 refine Ai fun B=>?_
 refine Ah ?_
 refine Dh rfl D (fun h4 D=>?_) fun h4 D=>?_
 ·refine Ao ?_
  repeat first | refine Cw ?_ | refine Cy ?_
  refine Ah ?_
  refine Au ?_
  refine A6 8 24 B ?_
  refine Ak ?_
  refine Ai fun B=>?_
  refine A6 24 72 B ?_
  refine Ak ?_
  obtain⟨e,he,D⟩:=Ae D
  refine Ak ?_
  refine Bj rfl rfl (Dx Uu (Cm Ac.enc_len (Aq he) (o:=0) (m:=6) (cs:=(Ac.ec e)) rfl (by decide) rfl) (Bn Ac.enc_len (Aq he) (o:=0) (m:=6) (by decide) rfl)) rfl rfl ?_
  obtain⟨y,hy,D⟩:=Ae D
  refine Qz (rd:=[]) (ps:=[]) (gs:=[]) false rfl rfl (hf_f e _ hy) rfl rfl (.cons (.agg (.cons .val (.cons .val (.cons .val (.cons .val (.cons .val (.cons .sl .nil))))))) (.cons .elt .nil)) rfl rfl (by intro h; cases h) rfl rfl rfl rfl ?_
  refine Ai fun B=>?_
  refine Dh rfl D (fun h7 D=>?_) fun h7 D=>?_
  ·refine Ah ?_
   refine Af (Bi _ _ []) 72 88 B rfl rfl ?_
   refine Ak ?_
   refine Ai fun B=>?_
   refine A4 ?_
   replace D:=C5 D hn1
   obtain rfl:=oi_ D
   exact A3 [] ⟨rfl,rfl⟩
  ·refine Ao ?_
   repeat first | refine Cw ?_ | refine Cy ?_
   refine Af (Bi _ _ []) 72 88 B rfl rfl ?_
   refine Ak ?_
   refine Ai fun B=>?_
   obtain rfl:=oi_ D
   exact⟨(W (x8_1 + 1),m1),aDn _,hn1,Ay []⟩
 ·refine B8 ?_
  repeat first | refine Cw ?_ | refine Cy ?_
  replace D:=C5 D hn1
  refine A6 8 16 B ?_
  refine Ak ?_
  refine Ai fun B=>?_
  refine A4 ?_
  obtain rfl:=oi_ D
  exact A3 [] ⟨rfl,rfl⟩
theorem Px (s:(List ByteArray)) (r:(List ByteArray)) (D:C1 s=some r):Fn Tryz.prog 132 0 [.sl 1 (An eS s)] [] (fun d' b'=>d'=.sl 1 (An eS r)/\b'=[]):=by
 unfold C1 at D
 refine Fn.of Tryz.func132 rfl rfl rfl fun w0 I ρ0=>?_
 show Ca _ ⟨w0,I,ρ0,0,0,8⟩ _ _ _
 refine A6 0 8 Az ?_
 refine Ak ?_
 refine Ai fun B=>?_
 refine Ah ?_
 refine Bm (ι:=Bool) (fun (x4_1:Bool)=>mk [(0,.sl 1 (An eS s)),(4,.val (.bool x4_1))] [] 0) (fun (x4_1:Bool)=>C1.j1 s x4_1=some r) ?_ ?_
 ·refine Af (Bi _ _ []) 8 24 B rfl rfl ?_
  refine Ak ?_
  refine lI rfl rfl ⟨_,aB7⟩ rfl ?_
  intro bz hz2
  rcases bz with _ | _
  ·replace D:=rC D
   refine Ai fun B=>?_
   exact⟨false,D,Ay []⟩
  ·replace D:=pP ((Xz Jo (by decide) (hz2 rfl))) D
   refine Ai fun B=>?_
   exact⟨true,D,Ay []⟩
 ·rintro x4_1 D
  replace D:C1.j1 s x4_1=some r:=D
  show Ca _ _ _ _ (mk _ _ _)
  unfold C1.j1 at D
  refine Dh rfl D (fun h5 D=>?_) fun h5 D=>?_
  ·refine Ah ?_
   refine Af (Bi _ _ []) 0 8 Az rfl rfl ?_
   refine Ak ?_
   refine Ai fun B=>?_
   refine A4 ?_
   obtain rfl:=oi_ D
   exact A3 [] ⟨rfl,rfl⟩
  ·refine Ao ?_
   repeat first | refine Cw ?_ | refine Cy ?_
   refine A6 0 32 Az ?_
   refine Bj rfl rfl (As Tz z9 (by decide) rfl rfl rfl rfl wP (cs:=[]) .nil rfl (l:=([]:List ByteArray)) (f:=eS) rfl) rfl rfl ?_
   refine Ak ?_
   obtain⟨l,hl,D⟩:=Ae D
   refine Ff (rd:=[0]) rfl rfl (Dg Tz Jo .row rfl .sl rfl hl rfl) rfl rfl ?_
   refine Ak ?_
   refine Ai fun B=>?_
   refine A4 ?_
   obtain rfl:=oi_ D
   exact A3 [] ⟨rfl,rfl⟩
theorem Rz (l:(List Ab)) (r:(List Ab)) (D:Da l=some r):Fn Tryz.prog 84 0 [.sl 15 (An Ab.enc l)] [] (fun d' b'=>d'=.sl 15 (An Ab.enc r)/\b'=[]):=by
 unfold Da at D
 refine Fn.of Tryz.func84 rfl rfl rfl fun w0 I ρ0=>?_
 show Ca _ ⟨w0,I,ρ0,0,0,22⟩ _ _ _
 refine A6 0 8 Az ?_
 refine Ak ?_
 refine Ai fun B=>?_
 refine A6 8 16 B ?_
 refine Ak ?_
 refine Ai fun B=>?_
 refine Ah ?_
 refine A6 16 40 B ?_
 refine Ak ?_
 refine Ai fun B=>?_
 refine Au ?_
 refine Lu (fun ((x8_1,out_1):Int×List Ab)=>mk [(3,.row 0),(6,.sl 15 (An Ab.enc l)),(7,.val (.int .i64 (l.length:Int))),(8,vj x8_1)] [(0,.row 67 15 (An Ab.enc out_1))] 1) D (Ay []) ?_
 rintro⟨x8_1,out_1⟩ m1 o1 D hn1
 replace D:Da.l1 l x8_1 out_1=some o1:=D
 show Ca _ _ _ _ (mk _ _ _)
 unfold Da.l1 at D
 refine A6 1 9 Az ?_
 refine Ak ?_
 refine Ai fun B=>?_
 refine Ah ?_
 refine Dh rfl D (fun h5 D=>?_) fun h5 D=>?_
 ·refine Ao ?_
  repeat first | refine Cw ?_ | refine Cy ?_
  refine Ah ?_
  refine Au ?_
  refine A6 9 41 B ?_
  obtain⟨e,he,D⟩:=Ae D
  refine Ak ?_
  refine Bj rfl rfl (Dx iE (Cm Ab.enc_len (Aq he) (o:=0) (m:=15) (cs:=(Ab.ec e)) rfl (by decide) rfl) (Bn Ab.enc_len (Aq he) (o:=0) (m:=15) (by decide) rfl)) rfl rfl ?_
  refine Ak ?_
  refine Ai fun B=>?_
  refine A6 41 81 B ?_
  refine Ak ?_
  obtain⟨y,hy,D⟩:=Ae D
  refine Ek (Px _ _ hy) ?_
  refine Ak ?_
  refine Ai fun B=>?_
  refine Af (Bi _ _ []) 81 121 B rfl rfl ?_
  refine Ak ?_
  refine Bj rfl rfl (As W4 sX (by decide) rfl rfl rfl rfl sQ (cs:=[.int .i64 e.Serial,.str e.Issuer,.str e.Subject,.int .i64 e.Key.Alg,.int .i64 e.Key.Bits,.int .i64 e.KeyId,.int .i64 e.Hash.Alg,.int .i64 e.Hash.Bits,.int .i64 e.From,.int .i64 e.To,.bool e.Authority,.int .i64 e.Path,.sl 1 (An eS y),.int .i64 e.Seal.Key,.int .i64 e.Seal.Sum]) (.cons .int (.cons .str (.cons .str (.cons .int (.cons .int (.cons .int (.cons .int (.cons .int (.cons .int (.cons .int (.cons .bool (.cons .int (.cons .sl (.cons .int (.cons .int .nil))))))))))))))) rfl (l:=([(Ab.mk e.Serial e.Issuer e.Subject e.Key e.KeyId e.Hash e.From e.To e.Authority e.Path y e.Seal)]:List Ab)) (f:=Ab.enc) rfl) rfl rfl ?_
  obtain⟨l_2,hl_2,D⟩:=Ae D
  refine Ff (rd:=[0,97]) rfl rfl (Dg W4 Ab.enc_len .row rfl .row rfl hl_2 rfl) rfl rfl ?_
  refine Ak ?_
  refine Ai fun B=>?_
  refine Af (Bi _ _ []) 121 137 B rfl rfl ?_
  refine Ak ?_
  refine Ai fun B=>?_
  obtain rfl:=oi_ D
  exact⟨((W (x8_1 + 1),l_2),m1),aDn _,hn1,Ay [(0,105)]⟩
 ·refine B8 ?_
  repeat first | refine Cw ?_ | refine Cy ?_
  replace D:=C5 D hn1
  refine A6 9 25 B ?_
  refine Ak ?_
  refine Ai fun B=>?_
  refine A4 ?_
  obtain rfl:=oi_ D
  exact A3 [] ⟨rfl,rfl⟩
theorem P8 (x':Ac) (r:Ac) (D:Ig x'=some r):Fn Tryz.prog 37 0 [.agg (Ac.dv x')] [] (fun d' b'=>d'=.agg (Ac.dv r)/\b'=[]):=by
 unfold Ig at D
 refine Fn.of Tryz.func37 rfl rfl rfl fun w0 I ρ0=>?_
 show Ca _ ⟨w0,I,ρ0,0,0,8⟩ _ _ _
 refine A6 0 16 Az ?_
 refine Ak ?_
 refine Ai fun B=>?_
 refine A6 16 56 B ?_
 refine Ak ?_
 obtain⟨y,hy,D⟩:=Ae D
 refine Ek (Rz _ _ hy) ?_
 refine Ak ?_
 refine Ai fun B=>?_
 refine A6 56 72 B ?_
 refine Ak ?_
 refine Ai fun B=>?_
 refine A4 ?_
 obtain rfl:=oi_ D
 exact A3 [] ⟨rfl,rfl⟩
theorem Pr (l:(List Ac)) (alias:ByteArray) (r:Ac×Bool) (D:Gx l alias=some r):Fn Tryz.prog 14 0 [.sl 6 (An Ac.enc l),vk alias] [] (fun d' b'=>d'=.tup [.agg (Ac.dv r.1),.val (.bool r.2)]/\b'=[]):=by
 unfold Gx at D
 refine Fn.of Tryz.func14 rfl rfl rfl fun w0 I ρ0=>?_
 show Ca _ ⟨w0,I,ρ0,0,0,18⟩ _ _ _
 refine A6 0 24 Az ?_
 refine Ak ?_
 refine Ai fun B=>?_
 refine Ah ?_
 refine D1 (σ':=mk [(0,.sl 6 (An Ac.enc l)),(3,.elt (([.str alias]:List C).drop 0)),(4,.ptr 0 0)] [(0,.box [.val (.string (⟨#[]⟩:ByteArray)),.val (.int .i64 0),.val (.int .i64 0),.val (.int .i64 0),.val (.bool false),.val (.slice none 0 0)] 40)] 1) ((by exact Mb.lists [(0,8)] rfl rfl ⟨⟨_,rfl,.sl _ _⟩,⟨_,rfl,.frzb (ks:=[none]) rfl (.cons .str .nil) (Jc rfl)⟩,⟨_,rfl,.ptr rfl⟩,trivial⟩ ⟨.inl ⟨8,_,rfl,rfl,⟨rfl,.cons (.val _) (.cons (.val _) (.cons (.val _) (.cons (.val _) (.cons (.val _) (.cons (.val _) .nil)))))⟩⟩,trivial⟩)) ?_
 refine Af (Bi _ _ []) 1 33 Az rfl rfl ?_
 refine Ak ?_
 obtain⟨y,hy,D⟩:=Ae D
 refine Ek (Im l (fun x0=>Hn x0 alias) alias (fun x0 yy hh=>R7 x0 alias yy hh) _ hy) ?_
 refine Ak ?_
 refine Ai fun B=>?_
 refine Ah ?_
 refine A6 33 49 B ?_
 refine Ak ?_
 refine Ai fun B=>?_
 refine Dh rfl D (fun h4 D=>?_) fun h4 D=>?_
 ·refine Ah ?_
  refine Af (Bi _ _ []) 49 73 B rfl rfl ?_
  refine Bj rfl rfl (.build (r:=[.val (.string (⟨#[]⟩:ByteArray)),.val (.int .i64 0),.val (.int .i64 0),.val (.int .i64 0),.val (.bool false),.val (.slice none 0 0)]) Nj bH dI (by kernel_rfl) rfl) rfl rfl ?_
  refine Ak ?_
  refine Ai fun B=>?_
  refine A4 ?_
  obtain rfl:=oi_ D
  exact A3 [] ⟨rfl,rfl⟩
 ·refine Ao ?_
  repeat first | refine Cw ?_ | refine Cy ?_
  refine A6 49 105 B ?_
  refine Ak ?_
  obtain⟨e,he,D⟩:=Ae D
  refine Ak ?_
  refine Bj rfl rfl (Dx Uu (Cm Ac.enc_len (Aq he) (o:=0) (m:=6) (cs:=(Ac.ec e)) rfl (by decide) rfl) (Bn Ac.enc_len (Aq he) (o:=0) (m:=6) (by decide) rfl)) rfl rfl ?_
  obtain⟨y_2,hy_2,D⟩:=Ae D
  refine Ek (P8 _ _ hy_2) ?_
  refine Ak ?_
  refine Ai fun B=>?_
  refine A4 ?_
  obtain rfl:=oi_ D
  exact A3 [] ⟨rfl,rfl⟩
theorem Tc (x':Int) (r:Int) (D:A9 x'=some r):Fn Tryz.prog 131 0 [.val (.int .u64 x')] [] (fun d' b'=>d'=vj r/\b'=[]):=by
 unfold A9 at D
 refine Fn.of Tryz.func131 rfl rfl rfl fun w0 I ρ0=>?_
 show Ca _ ⟨w0,I,ρ0,0,0,25⟩ _ _ _
 refine A6 0 8 Az ?_
 refine Ak ?_
 refine Ai fun B=>?_
 refine Bm (ι:=Int×Int) (fun ((x_1,n_1):Int×Int)=>mk [(0,.val (.int .u64 x_1)),(2,vj n_1)] [] 0) (fun ((x_1,n_1):Int×Int)=>A9.j1 x_1 n_1=some r) ?_ ?_
 ·refine Ah ?_
  refine Af (Bi _ _ []) 8 24 B rfl rfl ?_
  refine Ak ?_
  refine Ai fun B=>?_
  refine Dh rfl D (fun h3 D=>?_) fun h3 D=>?_
  ·refine Ah ?_
   refine Af (Bi _ _ []) 24 48 B rfl rfl ?_
   refine Ak ?_
   obtain⟨q,hq,D⟩:=Ae D
   refine Bj rfl rfl (Uo hq) rfl rfl ?_
   refine Ak ?_
   refine Ai fun B=>?_
   refine Af (Bi _ _ []) 48 56 B rfl rfl ?_
   refine Ak ?_
   refine Ai fun B=>?_
   exact⟨(q,32),D,Ay []⟩
  ·refine Ao ?_
   repeat first | refine Cw ?_ | refine Cy ?_
   exact⟨(x',0),D,Ay []⟩
 ·rintro⟨x_1,n_1⟩ D
  replace D:A9.j1 x_1 n_1=some r:=D
  show Ca _ _ _ _ (mk _ _ _)
  unfold A9.j1 at D
  refine Bm (ι:=Int×Int) (fun ((x_2,n_2):Int×Int)=>mk [(0,.val (.int .u64 x_2)),(2,vj n_2)] [] 0) (fun ((x_2,n_2):Int×Int)=>A9.j2 x_2 n_2=some r) ?_ ?_
  ·refine Ah ?_
   refine Af (Bi _ _ []) 0 16 Az rfl rfl ?_
   refine Ak ?_
   refine Ai fun B=>?_
   refine Dh rfl D (fun h7 D=>?_) fun h7 D=>?_
   ·refine Ah ?_
    refine Af (Bi _ _ []) 16 40 B rfl rfl ?_
    refine Ak ?_
    obtain⟨q_2,hq_2,D⟩:=Ae D
    refine Bj rfl rfl (Uo hq_2) rfl rfl ?_
    refine Ak ?_
    refine Ai fun B=>?_
    refine Af (Bi _ _ []) 40 64 B rfl rfl ?_
    refine Ak ?_
    refine Ai fun B=>?_
    exact⟨(q_2,W (n_1 + 16)),D,Ay []⟩
   ·refine Ao ?_
    repeat first | refine Cw ?_ | refine Cy ?_
    exact⟨(x_1,n_1),D,Ay []⟩
  ·rintro⟨x_2,n_2⟩ D
   replace D:A9.j2 x_2 n_2=some r:=D
   show Ca _ _ _ _ (mk _ _ _)
   unfold A9.j2 at D
   refine Bm (ι:=Int×Int) (fun ((x_3,n_3):Int×Int)=>mk [(0,.val (.int .u64 x_3)),(2,vj n_3)] [] 0) (fun ((x_3,n_3):Int×Int)=>A9.j3 x_3 n_3=some r) ?_ ?_
   ·refine Ah ?_
    refine Af (Bi _ _ []) 0 16 Az rfl rfl ?_
    refine Ak ?_
    refine Ai fun B=>?_
    refine Dh rfl D (fun h11 D=>?_) fun h11 D=>?_
    ·refine Ah ?_
     refine Af (Bi _ _ []) 16 40 B rfl rfl ?_
     refine Ak ?_
     obtain⟨q_3,hq_3,D⟩:=Ae D
     refine Bj rfl rfl (Uo hq_3) rfl rfl ?_
     refine Ak ?_
     refine Ai fun B=>?_
     refine Af (Bi _ _ []) 40 64 B rfl rfl ?_
     refine Ak ?_
     refine Ai fun B=>?_
     exact⟨(q_3,W (n_2 + 8)),D,Ay []⟩
    ·refine Ao ?_
     repeat first | refine Cw ?_ | refine Cy ?_
     exact⟨(x_2,n_2),D,Ay []⟩
   ·rintro⟨x_3,n_3⟩ D
    replace D:A9.j3 x_3 n_3=some r:=D
    show Ca _ _ _ _ (mk _ _ _)
    unfold A9.j3 at D
    refine A6 0 56 Az ?_
    refine Ak ?_
    refine Bj rfl rfl (Kq Ut Ku) rfl rfl ?_
    obtain⟨c,hc,D⟩:=Ae D
    refine Bj rfl rfl (iP Rc hc) rfl rfl ?_
    refine Bj rfl rfl (Hx (u:=c) Ku M9) rfl rfl ?_
    refine Ak ?_
    refine Ai fun B=>?_
    refine A4 ?_
    obtain rfl:=oi_ D
    exact A3 [] ⟨rfl,rfl⟩
theorem Vz (x':Int) (r:Int) (D:Hv x'=some r):Fn Tryz.prog 83 0 [.val (.int .u64 x')] [] (fun d' b'=>d'=vj r/\b'=[]):=by
 unfold Hv at D
 refine Fn.of Tryz.func83 rfl rfl rfl fun w0 I ρ0=>?_
 show Ca _ ⟨w0,I,ρ0,0,0,8⟩ _ _ _
 refine A6 0 8 Az ?_
 refine Ak ?_
 refine Ai fun B=>?_
 refine Ah ?_
 refine mF (fun h=>?_) (fun h=>?_)
 ·exact absurd h (by first | decide | exact fun h=>nomatch (show false=true from h) | exact fun h=>nomatch (show true=false from h))
 ·refine Ao ?_
  repeat first | refine Cw ?_ | refine Cy ?_
  refine A6 8 32 B ?_
  refine Ak ?_
  obtain⟨y,hy,D⟩:=Ae D
  refine Ek (Tc _ _ hy) ?_
  refine Ak ?_
  refine Ai fun B=>?_
  refine A4 ?_
  obtain rfl:=oi_ D
  exact A3 [] ⟨rfl,rfl⟩
theorem Rf (x':Ac) (y:Ac) (r:Int) (D:Fl x' y=some r):Fn Tryz.prog 36 0 [.agg (Ac.dv x'),.agg (Ac.dv y)] [] (fun d' b'=>d'=vj r/\b'=[]):=by
 unfold Fl at D
 refine Fn.of Tryz.func36 rfl rfl rfl fun w0 I ρ0=>?_
 show Ca _ ⟨w0,I,ρ0,0,0,10⟩ _ _ _
 refine A6 0 24 Az ?_
 refine Ak ?_
 refine Ai fun B=>?_
 refine Ah ?_
 refine A6 24 64 B ?_
 refine Ak ?_
 refine Bj rfl rfl aBn rfl rfl ?_
 refine Ai fun B=>?_
 refine Dh rfl D (fun h3 D=>?_) fun h3 D=>?_
 ·refine Ah ?_
  refine Af (Bi _ _ []) 64 72 B rfl rfl ?_
  refine Ak ?_
  refine Ai fun B=>?_
  refine A4 ?_
  obtain rfl:=oi_ D
  exact A3 [] ⟨rfl,rfl⟩
 ·refine Ao ?_
  repeat first | refine Cw ?_ | refine Cy ?_
  refine A6 64 72 B ?_
  refine Ak ?_
  refine Ai fun B=>?_
  refine A4 ?_
  obtain rfl:=oi_ D
  exact A3 [] ⟨rfl,rfl⟩
theorem Hs (data:List Ac) (a:Int) (b:Int) (cmp:Ac->Ac->Option (Int)) (hf_cmp:∀ (x0:Ac) (x1:Ac) (y:Int),cmp x0 x1=some y->Fn Tryz.prog 36 0 [.agg (Ac.dv x0),.agg (Ac.dv x1)] [] (fun d' b'=>d'=vj y/\b'=[])) (r:(List Ac)) (D:Am data a b cmp=some r):Fn Tryz.prog 122 1 [.row 0,vj a,vj b,.clo 36 0 []] [.row 40 6 (An Ac.enc data)] (fun d' b'=>d'=.tup []/\b'=[.row 40 6 (An Ac.enc r)]):=by
 unfold Am at D
 refine Fn.of Tryz.func122 rfl rfl rfl fun w0 I ρ0=>?_
 show Ca _ ⟨w0,I,ρ0,1,1,53⟩ _ _ _
 refine A6 1 25 Az ?_
 refine Ak ?_
 refine Ai fun B=>?_
 refine Au ?_
 refine Lu (fun ((i_1,data_1):Int×List Ac)=>mk [(0,.row 0),(1,vj a),(2,vj b),(3,.clo 36 0 []),(8,vj i_1)] [(0,.row 40 6 (An Ac.enc data_1))] 1) D (Ay [(0,0)]) ?_
 rintro⟨i_1,data_1⟩ m1 o1 D hn1
 replace D:Am.l1 a b cmp i_1 data_1=some o1:=D
 show Ca _ _ _ _ (mk _ _ _)
 unfold Am.l1 at D
 refine Ah ?_
 refine A6 1 25 Az ?_
 refine Ak ?_
 refine Ai fun B=>?_
 refine Dh rfl D (fun h3 D=>?_) fun h3 D=>?_
 ·refine Ao ?_
  repeat first | refine Cw ?_ | refine Cy ?_
  refine Ah ?_
  refine Au ?_
  refine A6 25 41 B ?_
  refine Ak ?_
  refine Ai fun B=>?_
  refine Au ?_
  refine Lu (fun ((j_2,data_2):Int×List Ac)=>mk [(0,.row 0),(1,vj a),(2,vj b),(3,.clo 36 0 []),(8,vj i_1),(9,vj j_2)] [(0,.row 40 6 (An Ac.enc data_2))] 1) D (Ay [(0,0)]) ?_
  rintro⟨j_2,data_2⟩ m2 o2 D hn2
  replace D:Am.l2 a cmp i_1 j_2 data_2=some o2:=D
  show Ca _ _ _ _ (mk _ _ _)
  unfold Am.l2 at D
  refine Ah ?_
  refine Bm (ι:=Bool) (fun (x34_3:Bool)=>mk [(0,.row 0),(1,vj a),(2,vj b),(3,.clo 36 0 []),(8,vj i_1),(9,vj j_2),(34,.val (.bool x34_3))] [(0,.row 40 6 (An Ac.enc data_2))] 1) (fun (x34_3:Bool)=>Am.j3 i_1 j_2 data_2 x34_3=some o2) ?_ ?_
  ·refine Cs (Bi _ _ []) (by kernel_rfl) [0,0,3,7,15,15,15,111,239,15,15,1039,3599,7695,16383,32767,65535] 1 137 Az rfl rfl (by kernel_rfl) ?_
   refine Ak ?_
   rcases Eb D with ⟨h5,D⟩ | ⟨h5,D⟩
   ·refine Ak ?_
    obtain⟨e,he,D⟩:=Ae D
    refine Ak ?_
    refine Ff (rd:=[0]) (Cj rfl rfl h5) rfl (P3 Uu (Cm Ac.enc_len (Aq he) (o:=0) (m:=6) (cs:=(Ac.ec e)) rfl (by decide) rfl) (Bn Ac.enc_len (Aq he) (o:=0) (m:=6) (by decide) rfl)) rfl rfl ?_
    refine Ak ?_
    obtain⟨e_2,he_2,D⟩:=Ae D
    refine Ak ?_
    refine Ff (rd:=[0]) (Cj rfl rfl h5) rfl (P3 Uu (Cm Ac.enc_len (Aq he_2) (o:=0) (m:=6) (cs:=(Ac.ec e_2)) rfl (by decide) rfl) (Bn Ac.enc_len (Aq he_2) (o:=0) (m:=6) (by decide) rfl)) rfl rfl ?_
    obtain⟨y,hy,D⟩:=Ae D
    refine Qz (rd:=[]) (ps:=[]) (gs:=[]) false (Cj rfl rfl h5) rfl (hf_cmp e e_2 _ hy) rfl rfl (.cons (.agg (.cons .val (.cons .val (.cons .val (.cons .val (.cons .val (.cons .sl .nil))))))) (.cons (.agg (.cons .val (.cons .val (.cons .val (.cons .val (.cons .val (.cons .sl .nil))))))) .nil)) rfl rfl (by intro h; cases h) rfl rfl rfl rfl ?_
    refine Ak ?_
    refine Ai fun B=>?_
    exact⟨decide (y < 0),D,Ay [(0,0)]⟩
   ·refine Ak ?_
    refine Ai fun B=>?_
    exact⟨false,D,Ay [(0,0)]⟩
  ·rintro x34_3 D
   replace D:Am.j3 i_1 j_2 data_2 x34_3=some o2:=D
   show Ca _ _ _ _ (mk _ _ _)
   unfold Am.j3 at D
   refine Dh rfl D (fun h8 D=>?_) fun h8 D=>?_
   ·refine Ao ?_
    repeat first | refine Cw ?_ | refine Cy ?_
    refine Ah ?_
    refine Au ?_
    refine Cs (Bi _ _ []) (by kernel_rfl) [0,0,0,0,8,0,0,64,224,480,0,0,3072,7168,16355,32739,65535,131071] 1 145 Az rfl rfl (by kernel_rfl) ?_
    refine Ak ?_
    obtain⟨e_3,he_3,D⟩:=Ae D
    refine Ak ?_
    refine Ff (rd:=[0]) rfl rfl (P3 Uu (Cm Ac.enc_len (Aq he_3) (o:=0) (m:=6) (cs:=(Ac.ec e_3)) rfl (by decide) rfl) (Bn Ac.enc_len (Aq he_3) (o:=0) (m:=6) (by decide) rfl)) rfl rfl ?_
    refine Ak ?_
    obtain⟨e_4,he_4,D⟩:=Ae D
    refine Ak ?_
    refine Ff (rd:=[0]) rfl rfl (P3 Uu (Cm Ac.enc_len (Aq he_4) (o:=0) (m:=6) (cs:=(Ac.ec e_4)) rfl (by decide) rfl) (Bn Ac.enc_len (Aq he_4) (o:=0) (m:=6) (by decide) rfl)) rfl rfl ?_
    refine Ak ?_
    refine Ff (rd:=[0]) rfl rfl (S0 Uu rfl (Bn Ac.enc_len (Aq he_4) (o:=0) (m:=6) (by decide) rfl) gA (cs':=(Ac.ec e_3)) (.cons .str (.cons .int (.cons .int (.cons .int (.cons .bool (.cons .sl .nil)))))) (Mr Ac.enc_len (Aq he_4) (o:=0) (x':=e_3) (aC3 rfl) rfl rfl)) rfl rfl ?_
    obtain⟨e_5,he_5,D⟩:=Ae D
    refine Ak ?_
    refine Ff (rd:=[0]) rfl rfl (S0 Uu rfl (Bn Ac.enc_len (Aq he_5) (o:=0) (m:=6) (by decide) rfl) gA (cs':=(Ac.ec e_4)) (.cons .str (.cons .int (.cons .int (.cons .int (.cons .bool (.cons .sl .nil)))))) (Mr Ac.enc_len (Aq he_5) (o:=0) (x':=e_4) (aC3 rfl) rfl rfl)) rfl rfl ?_
    refine Ai fun B=>?_
    refine Af (Bi _ _ []) 145 169 B rfl rfl ?_
    refine Ak ?_
    refine Ai fun B=>?_
    obtain rfl:=oi_ D
    exact⟨((W (j_2 - 1),Jy (Jy data_2 ((j_2).toNat) e_3) ((W (j_2 - 1)).toNat) e_4),m2),aDn _,hn2,Ay [(0,0)]⟩
   ·refine B8 ?_
    repeat first | refine Cw ?_ | refine Cy ?_
    replace D:=C5 D hn2
    refine Af (Bi _ _ []) 1 25 Az rfl rfl ?_
    refine Ak ?_
    refine Ai fun B=>?_
    obtain rfl:=oi_ D
    exact⟨((W (i_1 + 1),data_2),m1),aDn _,hn1,Ay [(0,0)]⟩
 ·refine B8 ?_
  repeat first | refine Cw ?_ | refine Cy ?_
  replace D:=C5 D hn1
  obtain rfl:=oi_ D
  exact A3 [(0,0)] ⟨rfl,rfl⟩
theorem Il (data:List Ac) (a:Int) (b:Int) (limit:Int) (cmp:Ac->Ac->Option (Int)) (hf_cmp:∀ (x0:Ac) (x1:Ac) (y:Int),cmp x0 x1=some y->Fn Tryz.prog 36 0 [.agg (Ac.dv x0),.agg (Ac.dv x1)] [] (fun d' b'=>d'=vj y/\b'=[])) (r:(List Ac)) (D:A8 data a b limit cmp=some r):Fn Tryz.prog 82 1 [.row 0,vj a,vj b,vj limit,.clo 36 0 []] [.row 40 6 (An Ac.enc data)] (fun d' b'=>d'=.tup []/\b'=[.row 40 6 (An Ac.enc r)]):=by
 unfold A8 at D
 refine Fn.of Tryz.func82 rfl rfl rfl fun w0 I ρ0=>?_
 show Ca _ ⟨w0,I,ρ0,1,1,148⟩ _ _ _
 refine A6 1 9 Az ?_
 refine Ak ?_
 refine Ai fun B=>?_
 refine A6 9 17 B ?_
 refine Ak ?_
 refine Ai fun B=>?_
 refine Au ?_
 refine Lu (fun (_:Unit)=>mk [(0,.row 0),(1,vj a),(2,vj b),(3,vj limit),(4,.clo 36 0 []),(10,.val (.bool true)),(11,.val (.bool true))] [(0,.row 40 6 (An Ac.enc data))] 1) D (Ay [(0,0)]) ?_
 rintro _ m1 o1 D hn1
 replace D:A8.l1 data a b limit cmp=some o1:=D
 show Ca _ _ _ _ (mk _ _ _)
 unfold A8.l1 at D
 refine Au ?_
 refine A6 1 33 Az ?_
 refine Ak ?_
 refine Ai fun B=>?_
 refine Ah ?_
 refine A6 33 49 B ?_
 refine Ak ?_
 refine Ai fun B=>?_
 refine Dh rfl D (fun h5 D=>?_) fun h5 D=>?_
 ·refine Ah ?_
  refine Af (Bi _ _ []) 49 89 B rfl rfl ?_
  refine Ak ?_
  obtain⟨y,hy,D⟩:=Ae D
  refine Hc [0] [0] [] false (Hs data a b cmp hf_cmp _ hy) ?_
  refine Ai fun B=>?_
  refine A4 ?_
  replace D:=C5 D hn1
  obtain rfl:=oi_ D
  exact A3 [(0,0)] ⟨rfl,rfl⟩
 ·refine Ao ?_
  repeat first | refine Cw ?_ | refine Cy ?_
  refine Ah ?_
  refine A6 49 65 B ?_
  refine Ak ?_
  refine Ai fun B=>?_
  refine Dh rfl D (fun h8 D=>?_) fun h8 D=>?_
  ·refine Ah ?_
   refine Af (Bi _ _ []) 65 105 B rfl rfl ?_
   refine Ak ?_
   cases D
  ·refine Ao ?_
   repeat first | refine Cw ?_ | refine Cy ?_
   refine Ah ?_
   refine A6 65 81 B ?_
   refine Ak ?_
   refine Ai fun B=>?_
   refine Jt rfl (fun h=>?_) (fun h=>?_)
   ·exact absurd h (by first | decide | exact fun h=>nomatch (show false=true from h) | exact fun h=>nomatch (show true=false from h))
   ·refine Ao ?_
    repeat first | refine Cw ?_ | refine Cy ?_
    refine A6 81 161 B ?_
    refine Ak ?_
    cases D
theorem Jx (x':List Ac) (cmp:Ac->Ac->Option (Int)) (hf_cmp:∀ (x0:Ac) (x1:Ac) (y:Int),cmp x0 x1=some y->Fn Tryz.prog 36 0 [.agg (Ac.dv x0),.agg (Ac.dv x1)] [] (fun d' b'=>d'=vj y/\b'=[])) (r:(List Ac)) (D:E5 x' cmp=some r):Fn Tryz.prog 35 1 [.row 0,.clo 36 0 []] [.row 40 6 (An Ac.enc x')] (fun d' b'=>d'=.tup []/\b'=[.row 40 6 (An Ac.enc r)]):=by
 unfold E5 at D
 refine Fn.of Tryz.func35 rfl rfl rfl fun w0 I ρ0=>?_
 show Ca _ ⟨w0,I,ρ0,1,1,14⟩ _ _ _
 refine A6 1 25 Az ?_
 refine Ak ?_
 refine Ai fun B=>?_
 refine Af (Bi _ _ []) 25 81 B rfl rfl ?_
 refine Ak ?_
 refine Bj rfl rfl (Wq M9 aCq) rfl rfl ?_
 obtain⟨y,hy,D⟩:=Ae D
 refine Ek (Vz _ _ hy) ?_
 refine Ak ?_
 obtain⟨y_2,hy_2,D⟩:=Ae D
 refine Hc [0] [0] [] false (Il x' 0 (x'.length:Int) y cmp hf_cmp _ hy_2) ?_
 refine Ai fun B=>?_
 obtain rfl:=oi_ D
 exact A3 [(0,0)] ⟨rfl,rfl⟩
theorem U3 (a:(List Ac)) (b:(List Ac)) (r:(List Ac)×Int) (D:A7 a b=some r):Fn Tryz.prog 11 0 [.sl 6 (An Ac.enc a),.sl 6 (An Ac.enc b)] [] (fun d' b'=>d'=.tup [.sl 6 (An Ac.enc r.1),vj r.2]/\b'=[]):=by
 unfold A7 at D
 refine Fn.of Tryz.func11 rfl rfl rfl fun w0 I ρ0=>?_
 show Ca _ ⟨w0,I,ρ0,0,0,71⟩ _ _ _
 refine A6 0 16 Az ?_
 refine Ak ?_
 refine Ai fun B=>?_
 refine Ah ?_
 refine Bm (ι:=Bool) (fun (x21_1:Bool)=>mk [(0,.sl 6 (An Ac.enc a)),(1,.sl 6 (An Ac.enc b)),(21,.val (.bool x21_1))] [] 0) (fun (x21_1:Bool)=>A7.j1 a b x21_1=some r) ?_ ?_
 ·refine Af (Bi _ _ []) 16 80 B rfl rfl ?_
  refine Ak ?_
  obtain⟨y,hy,D⟩:=Ae D
  refine Ek (Jw _ _ hy) ?_
  refine Ak ?_
  rcases Eb D with ⟨h2,D⟩ | ⟨h2,D⟩
  ·refine Ak ?_
   refine Ai fun B=>?_
   exact⟨true,D,Ay []⟩
  ·refine Ak ?_
   obtain⟨y_2,hy_2,D⟩:=Ae D
   refine Ek (Jw _ _ hy_2) ?_
   refine Ak ?_
   refine Ai fun B=>?_
   exact⟨!decide (y_2=0),D,Ay []⟩
 ·rintro x21_1 D
  replace D:A7.j1 a b x21_1=some r:=D
  show Ca _ _ _ _ (mk _ _ _)
  unfold A7.j1 at D
  refine Dh rfl D (fun h5 D=>?_) fun h5 D=>?_
  ·refine Ah ?_
   refine Af (Bi _ _ []) 0 16 Az rfl rfl ?_
   refine Ak ?_
   refine Ai fun B=>?_
   refine A4 ?_
   obtain rfl:=oi_ D
   exact A3 [] ⟨rfl,rfl⟩
  ·refine Ao ?_
   repeat first | refine Cw ?_ | refine Cy ?_
   refine A6 0 72 Az ?_
   refine Ak ?_
   obtain⟨m,hm,D⟩:=Ae D
   refine U6 (rd:=[]) rfl rfl (xY (f:=Ac.enc) (z0:=(Ac.mk (⟨#[]⟩:ByteArray) (Aw.mk 0 0) 0 false ([]:(List Ab)))) P6 Ac.enc_len (aC8 (ck:=[none,none,none,none,none,some 15]) dI (.cons .str (.cons .int (.cons .int (.cons .int (.cons .bool (.cons .nil .nil))))))) (by intro h; injection h with h; cases h) hm rfl) rfl rfl (fun _=>⟨_,rfl⟩) ?_
   rintro _ rfl
   refine Ak ?_
   refine Ai fun B=>?_
   refine A6 72 96 B ?_
   refine Ak ?_
   obtain⟨l,hl,D⟩:=Ae D
   refine U6 (rd:=[56]) rfl rfl (xJ P6 P6 Ac.enc_len (.head _) hl) rfl rfl (fun _=>⟨_,rfl⟩) ?_
   rintro _ rfl
   refine Ai fun B=>?_
   refine Ah ?_
   refine A6 96 120 B ?_
   refine Ak ?_
   refine Ai fun B=>?_
   refine Au ?_
   refine Lu (fun ((x35_2,l_2):Int×List Ac)=>mk [(1,.sl 6 (An Ac.enc b)),(6,.row 0),(33,.sl 6 (An Ac.enc a)),(34,.val (.int .i64 (a.length:Int))),(35,vj x35_2)] [(0,.row 40 6 (An Ac.enc l_2))] 1) D (Ay [(0,56)]) ?_
   rintro⟨x35_2,l_2⟩ m2 o2 D hn2
   replace D:A7.l2 a b x35_2 l_2=some o2:=D
   show Ca _ _ _ _ (mk _ _ _)
   unfold A7.l2 at D
   refine A6 1 9 Az ?_
   refine Ak ?_
   refine Ai fun B=>?_
   refine Ah ?_
   refine Dh rfl D (fun h11 D=>?_) fun h11 D=>?_
   ·refine Ao ?_
    repeat first | refine Cw ?_ | refine Cy ?_
    refine Bm (ι:=List Ac) (fun (l_3_2:List Ac)=>mk [(1,.sl 6 (An Ac.enc b)),(6,.row 0),(33,.sl 6 (An Ac.enc a)),(34,.val (.int .i64 (a.length:Int))),(35,vj x35_2)] [(0,.row 40 6 (An Ac.enc l_3_2))] 1) (fun (l_3_2:List Ac)=>A7.j3 x35_2 l_3_2=some o2) ?_ ?_
    ·refine Au ?_
     refine A6 9 41 B ?_
     obtain⟨e,he,D⟩:=Ae D
     refine Ak ?_
     refine Bj rfl rfl (Dx Uu (Cm Ac.enc_len (Aq he) (o:=0) (m:=6) (cs:=(Ac.ec e)) rfl (by decide) rfl) (Bn Ac.enc_len (Aq he) (o:=0) (m:=6) (by decide) rfl)) rfl rfl ?_
     refine Ak ?_
     refine Ai fun B=>?_
     refine A6 41 121 B ?_
     refine Ak ?_
     obtain⟨y_3,hy_3,D⟩:=Ae D
     refine Ek (Pr _ _ _ hy_3) ?_
     refine Ak ?_
     refine Ai fun B=>?_
     refine A6 121 137 B ?_
     refine Ak ?_
     refine Ai fun B=>?_
     refine Dh rfl D (fun h15 D=>?_) fun h15 D=>?_
     ·refine Af (Bi _ _ []) 137 177 B rfl rfl ?_
      refine Ak ?_
      refine Bj rfl rfl (As P6 dI (by decide) rfl rfl rfl rfl gA (cs:=(Ac.ec e)) (.cons .str (.cons .int (.cons .int (.cons .int (.cons .bool (.cons .sl .nil)))))) rfl (l:=([e]:List Ac)) (f:=Ac.enc) rfl) rfl rfl ?_
      obtain⟨l_3,hl_3,D⟩:=Ae D
      refine Ff (rd:=[0,153]) rfl rfl (Dg P6 Ac.enc_len .row rfl .row rfl hl_3 rfl) rfl rfl ?_
      refine Ak ?_
      refine Ai fun B=>?_
      exact⟨l_3,D,Ay [(0,161)]⟩
     ·refine Ao ?_
      repeat first | refine Cw ?_ | refine Cy ?_
      exact⟨l_2,D,Ay [(0,0)]⟩
    ·rintro l_3_2 D
     replace D:A7.j3 x35_2 l_3_2=some o2:=D
     show Ca _ _ _ _ (mk _ _ _)
     unfold A7.j3 at D
     refine Af (Bi _ _ []) 1 17 Az rfl rfl ?_
     refine Ak ?_
     refine Ai fun B=>?_
     obtain rfl:=oi_ D
     exact⟨((W (x35_2 + 1),l_3_2),m2),aDn _,hn2,Ay [(0,0)]⟩
   ·refine B8 ?_
    repeat first | refine Cw ?_ | refine Cy ?_
    replace D:=C5 D hn2
    refine Ah ?_
    refine A6 9 33 B ?_
    refine Ak ?_
    refine Ai fun B=>?_
    refine Dh rfl D (fun h19 D=>?_) fun h19 D=>?_
    ·refine Ah ?_
     refine Af (Bi _ _ []) 33 49 B rfl rfl ?_
     refine Ak ?_
     refine Ai fun B=>?_
     refine A4 ?_
     obtain rfl:=oi_ D
     exact A3 [] ⟨rfl,rfl⟩
    ·refine Ao ?_
     repeat first | refine Cw ?_ | refine Cy ?_
     refine A6 33 49 B ?_
     refine Ak ?_
     obtain⟨y_4,hy_4,D⟩:=Ae D
     refine Hc [0] [0] [] false (Jx l_2 (fun x0 x1=>Fl x0 x1) (fun x0 x1 yy hh=>Rf x0 x1 yy hh) _ hy_4) ?_
     refine Ai fun B=>?_
     refine A6 49 57 B ?_
     refine Ak ?_
     refine Ai fun B=>?_
     refine Ah ?_
     refine A6 57 81 B ?_
     refine Ak ?_
     refine Ai fun B=>?_
     refine Au ?_
     refine Lu (fun ((x60_4,out_4):Int×List Ac)=>mk [(11,.row 0),(58,.row 1),(59,.val (.int .i64 (y_4.length:Int))),(60,vj x60_4)] [(0,.row 40 6 (An Ac.enc out_4)),(1,.row 40 6 (An Ac.enc y_4))] 2) D (Ay [(1,0)]) ?_
     rintro⟨x60_4,out_4⟩ m4 o4 D hn4
     replace D:A7.l4 y_4 x60_4 out_4=some o4:=D
     show Ca _ _ _ _ (mk _ _ _)
     unfold A7.l4 at D
     refine A6 2 10 Az ?_
     refine Ak ?_
     refine Ai fun B=>?_
     refine Ah ?_
     refine Dh rfl D (fun h25 D=>?_) fun h25 D=>?_
     ·refine Ao ?_
      repeat first | refine Cw ?_ | refine Cy ?_
      refine Ah ?_
      refine Au ?_
      refine A6 10 42 B ?_
      obtain⟨e_2,he_2,D⟩:=Ae D
      refine Ak ?_
      refine Ff (rd:=[1]) rfl rfl (P3 Uu (Cm Ac.enc_len (Aq he_2) (o:=0) (m:=6) (cs:=(Ac.ec e_2)) rfl (by decide) rfl) (Bn Ac.enc_len (Aq he_2) (o:=0) (m:=6) (by decide) rfl)) rfl rfl ?_
      refine Ak ?_
      refine Ai fun B=>?_
      refine Af (Bi _ _ []) 42 90 B rfl rfl ?_
      refine Ak ?_
      obtain⟨y_5,hy_5,D⟩:=Ae D
      refine Ek (P8 _ _ hy_5) ?_
      refine Bj rfl rfl (As P6 dI (by decide) rfl rfl rfl rfl gA (cs:=(Ac.ec y_5)) (.cons .str (.cons .int (.cons .int (.cons .int (.cons .bool (.cons .sl .nil)))))) rfl (l:=([y_5]:List Ac)) (f:=Ac.enc) rfl) rfl rfl ?_
      obtain⟨l_4,hl_4,D⟩:=Ae D
      refine Ff (rd:=[0,66]) rfl rfl (Dg P6 Ac.enc_len .row rfl .row rfl hl_4 rfl) rfl rfl ?_
      refine Ak ?_
      refine Ai fun B=>?_
      refine Af (Bi _ _ []) 90 106 B rfl rfl ?_
      refine Ak ?_
      refine Ai fun B=>?_
      obtain rfl:=oi_ D
      exact⟨((W (x60_4 + 1),l_4),m4),aDn _,hn4,Ay [(0,74),(1,1)]⟩
     ·refine B8 ?_
      repeat first | refine Cw ?_ | refine Cy ?_
      replace D:=C5 D hn4
      refine A6 10 34 B ?_
      refine Ak ?_
      refine Ai fun B=>?_
      refine A4 ?_
      obtain rfl:=oi_ D
      exact A3 [] ⟨rfl,rfl⟩
theorem Rq  (r:Bool) (D:H4=some r):Fn Tryz.prog 6 0 [] [] (fun d' b'=>d'=.val (.bool r)/\b'=[]):=by
 unfold H4 at D
 refine Fn.of Tryz.func6 rfl rfl rfl fun w0 I ρ0=>?_
 show Ca _ ⟨w0,I,ρ0,0,0,50⟩ _ _ _
 refine A6 0 8 Az ?_
 refine Ak ?_
 refine Ai fun B=>?_
 refine A6 8 32 B ?_
 refine Bj rfl rfl (.build (r:=[.val (.int .i64 5),.val (.int .i64 2048)]) Vs nT z37 (by kernel_rfl) rfl) rfl rfl ?_
 refine Ak ?_
 refine Ai fun B=>?_
 refine A6 32 80 B ?_
 refine Ak ?_
 refine Bj rfl rfl (.build (r:=[.val (.string (⟨#[97]⟩:ByteArray)),.val (.int .i64 5),.val (.int .i64 2048),.val (.int .i64 0),.val (.bool false),.val (.slice none 0 0)]) Nj bH dI (by kernel_rfl) rfl) rfl rfl ?_
 refine Ak ?_
 refine Bj rfl rfl (.build (r:=[.val (.string (⟨#[98]⟩:ByteArray)),.val (.int .i64 5),.val (.int .i64 2048),.val (.int .i64 1),.val (.bool false),.val (.slice none 0 0)]) Nj bH dI (by kernel_rfl) rfl) rfl rfl ?_
 refine Bj rfl rfl (As P6 dI (by decide) rfl rfl rfl rfl gA (cs:=[.str (⟨#[97]⟩:ByteArray),.int .i64 5,.int .i64 2048,.int .i64 0,.bool false,.sl 15 (An Ab.enc []),.str (⟨#[98]⟩:ByteArray),.int .i64 5,.int .i64 2048,.int .i64 1,.bool false,.sl 15 (An Ab.enc [])]) (.cons .str (.cons .int (.cons .int (.cons .int (.cons .bool (.cons .nil (.cons .str (.cons .int (.cons .int (.cons .int (.cons .bool (.cons .nil .nil)))))))))))) rfl (l:=([(Ac.mk (⟨#[97]⟩:ByteArray) (Aw.mk 5 2048) 0 false ([]:(List Ab))),(Ac.mk (⟨#[98]⟩:ByteArray) (Aw.mk 5 2048) 1 false ([]:(List Ab)))]:List Ac)) (f:=Ac.enc) rfl) rfl rfl ?_
 refine Ak ?_
 refine Ai fun B=>?_
 refine A6 80 128 B ?_
 refine Ak ?_
 refine Bj rfl rfl (.build (r:=[.val (.string (⟨#[98]⟩:ByteArray)),.val (.int .i64 5),.val (.int .i64 2048),.val (.int .i64 2),.val (.bool false),.val (.slice none 0 0)]) Nj bH dI (by kernel_rfl) rfl) rfl rfl ?_
 refine Ak ?_
 refine Bj rfl rfl (.build (r:=[.val (.string (⟨#[99]⟩:ByteArray)),.val (.int .i64 5),.val (.int .i64 2048),.val (.int .i64 0),.val (.bool false),.val (.slice none 0 0)]) Nj bH dI (by kernel_rfl) rfl) rfl rfl ?_
 refine Bj rfl rfl (As P6 dI (by decide) rfl rfl rfl rfl gA (cs:=[.str (⟨#[98]⟩:ByteArray),.int .i64 5,.int .i64 2048,.int .i64 2,.bool false,.sl 15 (An Ab.enc []),.str (⟨#[99]⟩:ByteArray),.int .i64 5,.int .i64 2048,.int .i64 0,.bool false,.sl 15 (An Ab.enc [])]) (.cons .str (.cons .int (.cons .int (.cons .int (.cons .bool (.cons .nil (.cons .str (.cons .int (.cons .int (.cons .int (.cons .bool (.cons .nil .nil)))))))))))) rfl (l:=([(Ac.mk (⟨#[98]⟩:ByteArray) (Aw.mk 5 2048) 2 false ([]:(List Ab))),(Ac.mk (⟨#[99]⟩:ByteArray) (Aw.mk 5 2048) 0 false ([]:(List Ab)))]:List Ac)) (f:=Ac.enc) rfl) rfl rfl ?_
 refine Ak ?_
 refine Ai fun B=>?_
 refine Ah ?_
 refine D1 (σ':=mk [(2,.sl 6 (An Ac.enc ([(Ac.mk (⟨#[97]⟩:ByteArray) (Aw.mk 5 2048) 0 false ([]:(List Ab))),(Ac.mk (⟨#[98]⟩:ByteArray) (Aw.mk 5 2048) 1 false ([]:(List Ab)))]:List Ac))),(3,.row 0)] [(0,.row 40 6 (An Ac.enc ([(Ac.mk (⟨#[98]⟩:ByteArray) (Aw.mk 5 2048) 2 false ([]:(List Ab))),(Ac.mk (⟨#[99]⟩:ByteArray) (Aw.mk 5 2048) 0 false ([]:(List Ab)))]:List Ac)))] 1) (Ay [(0,112)]) ?_
 refine D1 (σ':=mk [(2,.sl 6 (An Ac.enc ([(Ac.mk (⟨#[97]⟩:ByteArray) (Aw.mk 5 2048) 0 false ([]:(List Ab))),(Ac.mk (⟨#[98]⟩:ByteArray) (Aw.mk 5 2048) 1 false ([]:(List Ab)))]:List Ac))),(3,.sl 6 (An Ac.enc ([(Ac.mk (⟨#[98]⟩:ByteArray) (Aw.mk 5 2048) 2 false ([]:(List Ab))),(Ac.mk (⟨#[99]⟩:ByteArray) (Aw.mk 5 2048) 0 false ([]:(List Ab)))]:List Ac)))] [] 0) (Ay []) ?_
 refine Af (Bi _ _ []) 0 64 Az rfl rfl ?_
 refine Ak ?_
 obtain⟨y,hy,D⟩:=Ae D
 refine Ek (U3 _ _ _ hy) ?_
 refine Ak ?_
 refine Ai fun B=>?_
 refine A6 64 128 B ?_
 refine Ak ?_
 obtain⟨y_2,hy_2,D⟩:=Ae D
 refine Ek (Pr _ _ _ hy_2) ?_
 refine Ak ?_
 refine Ai fun B=>?_
 refine A6 128 296 B ?_
 refine Ak ?_
 rcases Eb D with ⟨h7,D⟩ | ⟨h7,D⟩
 ·refine Ak ?_
  rcases Eb D with ⟨h8,D⟩ | ⟨h8,D⟩
  ·refine Ak ?_
   rcases Eb D with ⟨h9,D⟩ | ⟨h9,D⟩
   ·refine Ak ?_
    rcases Eb D with ⟨h10,D⟩ | ⟨h10,D⟩
    ·refine Ak ?_
     obtain⟨y_3,hy_3,D⟩:=Ae D
     refine Ek (Jw _ _ hy_3) ?_
     refine Ak ?_
     refine Ai fun B=>?_
     refine A4 ?_
     obtain rfl:=oi_ D
     exact A3 [] ⟨rfl,rfl⟩
    ·refine Ak ?_
     refine Ai fun B=>?_
     refine A4 ?_
     obtain rfl:=oi_ D
     exact A3 [] ⟨rfl,rfl⟩
   ·refine Ak ?_
    refine Ai fun B=>?_
    refine A4 ?_
    obtain rfl:=oi_ D
    exact A3 [] ⟨rfl,rfl⟩
  ·refine Ak ?_
   refine Ai fun B=>?_
   refine A4 ?_
   obtain rfl:=oi_ D
   exact A3 [] ⟨rfl,rfl⟩
 ·refine Ak ?_
  refine Ai fun B=>?_
  refine A4 ?_
  obtain rfl:=oi_ D
  exact A3 [] ⟨rfl,rfl⟩
theorem gB (l:(List Int)) (r:Al) (D:Nk l=some r):Fn Tryz.prog 7 0 [.sl 1 (An eI l)] [] (fun d' b'=>d'=.ptr 0 0/\b'=[.box [.sl 1 (An eI r.L),vj r.At] 59]):=by
 unfold Nk at D
 refine Fn.of Tryz.func7 rfl rfl rfl fun w0 I ρ0=>?_
 show Ca _ ⟨w0,I,ρ0,0,0,6⟩ _ _ _
 refine A6 0 8 Az ?_
 refine Ak ?_
 refine Ai fun B=>?_
 refine A6 8 40 B ?_
 refine Ak ?_
 refine Bj rfl rfl (.build (r:=[.sl 1 (An eI l),.val (.int .i64 0)]) oO aD7 z59 (by kernel_rfl) rfl) rfl rfl ?_
 refine Ak ?_
 refine Ai fun B=>?_
 refine A4 ?_
 obtain rfl:=oi_ D
 exact A3 [(0,24)] ⟨rfl,rfl⟩
theorem Sg (n:Int) (k:Int) (r:Int) (D:Kk n k=some r):Fn Tryz.prog 21 0 [vj n,vj k] [] (fun d' b'=>d'=vj r/\b'=[]):=by
 unfold Kk at D
 refine Fn.of Tryz.func21 rfl rfl rfl fun w0 I ρ0=>?_
 show Ca _ ⟨w0,I,ρ0,0,0,14⟩ _ _ _
 refine A6 0 8 Az ?_
 refine Ak ?_
 refine Ai fun B=>?_
 refine Ah ?_
 refine A6 8 24 B ?_
 refine Ak ?_
 refine Ai fun B=>?_
 refine Dh rfl D (fun h3 D=>?_) fun h3 D=>?_
 ·refine Ah ?_
  refine Af (Bi _ _ []) 24 32 B rfl rfl ?_
  refine Ak ?_
  refine Ai fun B=>?_
  refine A4 ?_
  obtain rfl:=oi_ D
  exact A3 [] ⟨rfl,rfl⟩
 ·refine Ao ?_
  repeat first | refine Cw ?_ | refine Cy ?_
  refine A6 24 88 B ?_
  refine Ak ?_
  obtain⟨q,hq,D⟩:=Ae D
  refine Bj rfl rfl (W3 hq) rfl rfl ?_
  refine Ak ?_
  obtain⟨q_2,hq_2,D⟩:=Ae D
  refine Bj rfl rfl (W3 hq_2) rfl rfl ?_
  refine Ak ?_
  refine Ai fun B=>?_
  refine A4 ?_
  obtain rfl:=oi_ D
  exact A3 [] ⟨rfl,rfl⟩
theorem Hk (d:Al) (n:Int) (r:Int×Al) (D:Ew d n=some r):Fn Tryz.prog 27 1 [.ptr 0 0,vj n] [.box [.sl 1 (An eI d.L),vj d.At] 59] (fun d' b'=>d'=vj r.1/\b'=[.box [.sl 1 (An eI r.2.L),vj r.2.At] 59]):=by
 unfold Ew at D
 refine Fn.of Tryz.func27 rfl rfl rfl fun w0 I ρ0=>?_
 show Ca _ ⟨w0,I,ρ0,1,1,35⟩ _ _ _
 refine A6 1 9 Az ?_
 refine Ak ?_
 refine Ai fun B=>?_
 refine Ah ?_
 refine Ah ?_
 refine Cs (Bi _ _ []) (by kernel_rfl) [0,1,3,7,0,16,48,112,240,511] 9 89 B rfl rfl (by kernel_rfl) ?_
 refine Ak ?_
 refine Ai fun B=>?_
 refine Dh rfl D (fun h3 D=>?_) fun h3 D=>?_
 ·refine Ah ?_
  refine Af (Bi _ _ []) 89 97 B rfl rfl ?_
  refine Ak ?_
  refine Ai fun B=>?_
  refine A4 ?_
  obtain rfl:=oi_ D
  exact A3 [(0,0)] ⟨rfl,rfl⟩
 ·refine Ao ?_
  repeat first | refine Cw ?_ | refine Cy ?_
  refine A6 89 153 B ?_
  refine Ak ?_
  refine Ai fun B=>?_
  refine Ah ?_
  refine Cs (Bi _ _ []) (by kernel_rfl) [0,1,3,7,0,16,48,112,240,511,1023,0,4095,8191] 153 265 B rfl rfl (by kernel_rfl) ?_
  refine Ak ?_
  obtain⟨e,he,D⟩:=Ae D
  refine Ak ?_
  refine Bj rfl rfl (Bl Wz (Bf Nt (Aq he) (o:=0) (c:=.int .i64 e) rfl rfl)) rfl rfl ?_
  refine Ak ?_
  obtain⟨y,hy,D⟩:=Ae D
  refine Ek (Sg _ _ _ hy) ?_
  refine Ak ?_
  refine Ai fun B=>?_
  refine A4 ?_
  obtain rfl:=oi_ D
  exact A3 [(0,0)] ⟨rfl,rfl⟩
theorem Ei (d:Al) (l:(List Int)) (r:Int×Al) (D:C8 d l=some r):Fn Tryz.prog 28 1 [.ptr 0 0,.sl 1 (An eI l)] [.box [.sl 1 (An eI d.L),vj d.At] 59] (fun d' b'=>d'=vj r.1/\b'=[.box [.sl 1 (An eI r.2.L),vj r.2.At] 59]):=by
 unfold C8 at D
 refine Fn.of Tryz.func28 rfl rfl rfl fun w0 I ρ0=>?_
 show Ca _ ⟨w0,I,ρ0,1,1,12⟩ _ _ _
 refine A6 1 9 Az ?_
 refine Ak ?_
 refine Ai fun B=>?_
 refine A6 9 73 B ?_
 refine Ak ?_
 obtain⟨y,hy,D⟩:=Ae D
 refine Hc [0] [0] [] false (Hk _ _ _ hy) ?_
 obtain⟨e,he,D⟩:=Ae D
 refine Ak ?_
 refine Bj rfl rfl (Bl Wz (Bf Nt (Aq he) (o:=0) (c:=.int .i64 e) rfl rfl)) rfl rfl ?_
 refine Ak ?_
 refine Ai fun B=>?_
 refine A4 ?_
 obtain rfl:=oi_ D
 exact A3 [(0,0)] ⟨rfl,rfl⟩
theorem gE (d:Al) (a:Int) (r:Int×Al) (D:Cf d a=some r):Fn Tryz.prog 139 1 [.ptr 0 0,vj a] [.box [.sl 1 (An eI d.L),vj d.At] 59] (fun d' b'=>d'=vj r.1/\b'=[.box [.sl 1 (An eI r.2.L),vj r.2.At] 59]):=by
 unfold Cf at D
 refine Fn.of Tryz.func139 rfl rfl rfl fun w0 I ρ0=>?_
 show Ca _ ⟨w0,I,ρ0,1,1,46⟩ _ _ _
 refine A6 1 9 Az ?_
 refine Ak ?_
 refine Ai fun B=>?_
 refine Ah ?_
 refine A6 9 17 B ?_
 refine Ak ?_
 refine Ai fun B=>?_
 refine Au ?_
 refine Bm (ι:=Bool) (fun (x6_1:Bool)=>mk [(0,.ptr 0 0),(5,vj a),(6,.val (.bool x6_1))] [(0,.box [.sl 1 (An eI d.L),vj d.At] 59)] 1) (fun (x6_1:Bool)=>Cf.j1 d a x6_1=some r) ?_ ?_
 ·refine Ah ?_
  refine Af (Bi _ _ []) 17 33 B rfl rfl ?_
  refine Ak ?_
  refine Ai fun B=>?_
  refine Dh rfl D (fun h4 D=>?_) fun h4 D=>?_
  ·refine Ao ?_
   repeat first | refine Cw ?_ | refine Cy ?_
   exact⟨decide (a=5),D,Ay [(0,0)]⟩
  ·refine Ah ?_
   refine Af (Bi _ _ []) 33 49 B rfl rfl ?_
   refine Ak ?_
   refine Ai fun B=>?_
   refine Dh rfl D (fun h6 D=>?_) fun h6 D=>?_
   ·refine Ao ?_
    repeat first | refine Cw ?_ | refine Cy ?_
    exact⟨decide (a=6),D,Ay [(0,0)]⟩
   ·refine Ah ?_
    refine Af (Bi _ _ []) 49 65 B rfl rfl ?_
    refine Ak ?_
    refine Ai fun B=>?_
    refine Dh rfl D (fun h8 D=>?_) fun h8 D=>?_
    ·refine Ao ?_
     repeat first | refine Cw ?_ | refine Cy ?_
     exact⟨decide (a=10),D,Ay [(0,0)]⟩
    ·refine Af (Bi _ _ []) 65 81 B rfl rfl ?_
     refine Ak ?_
     refine Ai fun B=>?_
     exact⟨decide (a=11),D,Ay [(0,0)]⟩
 ·rintro x6_1 D
  replace D:Cf.j1 d a x6_1=some r:=D
  show Ca _ _ _ _ (mk _ _ _)
  unfold Cf.j1 at D
  refine Dh rfl D (fun h10 D=>?_) fun h10 D=>?_
  ·refine Ah ?_
   refine Af (Bi _ _ [9]) 1 33 Az rfl rfl ?_
   refine Ak ?_
   refine O8 (rd:=[]) rfl rfl (As Hf z3 (by decide) rfl rfl rfl rfl Mm (cs:=[.int .i64 2048,.int .i64 1024,.int .i64 512,.int .i64 3072,.int .i64 1023,.int .i64 4096,.int .i64 16384]) (.cons .int (.cons .int (.cons .int (.cons .int (.cons .int (.cons .int (.cons .int .nil))))))) rfl (l:=([2048,1024,512,3072,1023,4096,16384]:List Int)) (f:=eI) rfl) rfl rfl rfl ?_
   obtain⟨y,hy,D⟩:=Ae D
   refine Hc [0] [0] [] false (Ei _ _ _ hy) ?_
   refine Ak ?_
   refine Ai fun B=>?_
   refine A4 ?_
   obtain rfl:=oi_ D
   exact A3 [(0,0)] ⟨rfl,rfl⟩
  ·refine Bm (ι:=Bool) (fun (x14_2:Bool)=>mk [(0,.ptr 0 0),(5,vj a),(14,.val (.bool x14_2))] [(0,.box [.sl 1 (An eI d.L),vj d.At] 59)] 1) (fun (x14_2:Bool)=>Cf.j2 d a x14_2=some r) ?_ ?_
   ·refine Ah ?_
    refine Af (Bi _ _ []) 1 17 Az rfl rfl ?_
    refine Ak ?_
    refine Ai fun B=>?_
    refine Dh rfl D (fun h13 D=>?_) fun h13 D=>?_
    ·refine Ao ?_
     repeat first | refine Cw ?_ | refine Cy ?_
     exact⟨decide (a=7),D,Ay [(0,0)]⟩
    ·refine Af (Bi _ _ []) 17 33 B rfl rfl ?_
     refine Ak ?_
     refine Ai fun B=>?_
     exact⟨decide (a=12),D,Ay [(0,0)]⟩
   ·rintro x14_2 D
    replace D:Cf.j2 d a x14_2=some r:=D
    show Ca _ _ _ _ (mk _ _ _)
    unfold Cf.j2 at D
    refine Dh rfl D (fun h15 D=>?_) fun h15 D=>?_
    ·refine Ah ?_
     refine Af (Bi _ _ [9]) 1 33 Az rfl rfl ?_
     refine Ak ?_
     refine O8 (rd:=[]) rfl rfl (As Hf z3 (by decide) rfl rfl rfl rfl Mm (cs:=[.int .i64 256,.int .i64 160,.int .i64 224,.int .i64 384,.int .i64 521]) (.cons .int (.cons .int (.cons .int (.cons .int (.cons .int .nil))))) rfl (l:=([256,160,224,384,521]:List Int)) (f:=eI) rfl) rfl rfl rfl ?_
     obtain⟨y_2,hy_2,D⟩:=Ae D
     refine Hc [0] [0] [] false (Ei _ _ _ hy_2) ?_
     refine Ak ?_
     refine Ai fun B=>?_
     refine A4 ?_
     obtain rfl:=oi_ D
     exact A3 [(0,0)] ⟨rfl,rfl⟩
    ·refine Ah ?_
     refine Af (Bi _ _ []) 1 17 Az rfl rfl ?_
     refine Ak ?_
     refine Ai fun B=>?_
     refine Dh rfl D (fun h18 D=>?_) fun h18 D=>?_
     ·refine Ah ?_
      refine Af (Bi _ _ [25]) 17 49 B rfl rfl ?_
      refine Ak ?_
      refine O8 (rd:=[]) rfl rfl (As Hf z3 (by decide) rfl rfl rfl rfl Mm (cs:=[.int .i64 65,.int .i64 44,.int .i64 87]) (.cons .int (.cons .int (.cons .int .nil))) rfl (l:=([65,44,87]:List Int)) (f:=eI) rfl) rfl rfl rfl ?_
      obtain⟨y_3,hy_3,D⟩:=Ae D
      refine Hc [0] [0] [] false (Ei _ _ _ hy_3) ?_
      refine Ak ?_
      refine Ai fun B=>?_
      refine A4 ?_
      obtain rfl:=oi_ D
      exact A3 [(0,0)] ⟨rfl,rfl⟩
     ·refine Ah ?_
      refine Af (Bi _ _ []) 17 33 B rfl rfl ?_
      refine Ak ?_
      refine Ai fun B=>?_
      refine Dh rfl D (fun h21 D=>?_) fun h21 D=>?_
      ·refine Ah ?_
       refine Af (Bi _ _ [41]) 33 65 B rfl rfl ?_
       refine Ak ?_
       refine O8 (rd:=[]) rfl rfl (As Hf z3 (by decide) rfl rfl rfl rfl Mm (cs:=[.int .i64 768,.int .i64 512,.int .i64 1024]) (.cons .int (.cons .int (.cons .int .nil))) rfl (l:=([768,512,1024]:List Int)) (f:=eI) rfl) rfl rfl rfl ?_
       obtain⟨y_4,hy_4,D⟩:=Ae D
       refine Hc [0] [0] [] false (Ei _ _ _ hy_4) ?_
       refine Ak ?_
       refine Ai fun B=>?_
       refine A4 ?_
       obtain rfl:=oi_ D
       exact A3 [(0,0)] ⟨rfl,rfl⟩
      ·refine Ah ?_
       refine Af (Bi _ _ []) 33 49 B rfl rfl ?_
       refine Ak ?_
       refine Ai fun B=>?_
       refine Dh rfl D (fun h24 D=>?_) fun h24 D=>?_
       ·refine Ah ?_
        refine Af (Bi _ _ [57]) 49 81 B rfl rfl ?_
        refine Ak ?_
        refine O8 (rd:=[]) rfl rfl (As Hf z3 (by decide) rfl rfl rfl rfl Mm (cs:=[.int .i64 128,.int .i64 40]) (.cons .int (.cons .int .nil)) rfl (l:=([128,40]:List Int)) (f:=eI) rfl) rfl rfl rfl ?_
        obtain⟨y_5,hy_5,D⟩:=Ae D
        refine Hc [0] [0] [] false (Ei _ _ _ hy_5) ?_
        refine Ak ?_
        refine Ai fun B=>?_
        refine A4 ?_
        obtain rfl:=oi_ D
        exact A3 [(0,0)] ⟨rfl,rfl⟩
       ·refine Ah ?_
        refine Af (Bi _ _ []) 49 65 B rfl rfl ?_
        refine Ak ?_
        refine Ai fun B=>?_
        refine Dh rfl D (fun h27 D=>?_) fun h27 D=>?_
        ·refine Ah ?_
         refine Af (Bi _ _ [73]) 65 97 B rfl rfl ?_
         refine Ak ?_
         refine O8 (rd:=[]) rfl rfl (As Hf z3 (by decide) rfl rfl rfl rfl Mm (cs:=[.int .i64 168,.int .i64 112]) (.cons .int (.cons .int .nil)) rfl (l:=([168,112]:List Int)) (f:=eI) rfl) rfl rfl rfl ?_
         obtain⟨y_6,hy_6,D⟩:=Ae D
         refine Hc [0] [0] [] false (Ei _ _ _ hy_6) ?_
         refine Ak ?_
         refine Ai fun B=>?_
         refine A4 ?_
         obtain rfl:=oi_ D
         exact A3 [(0,0)] ⟨rfl,rfl⟩
        ·refine Bm (ι:=Bool) (fun (x40_3:Bool)=>mk [(0,.ptr 0 0),(40,.val (.bool x40_3))] [(0,.box [.sl 1 (An eI d.L),vj d.At] 59)] 1) (fun (x40_3:Bool)=>Cf.j3 d x40_3=some r) ?_ ?_
         ·refine Ah ?_
          refine Af (Bi _ _ []) 65 81 B rfl rfl ?_
          refine Ak ?_
          refine Ai fun B=>?_
          refine Dh rfl D (fun h30 D=>?_) fun h30 D=>?_
          ·refine Ao ?_
           repeat first | refine Cw ?_ | refine Cy ?_
           exact⟨decide (a=16),D,Ay [(0,0)]⟩
          ·refine Af (Bi _ _ []) 81 97 B rfl rfl ?_
           refine Ak ?_
           refine Ai fun B=>?_
           exact⟨decide (a=17),D,Ay [(0,0)]⟩
         ·rintro x40_3 D
          replace D:Cf.j3 d x40_3=some r:=D
          show Ca _ _ _ _ (mk _ _ _)
          unfold Cf.j3 at D
          refine Dh rfl D (fun h32 D=>?_) fun h32 D=>?_
          ·refine Ah ?_
           refine Af (Bi _ _ [9]) 1 33 Az rfl rfl ?_
           refine Ak ?_
           refine O8 (rd:=[]) rfl rfl (As Hf z3 (by decide) rfl rfl rfl rfl Mm (cs:=[.int .i64 128,.int .i64 256]) (.cons .int (.cons .int .nil)) rfl (l:=([128,256]:List Int)) (f:=eI) rfl) rfl rfl rfl ?_
           obtain⟨y_7,hy_7,D⟩:=Ae D
           refine Hc [0] [0] [] false (Ei _ _ _ hy_7) ?_
           refine Ak ?_
           refine Ai fun B=>?_
           refine A4 ?_
           obtain rfl:=oi_ D
           exact A3 [(0,0)] ⟨rfl,rfl⟩
          ·refine Ao ?_
           repeat first | refine Cw ?_ | refine Cy ?_
           refine A6 1 9 Az ?_
           refine Ak ?_
           refine Ai fun B=>?_
           refine A4 ?_
           obtain rfl:=oi_ D
           exact A3 [(0,0)] ⟨rfl,rfl⟩
end Go.Proofs.YtfanepojdefdpaaGreat
