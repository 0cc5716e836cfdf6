import Derived.Test.YtfanepojdefdpaaGreatT1
import Derived.Test.YtfanepojdefdpaaGreatA1
set_option linter.unusedVariables false
set_option linter.unusedSimpArgs false
set_option maxRecDepth 100000
set_option maxHeartbeats 1600000
namespace Go.Proofs.YtfanepojdefdpaaGreat
open Go.RowKit
theorem Gp (l:(List Ac)) (r:Int) (D:Bl l=some r):Fn Tryz.prog 16 0 [.sl 6 (Al Ac.enc l)] [] (fun d' b'=>d'=vj r/\b'=[]):=by
 unfold Bl at D
 refine Fn.of Tryz.func16 rfl rfl rfl fun w0 I ρ0=>?_
 show Ce _ ⟨w0,I,ρ0,0,0,45⟩ _ _ _
 refine Bd 0 8 A5 ?_
 refine Ak ?_
 refine Ai fun B=>?_
 refine Ah ?_
 refine Bd 8 32 B ?_
 refine Ak ?_
 refine Ai fun B=>?_
 refine As ?_
 refine Jk (fun (x7_1:Int)=>mk [(0,.sl 6 (Al Ac.enc l)),(5,.sl 6 (Al Ac.enc l)),(6,.val (.int .i64 (l.length:Int))),(7,vj x7_1)] [] 0) D (A1 []) ?_
 rintro x7_1 m1 o1 D hn1
 replace D:Bl.l1 l x7_1=some o1:=D
 show Ce _ _ _ _ (mk _ _ _)
 unfold Bl.l1 at D
 refine Bd 0 8 A5 ?_
 refine Ak ?_
 refine Ai fun B=>?_
 refine Ah ?_
 refine Df rfl D (fun h4 D=>?_) fun h4 D=>?_
 ·refine Ap ?_
  repeat first | refine C4 ?_ | refine C3 ?_
  refine Ah ?_
  refine As ?_
  refine Bd 8 56 B ?_
  refine Ak ?_
  obtain⟨e,he,D⟩:=Ad D
  refine Ak ?_
  refine Bn rfl rfl (C1 L6 (Bx Ac.enc_len (Ao he) (o:=0) (m:=6) (cs:=(Ac.ec e)) rfl (by decide) rfl) (Ba Ac.enc_len (Ao he) (o:=0) (m:=6) (by decide) rfl)) rfl rfl ?_
  refine Ak ?_
  refine Ai fun B=>?_
  refine B9 (ι:=Bool) (fun (x40_2:Bool)=>mk [(0,.sl 6 (Al Ac.enc l)),(5,.sl 6 (Al Ac.enc l)),(6,.val (.int .i64 (l.length:Int))),(7,vj x7_1),(40,.val (.bool x40_2))] [] 0) (fun (x40_2:Bool)=>Bl.j2 x7_1 x40_2=some o1) ?_ ?_
  ·refine Dh (Bp _ _ []) (by kernel_rfl) [0,1,3,7,15,31,63,127,255,255,767,2047,4095,8191,255,16639,65535,131071,262143,524287,1048575,2097151,1048575,5242879,1048575,17825791,67108863,134217727,268435455] 56 288 B rfl rfl (by kernel_rfl) ?_
   refine Ak ?_
   obtain⟨y,hy,D⟩:=Ad D
   refine Dm (H7 _ _ hy) ?_
   refine Ak ?_
   rcases D2 D with ⟨h6,D⟩ | ⟨h6,D⟩
   ·refine Ak ?_
    refine Ai fun B=>?_
    exact⟨true,D,A1 []⟩
   ·refine Ak ?_
    rcases D2 D with ⟨h8,D⟩ | ⟨h8,D⟩
    ·refine Ak ?_
     obtain⟨e_2,he_2,D⟩:=Ad D
     refine Ak ?_
     refine Bn (Bu rfl rfl h8) rfl (Dg Jo Me (by decide) (D3 Ac.enc_len (Ao he_2) (o:=0) (by decide) rfl)) rfl rfl ?_
     refine Bn (Bu rfl rfl h8) rfl (Bt Me (Bh Ac.enc_len (Ao he_2) (o:=0) (c:=.str e_2.Alias) rfl rfl)) rfl rfl ?_
     refine Ak ?_
     refine Bn (Bu rfl rfl h8) rfl Xn rfl rfl ?_
     refine Ak ?_
     rcases D2 D with ⟨h9,D⟩ | ⟨h9,D⟩
     ·refine Ak ?_
      refine Ai fun B=>?_
      exact⟨true,D,A1 []⟩
     ·refine Ak ?_
      obtain⟨y_2,hy_2,D⟩:=Ad D
      refine Dm (Ls _ _ _ _ hy_2) ?_
      refine Ak ?_
      refine Ai fun B=>?_
      exact⟨!y_2,D,A1 []⟩
    ·refine Ak ?_
     obtain⟨y_3,hy_3,D⟩:=Ad D
     refine Dm (Ls _ _ _ _ hy_3) ?_
     refine Ak ?_
     refine Ai fun B=>?_
     exact⟨!y_3,D,A1 []⟩
  ·rintro x40_2 D
   replace D:Bl.j2 x7_1 x40_2=some o1:=D
   show Ce _ _ _ _ (mk _ _ _)
   unfold Bl.j2 at D
   refine Df rfl D (fun h13 D=>?_) fun h13 D=>?_
   ·refine Ah ?_
    refine Ae (Bp _ _ []) 0 8 A5 rfl rfl ?_
    refine Ak ?_
    refine Ai fun B=>?_
    refine A4 ?_
    replace D:=C0 D hn1
    obtain rfl:=oi_ D
    exact A3 [] ⟨rfl,rfl⟩
   ·refine Ap ?_
    repeat first | refine C4 ?_ | refine C3 ?_
    refine Ae (Bp _ _ []) 0 16 A5 rfl rfl ?_
    refine Ak ?_
    refine Ai fun B=>?_
    obtain rfl:=oi_ D
    exact⟨(W (x7_1 + 1),m1),vO _,hn1,A1 []⟩
 ·refine Bv ?_
  repeat first | refine C4 ?_ | refine C3 ?_
  replace D:=C0 D hn1
  refine Ah ?_
  refine Bd 8 32 B ?_
  refine Ak ?_
  refine Ai fun B=>?_
  refine Df rfl D (fun h17 D=>?_) fun h17 D=>?_
  ·refine Ah ?_
   refine Ae (Bp _ _ []) 32 40 B rfl rfl ?_
   refine Ak ?_
   refine Ai fun B=>?_
   refine A4 ?_
   obtain rfl:=oi_ D
   exact A3 [] ⟨rfl,rfl⟩
  ·refine Ap ?_
   repeat first | refine C4 ?_ | refine C3 ?_
   refine Bd 32 40 B ?_
   refine Ak ?_
   refine Ai fun B=>?_
   refine A4 ?_
   obtain rfl:=oi_ D
   exact A3 [] ⟨rfl,rfl⟩
theorem Ot (x':Ac) (c0:ByteArray) (r:Bool) (D:Fu x' c0=some r):Fn Tryz.prog 40 0 [.agg (Ac.dv x'),.elt (([.str c0]:List C).drop 0)] [] (fun d' b'=>d'=.val (.bool r)/\b'=[]):=by
 unfold Fu at D
 refine Fn.of Tryz.func40 rfl rfl rfl fun w0 I ρ0=>?_
 show Ce _ ⟨w0,I,ρ0,0,0,8⟩ _ _ _
 refine Bd 0 16 A5 ?_
 refine Ak ?_
 refine Ai fun B=>?_
 refine Bd 16 56 B ?_
 refine Ak ?_
 refine Bn rfl rfl (Bt Me (c:=.str c0) rfl) rfl rfl ?_
 refine Ak ?_
 refine Ai fun B=>?_
 refine A4 ?_
 obtain rfl:=oi_ D
 exact A3 [] ⟨rfl,rfl⟩
theorem Gt (s:(List Ac)) (f:Ac->Option (Bool)) (f_c0:ByteArray) (hf_f:∀ (x0:Ac) (y:Bool),f x0=some y->Fn Tryz.prog 40 0 [.agg (Ac.dv x0),.elt (([.str f_c0]:List C).drop 0)] [] (fun d' b'=>d'=.val (.bool y)/\b'=[])) (r:Int) (D:A9 s f=some r):Fn Tryz.prog 39 0 [.sl 6 (Al Ac.enc s),.clo 40 0 [.elt (([.str f_c0]:List C).drop 0)]] [] (fun d' b'=>d'=vj r/\b'=[]):=by
 unfold A9 at D
 refine Fn.of Tryz.func39 rfl rfl rfl fun w0 I ρ0=>?_
 show Ce _ ⟨w0,I,ρ0,0,0,19⟩ _ _ _
 refine Bd 0 8 A5 ?_
 refine Ak ?_
 refine Ai fun B=>?_
 refine Ah ?_
 refine Bd 8 32 B ?_
 refine Ak ?_
 refine Ai fun B=>?_
 refine As ?_
 refine Jk (fun (x8_1:Int)=>mk [(0,.sl 6 (Al Ac.enc s)),(1,.clo 40 0 [.elt (([.str f_c0]:List C).drop 0)]),(7,.val (.int .i64 (s.length:Int))),(8,vj x8_1)] [] 0) D (A1 []) ?_
 rintro x8_1 m1 o1 D hn1
 replace D:A9.l1 s f x8_1=some o1:=D
 show Ce _ _ _ _ (mk _ _ _)
 unfold A9.l1 at D
 refine Bd 0 8 A5 ?_
 refine Ak ?_
 refine Ai fun B=>?_
 refine Ah ?_
 refine Df rfl D (fun h4 D=>?_) fun h4 D=>?_
 ·refine Ap ?_
  repeat first | refine C4 ?_ | refine C3 ?_
  refine Ah ?_
  refine As ?_
  refine Bd 8 24 B ?_
  refine Ak ?_
  refine Ai fun B=>?_
  refine Bd 24 72 B ?_
  refine Ak ?_
  obtain⟨e,he,D⟩:=Ad D
  refine Ak ?_
  refine Bn rfl rfl (C1 L6 (Bx Ac.enc_len (Ao he) (o:=0) (m:=6) (cs:=(Ac.ec e)) rfl (by decide) rfl) (Ba Ac.enc_len (Ao he) (o:=0) (m:=6) (by decide) rfl)) rfl rfl ?_
  obtain⟨y,hy,D⟩:=Ad D
  refine Lf (rd:=[]) (ps:=[]) (gs:=[]) false rfl rfl (hf_f e _ hy) rfl rfl (.cons (.agg (.cons .val (.cons .val (.cons .val (.cons .val (.cons .val (.cons .sl .nil))))))) (.cons .elt .nil)) rfl rfl (by intro h; cases h) rfl rfl rfl rfl ?_
  refine Ai fun B=>?_
  refine Df rfl D (fun h7 D=>?_) fun h7 D=>?_
  ·refine Ah ?_
   refine Ae (Bp _ _ []) 72 88 B rfl rfl ?_
   refine Ak ?_
   refine Ai fun B=>?_
   refine A4 ?_
   replace D:=C0 D hn1
   obtain rfl:=oi_ D
   exact A3 [] ⟨rfl,rfl⟩
  ·refine Ap ?_
   repeat first | refine C4 ?_ | refine C3 ?_
   refine Ae (Bp _ _ []) 72 88 B rfl rfl ?_
   refine Ak ?_
   refine Ai fun B=>?_
   obtain rfl:=oi_ D
   exact⟨(W (x8_1 + 1),m1),vO _,hn1,A1 []⟩
 ·refine Bv ?_
  repeat first | refine C4 ?_ | refine C3 ?_
  replace D:=C0 D hn1
  refine Bd 8 16 B ?_
  refine Ak ?_
  refine Ai fun B=>?_
  refine A4 ?_
  obtain rfl:=oi_ D
  exact A3 [] ⟨rfl,rfl⟩
theorem Mw (s:(List ByteArray)) (r:(List ByteArray)) (D:Cj s=some r):Fn Tryz.prog 132 0 [.sl 1 (Al eS s)] [] (fun d' b'=>d'=.sl 1 (Al eS r)/\b'=[]):=by
 unfold Cj at D
 refine Fn.of Tryz.func132 rfl rfl rfl fun w0 I ρ0=>?_
 show Ce _ ⟨w0,I,ρ0,0,0,8⟩ _ _ _
 refine Bd 0 8 A5 ?_
 refine Ak ?_
 refine Ai fun B=>?_
 refine Ah ?_
 refine B9 (ι:=Bool) (fun (x4_1:Bool)=>mk [(0,.sl 1 (Al eS s)),(4,.val (.bool x4_1))] [] 0) (fun (x4_1:Bool)=>Cj.j1 s x4_1=some r) ?_ ?_
 ·refine Ae (Bp _ _ []) 8 24 B rfl rfl ?_
  refine Ak ?_
  refine aQ rfl rfl ⟨_,sT⟩ rfl ?_
  intro bz hz2
  rcases bz with _ | _
  ·replace D:=hQ D
   refine Ai fun B=>?_
   exact⟨false,D,A1 []⟩
  ·replace D:=gF ((T2 Gz (by decide) (hz2 rfl))) D
   refine Ai fun B=>?_
   exact⟨true,D,A1 []⟩
 ·rintro x4_1 D
  replace D:Cj.j1 s x4_1=some r:=D
  show Ce _ _ _ _ (mk _ _ _)
  unfold Cj.j1 at D
  refine Df rfl D (fun h5 D=>?_) fun h5 D=>?_
  ·refine Ah ?_
   refine Ae (Bp _ _ []) 0 8 A5 rfl rfl ?_
   refine Ak ?_
   refine Ai fun B=>?_
   refine A4 ?_
   obtain rfl:=oi_ D
   exact A3 [] ⟨rfl,rfl⟩
  ·refine Ap ?_
   repeat first | refine C4 ?_ | refine C3 ?_
   refine Bd 0 32 A5 ?_
   refine Bn rfl rfl (An Sl z9 (by decide) rfl rfl rfl rfl mI (cs:=[]) .nil rfl (l:=([]:List ByteArray)) (f:=eS) rfl) rfl rfl ?_
   refine Ak ?_
   obtain⟨l,hl,D⟩:=Ad D
   refine Ed (rd:=[0]) rfl rfl (Cs Sl Gz .row rfl .sl rfl hl rfl) rfl rfl ?_
   refine Ak ?_
   refine Ai fun B=>?_
   refine A4 ?_
   obtain rfl:=oi_ D
   exact A3 [] ⟨rfl,rfl⟩
theorem Oy (l:(List Ab)) (r:(List Ab)) (D:Cn l=some r):Fn Tryz.prog 84 0 [.sl 15 (Al Ab.enc l)] [] (fun d' b'=>d'=.sl 15 (Al Ab.enc r)/\b'=[]):=by
 unfold Cn at D
 refine Fn.of Tryz.func84 rfl rfl rfl fun w0 I ρ0=>?_
 show Ce _ ⟨w0,I,ρ0,0,0,22⟩ _ _ _
 refine Bd 0 8 A5 ?_
 refine Ak ?_
 refine Ai fun B=>?_
 refine Bd 8 16 B ?_
 refine Ak ?_
 refine Ai fun B=>?_
 refine Ah ?_
 refine Bd 16 40 B ?_
 refine Ak ?_
 refine Ai fun B=>?_
 refine As ?_
 refine Jk (fun ((x8_1,out_1):Int×List Ab)=>mk [(3,.row 0),(6,.sl 15 (Al Ab.enc l)),(7,.val (.int .i64 (l.length:Int))),(8,vj x8_1)] [(0,.row 67 15 (Al Ab.enc out_1))] 1) D (A1 []) ?_
 rintro⟨x8_1,out_1⟩ m1 o1 D hn1
 replace D:Cn.l1 l x8_1 out_1=some o1:=D
 show Ce _ _ _ _ (mk _ _ _)
 unfold Cn.l1 at D
 refine Bd 1 9 A5 ?_
 refine Ak ?_
 refine Ai fun B=>?_
 refine Ah ?_
 refine Df rfl D (fun h5 D=>?_) fun h5 D=>?_
 ·refine Ap ?_
  repeat first | refine C4 ?_ | refine C3 ?_
  refine Ah ?_
  refine As ?_
  refine Bd 9 41 B ?_
  obtain⟨e,he,D⟩:=Ad D
  refine Ak ?_
  refine Bn rfl rfl (C1 Uu (Bx Ab.enc_len (Ao he) (o:=0) (m:=15) (cs:=(Ab.ec e)) rfl (by decide) rfl) (Ba Ab.enc_len (Ao he) (o:=0) (m:=15) (by decide) rfl)) rfl rfl ?_
  refine Ak ?_
  refine Ai fun B=>?_
  refine Bd 41 81 B ?_
  refine Ak ?_
  obtain⟨y,hy,D⟩:=Ad D
  refine Dm (Mw _ _ hy) ?_
  refine Ak ?_
  refine Ai fun B=>?_
  refine Ae (Bp _ _ []) 81 121 B rfl rfl ?_
  refine Ak ?_
  refine Bn rfl rfl (An Qu mT (by decide) rfl rfl rfl rfl fO (cs:=[.int .i64 e.Serial,.str e.Issuer,.str e.Subject,.int .i64 e.Key.Alg,.int .i64 e.Key.Bits,.int .i64 e.KeyId,.int .i64 e.Hash.Alg,.int .i64 e.Hash.Bits,.int .i64 e.From,.int .i64 e.To,.bool e.Authority,.int .i64 e.Path,.sl 1 (Al eS y),.int .i64 e.Seal.Key,.int .i64 e.Seal.Sum]) (.cons .int (.cons .str (.cons .str (.cons .int (.cons .int (.cons .int (.cons .int (.cons .int (.cons .int (.cons .int (.cons .bool (.cons .int (.cons .sl (.cons .int (.cons .int .nil))))))))))))))) rfl (l:=([(Ab.mk e.Serial e.Issuer e.Subject e.Key e.KeyId e.Hash e.From e.To e.Authority e.Path y e.Seal)]:List Ab)) (f:=Ab.enc) rfl) rfl rfl ?_
  obtain⟨l_2,hl_2,D⟩:=Ad D
  refine Ed (rd:=[0,97]) rfl rfl (Cs Qu Ab.enc_len .row rfl .row rfl hl_2 rfl) rfl rfl ?_
  refine Ak ?_
  refine Ai fun B=>?_
  refine Ae (Bp _ _ []) 121 137 B rfl rfl ?_
  refine Ak ?_
  refine Ai fun B=>?_
  obtain rfl:=oi_ D
  exact⟨((W (x8_1 + 1),l_2),m1),vO _,hn1,A1 [(0,105)]⟩
 ·refine Bv ?_
  repeat first | refine C4 ?_ | refine C3 ?_
  replace D:=C0 D hn1
  refine Bd 9 25 B ?_
  refine Ak ?_
  refine Ai fun B=>?_
  refine A4 ?_
  obtain rfl:=oi_ D
  exact A3 [] ⟨rfl,rfl⟩
theorem M7 (x':Ac) (r:Ac) (D:Gh x'=some r):Fn Tryz.prog 37 0 [.agg (Ac.dv x')] [] (fun d' b'=>d'=.agg (Ac.dv r)/\b'=[]):=by
 unfold Gh at D
 refine Fn.of Tryz.func37 rfl rfl rfl fun w0 I ρ0=>?_
 show Ce _ ⟨w0,I,ρ0,0,0,8⟩ _ _ _
 refine Bd 0 16 A5 ?_
 refine Ak ?_
 refine Ai fun B=>?_
 refine Bd 16 56 B ?_
 refine Ak ?_
 obtain⟨y,hy,D⟩:=Ad D
 refine Dm (Oy _ _ hy) ?_
 refine Ak ?_
 refine Ai fun B=>?_
 refine Bd 56 72 B ?_
 refine Ak ?_
 refine Ai fun B=>?_
 refine A4 ?_
 obtain rfl:=oi_ D
 exact A3 [] ⟨rfl,rfl⟩
theorem Jl (l:(List Ac)) (alias:ByteArray) (r:Ac×Bool) (D:E8 l alias=some r):Fn Tryz.prog 14 0 [.sl 6 (Al Ac.enc l),vk alias] [] (fun d' b'=>d'=.tup [.agg (Ac.dv r.1),.val (.bool r.2)]/\b'=[]):=by
 unfold E8 at D
 refine Fn.of Tryz.func14 rfl rfl rfl fun w0 I ρ0=>?_
 show Ce _ ⟨w0,I,ρ0,0,0,18⟩ _ _ _
 refine Bd 0 24 A5 ?_
 refine Ak ?_
 refine Ai fun B=>?_
 refine Ah ?_
 refine Gf (σ':=mk [(0,.sl 6 (Al Ac.enc l)),(3,.elt (([.str alias]:List C).drop 0)),(4,.ptr 0 0)] [(0,.box [.val (.string (⟨#[]⟩:ByteArray)),.val (.int .i64 0),.val (.int .i64 0),.val (.int .i64 0),.val (.bool false),.val (.slice none 0 0)] 40)] 1) ((by exact O8.lists [(0,8)] rfl rfl ⟨⟨_,rfl,.sl _ _⟩,⟨_,rfl,.frzb (ks:=[none]) rfl (.cons .str .nil) (Hu rfl)⟩,⟨_,rfl,.ptr rfl⟩,trivial⟩ ⟨.inl ⟨8,_,rfl,rfl,⟨rfl,.cons (.val _) (.cons (.val _) (.cons (.val _) (.cons (.val _) (.cons (.val _) (.cons (.val _) .nil)))))⟩⟩,trivial⟩)) ?_
 refine Ae (Bp _ _ []) 1 33 A5 rfl rfl ?_
 refine Ak ?_
 obtain⟨y,hy,D⟩:=Ad D
 refine Dm (Gt l (fun x0=>Fu x0 alias) alias (fun x0 yy hh=>Ot x0 alias yy hh) _ hy) ?_
 refine Ak ?_
 refine Ai fun B=>?_
 refine Ah ?_
 refine Bd 33 49 B ?_
 refine Ak ?_
 refine Ai fun B=>?_
 refine Df rfl D (fun h4 D=>?_) fun h4 D=>?_
 ·refine Ah ?_
  refine Ae (Bp _ _ []) 49 73 B rfl rfl ?_
  refine Bn rfl rfl (.build (r:=[.val (.string (⟨#[]⟩:ByteArray)),.val (.int .i64 0),.val (.int .i64 0),.val (.int .i64 0),.val (.bool false),.val (.slice none 0 0)]) Mr Z3 Wx (by kernel_rfl) rfl) rfl rfl ?_
  refine Ak ?_
  refine Ai fun B=>?_
  refine A4 ?_
  obtain rfl:=oi_ D
  exact A3 [] ⟨rfl,rfl⟩
 ·refine Ap ?_
  repeat first | refine C4 ?_ | refine C3 ?_
  refine Bd 49 105 B ?_
  refine Ak ?_
  obtain⟨e,he,D⟩:=Ad D
  refine Ak ?_
  refine Bn rfl rfl (C1 L6 (Bx Ac.enc_len (Ao he) (o:=0) (m:=6) (cs:=(Ac.ec e)) rfl (by decide) rfl) (Ba Ac.enc_len (Ao he) (o:=0) (m:=6) (by decide) rfl)) rfl rfl ?_
  obtain⟨y_2,hy_2,D⟩:=Ad D
  refine Dm (M7 _ _ hy_2) ?_
  refine Ak ?_
  refine Ai fun B=>?_
  refine A4 ?_
  obtain rfl:=oi_ D
  exact A3 [] ⟨rfl,rfl⟩
theorem Ps (x':Int) (r:Int) (D:A7 x'=some r):Fn Tryz.prog 131 0 [.val (.int .u64 x')] [] (fun d' b'=>d'=vj r/\b'=[]):=by
 unfold A7 at D
 refine Fn.of Tryz.func131 rfl rfl rfl fun w0 I ρ0=>?_
 show Ce _ ⟨w0,I,ρ0,0,0,25⟩ _ _ _
 refine Bd 0 8 A5 ?_
 refine Ak ?_
 refine Ai fun B=>?_
 refine B9 (ι:=Int×Int) (fun ((x_1,n_1):Int×Int)=>mk [(0,.val (.int .u64 x_1)),(2,vj n_1)] [] 0) (fun ((x_1,n_1):Int×Int)=>A7.j1 x_1 n_1=some r) ?_ ?_
 ·refine Ah ?_
  refine Ae (Bp _ _ []) 8 24 B rfl rfl ?_
  refine Ak ?_
  refine Ai fun B=>?_
  refine Df rfl D (fun h3 D=>?_) fun h3 D=>?_
  ·refine Ah ?_
   refine Ae (Bp _ _ []) 24 48 B rfl rfl ?_
   refine Ak ?_
   obtain⟨q,hq,D⟩:=Ad D
   refine Bn rfl rfl (Nq hq) rfl rfl ?_
   refine Ak ?_
   refine Ai fun B=>?_
   refine Ae (Bp _ _ []) 48 56 B rfl rfl ?_
   refine Ak ?_
   refine Ai fun B=>?_
   exact⟨(q,32),D,A1 []⟩
  ·refine Ap ?_
   repeat first | refine C4 ?_ | refine C3 ?_
   exact⟨(x',0),D,A1 []⟩
 ·rintro⟨x_1,n_1⟩ D
  replace D:A7.j1 x_1 n_1=some r:=D
  show Ce _ _ _ _ (mk _ _ _)
  unfold A7.j1 at D
  refine B9 (ι:=Int×Int) (fun ((x_2,n_2):Int×Int)=>mk [(0,.val (.int .u64 x_2)),(2,vj n_2)] [] 0) (fun ((x_2,n_2):Int×Int)=>A7.j2 x_2 n_2=some r) ?_ ?_
  ·refine Ah ?_
   refine Ae (Bp _ _ []) 0 16 A5 rfl rfl ?_
   refine Ak ?_
   refine Ai fun B=>?_
   refine Df rfl D (fun h7 D=>?_) fun h7 D=>?_
   ·refine Ah ?_
    refine Ae (Bp _ _ []) 16 40 B rfl rfl ?_
    refine Ak ?_
    obtain⟨q_2,hq_2,D⟩:=Ad D
    refine Bn rfl rfl (Nq hq_2) rfl rfl ?_
    refine Ak ?_
    refine Ai fun B=>?_
    refine Ae (Bp _ _ []) 40 64 B rfl rfl ?_
    refine Ak ?_
    refine Ai fun B=>?_
    exact⟨(q_2,W (n_1 + 16)),D,A1 []⟩
   ·refine Ap ?_
    repeat first | refine C4 ?_ | refine C3 ?_
    exact⟨(x_1,n_1),D,A1 []⟩
  ·rintro⟨x_2,n_2⟩ D
   replace D:A7.j2 x_2 n_2=some r:=D
   show Ce _ _ _ _ (mk _ _ _)
   unfold A7.j2 at D
   refine B9 (ι:=Int×Int) (fun ((x_3,n_3):Int×Int)=>mk [(0,.val (.int .u64 x_3)),(2,vj n_3)] [] 0) (fun ((x_3,n_3):Int×Int)=>A7.j3 x_3 n_3=some r) ?_ ?_
   ·refine Ah ?_
    refine Ae (Bp _ _ []) 0 16 A5 rfl rfl ?_
    refine Ak ?_
    refine Ai fun B=>?_
    refine Df rfl D (fun h11 D=>?_) fun h11 D=>?_
    ·refine Ah ?_
     refine Ae (Bp _ _ []) 16 40 B rfl rfl ?_
     refine Ak ?_
     obtain⟨q_3,hq_3,D⟩:=Ad D
     refine Bn rfl rfl (Nq hq_3) rfl rfl ?_
     refine Ak ?_
     refine Ai fun B=>?_
     refine Ae (Bp _ _ []) 40 64 B rfl rfl ?_
     refine Ak ?_
     refine Ai fun B=>?_
     exact⟨(q_3,W (n_2 + 8)),D,A1 []⟩
    ·refine Ap ?_
     repeat first | refine C4 ?_ | refine C3 ?_
     exact⟨(x_2,n_2),D,A1 []⟩
   ·rintro⟨x_3,n_3⟩ D
    replace D:A7.j3 x_3 n_3=some r:=D
    show Ce _ _ _ _ (mk _ _ _)
    unfold A7.j3 at D
    refine Bd 0 56 A5 ?_
    refine Ak ?_
    refine Bn rfl rfl (Fq aI L1) rfl rfl ?_
    obtain⟨c,hc,D⟩:=Ad D
    refine Bn rfl rfl (Zr P3 hc) rfl rfl ?_
    refine Bn rfl rfl (eF (u:=c) L1 O6) rfl rfl ?_
    refine Ak ?_
    refine Ai fun B=>?_
    refine A4 ?_
    obtain rfl:=oi_ D
    exact A3 [] ⟨rfl,rfl⟩
theorem Sg (x':Int) (r:Int) (D:F6 x'=some r):Fn Tryz.prog 83 0 [.val (.int .u64 x')] [] (fun d' b'=>d'=vj r/\b'=[]):=by
 unfold F6 at D
 refine Fn.of Tryz.func83 rfl rfl rfl fun w0 I ρ0=>?_
 show Ce _ ⟨w0,I,ρ0,0,0,8⟩ _ _ _
 refine Bd 0 8 A5 ?_
 refine Ak ?_
 refine Ai fun B=>?_
 refine Ah ?_
 refine cP (fun h=>?_) (fun h=>?_)
 ·exact absurd h (by first | decide | exact fun h=>nomatch (show false=true from h) | exact fun h=>nomatch (show true=false from h))
 ·refine Ap ?_
  repeat first | refine C4 ?_ | refine C3 ?_
  refine Bd 8 32 B ?_
  refine Ak ?_
  obtain⟨y,hy,D⟩:=Ad D
  refine Dm (Ps _ _ hy) ?_
  refine Ak ?_
  refine Ai fun B=>?_
  refine A4 ?_
  obtain rfl:=oi_ D
  exact A3 [] ⟨rfl,rfl⟩
theorem N8 (x':Ac) (y:Ac) (r:Int) (D:Ee x' y=some r):Fn Tryz.prog 36 0 [.agg (Ac.dv x'),.agg (Ac.dv y)] [] (fun d' b'=>d'=vj r/\b'=[]):=by
 unfold Ee at D
 refine Fn.of Tryz.func36 rfl rfl rfl fun w0 I ρ0=>?_
 show Ce _ ⟨w0,I,ρ0,0,0,10⟩ _ _ _
 refine Bd 0 24 A5 ?_
 refine Ak ?_
 refine Ai fun B=>?_
 refine Ah ?_
 refine Bd 24 64 B ?_
 refine Ak ?_
 refine Bn rfl rfl iY rfl rfl ?_
 refine Ai fun B=>?_
 refine Df rfl D (fun h3 D=>?_) fun h3 D=>?_
 ·refine Ah ?_
  refine Ae (Bp _ _ []) 64 72 B rfl rfl ?_
  refine Ak ?_
  refine Ai fun B=>?_
  refine A4 ?_
  obtain rfl:=oi_ D
  exact A3 [] ⟨rfl,rfl⟩
 ·refine Ap ?_
  repeat first | refine C4 ?_ | refine C3 ?_
  refine Bd 64 72 B ?_
  refine Ak ?_
  refine Ai fun B=>?_
  refine A4 ?_
  obtain rfl:=oi_ D
  exact A3 [] ⟨rfl,rfl⟩
theorem Fz (data:List Ac) (a:Int) (b:Int) (cmp:Ac->Ac->Option (Int)) (hf_cmp:∀ (x0:Ac) (x1:Ac) (y:Int),cmp x0 x1=some y->Fn Tryz.prog 36 0 [.agg (Ac.dv x0),.agg (Ac.dv x1)] [] (fun d' b'=>d'=vj y/\b'=[])) (r:(List Ac)) (D:Aj data a b cmp=some r):Fn Tryz.prog 122 1 [.row 0,vj a,vj b,.clo 36 0 []] [.row 40 6 (Al Ac.enc data)] (fun d' b'=>d'=.tup []/\b'=[.row 40 6 (Al Ac.enc r)]):=by
 unfold Aj at D
 refine Fn.of Tryz.func122 rfl rfl rfl fun w0 I ρ0=>?_
 show Ce _ ⟨w0,I,ρ0,1,1,53⟩ _ _ _
 refine Bd 1 25 A5 ?_
 refine Ak ?_
 refine Ai fun B=>?_
 refine As ?_
 refine Jk (fun ((i_1,data_1):Int×List Ac)=>mk [(0,.row 0),(1,vj a),(2,vj b),(3,.clo 36 0 []),(8,vj i_1)] [(0,.row 40 6 (Al Ac.enc data_1))] 1) D (A1 [(0,0)]) ?_
 rintro⟨i_1,data_1⟩ m1 o1 D hn1
 replace D:Aj.l1 a b cmp i_1 data_1=some o1:=D
 show Ce _ _ _ _ (mk _ _ _)
 unfold Aj.l1 at D
 refine Ah ?_
 refine Bd 1 25 A5 ?_
 refine Ak ?_
 refine Ai fun B=>?_
 refine Df rfl D (fun h3 D=>?_) fun h3 D=>?_
 ·refine Ap ?_
  repeat first | refine C4 ?_ | refine C3 ?_
  refine Ah ?_
  refine As ?_
  refine Bd 25 41 B ?_
  refine Ak ?_
  refine Ai fun B=>?_
  refine As ?_
  refine Jk (fun ((j_2,data_2):Int×List Ac)=>mk [(0,.row 0),(1,vj a),(2,vj b),(3,.clo 36 0 []),(8,vj i_1),(9,vj j_2)] [(0,.row 40 6 (Al Ac.enc data_2))] 1) D (A1 [(0,0)]) ?_
  rintro⟨j_2,data_2⟩ m2 o2 D hn2
  replace D:Aj.l2 a cmp i_1 j_2 data_2=some o2:=D
  show Ce _ _ _ _ (mk _ _ _)
  unfold Aj.l2 at D
  refine Ah ?_
  refine B9 (ι:=Bool) (fun (x34_3:Bool)=>mk [(0,.row 0),(1,vj a),(2,vj b),(3,.clo 36 0 []),(8,vj i_1),(9,vj j_2),(34,.val (.bool x34_3))] [(0,.row 40 6 (Al Ac.enc data_2))] 1) (fun (x34_3:Bool)=>Aj.j3 i_1 j_2 data_2 x34_3=some o2) ?_ ?_
  ·refine Dh (Bp _ _ []) (by kernel_rfl) [0,0,3,7,15,15,15,111,239,15,15,1039,3599,7695,16383,32767,65535] 1 137 A5 rfl rfl (by kernel_rfl) ?_
   refine Ak ?_
   rcases D2 D with ⟨h5,D⟩ | ⟨h5,D⟩
   ·refine Ak ?_
    obtain⟨e,he,D⟩:=Ad D
    refine Ak ?_
    refine Ed (rd:=[0]) (Bu rfl rfl h5) rfl (L0 L6 (Bx Ac.enc_len (Ao he) (o:=0) (m:=6) (cs:=(Ac.ec e)) rfl (by decide) rfl) (Ba Ac.enc_len (Ao he) (o:=0) (m:=6) (by decide) rfl)) rfl rfl ?_
    refine Ak ?_
    obtain⟨e_2,he_2,D⟩:=Ad D
    refine Ak ?_
    refine Ed (rd:=[0]) (Bu rfl rfl h5) rfl (L0 L6 (Bx Ac.enc_len (Ao he_2) (o:=0) (m:=6) (cs:=(Ac.ec e_2)) rfl (by decide) rfl) (Ba Ac.enc_len (Ao he_2) (o:=0) (m:=6) (by decide) rfl)) rfl rfl ?_
    obtain⟨y,hy,D⟩:=Ad D
    refine Lf (rd:=[]) (ps:=[]) (gs:=[]) false (Bu rfl rfl h5) rfl (hf_cmp e e_2 _ hy) rfl rfl (.cons (.agg (.cons .val (.cons .val (.cons .val (.cons .val (.cons .val (.cons .sl .nil))))))) (.cons (.agg (.cons .val (.cons .val (.cons .val (.cons .val (.cons .val (.cons .sl .nil))))))) .nil)) rfl rfl (by intro h; cases h) rfl rfl rfl rfl ?_
    refine Ak ?_
    refine Ai fun B=>?_
    exact⟨decide (y < 0),D,A1 [(0,0)]⟩
   ·refine Ak ?_
    refine Ai fun B=>?_
    exact⟨false,D,A1 [(0,0)]⟩
  ·rintro x34_3 D
   replace D:Aj.j3 i_1 j_2 data_2 x34_3=some o2:=D
   show Ce _ _ _ _ (mk _ _ _)
   unfold Aj.j3 at D
   refine Df rfl D (fun h8 D=>?_) fun h8 D=>?_
   ·refine Ap ?_
    repeat first | refine C4 ?_ | refine C3 ?_
    refine Ah ?_
    refine As ?_
    refine Dh (Bp _ _ []) (by kernel_rfl) [0,0,0,0,8,0,0,64,224,480,0,0,3072,7168,16355,32739,65535,131071] 1 145 A5 rfl rfl (by kernel_rfl) ?_
    refine Ak ?_
    obtain⟨e_3,he_3,D⟩:=Ad D
    refine Ak ?_
    refine Ed (rd:=[0]) rfl rfl (L0 L6 (Bx Ac.enc_len (Ao he_3) (o:=0) (m:=6) (cs:=(Ac.ec e_3)) rfl (by decide) rfl) (Ba Ac.enc_len (Ao he_3) (o:=0) (m:=6) (by decide) rfl)) rfl rfl ?_
    refine Ak ?_
    obtain⟨e_4,he_4,D⟩:=Ad D
    refine Ak ?_
    refine Ed (rd:=[0]) rfl rfl (L0 L6 (Bx Ac.enc_len (Ao he_4) (o:=0) (m:=6) (cs:=(Ac.ec e_4)) rfl (by decide) rfl) (Ba Ac.enc_len (Ao he_4) (o:=0) (m:=6) (by decide) rfl)) rfl rfl ?_
    refine Ak ?_
    refine Ed (rd:=[0]) rfl rfl (Yf L6 rfl (Ba Ac.enc_len (Ao he_4) (o:=0) (m:=6) (by decide) rfl) Ti (cs':=(Ac.ec e_3)) (.cons .str (.cons .int (.cons .int (.cons .int (.cons .bool (.cons .sl .nil)))))) (H9 Ac.enc_len (Ao he_4) (o:=0) (x':=e_3) (vP rfl) rfl rfl)) rfl rfl ?_
    obtain⟨e_5,he_5,D⟩:=Ad D
    refine Ak ?_
    refine Ed (rd:=[0]) rfl rfl (Yf L6 rfl (Ba Ac.enc_len (Ao he_5) (o:=0) (m:=6) (by decide) rfl) Ti (cs':=(Ac.ec e_4)) (.cons .str (.cons .int (.cons .int (.cons .int (.cons .bool (.cons .sl .nil)))))) (H9 Ac.enc_len (Ao he_5) (o:=0) (x':=e_4) (vP rfl) rfl rfl)) rfl rfl ?_
    refine Ai fun B=>?_
    refine Ae (Bp _ _ []) 145 169 B rfl rfl ?_
    refine Ak ?_
    refine Ai fun B=>?_
    obtain rfl:=oi_ D
    exact⟨((W (j_2 - 1),Hf (Hf data_2 ((j_2).toNat) e_3) ((W (j_2 - 1)).toNat) e_4),m2),vO _,hn2,A1 [(0,0)]⟩
   ·refine Bv ?_
    repeat first | refine C4 ?_ | refine C3 ?_
    replace D:=C0 D hn2
    refine Ae (Bp _ _ []) 1 25 A5 rfl rfl ?_
    refine Ak ?_
    refine Ai fun B=>?_
    obtain rfl:=oi_ D
    exact⟨((W (i_1 + 1),data_2),m1),vO _,hn1,A1 [(0,0)]⟩
 ·refine Bv ?_
  repeat first | refine C4 ?_ | refine C3 ?_
  replace D:=C0 D hn1
  obtain rfl:=oi_ D
  exact A3 [(0,0)] ⟨rfl,rfl⟩
theorem Gr (data:List Ac) (a:Int) (b:Int) (limit:Int) (cmp:Ac->Ac->Option (Int)) (hf_cmp:∀ (x0:Ac) (x1:Ac) (y:Int),cmp x0 x1=some y->Fn Tryz.prog 36 0 [.agg (Ac.dv x0),.agg (Ac.dv x1)] [] (fun d' b'=>d'=vj y/\b'=[])) (r:(List Ac)) (D:A6 data a b limit cmp=some r):Fn Tryz.prog 82 1 [.row 0,vj a,vj b,vj limit,.clo 36 0 []] [.row 40 6 (Al Ac.enc data)] (fun d' b'=>d'=.tup []/\b'=[.row 40 6 (Al Ac.enc r)]):=by
 unfold A6 at D
 refine Fn.of Tryz.func82 rfl rfl rfl fun w0 I ρ0=>?_
 show Ce _ ⟨w0,I,ρ0,1,1,148⟩ _ _ _
 refine Bd 1 9 A5 ?_
 refine Ak ?_
 refine Ai fun B=>?_
 refine Bd 9 17 B ?_
 refine Ak ?_
 refine Ai fun B=>?_
 refine As ?_
 refine Jk (fun (_:Unit)=>mk [(0,.row 0),(1,vj a),(2,vj b),(3,vj limit),(4,.clo 36 0 []),(10,.val (.bool true)),(11,.val (.bool true))] [(0,.row 40 6 (Al Ac.enc data))] 1) D (A1 [(0,0)]) ?_
 rintro _ m1 o1 D hn1
 replace D:A6.l1 data a b limit cmp=some o1:=D
 show Ce _ _ _ _ (mk _ _ _)
 unfold A6.l1 at D
 refine As ?_
 refine Bd 1 33 A5 ?_
 refine Ak ?_
 refine Ai fun B=>?_
 refine Ah ?_
 refine Bd 33 49 B ?_
 refine Ak ?_
 refine Ai fun B=>?_
 refine Df rfl D (fun h5 D=>?_) fun h5 D=>?_
 ·refine Ah ?_
  refine Ae (Bp _ _ []) 49 89 B rfl rfl ?_
  refine Ak ?_
  obtain⟨y,hy,D⟩:=Ad D
  refine Kn [0] [0] [] false (Fz data a b cmp hf_cmp _ hy) ?_
  refine Ai fun B=>?_
  refine A4 ?_
  replace D:=C0 D hn1
  obtain rfl:=oi_ D
  exact A3 [(0,0)] ⟨rfl,rfl⟩
 ·refine Ap ?_
  repeat first | refine C4 ?_ | refine C3 ?_
  refine Ah ?_
  refine Bd 49 65 B ?_
  refine Ak ?_
  refine Ai fun B=>?_
  refine Df rfl D (fun h8 D=>?_) fun h8 D=>?_
  ·refine Ah ?_
   refine Ae (Bp _ _ []) 65 105 B rfl rfl ?_
   refine Ak ?_
   cases D
  ·refine Ap ?_
   repeat first | refine C4 ?_ | refine C3 ?_
   refine Ah ?_
   refine Bd 65 81 B ?_
   refine Ak ?_
   refine Ai fun B=>?_
   refine Yk rfl (fun h=>?_) (fun h=>?_)
   ·exact absurd h (by first | decide | exact fun h=>nomatch (show false=true from h) | exact fun h=>nomatch (show true=false from h))
   ·refine Ap ?_
    repeat first | refine C4 ?_ | refine C3 ?_
    refine Bd 81 161 B ?_
    refine Ak ?_
    cases D
theorem Hv (x':List Ac) (cmp:Ac->Ac->Option (Int)) (hf_cmp:∀ (x0:Ac) (x1:Ac) (y:Int),cmp x0 x1=some y->Fn Tryz.prog 36 0 [.agg (Ac.dv x0),.agg (Ac.dv x1)] [] (fun d' b'=>d'=vj y/\b'=[])) (r:(List Ac)) (D:D1 x' cmp=some r):Fn Tryz.prog 35 1 [.row 0,.clo 36 0 []] [.row 40 6 (Al Ac.enc x')] (fun d' b'=>d'=.tup []/\b'=[.row 40 6 (Al Ac.enc r)]):=by
 unfold D1 at D
 refine Fn.of Tryz.func35 rfl rfl rfl fun w0 I ρ0=>?_
 show Ce _ ⟨w0,I,ρ0,1,1,14⟩ _ _ _
 refine Bd 1 25 A5 ?_
 refine Ak ?_
 refine Ai fun B=>?_
 refine Ae (Bp _ _ []) 25 81 B rfl rfl ?_
 refine Ak ?_
 refine Bn rfl rfl (W3 O6 sP) rfl rfl ?_
 obtain⟨y,hy,D⟩:=Ad D
 refine Dm (Sg _ _ hy) ?_
 refine Ak ?_
 obtain⟨y_2,hy_2,D⟩:=Ad D
 refine Kn [0] [0] [] false (Gr x' 0 (x'.length:Int) y cmp hf_cmp _ hy_2) ?_
 refine Ai fun B=>?_
 obtain rfl:=oi_ D
 exact A3 [(0,0)] ⟨rfl,rfl⟩
theorem Le (a:(List Ac)) (b:(List Ac)) (r:(List Ac)×Int) (D:Az a b=some r):Fn Tryz.prog 11 0 [.sl 6 (Al Ac.enc a),.sl 6 (Al Ac.enc b)] [] (fun d' b'=>d'=.tup [.sl 6 (Al Ac.enc r.1),vj r.2]/\b'=[]):=by
 unfold Az at D
 refine Fn.of Tryz.func11 rfl rfl rfl fun w0 I ρ0=>?_
 show Ce _ ⟨w0,I,ρ0,0,0,71⟩ _ _ _
 refine Bd 0 16 A5 ?_
 refine Ak ?_
 refine Ai fun B=>?_
 refine Ah ?_
 refine B9 (ι:=Bool) (fun (x21_1:Bool)=>mk [(0,.sl 6 (Al Ac.enc a)),(1,.sl 6 (Al Ac.enc b)),(21,.val (.bool x21_1))] [] 0) (fun (x21_1:Bool)=>Az.j1 a b x21_1=some r) ?_ ?_
 ·refine Ae (Bp _ _ []) 16 80 B rfl rfl ?_
  refine Ak ?_
  obtain⟨y,hy,D⟩:=Ad D
  refine Dm (Gp _ _ hy) ?_
  refine Ak ?_
  rcases D2 D with ⟨h2,D⟩ | ⟨h2,D⟩
  ·refine Ak ?_
   refine Ai fun B=>?_
   exact⟨true,D,A1 []⟩
  ·refine Ak ?_
   obtain⟨y_2,hy_2,D⟩:=Ad D
   refine Dm (Gp _ _ hy_2) ?_
   refine Ak ?_
   refine Ai fun B=>?_
   exact⟨!decide (y_2=0),D,A1 []⟩
 ·rintro x21_1 D
  replace D:Az.j1 a b x21_1=some r:=D
  show Ce _ _ _ _ (mk _ _ _)
  unfold Az.j1 at D
  refine Df rfl D (fun h5 D=>?_) fun h5 D=>?_
  ·refine Ah ?_
   refine Ae (Bp _ _ []) 0 16 A5 rfl rfl ?_
   refine Ak ?_
   refine Ai fun B=>?_
   refine A4 ?_
   obtain rfl:=oi_ D
   exact A3 [] ⟨rfl,rfl⟩
  ·refine Ap ?_
   repeat first | refine C4 ?_ | refine C3 ?_
   refine Bd 0 72 A5 ?_
   refine Ak ?_
   obtain⟨m,hm,D⟩:=Ad D
   refine Vb (rd:=[]) rfl rfl (pU (f:=Ac.enc) (z0:=(Ac.mk (⟨#[]⟩:ByteArray) (Ax.mk 0 0) 0 false ([]:(List Ab)))) Ke Ac.enc_len (rF (ck:=[none,none,none,none,none,some 15]) Wx (.cons .str (.cons .int (.cons .int (.cons .int (.cons .bool (.cons .nil .nil))))))) (by intro h; injection h with h; cases h) hm rfl) rfl rfl (fun _=>⟨_,rfl⟩) ?_
   rintro _ rfl
   refine Ak ?_
   refine Ai fun B=>?_
   refine Bd 72 96 B ?_
   refine Ak ?_
   obtain⟨l,hl,D⟩:=Ad D
   refine Vb (rd:=[56]) rfl rfl (qS Ke Ke Ac.enc_len (.head _) hl) rfl rfl (fun _=>⟨_,rfl⟩) ?_
   rintro _ rfl
   refine Ai fun B=>?_
   refine Ah ?_
   refine Bd 96 120 B ?_
   refine Ak ?_
   refine Ai fun B=>?_
   refine As ?_
   refine Jk (fun ((x35_2,l_2):Int×List Ac)=>mk [(1,.sl 6 (Al Ac.enc b)),(6,.row 0),(33,.sl 6 (Al Ac.enc a)),(34,.val (.int .i64 (a.length:Int))),(35,vj x35_2)] [(0,.row 40 6 (Al Ac.enc l_2))] 1) D (A1 [(0,56)]) ?_
   rintro⟨x35_2,l_2⟩ m2 o2 D hn2
   replace D:Az.l2 a b x35_2 l_2=some o2:=D
   show Ce _ _ _ _ (mk _ _ _)
   unfold Az.l2 at D
   refine Bd 1 9 A5 ?_
   refine Ak ?_
   refine Ai fun B=>?_
   refine Ah ?_
   refine Df rfl D (fun h11 D=>?_) fun h11 D=>?_
   ·refine Ap ?_
    repeat first | refine C4 ?_ | refine C3 ?_
    refine B9 (ι:=List Ac) (fun (l_3_2:List Ac)=>mk [(1,.sl 6 (Al Ac.enc b)),(6,.row 0),(33,.sl 6 (Al Ac.enc a)),(34,.val (.int .i64 (a.length:Int))),(35,vj x35_2)] [(0,.row 40 6 (Al Ac.enc l_3_2))] 1) (fun (l_3_2:List Ac)=>Az.j3 x35_2 l_3_2=some o2) ?_ ?_
    ·refine As ?_
     refine Bd 9 41 B ?_
     obtain⟨e,he,D⟩:=Ad D
     refine Ak ?_
     refine Bn rfl rfl (C1 L6 (Bx Ac.enc_len (Ao he) (o:=0) (m:=6) (cs:=(Ac.ec e)) rfl (by decide) rfl) (Ba Ac.enc_len (Ao he) (o:=0) (m:=6) (by decide) rfl)) rfl rfl ?_
     refine Ak ?_
     refine Ai fun B=>?_
     refine Bd 41 121 B ?_
     refine Ak ?_
     obtain⟨y_3,hy_3,D⟩:=Ad D
     refine Dm (Jl _ _ _ hy_3) ?_
     refine Ak ?_
     refine Ai fun B=>?_
     refine Bd 121 137 B ?_
     refine Ak ?_
     refine Ai fun B=>?_
     refine Df rfl D (fun h15 D=>?_) fun h15 D=>?_
     ·refine Ae (Bp _ _ []) 137 177 B rfl rfl ?_
      refine Ak ?_
      refine Bn rfl rfl (An Ke Wx (by decide) rfl rfl rfl rfl Ti (cs:=(Ac.ec e)) (.cons .str (.cons .int (.cons .int (.cons .int (.cons .bool (.cons .sl .nil)))))) rfl (l:=([e]:List Ac)) (f:=Ac.enc) rfl) rfl rfl ?_
      obtain⟨l_3,hl_3,D⟩:=Ad D
      refine Ed (rd:=[0,153]) rfl rfl (Cs Ke Ac.enc_len .row rfl .row rfl hl_3 rfl) rfl rfl ?_
      refine Ak ?_
      refine Ai fun B=>?_
      exact⟨l_3,D,A1 [(0,161)]⟩
     ·refine Ap ?_
      repeat first | refine C4 ?_ | refine C3 ?_
      exact⟨l_2,D,A1 [(0,0)]⟩
    ·rintro l_3_2 D
     replace D:Az.j3 x35_2 l_3_2=some o2:=D
     show Ce _ _ _ _ (mk _ _ _)
     unfold Az.j3 at D
     refine Ae (Bp _ _ []) 1 17 A5 rfl rfl ?_
     refine Ak ?_
     refine Ai fun B=>?_
     obtain rfl:=oi_ D
     exact⟨((W (x35_2 + 1),l_3_2),m2),vO _,hn2,A1 [(0,0)]⟩
   ·refine Bv ?_
    repeat first | refine C4 ?_ | refine C3 ?_
    replace D:=C0 D hn2
    refine Ah ?_
    refine Bd 9 33 B ?_
    refine Ak ?_
    refine Ai fun B=>?_
    refine Df rfl D (fun h19 D=>?_) fun h19 D=>?_
    ·refine Ah ?_
     refine Ae (Bp _ _ []) 33 49 B rfl rfl ?_
     refine Ak ?_
     refine Ai fun B=>?_
     refine A4 ?_
     obtain rfl:=oi_ D
     exact A3 [] ⟨rfl,rfl⟩
    ·refine Ap ?_
     repeat first | refine C4 ?_ | refine C3 ?_
     refine Bd 33 49 B ?_
     refine Ak ?_
     obtain⟨y_4,hy_4,D⟩:=Ad D
     refine Kn [0] [0] [] false (Hv l_2 (fun x0 x1=>Ee x0 x1) (fun x0 x1 yy hh=>N8 x0 x1 yy hh) _ hy_4) ?_
     refine Ai fun B=>?_
     refine Bd 49 57 B ?_
     refine Ak ?_
     refine Ai fun B=>?_
     refine Ah ?_
     refine Bd 57 81 B ?_
     refine Ak ?_
     refine Ai fun B=>?_
     refine As ?_
     refine Jk (fun ((x60_4,out_4):Int×List Ac)=>mk [(11,.row 0),(58,.row 1),(59,.val (.int .i64 (y_4.length:Int))),(60,vj x60_4)] [(0,.row 40 6 (Al Ac.enc out_4)),(1,.row 40 6 (Al Ac.enc y_4))] 2) D (A1 [(1,0)]) ?_
     rintro⟨x60_4,out_4⟩ m4 o4 D hn4
     replace D:Az.l4 y_4 x60_4 out_4=some o4:=D
     show Ce _ _ _ _ (mk _ _ _)
     unfold Az.l4 at D
     refine Bd 2 10 A5 ?_
     refine Ak ?_
     refine Ai fun B=>?_
     refine Ah ?_
     refine Df rfl D (fun h25 D=>?_) fun h25 D=>?_
     ·refine Ap ?_
      repeat first | refine C4 ?_ | refine C3 ?_
      refine Ah ?_
      refine As ?_
      refine Bd 10 42 B ?_
      obtain⟨e_2,he_2,D⟩:=Ad D
      refine Ak ?_
      refine Ed (rd:=[1]) rfl rfl (L0 L6 (Bx Ac.enc_len (Ao he_2) (o:=0) (m:=6) (cs:=(Ac.ec e_2)) rfl (by decide) rfl) (Ba Ac.enc_len (Ao he_2) (o:=0) (m:=6) (by decide) rfl)) rfl rfl ?_
      refine Ak ?_
      refine Ai fun B=>?_
      refine Ae (Bp _ _ []) 42 90 B rfl rfl ?_
      refine Ak ?_
      obtain⟨y_5,hy_5,D⟩:=Ad D
      refine Dm (M7 _ _ hy_5) ?_
      refine Bn rfl rfl (An Ke Wx (by decide) rfl rfl rfl rfl Ti (cs:=(Ac.ec y_5)) (.cons .str (.cons .int (.cons .int (.cons .int (.cons .bool (.cons .sl .nil)))))) rfl (l:=([y_5]:List Ac)) (f:=Ac.enc) rfl) rfl rfl ?_
      obtain⟨l_4,hl_4,D⟩:=Ad D
      refine Ed (rd:=[0,66]) rfl rfl (Cs Ke Ac.enc_len .row rfl .row rfl hl_4 rfl) rfl rfl ?_
      refine Ak ?_
      refine Ai fun B=>?_
      refine Ae (Bp _ _ []) 90 106 B rfl rfl ?_
      refine Ak ?_
      refine Ai fun B=>?_
      obtain rfl:=oi_ D
      exact⟨((W (x60_4 + 1),l_4),m4),vO _,hn4,A1 [(0,74),(1,1)]⟩
     ·refine Bv ?_
      repeat first | refine C4 ?_ | refine C3 ?_
      replace D:=C0 D hn4
      refine Bd 10 34 B ?_
      refine Ak ?_
      refine Ai fun B=>?_
      refine A4 ?_
      obtain rfl:=oi_ D
      exact A3 [] ⟨rfl,rfl⟩
theorem Ol  (r:Bool) (D:Ha=some r):Fn Tryz.prog 6 0 [] [] (fun d' b'=>d'=.val (.bool r)/\b'=[]):=by
 unfold Ha at D
 refine Fn.of Tryz.func6 rfl rfl rfl fun w0 I ρ0=>?_
 show Ce _ ⟨w0,I,ρ0,0,0,50⟩ _ _ _
 refine Bd 0 8 A5 ?_
 refine Ak ?_
 refine Ai fun B=>?_
 refine Bd 8 32 B ?_
 refine Bn rfl rfl (.build (r:=[.val (.int .i64 5),.val (.int .i64 2048)]) Ul iU rE (by kernel_rfl) rfl) rfl rfl ?_
 refine Ak ?_
 refine Ai fun B=>?_
 refine Bd 32 80 B ?_
 refine Ak ?_
 refine Bn rfl rfl (.build (r:=[.val (.string (⟨#[97]⟩:ByteArray)),.val (.int .i64 5),.val (.int .i64 2048),.val (.int .i64 0),.val (.bool false),.val (.slice none 0 0)]) Mr Z3 Wx (by kernel_rfl) rfl) rfl rfl ?_
 refine Ak ?_
 refine Bn rfl rfl (.build (r:=[.val (.string (⟨#[98]⟩:ByteArray)),.val (.int .i64 5),.val (.int .i64 2048),.val (.int .i64 1),.val (.bool false),.val (.slice none 0 0)]) Mr Z3 Wx (by kernel_rfl) rfl) rfl rfl ?_
 refine Bn rfl rfl (An Ke Wx (by decide) rfl rfl rfl rfl Ti (cs:=[.str (⟨#[97]⟩:ByteArray),.int .i64 5,.int .i64 2048,.int .i64 0,.bool false,.sl 15 (Al Ab.enc []),.str (⟨#[98]⟩:ByteArray),.int .i64 5,.int .i64 2048,.int .i64 1,.bool false,.sl 15 (Al Ab.enc [])]) (.cons .str (.cons .int (.cons .int (.cons .int (.cons .bool (.cons .nil (.cons .str (.cons .int (.cons .int (.cons .int (.cons .bool (.cons .nil .nil)))))))))))) rfl (l:=([(Ac.mk (⟨#[97]⟩:ByteArray) (Ax.mk 5 2048) 0 false ([]:(List Ab))),(Ac.mk (⟨#[98]⟩:ByteArray) (Ax.mk 5 2048) 1 false ([]:(List Ab)))]:List Ac)) (f:=Ac.enc) rfl) rfl rfl ?_
 refine Ak ?_
 refine Ai fun B=>?_
 refine Bd 80 128 B ?_
 refine Ak ?_
 refine Bn rfl rfl (.build (r:=[.val (.string (⟨#[98]⟩:ByteArray)),.val (.int .i64 5),.val (.int .i64 2048),.val (.int .i64 2),.val (.bool false),.val (.slice none 0 0)]) Mr Z3 Wx (by kernel_rfl) rfl) rfl rfl ?_
 refine Ak ?_
 refine Bn rfl rfl (.build (r:=[.val (.string (⟨#[99]⟩:ByteArray)),.val (.int .i64 5),.val (.int .i64 2048),.val (.int .i64 0),.val (.bool false),.val (.slice none 0 0)]) Mr Z3 Wx (by kernel_rfl) rfl) rfl rfl ?_
 refine Bn rfl rfl (An Ke Wx (by decide) rfl rfl rfl rfl Ti (cs:=[.str (⟨#[98]⟩:ByteArray),.int .i64 5,.int .i64 2048,.int .i64 2,.bool false,.sl 15 (Al Ab.enc []),.str (⟨#[99]⟩:ByteArray),.int .i64 5,.int .i64 2048,.int .i64 0,.bool false,.sl 15 (Al Ab.enc [])]) (.cons .str (.cons .int (.cons .int (.cons .int (.cons .bool (.cons .nil (.cons .str (.cons .int (.cons .int (.cons .int (.cons .bool (.cons .nil .nil)))))))))))) rfl (l:=([(Ac.mk (⟨#[98]⟩:ByteArray) (Ax.mk 5 2048) 2 false ([]:(List Ab))),(Ac.mk (⟨#[99]⟩:ByteArray) (Ax.mk 5 2048) 0 false ([]:(List Ab)))]:List Ac)) (f:=Ac.enc) rfl) rfl rfl ?_
 refine Ak ?_
 refine Ai fun B=>?_
 refine Ah ?_
 refine Gf (σ':=mk [(2,.sl 6 (Al Ac.enc ([(Ac.mk (⟨#[97]⟩:ByteArray) (Ax.mk 5 2048) 0 false ([]:(List Ab))),(Ac.mk (⟨#[98]⟩:ByteArray) (Ax.mk 5 2048) 1 false ([]:(List Ab)))]:List Ac))),(3,.row 0)] [(0,.row 40 6 (Al Ac.enc ([(Ac.mk (⟨#[98]⟩:ByteArray) (Ax.mk 5 2048) 2 false ([]:(List Ab))),(Ac.mk (⟨#[99]⟩:ByteArray) (Ax.mk 5 2048) 0 false ([]:(List Ab)))]:List Ac)))] 1) (A1 [(0,112)]) ?_
 refine Gf (σ':=mk [(2,.sl 6 (Al Ac.enc ([(Ac.mk (⟨#[97]⟩:ByteArray) (Ax.mk 5 2048) 0 false ([]:(List Ab))),(Ac.mk (⟨#[98]⟩:ByteArray) (Ax.mk 5 2048) 1 false ([]:(List Ab)))]:List Ac))),(3,.sl 6 (Al Ac.enc ([(Ac.mk (⟨#[98]⟩:ByteArray) (Ax.mk 5 2048) 2 false ([]:(List Ab))),(Ac.mk (⟨#[99]⟩:ByteArray) (Ax.mk 5 2048) 0 false ([]:(List Ab)))]:List Ac)))] [] 0) (A1 []) ?_
 refine Ae (Bp _ _ []) 0 64 A5 rfl rfl ?_
 refine Ak ?_
 obtain⟨y,hy,D⟩:=Ad D
 refine Dm (Le _ _ _ hy) ?_
 refine Ak ?_
 refine Ai fun B=>?_
 refine Bd 64 128 B ?_
 refine Ak ?_
 obtain⟨y_2,hy_2,D⟩:=Ad D
 refine Dm (Jl _ _ _ hy_2) ?_
 refine Ak ?_
 refine Ai fun B=>?_
 refine Bd 128 296 B ?_
 refine Ak ?_
 rcases D2 D with ⟨h7,D⟩ | ⟨h7,D⟩
 ·refine Ak ?_
  rcases D2 D with ⟨h8,D⟩ | ⟨h8,D⟩
  ·refine Ak ?_
   rcases D2 D with ⟨h9,D⟩ | ⟨h9,D⟩
   ·refine Ak ?_
    rcases D2 D with ⟨h10,D⟩ | ⟨h10,D⟩
    ·refine Ak ?_
     obtain⟨y_3,hy_3,D⟩:=Ad D
     refine Dm (Gp _ _ hy_3) ?_
     refine Ak ?_
     refine Ai fun B=>?_
     refine A4 ?_
     obtain rfl:=oi_ D
     exact A3 [] ⟨rfl,rfl⟩
    ·refine Ak ?_
     refine Ai fun B=>?_
     refine A4 ?_
     obtain rfl:=oi_ D
     exact A3 [] ⟨rfl,rfl⟩
   ·refine Ak ?_
    refine Ai fun B=>?_
    refine A4 ?_
    obtain rfl:=oi_ D
    exact A3 [] ⟨rfl,rfl⟩
  ·refine Ak ?_
   refine Ai fun B=>?_
   refine A4 ?_
   obtain rfl:=oi_ D
   exact A3 [] ⟨rfl,rfl⟩
 ·refine Ak ?_
  refine Ai fun B=>?_
  refine A4 ?_
  obtain rfl:=oi_ D
  exact A3 [] ⟨rfl,rfl⟩
theorem Xx (l:(List Int)) (r:Af) (D:K1 l=some r):Fn Tryz.prog 7 0 [.sl 1 (Al eI l)] [] (fun d' b'=>d'=.ptr 0 0/\b'=[.box [.sl 1 (Al eI r.L),vj r.At] 59]):=by
 unfold K1 at D
 refine Fn.of Tryz.func7 rfl rfl rfl fun w0 I ρ0=>?_
 show Ce _ ⟨w0,I,ρ0,0,0,6⟩ _ _ _
 refine Bd 0 8 A5 ?_
 refine Ak ?_
 refine Ai fun B=>?_
 refine Bd 8 40 B ?_
 refine Ak ?_
 refine Bn rfl rfl (.build (r:=[.sl 1 (Al eI l),.val (.int .i64 0)]) gB uD uZ (by kernel_rfl) rfl) rfl rfl ?_
 refine Ak ?_
 refine Ai fun B=>?_
 refine A4 ?_
 obtain rfl:=oi_ D
 exact A3 [(0,24)] ⟨rfl,rfl⟩
theorem Z0 (n:Int) (k:Int) (r:Int) (D:Kt n k=some r):Fn Tryz.prog 21 0 [vj n,vj k] [] (fun d' b'=>d'=vj r/\b'=[]):=by
 unfold Kt at D
 refine Fn.of Tryz.func21 rfl rfl rfl fun w0 I ρ0=>?_
 show Ce _ ⟨w0,I,ρ0,0,0,14⟩ _ _ _
 refine Bd 0 8 A5 ?_
 refine Ak ?_
 refine Ai fun B=>?_
 refine Ah ?_
 refine Bd 8 24 B ?_
 refine Ak ?_
 refine Ai fun B=>?_
 refine Df rfl D (fun h3 D=>?_) fun h3 D=>?_
 ·refine Ah ?_
  refine Ae (Bp _ _ []) 24 32 B rfl rfl ?_
  refine Ak ?_
  refine Ai fun B=>?_
  refine A4 ?_
  obtain rfl:=oi_ D
  exact A3 [] ⟨rfl,rfl⟩
 ·refine Ap ?_
  repeat first | refine C4 ?_ | refine C3 ?_
  refine Bd 24 88 B ?_
  refine Ak ?_
  obtain⟨q,hq,D⟩:=Ad D
  refine Bn rfl rfl (Xr hq) rfl rfl ?_
  refine Ak ?_
  obtain⟨q_2,hq_2,D⟩:=Ad D
  refine Bn rfl rfl (Xr hq_2) rfl rfl ?_
  refine Ak ?_
  refine Ai fun B=>?_
  refine A4 ?_
  obtain rfl:=oi_ D
  exact A3 [] ⟨rfl,rfl⟩
theorem D9 (d:Af) (n:Int) (r:Int×Af) (D:C9 d n=some r):Fn Tryz.prog 27 1 [.ptr 0 0,vj n] [.box [.sl 1 (Al eI d.L),vj d.At] 59] (fun d' b'=>d'=vj r.1/\b'=[.box [.sl 1 (Al eI r.2.L),vj r.2.At] 59]):=by
 unfold C9 at D
 refine Fn.of Tryz.func27 rfl rfl rfl fun w0 I ρ0=>?_
 show Ce _ ⟨w0,I,ρ0,1,1,35⟩ _ _ _
 refine Bd 1 9 A5 ?_
 refine Ak ?_
 refine Ai fun B=>?_
 refine Ah ?_
 refine Ah ?_
 refine Dh (Bp _ _ []) (by kernel_rfl) [0,1,3,7,0,16,48,112,240,511] 9 89 B rfl rfl (by kernel_rfl) ?_
 refine Ak ?_
 refine Ai fun B=>?_
 refine Df rfl D (fun h3 D=>?_) fun h3 D=>?_
 ·refine Ah ?_
  refine Ae (Bp _ _ []) 89 97 B rfl rfl ?_
  refine Ak ?_
  refine Ai fun B=>?_
  refine A4 ?_
  obtain rfl:=oi_ D
  exact A3 [(0,0)] ⟨rfl,rfl⟩
 ·refine Ap ?_
  repeat first | refine C4 ?_ | refine C3 ?_
  refine Bd 89 153 B ?_
  refine Ak ?_
  refine Ai fun B=>?_
  refine Ah ?_
  refine Dh (Bp _ _ []) (by kernel_rfl) [0,1,3,7,0,16,48,112,240,511,1023,0,4095,8191] 153 265 B rfl rfl (by kernel_rfl) ?_
  refine Ak ?_
  obtain⟨e,he,D⟩:=Ad D
  refine Ak ?_
  refine Bn rfl rfl (Bt Qn (Bh La (Ao he) (o:=0) (c:=.int .i64 e) rfl rfl)) rfl rfl ?_
  refine Ak ?_
  obtain⟨y,hy,D⟩:=Ad D
  refine Dm (Z0 _ _ _ hy) ?_
  refine Ak ?_
  refine Ai fun B=>?_
  refine A4 ?_
  obtain rfl:=oi_ D
  exact A3 [(0,0)] ⟨rfl,rfl⟩
theorem Dc (d:Af) (l:(List Int)) (r:Int×Af) (D:Cb d l=some r):Fn Tryz.prog 28 1 [.ptr 0 0,.sl 1 (Al eI l)] [.box [.sl 1 (Al eI d.L),vj d.At] 59] (fun d' b'=>d'=vj r.1/\b'=[.box [.sl 1 (Al eI r.2.L),vj r.2.At] 59]):=by
 unfold Cb at D
 refine Fn.of Tryz.func28 rfl rfl rfl fun w0 I ρ0=>?_
 show Ce _ ⟨w0,I,ρ0,1,1,12⟩ _ _ _
 refine Bd 1 9 A5 ?_
 refine Ak ?_
 refine Ai fun B=>?_
 refine Bd 9 73 B ?_
 refine Ak ?_
 obtain⟨y,hy,D⟩:=Ad D
 refine Kn [0] [0] [] false (D9 _ _ _ hy) ?_
 obtain⟨e,he,D⟩:=Ad D
 refine Ak ?_
 refine Bn rfl rfl (Bt Qn (Bh La (Ao he) (o:=0) (c:=.int .i64 e) rfl rfl)) rfl rfl ?_
 refine Ak ?_
 refine Ai fun B=>?_
 refine A4 ?_
 obtain rfl:=oi_ D
 exact A3 [(0,0)] ⟨rfl,rfl⟩
theorem Y3 (d:Af) (a:Int) (r:Int×Af) (D:B0 d a=some r):Fn Tryz.prog 139 1 [.ptr 0 0,vj a] [.box [.sl 1 (Al eI d.L),vj d.At] 59] (fun d' b'=>d'=vj r.1/\b'=[.box [.sl 1 (Al eI r.2.L),vj r.2.At] 59]):=by
 unfold B0 at D
 refine Fn.of Tryz.func139 rfl rfl rfl fun w0 I ρ0=>?_
 show Ce _ ⟨w0,I,ρ0,1,1,46⟩ _ _ _
 refine Bd 1 9 A5 ?_
 refine Ak ?_
 refine Ai fun B=>?_
 refine Ah ?_
 refine Bd 9 17 B ?_
 refine Ak ?_
 refine Ai fun B=>?_
 refine As ?_
 refine B9 (ι:=Bool) (fun (x6_1:Bool)=>mk [(0,.ptr 0 0),(5,vj a),(6,.val (.bool x6_1))] [(0,.box [.sl 1 (Al eI d.L),vj d.At] 59)] 1) (fun (x6_1:Bool)=>B0.j1 d a x6_1=some r) ?_ ?_
 ·refine Ah ?_
  refine Ae (Bp _ _ []) 17 33 B rfl rfl ?_
  refine Ak ?_
  refine Ai fun B=>?_
  refine Df rfl D (fun h4 D=>?_) fun h4 D=>?_
  ·refine Ap ?_
   repeat first | refine C4 ?_ | refine C3 ?_
   exact⟨decide (a=5),D,A1 [(0,0)]⟩
  ·refine Ah ?_
   refine Ae (Bp _ _ []) 33 49 B rfl rfl ?_
   refine Ak ?_
   refine Ai fun B=>?_
   refine Df rfl D (fun h6 D=>?_) fun h6 D=>?_
   ·refine Ap ?_
    repeat first | refine C4 ?_ | refine C3 ?_
    exact⟨decide (a=6),D,A1 [(0,0)]⟩
   ·refine Ah ?_
    refine Ae (Bp _ _ []) 49 65 B rfl rfl ?_
    refine Ak ?_
    refine Ai fun B=>?_
    refine Df rfl D (fun h8 D=>?_) fun h8 D=>?_
    ·refine Ap ?_
     repeat first | refine C4 ?_ | refine C3 ?_
     exact⟨decide (a=10),D,A1 [(0,0)]⟩
    ·refine Ae (Bp _ _ []) 65 81 B rfl rfl ?_
     refine Ak ?_
     refine Ai fun B=>?_
     exact⟨decide (a=11),D,A1 [(0,0)]⟩
 ·rintro x6_1 D
  replace D:B0.j1 d a x6_1=some r:=D
  show Ce _ _ _ _ (mk _ _ _)
  unfold B0.j1 at D
  refine Df rfl D (fun h10 D=>?_) fun h10 D=>?_
  ·refine Ah ?_
   refine Ae (Bp _ _ [9]) 1 33 A5 rfl rfl ?_
   refine Ak ?_
   refine Ix (rd:=[]) rfl rfl (An Fj z3 (by decide) rfl rfl rfl rfl Jq (cs:=[.int .i64 2048,.int .i64 1024,.int .i64 512,.int .i64 3072,.int .i64 1023,.int .i64 4096,.int .i64 16384]) (.cons .int (.cons .int (.cons .int (.cons .int (.cons .int (.cons .int (.cons .int .nil))))))) rfl (l:=([2048,1024,512,3072,1023,4096,16384]:List Int)) (f:=eI) rfl) rfl rfl rfl ?_
   obtain⟨y,hy,D⟩:=Ad D
   refine Kn [0] [0] [] false (Dc _ _ _ hy) ?_
   refine Ak ?_
   refine Ai fun B=>?_
   refine A4 ?_
   obtain rfl:=oi_ D
   exact A3 [(0,0)] ⟨rfl,rfl⟩
  ·refine B9 (ι:=Bool) (fun (x14_2:Bool)=>mk [(0,.ptr 0 0),(5,vj a),(14,.val (.bool x14_2))] [(0,.box [.sl 1 (Al eI d.L),vj d.At] 59)] 1) (fun (x14_2:Bool)=>B0.j2 d a x14_2=some r) ?_ ?_
   ·refine Ah ?_
    refine Ae (Bp _ _ []) 1 17 A5 rfl rfl ?_
    refine Ak ?_
    refine Ai fun B=>?_
    refine Df rfl D (fun h13 D=>?_) fun h13 D=>?_
    ·refine Ap ?_
     repeat first | refine C4 ?_ | refine C3 ?_
     exact⟨decide (a=7),D,A1 [(0,0)]⟩
    ·refine Ae (Bp _ _ []) 17 33 B rfl rfl ?_
     refine Ak ?_
     refine Ai fun B=>?_
     exact⟨decide (a=12),D,A1 [(0,0)]⟩
   ·rintro x14_2 D
    replace D:B0.j2 d a x14_2=some r:=D
    show Ce _ _ _ _ (mk _ _ _)
    unfold B0.j2 at D
    refine Df rfl D (fun h15 D=>?_) fun h15 D=>?_
    ·refine Ah ?_
     refine Ae (Bp _ _ [9]) 1 33 A5 rfl rfl ?_
     refine Ak ?_
     refine Ix (rd:=[]) rfl rfl (An Fj z3 (by decide) rfl rfl rfl rfl Jq (cs:=[.int .i64 256,.int .i64 160,.int .i64 224,.int .i64 384,.int .i64 521]) (.cons .int (.cons .int (.cons .int (.cons .int (.cons .int .nil))))) rfl (l:=([256,160,224,384,521]:List Int)) (f:=eI) rfl) rfl rfl rfl ?_
     obtain⟨y_2,hy_2,D⟩:=Ad D
     refine Kn [0] [0] [] false (Dc _ _ _ hy_2) ?_
     refine Ak ?_
     refine Ai fun B=>?_
     refine A4 ?_
     obtain rfl:=oi_ D
     exact A3 [(0,0)] ⟨rfl,rfl⟩
    ·refine Ah ?_
     refine Ae (Bp _ _ []) 1 17 A5 rfl rfl ?_
     refine Ak ?_
     refine Ai fun B=>?_
     refine Df rfl D (fun h18 D=>?_) fun h18 D=>?_
     ·refine Ah ?_
      refine Ae (Bp _ _ [25]) 17 49 B rfl rfl ?_
      refine Ak ?_
      refine Ix (rd:=[]) rfl rfl (An Fj z3 (by decide) rfl rfl rfl rfl Jq (cs:=[.int .i64 65,.int .i64 44,.int .i64 87]) (.cons .int (.cons .int (.cons .int .nil))) rfl (l:=([65,44,87]:List Int)) (f:=eI) rfl) rfl rfl rfl ?_
      obtain⟨y_3,hy_3,D⟩:=Ad D
      refine Kn [0] [0] [] false (Dc _ _ _ hy_3) ?_
      refine Ak ?_
      refine Ai fun B=>?_
      refine A4 ?_
      obtain rfl:=oi_ D
      exact A3 [(0,0)] ⟨rfl,rfl⟩
     ·refine Ah ?_
      refine Ae (Bp _ _ []) 17 33 B rfl rfl ?_
      refine Ak ?_
      refine Ai fun B=>?_
      refine Df rfl D (fun h21 D=>?_) fun h21 D=>?_
      ·refine Ah ?_
       refine Ae (Bp _ _ [41]) 33 65 B rfl rfl ?_
       refine Ak ?_
       refine Ix (rd:=[]) rfl rfl (An Fj z3 (by decide) rfl rfl rfl rfl Jq (cs:=[.int .i64 768,.int .i64 512,.int .i64 1024]) (.cons .int (.cons .int (.cons .int .nil))) rfl (l:=([768,512,1024]:List Int)) (f:=eI) rfl) rfl rfl rfl ?_
       obtain⟨y_4,hy_4,D⟩:=Ad D
       refine Kn [0] [0] [] false (Dc _ _ _ hy_4) ?_
       refine Ak ?_
       refine Ai fun B=>?_
       refine A4 ?_
       obtain rfl:=oi_ D
       exact A3 [(0,0)] ⟨rfl,rfl⟩
      ·refine Ah ?_
       refine Ae (Bp _ _ []) 33 49 B rfl rfl ?_
       refine Ak ?_
       refine Ai fun B=>?_
       refine Df rfl D (fun h24 D=>?_) fun h24 D=>?_
       ·refine Ah ?_
        refine Ae (Bp _ _ [57]) 49 81 B rfl rfl ?_
        refine Ak ?_
        refine Ix (rd:=[]) rfl rfl (An Fj z3 (by decide) rfl rfl rfl rfl Jq (cs:=[.int .i64 128,.int .i64 40]) (.cons .int (.cons .int .nil)) rfl (l:=([128,40]:List Int)) (f:=eI) rfl) rfl rfl rfl ?_
        obtain⟨y_5,hy_5,D⟩:=Ad D
        refine Kn [0] [0] [] false (Dc _ _ _ hy_5) ?_
        refine Ak ?_
        refine Ai fun B=>?_
        refine A4 ?_
        obtain rfl:=oi_ D
        exact A3 [(0,0)] ⟨rfl,rfl⟩
       ·refine Ah ?_
        refine Ae (Bp _ _ []) 49 65 B rfl rfl ?_
        refine Ak ?_
        refine Ai fun B=>?_
        refine Df rfl D (fun h27 D=>?_) fun h27 D=>?_
        ·refine Ah ?_
         refine Ae (Bp _ _ [73]) 65 97 B rfl rfl ?_
         refine Ak ?_
         refine Ix (rd:=[]) rfl rfl (An Fj z3 (by decide) rfl rfl rfl rfl Jq (cs:=[.int .i64 168,.int .i64 112]) (.cons .int (.cons .int .nil)) rfl (l:=([168,112]:List Int)) (f:=eI) rfl) rfl rfl rfl ?_
         obtain⟨y_6,hy_6,D⟩:=Ad D
         refine Kn [0] [0] [] false (Dc _ _ _ hy_6) ?_
         refine Ak ?_
         refine Ai fun B=>?_
         refine A4 ?_
         obtain rfl:=oi_ D
         exact A3 [(0,0)] ⟨rfl,rfl⟩
        ·refine B9 (ι:=Bool) (fun (x40_3:Bool)=>mk [(0,.ptr 0 0),(40,.val (.bool x40_3))] [(0,.box [.sl 1 (Al eI d.L),vj d.At] 59)] 1) (fun (x40_3:Bool)=>B0.j3 d x40_3=some r) ?_ ?_
         ·refine Ah ?_
          refine Ae (Bp _ _ []) 65 81 B rfl rfl ?_
          refine Ak ?_
          refine Ai fun B=>?_
          refine Df rfl D (fun h30 D=>?_) fun h30 D=>?_
          ·refine Ap ?_
           repeat first | refine C4 ?_ | refine C3 ?_
           exact⟨decide (a=16),D,A1 [(0,0)]⟩
          ·refine Ae (Bp _ _ []) 81 97 B rfl rfl ?_
           refine Ak ?_
           refine Ai fun B=>?_
           exact⟨decide (a=17),D,A1 [(0,0)]⟩
         ·rintro x40_3 D
          replace D:B0.j3 d x40_3=some r:=D
          show Ce _ _ _ _ (mk _ _ _)
          unfold B0.j3 at D
          refine Df rfl D (fun h32 D=>?_) fun h32 D=>?_
          ·refine Ah ?_
           refine Ae (Bp _ _ [9]) 1 33 A5 rfl rfl ?_
           refine Ak ?_
           refine Ix (rd:=[]) rfl rfl (An Fj z3 (by decide) rfl rfl rfl rfl Jq (cs:=[.int .i64 128,.int .i64 256]) (.cons .int (.cons .int .nil)) rfl (l:=([128,256]:List Int)) (f:=eI) rfl) rfl rfl rfl ?_
           obtain⟨y_7,hy_7,D⟩:=Ad D
           refine Kn [0] [0] [] false (Dc _ _ _ hy_7) ?_
           refine Ak ?_
           refine Ai fun B=>?_
           refine A4 ?_
           obtain rfl:=oi_ D
           exact A3 [(0,0)] ⟨rfl,rfl⟩
          ·refine Ap ?_
           repeat first | refine C4 ?_ | refine C3 ?_
           refine Bd 1 9 A5 ?_
           refine Ak ?_
           refine Ai fun B=>?_
           refine A4 ?_
           obtain rfl:=oi_ D
           exact A3 [(0,0)] ⟨rfl,rfl⟩
end Go.Proofs.YtfanepojdefdpaaGreat
