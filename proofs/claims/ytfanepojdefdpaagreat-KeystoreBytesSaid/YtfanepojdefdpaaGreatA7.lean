import Derived.Test.YtfanepojdefdpaaGreatT1
import Derived.Test.YtfanepojdefdpaaGreatA6
set_option linter.unusedVariables false
set_option linter.unusedSimpArgs false
set_option maxRecDepth 100000
set_option maxHeartbeats 1600000
namespace Go.Proofs.YtfanepojdefdpaaGreat
open Go.RowKit
theorem Kh (s:(List UInt8)) (f:UInt8->Option (Bool)) (hf_f:∀ (x0:UInt8) (y:Bool),f x0=some y->Fn Tryz.prog 174 0 [.val (.int .u8 (x0.toNat:Int))] [] (fun d' b'=>d'=.val (.bool y)/\b'=[])) (r:Int) (D:Bu s f=some r):Fn Tryz.prog 180 0 [.sl 1 (An e8 s),.clo 174 0 []] [] (fun d' b'=>d'=vj r/\b'=[]):=by
 unfold Bu at D
 refine Fn.of Tryz.func180 rfl rfl rfl fun w0 I ρ0=>?_
 show Ca _ ⟨w0,I,ρ0,0,0,19⟩ _ _ _
 refine A6 0 8 Az ?_
 refine Ak ?_
 refine Ai fun B=>?_
 refine Ah ?_
 refine A6 8 32 B ?_
 refine Ak ?_
 refine Ai fun B=>?_
 refine Au ?_
 refine Lu (fun (x8_1:Int)=>mk [(0,.sl 1 (An e8 s)),(1,.clo 174 0 []),(7,.val (.int .i64 (s.length:Int))),(8,vj x8_1)] [] 0) D (Ay []) ?_
 rintro x8_1 m1 o1 D hn1
 replace D:Bu.l1 s f x8_1=some o1:=D
 show Ca _ _ _ _ (mk _ _ _)
 unfold Bu.l1 at D
 refine A6 0 8 Az ?_
 refine Ak ?_
 refine Ai fun B=>?_
 refine Ah ?_
 refine Dh rfl D (fun h4 D=>?_) fun h4 D=>?_
 ·refine Ao ?_
  repeat first | refine Cw ?_ | refine Cy ?_
  refine Ah ?_
  refine Au ?_
  refine A6 8 24 B ?_
  refine Ak ?_
  refine Ai fun B=>?_
  refine A6 24 72 B ?_
  refine Ak ?_
  obtain⟨e,he,D⟩:=Ae D
  refine Ak ?_
  refine Bj rfl rfl (Bl N8 (Bf B5 (Aq he) (o:=0) (c:=.int .u8 (e.toNat:Int)) rfl rfl)) rfl rfl ?_
  obtain⟨y,hy,D⟩:=Ae D
  refine Qz (rd:=[]) (ps:=[]) (gs:=[]) false rfl rfl (hf_f e _ hy) rfl rfl (.cons .val .nil) rfl rfl (by intro h; cases h) rfl rfl rfl rfl ?_
  refine Ai fun B=>?_
  refine Dh rfl D (fun h7 D=>?_) fun h7 D=>?_
  ·refine Ah ?_
   refine Af (Bi _ _ []) 72 88 B rfl rfl ?_
   refine Ak ?_
   refine Ai fun B=>?_
   refine A4 ?_
   replace D:=C5 D hn1
   obtain rfl:=oi_ D
   exact A3 [] ⟨rfl,rfl⟩
  ·refine Ao ?_
   repeat first | refine Cw ?_ | refine Cy ?_
   refine Af (Bi _ _ []) 72 88 B rfl rfl ?_
   refine Ak ?_
   refine Ai fun B=>?_
   obtain rfl:=oi_ D
   exact⟨(W (x8_1 + 1),m1),aDn _,hn1,Ay []⟩
 ·refine B8 ?_
  repeat first | refine Cw ?_ | refine Cy ?_
  replace D:=C5 D hn1
  refine A6 8 16 B ?_
  refine Ak ?_
  refine Ai fun B=>?_
  refine A4 ?_
  obtain rfl:=oi_ D
  exact A3 [] ⟨rfl,rfl⟩
theorem J0 (s:(List UInt8)) (f:UInt8->Option (Bool)) (hf_f:∀ (x0:UInt8) (y:Bool),f x0=some y->Fn Tryz.prog 174 0 [.val (.int .u8 (x0.toNat:Int))] [] (fun d' b'=>d'=.val (.bool y)/\b'=[])) (r:Bool) (D:Fe s f=some r):Fn Tryz.prog 173 0 [.sl 1 (An e8 s),.clo 174 0 []] [] (fun d' b'=>d'=.val (.bool r)/\b'=[]):=by
 unfold Fe at D
 refine Fn.of Tryz.func173 rfl rfl rfl fun w0 I ρ0=>?_
 show Ca _ ⟨w0,I,ρ0,0,0,9⟩ _ _ _
 refine A6 0 8 Az ?_
 refine Ak ?_
 refine Ai fun B=>?_
 refine A6 8 48 B ?_
 refine Ak ?_
 obtain⟨y,hy,D⟩:=Ae D
 refine Ek (Kh s f hf_f _ hy) ?_
 refine Ak ?_
 refine Ai fun B=>?_
 refine A4 ?_
 obtain rfl:=oi_ D
 exact A3 [] ⟨rfl,rfl⟩
theorem T5 (v:Aa) (r:ByteArray×Int) (D:Fi v=some r):Fn Tryz.prog 143 0 [.agg (Aa.dv v)] [] (fun d' b'=>d'=.tup [vk r.1,vj r.2]/\b'=[]):=by
 unfold Fi at D
 refine Fn.of Tryz.func143 rfl rfl rfl fun w0 I ρ0=>?_
 show Ca _ ⟨w0,I,ρ0,0,0,15⟩ _ _ _
 refine A6 0 24 Az ?_
 refine Ak ?_
 refine Ai fun B=>?_
 refine Ah ?_
 refine Bm (ι:=Bool) (fun (x11_1:Bool)=>mk [(1,.ptr 0 0),(11,.val (.bool x11_1))] [(0,.box (Aa.dv v) 50)] 1) (fun (x11_1:Bool)=>Fi.j1 v x11_1=some r) ?_ ?_
 ·refine Af (Bi _ _ []) 24 88 B rfl rfl ?_
  refine Ak ?_
  obtain⟨y,hy,D⟩:=Ae D
  refine Ek (Qn _ _ _ hy) ?_
  refine Ak ?_
  rcases Eb D with ⟨h2,D⟩ | ⟨h2,D⟩
  ·refine Ak ?_
   refine Ai fun B=>?_
   exact⟨true,D,Ay [(0,0)]⟩
  ·refine Ak ?_
   obtain⟨y_2,hy_2,D⟩:=Ae D
   refine Ek (J0 v.Bytes (fun x0=>Gw x0) (fun x0 yy hh=>V7 x0 yy hh) _ hy_2) ?_
   refine Ak ?_
   refine Ai fun B=>?_
   exact⟨y_2,D,Ay [(0,0)]⟩
 ·rintro x11_1 D
  replace D:Fi.j1 v x11_1=some r:=D
  show Ca _ _ _ _ (mk _ _ _)
  unfold Fi.j1 at D
  refine Dh rfl D (fun h5 D=>?_) fun h5 D=>?_
  ·refine Ah ?_
   refine Af (Bi _ _ []) 1 17 Az rfl rfl ?_
   refine Ak ?_
   refine Ai fun B=>?_
   refine A4 ?_
   obtain rfl:=oi_ D
   exact A3 [] ⟨rfl,rfl⟩
  ·refine Ao ?_
   repeat first | refine Cw ?_ | refine Cy ?_
   refine A6 1 41 Az ?_
   refine Ak ?_
   refine Bj rfl rfl (Qq Tl Ku Rc .sl rfl) rfl rfl ?_
   refine Ak ?_
   refine Ai fun B=>?_
   refine A4 ?_
   obtain rfl:=oi_ D
   exact A3 [] ⟨rfl,rfl⟩
theorem Hu (r':Aj) (r:ByteArray×Aj) (D:El r'=some r):Fn Tryz.prog 102 1 [.ptr 0 0] [.box [.sl 4 (An Aa.enc r'.l),.val (.bool r'.Failed)] 131] (fun d' b'=>d'=vk r.1/\b'=[.box [.sl 4 (An Aa.enc r.2.l),.val (.bool r.2.Failed)] 131]):=by
 unfold El at D
 refine Fn.of Tryz.func102 rfl rfl rfl fun w0 I ρ0=>?_
 show Ca _ ⟨w0,I,ρ0,1,1,23⟩ _ _ _
 refine A6 1 9 Az ?_
 refine Ak ?_
 refine Ai fun B=>?_
 refine A6 9 73 B ?_
 refine Ak ?_
 obtain⟨y,hy,D⟩:=Ae D
 refine Hc [0] [0] [] false (D2 _ _ hy) ?_
 obtain⟨y_2,hy_2,D⟩:=Ae D
 refine Ek (T5 _ _ hy_2) ?_
 refine Ak ?_
 refine Ai fun B=>?_
 refine A6 73 169 B ?_
 refine Ak ?_
 rcases Eb D with ⟨h3,D⟩ | ⟨h3,D⟩
 ·refine Ak ?_
  refine Ai fun B=>?_
  refine A6 169 185 B ?_
  refine Ak ?_
  refine Ai fun B=>?_
  refine A4 ?_
  obtain rfl:=oi_ D
  exact A3 [(0,0)] ⟨rfl,rfl⟩
 ·refine Ak ?_
  refine Ai fun B=>?_
  refine A6 169 185 B ?_
  refine Ak ?_
  refine Ai fun B=>?_
  refine A4 ?_
  obtain rfl:=oi_ D
  exact A3 [(0,0)] ⟨rfl,rfl⟩
theorem mE (n:Int) (r:Aa) (D:C2 n=some r):Fn Tryz.prog 73 0 [vj n] [] (fun d' b'=>d'=.agg (Aa.dv r)/\b'=[]):=by
 unfold C2 at D
 refine Fn.of Tryz.func73 rfl rfl rfl fun w0 I ρ0=>?_
 show Ca _ ⟨w0,I,ρ0,0,0,48⟩ _ _ _
 refine A6 0 8 Az ?_
 refine Ak ?_
 refine Ai fun B=>?_
 refine A6 8 16 B ?_
 refine Ak ?_
 refine Ai fun B=>?_
 refine Ah ?_
 refine A6 16 24 B ?_
 refine Ak ?_
 refine Ai fun B=>?_
 refine Au ?_
 refine Lu (fun ((i_1,b_1):Int×List UInt8)=>mk [(0,vj n),(2,.ptr 0 0),(3,.row 1),(4,vj i_1)] [(0,.box [.val (.int .i64 0),.val (.slice none 0 0),.val (.bool false),.val (.slice none 0 0)] 50),(1,.row 5 1 (An e8 b_1))] 2) D (Ay [(0,0)]) ?_
 rintro⟨i_1,b_1⟩ m1 o1 D hn1
 replace D:C2.l1 n i_1 b_1=some o1:=D
 show Ca _ _ _ _ (mk _ _ _)
 unfold C2.l1 at D
 refine Ah ?_
 refine A6 2 18 Az ?_
 refine Ak ?_
 refine Ai fun B=>?_
 refine Dh rfl D (fun h5 D=>?_) fun h5 D=>?_
 ·refine Ao ?_
  repeat first | refine Cw ?_ | refine Cy ?_
  refine Ah ?_
  refine Au ?_
  refine Af (Bi _ _ []) 18 90 B rfl rfl ?_
  refine Ak ?_
  refine Bj rfl rfl (Wq M9 Ut) rfl rfl ?_
  refine Ak ?_
  obtain⟨q,hq,D⟩:=Ae D
  refine Bj rfl rfl (Uo hq) rfl rfl ?_
  refine Bj rfl rfl (Kq Ut Ku) rfl rfl ?_
  refine Bj rfl rfl (As Hp z5 (by decide) rfl rfl rfl rfl fR (cs:=[.int .u8 ((u8 q).toNat:Int)]) (.cons .int .nil) rfl (l:=([(u8 q)]:List UInt8)) (f:=e8) rfl) rfl rfl ?_
  obtain⟨l,hl,D⟩:=Ae D
  refine Ff (rd:=[1,66]) rfl rfl (Dg Hp B5 .row rfl .row rfl hl rfl) rfl rfl ?_
  refine Ak ?_
  refine Ai fun B=>?_
  refine Af (Bi _ _ []) 90 114 B rfl rfl ?_
  refine Ak ?_
  refine Ai fun B=>?_
  obtain rfl:=oi_ D
  exact⟨((W (i_1 - 8),l),m1),aDn _,hn1,Ay [(0,0),(1,74)]⟩
 ·refine B8 ?_
  repeat first | refine Cw ?_ | refine Cy ?_
  replace D:=C5 D hn1
  refine Ah ?_
  refine Au ?_
  refine Lu (fun (b_2:List UInt8)=>mk [(2,.ptr 0 0),(3,.sl 1 (An e8 b_2))] [(0,.box [.val (.int .i64 0),.val (.slice none 0 0),.val (.bool false),.val (.slice none 0 0)] 50)] 1) D (Ay [(0,0)]) ?_
  rintro b_2 m2 o2 D hn2
  replace D:C2.l2 b_2=some o2:=D
  show Ca _ _ _ _ (mk _ _ _)
  unfold C2.l2 at D
  refine Ah ?_
  refine Bm (ι:=Bool) (fun (x43_3:Bool)=>mk [(2,.ptr 0 0),(3,.sl 1 (An e8 b_2)),(43,.val (.bool x43_3))] [(0,.box [.val (.int .i64 0),.val (.slice none 0 0),.val (.bool false),.val (.slice none 0 0)] 50)] 1) (fun (x43_3:Bool)=>C2.j3 b_2 x43_3=some o2) ?_ ?_
  ·refine Af (Bi _ _ []) 1 217 Az rfl rfl ?_
   refine Ak ?_
   rcases Eb D with ⟨h8,D⟩ | ⟨h8,D⟩
   ·refine Ak ?_
    obtain⟨e,he,D⟩:=Ae D
    refine Ak ?_
    refine Bj (Cj rfl rfl h8) rfl (Bl N8 (Bf B5 (Aq he) (o:=0) (c:=.int .u8 (e.toNat:Int)) rfl rfl)) rfl rfl ?_
    refine Ak ?_
    rcases Eb D with ⟨h9,D⟩ | ⟨h9,D⟩
    ·refine Ak ?_
     obtain⟨e_2,he_2,D⟩:=Ae D
     refine Ak ?_
     refine Bj (Cj rfl rfl h9) rfl (Bl N8 (Bf B5 (Aq he_2) (o:=0) (c:=.int .u8 (e_2.toNat:Int)) rfl rfl)) rfl rfl ?_
     refine Ak ?_
     rcases Eb D with ⟨h10,D⟩ | ⟨h10,D⟩
     ·refine Ak ?_
      refine Ai fun B=>?_
      exact⟨true,D,Ay [(0,0)]⟩
     ·refine Ak ?_
      refine Bj (Cj rfl rfl h10) rfl (Bl N8 (Bf B5 (Aq he) (o:=0) (c:=.int .u8 (e.toNat:Int)) rfl rfl)) rfl rfl ?_
      refine Ak ?_
      rcases Eb D with ⟨h12,D⟩ | ⟨h12,D⟩
      ·refine Ak ?_
       refine Bj (Cj rfl rfl h12) rfl (Bl N8 (Bf B5 (Aq he_2) (o:=0) (c:=.int .u8 (e_2.toNat:Int)) rfl rfl)) rfl rfl ?_
       refine Ak ?_
       refine Ai fun B=>?_
       exact⟨decide (128<=(e_2.toNat:Int)),D,Ay [(0,0)]⟩
      ·refine Ak ?_
       refine Ai fun B=>?_
       exact⟨false,D,Ay [(0,0)]⟩
    ·refine Ak ?_
     refine Bj (Cj rfl rfl rfl) rfl (Bl N8 (Bf B5 (Aq he) (o:=0) (c:=.int .u8 (e.toNat:Int)) rfl rfl)) rfl rfl ?_
     refine Ak ?_
     rcases Eb D with ⟨h15,D⟩ | ⟨h15,D⟩
     ·refine Ak ?_
      obtain⟨e_3,he_3,D⟩:=Ae D
      refine Ak ?_
      refine Bj (Cj rfl rfl h15) rfl (Bl N8 (Bf B5 (Aq he_3) (o:=0) (c:=.int .u8 (e_3.toNat:Int)) rfl rfl)) rfl rfl ?_
      refine Ak ?_
      refine Ai fun B=>?_
      exact⟨decide (128<=(e_3.toNat:Int)),D,Ay [(0,0)]⟩
     ·refine Ak ?_
      refine Ai fun B=>?_
      exact⟨false,D,Ay [(0,0)]⟩
   ·refine Ak ?_
    refine Ai fun B=>?_
    exact⟨false,D,Ay [(0,0)]⟩
  ·rintro x43_3 D
   replace D:C2.j3 b_2 x43_3=some o2:=D
   show Ca _ _ _ _ (mk _ _ _)
   unfold C2.j3 at D
   refine Dh rfl D (fun h19 D=>?_) fun h19 D=>?_
   ·refine Ao ?_
    repeat first | refine Cw ?_ | refine Cy ?_
    refine Au ?_
    refine Af (Bi _ _ []) 1 25 Az rfl rfl ?_
    refine Ak ?_
    obtain⟨l_2,hl_2,D⟩:=Ae D
    refine Bj rfl rfl (Q5 Hp B5 hl_2) rfl rfl ?_
    refine Ak ?_
    refine Ai fun B=>?_
    obtain rfl:=oi_ D
    exact⟨(l_2,m2),aDn _,hn2,Ay [(0,0)]⟩
   ·refine B8 ?_
    repeat first | refine Cw ?_ | refine Cy ?_
    replace D:=C5 D hn2
    refine A6 1 25 Az ?_
    refine Ak ?_
    refine Bj rfl rfl (.build (r:=[.val (.int .i64 2),.sl 1 (An e8 b_2),.val (.bool false),.val (.slice none 0 0)]) Io Nc Pq (by kernel_rfl) rfl) rfl rfl ?_
    refine Ak ?_
    refine Ai fun B=>?_
    refine A4 ?_
    obtain rfl:=oi_ D
    exact A3 [] ⟨rfl,rfl⟩
theorem Zj (a:(List UInt8)) (b:(List UInt8)) (r:Bool) (D:J8 a b=some r):Fn Tryz.prog 175 0 [.sl 1 (An e8 a),.sl 1 (An e8 b)] [] (fun d' b'=>d'=.val (.bool r)/\b'=[]):=by
 unfold J8 at D
 refine Fn.of Tryz.func175 rfl rfl rfl fun w0 I ρ0=>?_
 show Ca _ ⟨w0,I,ρ0,0,0,10⟩ _ _ _
 refine A6 0 8 Az ?_
 refine Ak ?_
 refine Ai fun B=>?_
 refine A6 8 56 B ?_
 refine Ak ?_
 refine Bj rfl rfl (Qq Tl Ku Rc .sl rfl) rfl rfl ?_
 refine Ak ?_
 refine Bj rfl rfl (Qq Tl Ku Rc .sl rfl) rfl rfl ?_
 refine Ak ?_
 refine Ai fun B=>?_
 refine A4 ?_
 obtain rfl:=oi_ D
 exact A3 [] ⟨rfl,rfl⟩
theorem eW (v:Aa) (r:Int×Int) (D:Cd v=some r):Fn Tryz.prog 145 0 [.agg (Aa.dv v)] [] (fun d' b'=>d'=.tup [vj r.1,vj r.2]/\b'=[]):=by
 unfold Cd at D
 refine Fn.of Tryz.func145 rfl rfl rfl fun w0 I ρ0=>?_
 show Ca _ ⟨w0,I,ρ0,0,0,52⟩ _ _ _
 refine A6 0 24 Az ?_
 refine Ak ?_
 refine Ai fun B=>?_
 refine Ah ?_
 refine Bm (ι:=Bool) (fun (x21_1:Bool)=>mk [(1,.ptr 0 0),(21,.val (.bool x21_1))] [(0,.box (Aa.dv v) 50)] 1) (fun (x21_1:Bool)=>Cd.j1 v x21_1=some r) ?_ ?_
 ·refine Af (Bi _ _ []) 24 144 B rfl rfl ?_
  refine Ak ?_
  obtain⟨y,hy,D⟩:=Ae D
  refine Ek (Qn _ _ _ hy) ?_
  refine Ak ?_
  rcases Eb D with ⟨h2,D⟩ | ⟨h2,D⟩
  ·refine Ak ?_
   refine Ai fun B=>?_
   exact⟨true,D,Ay [(0,0)]⟩
  ·refine Ak ?_
   rcases Eb D with ⟨h4,D⟩ | ⟨h4,D⟩
   ·refine Ak ?_
    refine Ai fun B=>?_
    exact⟨true,D,Ay [(0,0)]⟩
   ·refine Ak ?_
    refine Ai fun B=>?_
    exact⟨decide (8 < (v.Bytes.length:Int)),D,Ay [(0,0)]⟩
 ·rintro x21_1 D
  replace D:Cd.j1 v x21_1=some r:=D
  show Ca _ _ _ _ (mk _ _ _)
  unfold Cd.j1 at D
  refine Dh rfl D (fun h7 D=>?_) fun h7 D=>?_
  ·refine Ah ?_
   refine Af (Bi _ _ []) 1 17 Az rfl rfl ?_
   refine Ak ?_
   refine Ai fun B=>?_
   refine A4 ?_
   obtain rfl:=oi_ D
   exact A3 [] ⟨rfl,rfl⟩
  ·refine Ao ?_
   repeat first | refine Cw ?_ | refine Cy ?_
   refine A6 1 9 Az ?_
   refine Ak ?_
   refine Ai fun B=>?_
   refine Bm (ι:=Int) (fun (n_2:Int)=>mk [(1,.ptr 0 0),(4,.val (.int .u64 n_2))] [(0,.box (Aa.dv v) 50)] 1) (fun (n_2:Int)=>Cd.j2 v n_2=some r) ?_ ?_
   ·refine Ah ?_
    refine Af (Bi _ _ []) 9 49 B rfl rfl ?_
    refine Ak ?_
    obtain⟨e,he,D⟩:=Ae D
    refine Ak ?_
    refine Bj rfl rfl (Bl N8 (Bf B5 (Aq he) (o:=0) (c:=.int .u8 (e.toNat:Int)) rfl rfl)) rfl rfl ?_
    refine Ak ?_
    refine Ai fun B=>?_
    refine Dh rfl D (fun h11 D=>?_) fun h11 D=>?_
    ·refine Af (Bi _ _ []) 49 73 B rfl rfl ?_
     refine Ak ?_
     refine Bj rfl rfl xG rfl rfl ?_
     refine Ak ?_
     refine Ai fun B=>?_
     exact⟨uD .u64 0,D,Ay [(0,0)]⟩
    ·refine Ao ?_
     repeat first | refine Cw ?_ | refine Cy ?_
     exact⟨0,D,Ay [(0,0)]⟩
   ·rintro n_2 D
    replace D:Cd.j2 v n_2=some r:=D
    show Ca _ _ _ _ (mk _ _ _)
    unfold Cd.j2 at D
    refine Ah ?_
    refine A6 1 33 Az ?_
    refine Ak ?_
    refine Ai fun B=>?_
    refine Au ?_
    refine Lu (fun ((n_3,x32_3):Int×Int)=>mk [(1,.ptr 0 0),(4,.val (.int .u64 n_3)),(30,.sl 1 (An e8 v.Bytes)),(31,.val (.int .i64 (v.Bytes.length:Int))),(32,vj x32_3)] [(0,.box (Aa.dv v) 50)] 1) D (Ay [(0,0)]) ?_
    rintro⟨n_3,x32_3⟩ m3 o3 D hn3
    replace D:Cd.l3 v n_3 x32_3=some o3:=D
    show Ca _ _ _ _ (mk _ _ _)
    unfold Cd.l3 at D
    refine A6 1 9 Az ?_
    refine Ak ?_
    refine Ai fun B=>?_
    refine Ah ?_
    refine Dh rfl D (fun h15 D=>?_) fun h15 D=>?_
    ·refine Ao ?_
     repeat first | refine Cw ?_ | refine Cy ?_
     refine Ah ?_
     refine Au ?_
     refine A6 9 33 B ?_
     obtain⟨e_2,he_2,D⟩:=Ae D
     refine Ak ?_
     refine Bj rfl rfl (Bl N8 (Bf B5 (Aq he_2) (o:=0) (c:=.int .u8 (e_2.toNat:Int)) rfl rfl)) rfl rfl ?_
     refine Ak ?_
     refine Ai fun B=>?_
     refine Af (Bi _ _ []) 33 81 B rfl rfl ?_
     refine Ak ?_
     obtain⟨q,hq,D⟩:=Ae D
     refine Bj rfl rfl (jK hq) rfl rfl ?_
     refine Ak ?_
     refine Bj rfl rfl (Wq Ku Ut) rfl rfl ?_
     refine Bj rfl rfl pS rfl rfl ?_
     refine Ak ?_
     refine Ai fun B=>?_
     refine Af (Bi _ _ []) 81 97 B rfl rfl ?_
     refine Ak ?_
     refine Ai fun B=>?_
     obtain rfl:=oi_ D
     exact⟨((Zk .u64 q (IntKind.wrap .u64 (e_2.toNat:Int)),W (x32_3 + 1)),m3),aDn _,hn3,Ay [(0,0)]⟩
    ·refine B8 ?_
     repeat first | refine Cw ?_ | refine Cy ?_
     replace D:=C5 D hn3
     refine Ah ?_
     refine Ah ?_
     refine Cs (Bi _ _ []) (by kernel_rfl) [0,1,3,7,0,16,63,127] 9 73 B rfl rfl (by kernel_rfl) ?_
     refine Ak ?_
     refine Bj rfl rfl (Sf Ut M9) rfl rfl ?_
     obtain⟨y_2,hy_2,D⟩:=Ae D
     refine Ek (mE _ _ hy_2) ?_
     refine Ak ?_
     obtain⟨y_3,hy_3,D⟩:=Ae D
     refine Ek (Zj _ _ _ hy_3) ?_
     refine Ak ?_
     refine Ai fun B=>?_
     refine Dh rfl D (fun h20 D=>?_) fun h20 D=>?_
     ·refine Ah ?_
      refine Af (Bi _ _ []) 73 89 B rfl rfl ?_
      refine Ak ?_
      refine Ai fun B=>?_
      refine A4 ?_
      obtain rfl:=oi_ D
      exact A3 [] ⟨rfl,rfl⟩
     ·refine Ao ?_
      repeat first | refine Cw ?_ | refine Cy ?_
      refine A6 73 105 B ?_
      refine Ak ?_
      refine Bj rfl rfl (Sf Ut M9) rfl rfl ?_
      refine Ak ?_
      refine Ai fun B=>?_
      refine A4 ?_
      obtain rfl:=oi_ D
      exact A3 [] ⟨rfl,rfl⟩
theorem C6 (r':Aj) (r:Int×Aj) (D:Bz r'=some r):Fn Tryz.prog 104 1 [.ptr 0 0] [.box [.sl 4 (An Aa.enc r'.l),.val (.bool r'.Failed)] 131] (fun d' b'=>d'=vj r.1/\b'=[.box [.sl 4 (An Aa.enc r.2.l),.val (.bool r.2.Failed)] 131]):=by
 unfold Bz at D
 refine Fn.of Tryz.func104 rfl rfl rfl fun w0 I ρ0=>?_
 show Ca _ ⟨w0,I,ρ0,1,1,23⟩ _ _ _
 refine A6 1 9 Az ?_
 refine Ak ?_
 refine Ai fun B=>?_
 refine A6 9 73 B ?_
 refine Ak ?_
 obtain⟨y,hy,D⟩:=Ae D
 refine Hc [0] [0] [] false (D2 _ _ hy) ?_
 obtain⟨y_2,hy_2,D⟩:=Ae D
 refine Ek (eW _ _ hy_2) ?_
 refine Ak ?_
 refine Ai fun B=>?_
 refine A6 73 169 B ?_
 refine Ak ?_
 rcases Eb D with ⟨h3,D⟩ | ⟨h3,D⟩
 ·refine Ak ?_
  refine Ai fun B=>?_
  refine A6 169 185 B ?_
  refine Ak ?_
  refine Ai fun B=>?_
  refine A4 ?_
  obtain rfl:=oi_ D
  exact A3 [(0,0)] ⟨rfl,rfl⟩
 ·refine Ak ?_
  refine Ai fun B=>?_
  refine A6 169 185 B ?_
  refine Ak ?_
  refine Ai fun B=>?_
  refine A4 ?_
  obtain rfl:=oi_ D
  exact A3 [(0,0)] ⟨rfl,rfl⟩
theorem H5 (r':Aj) (r:Aw×Aj) (D:B3 r'=some r):Fn Tryz.prog 103 1 [.ptr 0 0] [.box [.sl 4 (An Aa.enc r'.l),.val (.bool r'.Failed)] 131] (fun d' b'=>d'=.agg [vj r.1.Alg,vj r.1.Bits]/\b'=[.box [.sl 4 (An Aa.enc r.2.l),.val (.bool r.2.Failed)] 131]):=by
 unfold B3 at D
 refine Fn.of Tryz.func103 rfl rfl rfl fun w0 I ρ0=>?_
 show Ca _ ⟨w0,I,ρ0,1,1,27⟩ _ _ _
 refine A6 1 9 Az ?_
 refine Ak ?_
 refine Ai fun B=>?_
 refine A6 9 41 B ?_
 refine Ak ?_
 obtain⟨y,hy,D⟩:=Ae D
 refine Hc [0] [0] [] false (D2 _ _ hy) ?_
 obtain⟨y_2,hy_2,D⟩:=Ae D
 refine Fg (rd:=[]) (ps:=[]) (gs:=[]) false rfl (Hl _ _ _ hy_2) rfl rfl (.cons (.agg (.cons .val (.cons .sl (.cons .val (.cons .sl .nil))))) (.cons .val .nil)) rfl rfl (by intro h; cases h) rfl (by intro h; first | (cases h; done) | exact⟨_,_,⟨rfl,rfl⟩,by simp,by simp⟩) ?_
 rintro _ _ ⟨rfl,rfl⟩
 refine Ak ?_
 refine Ai fun B=>?_
 refine A6 41 97 B ?_
 refine Ak ?_
 obtain⟨y_3,hy_3,D⟩:=Ae D
 refine Hc [25] [25] [] false (C6 _ _ hy_3) ?_
 refine Ak ?_
 obtain⟨y_4,hy_4,D⟩:=Ae D
 refine Hc [25] [25] [] false (C6 _ _ hy_4) ?_
 refine Bj rfl rfl (.build (r:=[vj y_3.1,vj y_4.1]) Vs nT z37 (by kernel_rfl) rfl) rfl rfl ?_
 refine Ak ?_
 refine Ai fun B=>?_
 refine Bm (ι:=Bool) (fun (b_1:Bool)=>mk [(2,.ptr 1 0),(4,.ptr 2 0)] [(0,.box [.sl 4 (An Aa.enc y.2.l),.val (.bool b_1)] 131),(1,.box [.val (.int .i64 0),.val (.int .i64 0)] 37),(2,.box [vj y_3.1,vj y_4.1] 37)] 3) (fun (b_1:Bool)=>B3.j1 y y_3 y_4 b_1=some r) ?_ ?_
 ·refine Af (Bi _ _ []) 97 209 B rfl rfl ?_
  refine Ak ?_
  rcases Eb D with ⟨h4,D⟩ | ⟨h4,D⟩
  ·refine Ak ?_
   refine Ai fun B=>?_
   exact⟨true,D,Ay [(0,0),(1,1),(2,81)]⟩
  ·refine Ak ?_
   refine Ai fun B=>?_
   exact⟨y_4.2.Failed,D,Ay [(0,0),(1,1),(2,81)]⟩
 ·rintro b_1 D
  replace D:B3.j1 y y_3 y_4 b_1=some r:=D
  show Ca _ _ _ _ (mk _ _ _)
  unfold B3.j1 at D
  refine A6 3 19 Az ?_
  refine Ak ?_
  refine Ai fun B=>?_
  refine A4 ?_
  obtain rfl:=oi_ D
  exact A3 [(0,0)] ⟨rfl,rfl⟩
theorem cM (v:Aa) (r:Bool×Int) (D:Ee v=some r):Fn Tryz.prog 146 0 [.agg (Aa.dv v)] [] (fun d' b'=>d'=.tup [.val (.bool r.1),vj r.2]/\b'=[]):=by
 unfold Ee at D
 refine Fn.of Tryz.func146 rfl rfl rfl fun w0 I ρ0=>?_
 show Ca _ ⟨w0,I,ρ0,0,0,32⟩ _ _ _
 refine A6 0 24 Az ?_
 refine Ak ?_
 refine Ai fun B=>?_
 refine Ah ?_
 refine Bm (ι:=Bool) (fun (x26_1:Bool)=>mk [(1,.ptr 0 0),(26,.val (.bool x26_1))] [(0,.box (Aa.dv v) 50)] 1) (fun (x26_1:Bool)=>Ee.j1 v x26_1=some r) ?_ ?_
 ·refine Af (Bi _ _ []) 24 208 B rfl rfl ?_
  refine Ak ?_
  obtain⟨y,hy,D⟩:=Ae D
  refine Ek (Qn _ _ _ hy) ?_
  refine Ak ?_
  rcases Eb D with ⟨h2,D⟩ | ⟨h2,D⟩
  ·refine Ak ?_
   refine Ai fun B=>?_
   exact⟨true,D,Ay [(0,0)]⟩
  ·refine Ak ?_
   rcases Eb D with ⟨h4,D⟩ | ⟨h4,D⟩
   ·refine Ak ?_
    refine Ai fun B=>?_
    exact⟨true,D,Ay [(0,0)]⟩
   ·refine Ak ?_
    obtain⟨e,he,D⟩:=Ae D
    refine Ak ?_
    refine Bj (Cj rfl rfl h4) rfl (Bl N8 (Bf B5 (Aq he) (o:=0) (c:=.int .u8 (e.toNat:Int)) rfl rfl)) rfl rfl ?_
    refine Ak ?_
    rcases Eb D with ⟨h6,D⟩ | ⟨h6,D⟩
    ·refine Ak ?_
     refine Bj (Cj rfl rfl h6) rfl (Bl N8 (Bf B5 (Aq he) (o:=0) (c:=.int .u8 (e.toNat:Int)) rfl rfl)) rfl rfl ?_
     refine Ak ?_
     refine Ai fun B=>?_
     exact⟨!decide ((e.toNat:Int)=255),D,Ay [(0,0)]⟩
    ·refine Ak ?_
     refine Ai fun B=>?_
     exact⟨false,D,Ay [(0,0)]⟩
 ·rintro x26_1 D
  replace D:Ee.j1 v x26_1=some r:=D
  show Ca _ _ _ _ (mk _ _ _)
  unfold Ee.j1 at D
  refine Dh rfl D (fun h9 D=>?_) fun h9 D=>?_
  ·refine Ah ?_
   refine Af (Bi _ _ []) 1 17 Az rfl rfl ?_
   refine Ak ?_
   refine Ai fun B=>?_
   refine A4 ?_
   obtain rfl:=oi_ D
   exact A3 [] ⟨rfl,rfl⟩
  ·refine Ao ?_
   repeat first | refine Cw ?_ | refine Cy ?_
   refine A6 1 57 Az ?_
   refine Ak ?_
   obtain⟨e_2,he_2,D⟩:=Ae D
   refine Ak ?_
   refine Bj rfl rfl (Bl N8 (Bf B5 (Aq he_2) (o:=0) (c:=.int .u8 (e_2.toNat:Int)) rfl rfl)) rfl rfl ?_
   refine Ak ?_
   refine Ai fun B=>?_
   refine A4 ?_
   obtain rfl:=oi_ D
   exact A3 [] ⟨rfl,rfl⟩
theorem J3 (r':Aj) (r:Bool×Aj) (D:Fk r'=some r):Fn Tryz.prog 105 1 [.ptr 0 0] [.box [.sl 4 (An Aa.enc r'.l),.val (.bool r'.Failed)] 131] (fun d' b'=>d'=.val (.bool r.1)/\b'=[.box [.sl 4 (An Aa.enc r.2.l),.val (.bool r.2.Failed)] 131]):=by
 unfold Fk at D
 refine Fn.of Tryz.func105 rfl rfl rfl fun w0 I ρ0=>?_
 show Ca _ ⟨w0,I,ρ0,1,1,23⟩ _ _ _
 refine A6 1 9 Az ?_
 refine Ak ?_
 refine Ai fun B=>?_
 refine A6 9 73 B ?_
 refine Ak ?_
 obtain⟨y,hy,D⟩:=Ae D
 refine Hc [0] [0] [] false (D2 _ _ hy) ?_
 obtain⟨y_2,hy_2,D⟩:=Ae D
 refine Ek (cM _ _ hy_2) ?_
 refine Ak ?_
 refine Ai fun B=>?_
 refine A6 73 169 B ?_
 refine Ak ?_
 rcases Eb D with ⟨h3,D⟩ | ⟨h3,D⟩
 ·refine Ak ?_
  refine Ai fun B=>?_
  refine A6 169 185 B ?_
  refine Ak ?_
  refine Ai fun B=>?_
  refine A4 ?_
  obtain rfl:=oi_ D
  exact A3 [(0,0)] ⟨rfl,rfl⟩
 ·refine Ak ?_
  refine Ai fun B=>?_
  refine A6 169 185 B ?_
  refine Ak ?_
  refine Ai fun B=>?_
  refine A4 ?_
  obtain rfl:=oi_ D
  exact A3 [(0,0)] ⟨rfl,rfl⟩
theorem J5 (r':Aj) (r:(List Aa)×Aj) (D:D4 r'=some r):Fn Tryz.prog 106 1 [.ptr 0 0] [.box [.sl 4 (An Aa.enc r'.l),.val (.bool r'.Failed)] 131] (fun d' b'=>d'=.sl 4 (An Aa.enc r.1)/\b'=[.box [.sl 4 (An Aa.enc r.2.l),.val (.bool r.2.Failed)] 131]):=by
 unfold D4 at D
 refine Fn.of Tryz.func106 rfl rfl rfl fun w0 I ρ0=>?_
 show Ca _ ⟨w0,I,ρ0,1,1,23⟩ _ _ _
 refine A6 1 9 Az ?_
 refine Ak ?_
 refine Ai fun B=>?_
 refine A6 9 73 B ?_
 refine Ak ?_
 obtain⟨y,hy,D⟩:=Ae D
 refine Hc [0] [0] [] false (D2 _ _ hy) ?_
 obtain⟨y_2,hy_2,D⟩:=Ae D
 refine Ek (Pc _ _ hy_2) ?_
 refine Ak ?_
 refine Ai fun B=>?_
 refine A6 73 169 B ?_
 refine Ak ?_
 rcases Eb D with ⟨h3,D⟩ | ⟨h3,D⟩
 ·refine Ak ?_
  refine Ai fun B=>?_
  refine A6 169 185 B ?_
  refine Ak ?_
  refine Ai fun B=>?_
  refine A4 ?_
  obtain rfl:=oi_ D
  exact A3 [(0,0)] ⟨rfl,rfl⟩
 ·refine Ak ?_
  refine Ai fun B=>?_
  refine A6 169 185 B ?_
  refine Ak ?_
  refine Ai fun B=>?_
  refine A4 ?_
  obtain rfl:=oi_ D
  exact A3 [(0,0)] ⟨rfl,rfl⟩
theorem Ph (c0:Aj) (c1:Ab) (r:Aj×Ab) (D:G8 c0 c1=some r):Fn Tryz.prog 147 3 [.ptr 0 0,.ptr 2 0] [.box [.ptr 1 0] 127,.box [.sl 4 (An Aa.enc c0.l),.val (.bool c0.Failed)] 131,.box (Ab.dv c1) 67] (fun d' b'=>d'=.tup []/\b'=[.box [.ptr 1 0] 127,.box [.sl 4 (An Aa.enc r.1.l),.val (.bool r.1.Failed)] 131,.box (Ab.dv r.2) 67]):=by
 unfold G8 at D
 refine Fn.of Tryz.func147 rfl rfl rfl fun w0 I ρ0=>?_
 show Ca _ ⟨w0,I,ρ0,3,3,5⟩ _ _ _
 refine Af (Bi _ _ []) 3 35 Az rfl rfl ?_
 refine Ak ?_
 obtain⟨y,hy,D⟩:=Ae D
 refine Hc [1] [1] [] false (C6 _ _ hy) ?_
 refine Ak ?_
 refine Ai fun B=>?_
 obtain rfl:=oi_ D
 exact A3 [(0,0),(1,1),(2,2)] ⟨rfl,rfl⟩
theorem Ot (c0:Aj) (c1:Ab) (r:Aj×Ab) (D:G7 c0 c1=some r):Fn Tryz.prog 148 3 [.ptr 0 0,.ptr 2 0] [.box [.ptr 1 0] 127,.box [.sl 4 (An Aa.enc c0.l),.val (.bool c0.Failed)] 131,.box (Ab.dv c1) 67] (fun d' b'=>d'=.tup []/\b'=[.box [.ptr 1 0] 127,.box [.sl 4 (An Aa.enc r.1.l),.val (.bool r.1.Failed)] 131,.box (Ab.dv r.2) 67]):=by
 unfold G7 at D
 refine Fn.of Tryz.func148 rfl rfl rfl fun w0 I ρ0=>?_
 show Ca _ ⟨w0,I,ρ0,3,3,8⟩ _ _ _
 refine Cs (Bi _ _ []) (by kernel_rfl) [0,1,0,7,15,31,63,127] 3 67 Az rfl rfl (by kernel_rfl) ?_
 refine Ak ?_
 obtain⟨y,hy,D⟩:=Ae D
 refine Hc [1] [1] [] false (Hu _ _ hy) ?_
 refine Ak ?_
 obtain⟨y_2,hy_2,D⟩:=Ae D
 refine Hc [1] [1] [] false (Hu _ _ hy_2) ?_
 refine Ak ?_
 refine Ai fun B=>?_
 obtain rfl:=oi_ D
 exact A3 [(0,0),(1,1),(2,2)] ⟨rfl,rfl⟩
theorem Pf (c0:Aj) (c1:Ab) (r:Aj×Ab) (D:Hd c0 c1=some r):Fn Tryz.prog 149 3 [.ptr 0 0,.ptr 2 0] [.box [.ptr 1 0] 127,.box [.sl 4 (An Aa.enc c0.l),.val (.bool c0.Failed)] 131,.box (Ab.dv c1) 67] (fun d' b'=>d'=.tup []/\b'=[.box [.ptr 1 0] 127,.box [.sl 4 (An Aa.enc r.1.l),.val (.bool r.1.Failed)] 131,.box (Ab.dv r.2) 67]):=by
 unfold Hd at D
 refine Fn.of Tryz.func149 rfl rfl rfl fun w0 I ρ0=>?_
 show Ca _ ⟨w0,I,ρ0,3,3,8⟩ _ _ _
 refine Cs (Bi _ _ []) (by kernel_rfl) [0,1,0,7,15,31,63,127] 3 67 Az rfl rfl (by kernel_rfl) ?_
 refine Ak ?_
 obtain⟨y,hy,D⟩:=Ae D
 refine Hc [1] [1] [] false (H5 _ _ hy) ?_
 refine Ak ?_
 obtain⟨y_2,hy_2,D⟩:=Ae D
 refine Hc [1] [1] [] false (C6 _ _ hy_2) ?_
 refine Ak ?_
 refine Ai fun B=>?_
 obtain rfl:=oi_ D
 exact A3 [(0,0),(1,1),(2,2)] ⟨rfl,rfl⟩
theorem Ov (c0:Aj) (c1:Ab) (r:Aj×Ab) (D:G9 c0 c1=some r):Fn Tryz.prog 150 3 [.ptr 0 0,.ptr 2 0] [.box [.ptr 1 0] 127,.box [.sl 4 (An Aa.enc c0.l),.val (.bool c0.Failed)] 131,.box (Ab.dv c1) 67] (fun d' b'=>d'=.tup []/\b'=[.box [.ptr 1 0] 127,.box [.sl 4 (An Aa.enc r.1.l),.val (.bool r.1.Failed)] 131,.box (Ab.dv r.2) 67]):=by
 unfold G9 at D
 refine Fn.of Tryz.func150 rfl rfl rfl fun w0 I ρ0=>?_
 show Ca _ ⟨w0,I,ρ0,3,3,5⟩ _ _ _
 refine Af (Bi _ _ []) 3 35 Az rfl rfl ?_
 refine Ak ?_
 obtain⟨y,hy,D⟩:=Ae D
 refine Hc [1] [1] [] false (H5 _ _ hy) ?_
 refine Ak ?_
 refine Ai fun B=>?_
 obtain rfl:=oi_ D
 exact A3 [(0,0),(1,1),(2,2)] ⟨rfl,rfl⟩
theorem Pl (c0:Aj) (c1:Ab) (r:Aj×Ab) (D:Hg c0 c1=some r):Fn Tryz.prog 151 3 [.ptr 0 0,.ptr 2 0] [.box [.ptr 1 0] 127,.box [.sl 4 (An Aa.enc c0.l),.val (.bool c0.Failed)] 131,.box (Ab.dv c1) 67] (fun d' b'=>d'=.tup []/\b'=[.box [.ptr 1 0] 127,.box [.sl 4 (An Aa.enc r.1.l),.val (.bool r.1.Failed)] 131,.box (Ab.dv r.2) 67]):=by
 unfold Hg at D
 refine Fn.of Tryz.func151 rfl rfl rfl fun w0 I ρ0=>?_
 show Ca _ ⟨w0,I,ρ0,3,3,8⟩ _ _ _
 refine Cs (Bi _ _ []) (by kernel_rfl) [0,1,0,7,15,31,63,127] 3 67 Az rfl rfl (by kernel_rfl) ?_
 refine Ak ?_
 obtain⟨y,hy,D⟩:=Ae D
 refine Hc [1] [1] [] false (C6 _ _ hy) ?_
 refine Ak ?_
 obtain⟨y_2,hy_2,D⟩:=Ae D
 refine Hc [1] [1] [] false (C6 _ _ hy_2) ?_
 refine Ak ?_
 refine Ai fun B=>?_
 obtain rfl:=oi_ D
 exact A3 [(0,0),(1,1),(2,2)] ⟨rfl,rfl⟩
theorem O9 (c0:Aj) (c1:Ab) (r:Aj×Ab) (D:G5 c0 c1=some r):Fn Tryz.prog 152 3 [.ptr 0 0,.ptr 2 0] [.box [.ptr 1 0] 127,.box [.sl 4 (An Aa.enc c0.l),.val (.bool c0.Failed)] 131,.box (Ab.dv c1) 67] (fun d' b'=>d'=.tup []/\b'=[.box [.ptr 1 0] 127,.box [.sl 4 (An Aa.enc r.1.l),.val (.bool r.1.Failed)] 131,.box (Ab.dv r.2) 67]):=by
 unfold G5 at D
 refine Fn.of Tryz.func152 rfl rfl rfl fun w0 I ρ0=>?_
 show Ca _ ⟨w0,I,ρ0,3,3,8⟩ _ _ _
 refine Cs (Bi _ _ []) (by kernel_rfl) [0,1,0,7,15,31,63,127] 3 67 Az rfl rfl (by kernel_rfl) ?_
 refine Ak ?_
 obtain⟨y,hy,D⟩:=Ae D
 refine Hc [1] [1] [] false (J3 _ _ hy) ?_
 refine Ak ?_
 obtain⟨y_2,hy_2,D⟩:=Ae D
 refine Hc [1] [1] [] false (C6 _ _ hy_2) ?_
 refine Ak ?_
 refine Ai fun B=>?_
 obtain rfl:=oi_ D
 exact A3 [(0,0),(1,1),(2,2)] ⟨rfl,rfl⟩
theorem M8 (r':Aj) (r:(List ByteArray)×Aj) (D:Bd r'=some r):Fn Tryz.prog 154 1 [.ptr 0 0] [.box [.sl 4 (An Aa.enc r'.l),.val (.bool r'.Failed)] 131] (fun d' b'=>d'=.sl 1 (An eS r.1)/\b'=[.box [.sl 4 (An Aa.enc r.2.l),.val (.bool r.2.Failed)] 131]):=by
 unfold Bd at D
 refine Fn.of Tryz.func154 rfl rfl rfl fun w0 I ρ0=>?_
 show Ca _ ⟨w0,I,ρ0,1,1,37⟩ _ _ _
 refine A6 1 9 Az ?_
 refine Ak ?_
 refine Ai fun B=>?_
 refine A6 9 17 B ?_
 refine Ak ?_
 refine Ai fun B=>?_
 refine Ah ?_
 refine A6 17 49 B ?_
 refine Ak ?_
 obtain⟨y,hy,D⟩:=Ae D
 refine Hc [0] [0] [] false (J5 _ _ hy) ?_
 refine Ak ?_
 refine Ai fun B=>?_
 refine Au ?_
 refine Lu (fun ((x11_1,r_1,out_1):Int×Bool×List ByteArray)=>mk [(0,.ptr 0 0),(3,.row 1),(9,.sl 4 (An Aa.enc y.1)),(10,.val (.int .i64 (y.1.length:Int))),(11,vj x11_1)] [(0,.box [.sl 4 (An Aa.enc y.2.l),.val (.bool r_1)] 131),(1,.row 9 1 (An eS out_1))] 2) D (Ay [(0,0)]) ?_
 rintro⟨x11_1,r_1,out_1⟩ m1 o1 D hn1
 replace D:Bd.l1 y x11_1 r_1 out_1=some o1:=D
 show Ca _ _ _ _ (mk _ _ _)
 unfold Bd.l1 at D
 refine A6 2 10 Az ?_
 refine Ak ?_
 refine Ai fun B=>?_
 refine Ah ?_
 refine Dh rfl D (fun h5 D=>?_) fun h5 D=>?_
 ·refine Ao ?_
  repeat first | refine Cw ?_ | refine Cy ?_
  refine Ah ?_
  refine Au ?_
  refine A6 10 42 B ?_
  obtain⟨e,he,D⟩:=Ae D
  refine Ak ?_
  refine Bj rfl rfl (Dx Nb (Cm Aa.enc_len (Aq he) (o:=0) (m:=4) (cs:=[.int .i64 e.Tag,.sl 1 (An e8 e.Bytes),.bool e.Nested,.sl 4 (An Aa.enc e.Elements)]) (by simp only [Aa.enc_eq]; rfl) (by decide) rfl) (Bn Aa.enc_len (Aq he) (o:=0) (m:=4) (by decide) rfl)) rfl rfl ?_
  refine Ak ?_
  refine Ai fun B=>?_
  refine A6 42 98 B ?_
  refine Ak ?_
  obtain⟨y_2,hy_2,D⟩:=Ae D
  refine Ek (T5 _ _ hy_2) ?_
  refine Ak ?_
  refine Ai fun B=>?_
  refine Bm (ι:=Bool) (fun (r_2:Bool)=>mk [(0,.ptr 0 0),(3,.row 1),(6,vk y_2.1),(9,.sl 4 (An Aa.enc y.1)),(10,.val (.int .i64 (y.1.length:Int))),(11,vj x11_1)] [(0,.box [.sl 4 (An Aa.enc y.2.l),.val (.bool r_2)] 131),(1,.row 9 1 (An eS out_1))] 2) (fun (r_2:Bool)=>Bd.j2 x11_1 out_1 y_2 r_2=some o1) ?_ ?_
  ·refine Af (Bi _ _ []) 98 194 B rfl rfl ?_
   refine Ak ?_
   rcases Eb D with ⟨h8,D⟩ | ⟨h8,D⟩
   ·refine Ak ?_
    refine Ai fun B=>?_
    exact⟨true,D,Ay [(0,0),(1,1)]⟩
   ·refine Ak ?_
    refine Ai fun B=>?_
    exact⟨!decide (y_2.2=0),D,Ay [(0,0),(1,1)]⟩
  ·rintro r_2 D
   replace D:Bd.j2 x11_1 out_1 y_2 r_2=some o1:=D
   show Ca _ _ _ _ (mk _ _ _)
   unfold Bd.j2 at D
   refine Af (Bi _ _ []) 2 42 Az rfl rfl ?_
   refine Ak ?_
   refine Bj rfl rfl (As Tz z9 (by decide) rfl rfl rfl rfl wP (cs:=[.str y_2.1]) (.cons .str .nil) rfl (l:=([y_2.1]:List ByteArray)) (f:=eS) rfl) rfl rfl ?_
   obtain⟨l,hl,D⟩:=Ae D
   refine Ff (rd:=[1,18]) rfl rfl (Dg Tz Jo .row rfl .row rfl hl rfl) rfl rfl ?_
   refine Ak ?_
   refine Ai fun B=>?_
   refine Af (Bi _ _ []) 42 58 B rfl rfl ?_
   refine Ak ?_
   refine Ai fun B=>?_
   obtain rfl:=oi_ D
   exact⟨((W (x11_1 + 1),r_2,l),m1),aDn _,hn1,Ay [(0,0),(1,26)]⟩
 ·refine B8 ?_
  repeat first | refine Cw ?_ | refine Cy ?_
  replace D:=C5 D hn1
  refine A6 10 26 B ?_
  refine Ak ?_
  refine Ai fun B=>?_
  refine A4 ?_
  obtain rfl:=oi_ D
  exact A3 [(0,0)] ⟨rfl,rfl⟩
theorem Pd (c0:Aj) (c1:Ab) (r:Aj×Ab) (D:Ha c0 c1=some r):Fn Tryz.prog 153 3 [.ptr 0 0,.ptr 2 0] [.box [.ptr 1 0] 127,.box [.sl 4 (An Aa.enc c0.l),.val (.bool c0.Failed)] 131,.box (Ab.dv c1) 67] (fun d' b'=>d'=.tup []/\b'=[.box [.ptr 1 0] 127,.box [.sl 4 (An Aa.enc r.1.l),.val (.bool r.1.Failed)] 131,.box (Ab.dv r.2) 67]):=by
 unfold Ha at D
 refine Fn.of Tryz.func153 rfl rfl rfl fun w0 I ρ0=>?_
 show Ca _ ⟨w0,I,ρ0,3,3,5⟩ _ _ _
 refine Af (Bi _ _ []) 3 35 Az rfl rfl ?_
 refine Ak ?_
 obtain⟨y,hy,D⟩:=Ae D
 refine Hc [1] [1] [] false (M8 _ _ hy) ?_
 refine Ak ?_
 refine Ai fun B=>?_
 obtain rfl:=oi_ D
 exact A3 [(0,0),(1,1),(2,2)] ⟨rfl,rfl⟩
theorem Ow (c0:Aj) (c1:Ab) (r:Aj×Ab) (D:G6 c0 c1=some r):Fn Tryz.prog 155 3 [.ptr 0 0,.ptr 2 0] [.box [.ptr 1 0] 127,.box [.sl 4 (An Aa.enc c0.l),.val (.bool c0.Failed)] 131,.box (Ab.dv c1) 67] (fun d' b'=>d'=.tup []/\b'=[.box [.ptr 1 0] 127,.box [.sl 4 (An Aa.enc r.1.l),.val (.bool r.1.Failed)] 131,.box (Ab.dv r.2) 67]):=by
 unfold G6 at D
 refine Fn.of Tryz.func155 rfl rfl rfl fun w0 I ρ0=>?_
 show Ca _ ⟨w0,I,ρ0,3,3,8⟩ _ _ _
 refine Cs (Bi _ _ []) (by kernel_rfl) [0,1,0,7,15,31,63] 3 59 Az rfl rfl (by kernel_rfl) ?_
 refine Ak ?_
 obtain⟨y,hy,D⟩:=Ae D
 refine Hc [1] [1] [] false (C6 _ _ hy) ?_
 refine Ak ?_
 obtain⟨y_2,hy_2,D⟩:=Ae D
 refine Hc [1] [1] [] false (C6 _ _ hy_2) ?_
 refine Bj rfl rfl (.build (r:=[vj y.1,vj y_2.1]) aL vZ z65 (by kernel_rfl) rfl) rfl rfl ?_
 refine Ak ?_
 refine Ai fun B=>?_
 obtain rfl:=oi_ D
 exact A3 [(0,0),(1,1),(2,2)] ⟨rfl,rfl⟩
theorem Rm (v:Aa) (r:Ab×Bool) (D:Cq v=some r):Fn Tryz.prog 107 0 [.agg (Aa.dv v)] [] (fun d' b'=>d'=.tup [.agg (Ab.dv r.1),.val (.bool r.2)]/\b'=[]):=by
 unfold Cq at D
 refine Fn.of Tryz.func107 rfl rfl rfl fun w0 I ρ0=>?_
 show Ca _ ⟨w0,I,ρ0,0,0,51⟩ _ _ _
 refine A6 0 24 Az ?_
 refine Ak ?_
 refine Ai fun B=>?_
 refine A6 24 32 B ?_
 refine Ak ?_
 refine Ai fun B=>?_
 refine A6 32 56 B ?_
 refine Ak ?_
 obtain⟨y,hy,D⟩:=Ae D
 refine Fg (rd:=[]) (ps:=[]) (gs:=[]) false rfl (Hl _ _ _ hy) rfl rfl (.cons (.agg (.cons .val (.cons .sl (.cons .val (.cons .sl .nil))))) (.cons .val .nil)) rfl rfl (by intro h; cases h) rfl (by intro h; first | (cases h; done) | exact⟨_,_,⟨rfl,rfl⟩,by simp,by simp⟩) ?_
 rintro _ _ ⟨rfl,rfl⟩
 refine Ak ?_
 refine Ai fun B=>?_
 refine A6 56 136 B ?_
 refine Ak ?_
 obtain⟨y_2,hy_2,D⟩:=Ae D
 refine Hc [40] [40] [] false (D2 _ _ hy_2) ?_
 obtain⟨y_3,hy_3,D⟩:=Ae D
 refine Fg (rd:=[]) (ps:=[]) (gs:=[]) false rfl (Hl _ _ _ hy_3) rfl rfl (.cons (.agg (.cons .val (.cons .sl (.cons .val (.cons .sl .nil))))) (.cons .val .nil)) rfl rfl (by intro h; cases h) rfl (by intro h; first | (cases h; done) | exact⟨_,_,⟨rfl,rfl⟩,by simp,by simp⟩) ?_
 rintro _ _ ⟨rfl,rfl⟩
 refine Ak ?_
 obtain⟨y_4,hy_4,D⟩:=Ae D
 refine Hc [40] [40] [] false (D2 _ _ hy_4) ?_
 obtain⟨y_5,hy_5,D⟩:=Ae D
 refine Fg (rd:=[]) (ps:=[]) (gs:=[]) false rfl (Hl _ _ _ hy_5) rfl rfl (.cons (.agg (.cons .val (.cons .sl (.cons .val (.cons .sl .nil))))) (.cons .val .nil)) rfl rfl (by intro h; cases h) rfl (by intro h; first | (cases h; done) | exact⟨_,_,⟨rfl,rfl⟩,by simp,by simp⟩) ?_
 rintro _ _ ⟨rfl,rfl⟩
 refine Ak ?_
 refine Ai fun B=>?_
 refine Ah ?_
 refine A6 136 216 B ?_
 refine Ak ?_
 refine Bj rfl rfl (.buildArr (sz:=1) (r:=[.clo 147 0 [.ptr 104 0,.ptr 24 0],.clo 148 0 [.ptr 104 0,.ptr 24 0],.clo 149 0 [.ptr 104 0,.ptr 24 0],.clo 150 0 [.ptr 104 0,.ptr 24 0],.clo 151 0 [.ptr 104 0,.ptr 24 0],.clo 152 0 [.ptr 104 0,.ptr 24 0],.clo 153 0 [.ptr 104 0,.ptr 24 0],.clo 155 0 [.ptr 112 0,.ptr 24 0]]) Pg (by kernel_rfl) aB4 (by kernel_rfl) rfl) rfl rfl ?_
 refine Ak ?_
 refine Ai fun B=>?_
 refine Au ?_
 refine iV 10 ?_
 refine dA ?_
 refine A6 216 224 B ?_
 refine Ak ?_
 refine Ai fun B=>?_
 refine Ah ?_
 refine Jt rfl (fun h=>?_) (fun h=>?_)
 ·refine Ao ?_
  repeat first | refine Cw ?_ | refine Cy ?_
  refine Ah ?_
  refine Au ?_
  refine A6 224 240 B ?_
  refine Bj rfl rfl (.indexA (j:=0) Pg uL rfl rfl rfl) rfl rfl ?_
  refine Ak ?_
  refine Ai fun B=>?_
  refine Af (Bi _ _ []) 240 256 B rfl rfl ?_
  refine Ak ?_
  obtain⟨y_6,hy_6,D⟩:=Ae D
  refine K0 (rd:=[104,24,72]) (ps:=[104,72,24]) (gs:=[]) false rfl rfl (Ph _ _ _ hy_6) rfl rfl (.cons (.ptr rfl) (.cons (.ptr rfl) .nil)) ⟨_,_,_,rfl,.head _,⟨_,rfl,(by repeat' (first | exact Hm.nil | apply Hm.cons | exact Ag.val | exact Ag.sl | exact Ag.nils | exact Ag.ptr rfl | exact Ag.rowK rfl))⟩,⟨_,_,_,rfl,.tail _ (.tail _ (.head _)),⟨_,rfl,(by repeat' (first | exact Hm.nil | apply Hm.cons | exact Ag.val | exact Ag.sl | exact Ag.nils | exact Ag.ptr rfl | exact Ag.rowK rfl))⟩,⟨_,_,_,rfl,.tail _ (.head _),⟨_,rfl,(by repeat' (first | exact Hm.nil | apply Hm.cons | exact Ag.val | exact Ag.sl | exact Ag.nils | exact Ag.ptr rfl | exact Ag.rowK rfl))⟩,rfl⟩⟩⟩ rfl (by intro h; cases h) rfl (by intro h; first | (cases h; done) | exact⟨_,_,⟨rfl,rfl⟩,by simp,by simp⟩) ?_
  rintro _ _ ⟨rfl,rfl⟩
  refine Ai fun B=>?_
  refine Af (Bi _ _ []) 256 272 B rfl rfl ?_
  refine Bj rfl rfl (P4 (z:=1) (by decide)) rfl rfl ?_
  refine Ak ?_
  refine Ai fun B=>?_
  refine dA ?_
  refine A6 272 280 B ?_
  refine Ak ?_
  refine Ai fun B=>?_
  refine Ah ?_
  refine Jt rfl (fun h=>?_) (fun h=>?_)
  ·refine Ao ?_
   repeat first | refine Cw ?_ | refine Cy ?_
   refine Ah ?_
   refine Au ?_
   refine A6 280 296 B ?_
   refine Bj rfl rfl (.indexA (j:=1) Pg uL rfl rfl rfl) rfl rfl ?_
   refine Ak ?_
   refine Ai fun B=>?_
   refine Af (Bi _ _ []) 296 312 B rfl rfl ?_
   refine Ak ?_
   obtain⟨y_7,hy_7,D⟩:=Ae D
   refine K0 (rd:=[104,24,72]) (ps:=[104,72,24]) (gs:=[]) false rfl rfl (Ot _ _ _ hy_7) rfl rfl (.cons (.ptr rfl) (.cons (.ptr rfl) .nil)) ⟨_,_,_,rfl,.head _,⟨_,rfl,(by repeat' (first | exact Hm.nil | apply Hm.cons | exact Ag.val | exact Ag.sl | exact Ag.nils | exact Ag.ptr rfl | exact Ag.rowK rfl))⟩,⟨_,_,_,rfl,.tail _ (.tail _ (.head _)),⟨_,rfl,(by repeat' (first | exact Hm.nil | apply Hm.cons | exact Ag.val | exact Ag.sl | exact Ag.nils | exact Ag.ptr rfl | exact Ag.rowK rfl))⟩,⟨_,_,_,rfl,.tail _ (.head _),⟨_,rfl,(by repeat' (first | exact Hm.nil | apply Hm.cons | exact Ag.val | exact Ag.sl | exact Ag.nils | exact Ag.ptr rfl | exact Ag.rowK rfl))⟩,rfl⟩⟩⟩ rfl (by intro h; cases h) rfl (by intro h; first | (cases h; done) | exact⟨_,_,⟨rfl,rfl⟩,by simp,by simp⟩) ?_
   rintro _ _ ⟨rfl,rfl⟩
   refine Ai fun B=>?_
   refine Af (Bi _ _ []) 312 328 B rfl rfl ?_
   refine Bj rfl rfl (P4 (z:=2) (by decide)) rfl rfl ?_
   refine Ak ?_
   refine Ai fun B=>?_
   refine dA ?_
   refine A6 328 336 B ?_
   refine Ak ?_
   refine Ai fun B=>?_
   refine Ah ?_
   refine Jt rfl (fun h=>?_) (fun h=>?_)
   ·refine Ao ?_
    repeat first | refine Cw ?_ | refine Cy ?_
    refine Ah ?_
    refine Au ?_
    refine A6 336 352 B ?_
    refine Bj rfl rfl (.indexA (j:=2) Pg uL rfl rfl rfl) rfl rfl ?_
    refine Ak ?_
    refine Ai fun B=>?_
    refine Af (Bi _ _ []) 352 368 B rfl rfl ?_
    refine Ak ?_
    obtain⟨y_8,hy_8,D⟩:=Ae D
    refine K0 (rd:=[104,24,72]) (ps:=[104,72,24]) (gs:=[]) false rfl rfl (Pf _ _ _ hy_8) rfl rfl (.cons (.ptr rfl) (.cons (.ptr rfl) .nil)) ⟨_,_,_,rfl,.head _,⟨_,rfl,(by repeat' (first | exact Hm.nil | apply Hm.cons | exact Ag.val | exact Ag.sl | exact Ag.nils | exact Ag.ptr rfl | exact Ag.rowK rfl))⟩,⟨_,_,_,rfl,.tail _ (.tail _ (.head _)),⟨_,rfl,(by repeat' (first | exact Hm.nil | apply Hm.cons | exact Ag.val | exact Ag.sl | exact Ag.nils | exact Ag.ptr rfl | exact Ag.rowK rfl))⟩,⟨_,_,_,rfl,.tail _ (.head _),⟨_,rfl,(by repeat' (first | exact Hm.nil | apply Hm.cons | exact Ag.val | exact Ag.sl | exact Ag.nils | exact Ag.ptr rfl | exact Ag.rowK rfl))⟩,rfl⟩⟩⟩ rfl (by intro h; cases h) rfl (by intro h; first | (cases h; done) | exact⟨_,_,⟨rfl,rfl⟩,by simp,by simp⟩) ?_
    rintro _ _ ⟨rfl,rfl⟩
    refine Ai fun B=>?_
    refine Af (Bi _ _ []) 368 384 B rfl rfl ?_
    refine Bj rfl rfl (P4 (z:=3) (by decide)) rfl rfl ?_
    refine Ak ?_
    refine Ai fun B=>?_
    refine dA ?_
    refine A6 384 392 B ?_
    refine Ak ?_
    refine Ai fun B=>?_
    refine Ah ?_
    refine Jt rfl (fun h=>?_) (fun h=>?_)
    ·refine Ao ?_
     repeat first | refine Cw ?_ | refine Cy ?_
     refine Ah ?_
     refine Au ?_
     refine A6 392 408 B ?_
     refine Bj rfl rfl (.indexA (j:=3) Pg uL rfl rfl rfl) rfl rfl ?_
     refine Ak ?_
     refine Ai fun B=>?_
     refine Af (Bi _ _ []) 408 424 B rfl rfl ?_
     refine Ak ?_
     obtain⟨y_9,hy_9,D⟩:=Ae D
     refine K0 (rd:=[104,24,72]) (ps:=[104,72,24]) (gs:=[]) false rfl rfl (Ov _ _ _ hy_9) rfl rfl (.cons (.ptr rfl) (.cons (.ptr rfl) .nil)) ⟨_,_,_,rfl,.head _,⟨_,rfl,(by repeat' (first | exact Hm.nil | apply Hm.cons | exact Ag.val | exact Ag.sl | exact Ag.nils | exact Ag.ptr rfl | exact Ag.rowK rfl))⟩,⟨_,_,_,rfl,.tail _ (.tail _ (.head _)),⟨_,rfl,(by repeat' (first | exact Hm.nil | apply Hm.cons | exact Ag.val | exact Ag.sl | exact Ag.nils | exact Ag.ptr rfl | exact Ag.rowK rfl))⟩,⟨_,_,_,rfl,.tail _ (.head _),⟨_,rfl,(by repeat' (first | exact Hm.nil | apply Hm.cons | exact Ag.val | exact Ag.sl | exact Ag.nils | exact Ag.ptr rfl | exact Ag.rowK rfl))⟩,rfl⟩⟩⟩ rfl (by intro h; cases h) rfl (by intro h; first | (cases h; done) | exact⟨_,_,⟨rfl,rfl⟩,by simp,by simp⟩) ?_
     rintro _ _ ⟨rfl,rfl⟩
     refine Ai fun B=>?_
     refine Af (Bi _ _ []) 424 440 B rfl rfl ?_
     refine Bj rfl rfl (P4 (z:=4) (by decide)) rfl rfl ?_
     refine Ak ?_
     refine Ai fun B=>?_
     refine dA ?_
     refine A6 440 448 B ?_
     refine Ak ?_
     refine Ai fun B=>?_
     refine Ah ?_
     refine Jt rfl (fun h=>?_) (fun h=>?_)
     ·refine Ao ?_
      repeat first | refine Cw ?_ | refine Cy ?_
      refine Ah ?_
      refine Au ?_
      refine A6 448 464 B ?_
      refine Bj rfl rfl (.indexA (j:=4) Pg uL rfl rfl rfl) rfl rfl ?_
      refine Ak ?_
      refine Ai fun B=>?_
      refine Af (Bi _ _ []) 464 480 B rfl rfl ?_
      refine Ak ?_
      obtain⟨y_10,hy_10,D⟩:=Ae D
      refine K0 (rd:=[104,24,72]) (ps:=[104,72,24]) (gs:=[]) false rfl rfl (Pl _ _ _ hy_10) rfl rfl (.cons (.ptr rfl) (.cons (.ptr rfl) .nil)) ⟨_,_,_,rfl,.head _,⟨_,rfl,(by repeat' (first | exact Hm.nil | apply Hm.cons | exact Ag.val | exact Ag.sl | exact Ag.nils | exact Ag.ptr rfl | exact Ag.rowK rfl))⟩,⟨_,_,_,rfl,.tail _ (.tail _ (.head _)),⟨_,rfl,(by repeat' (first | exact Hm.nil | apply Hm.cons | exact Ag.val | exact Ag.sl | exact Ag.nils | exact Ag.ptr rfl | exact Ag.rowK rfl))⟩,⟨_,_,_,rfl,.tail _ (.head _),⟨_,rfl,(by repeat' (first | exact Hm.nil | apply Hm.cons | exact Ag.val | exact Ag.sl | exact Ag.nils | exact Ag.ptr rfl | exact Ag.rowK rfl))⟩,rfl⟩⟩⟩ rfl (by intro h; cases h) rfl (by intro h; first | (cases h; done) | exact⟨_,_,⟨rfl,rfl⟩,by simp,by simp⟩) ?_
      rintro _ _ ⟨rfl,rfl⟩
      refine Ai fun B=>?_
      refine Af (Bi _ _ []) 480 496 B rfl rfl ?_
      refine Bj rfl rfl (P4 (z:=5) (by decide)) rfl rfl ?_
      refine Ak ?_
      refine Ai fun B=>?_
      refine dA ?_
      refine A6 496 504 B ?_
      refine Ak ?_
      refine Ai fun B=>?_
      refine Ah ?_
      refine Jt rfl (fun h=>?_) (fun h=>?_)
      ·refine Ao ?_
       repeat first | refine Cw ?_ | refine Cy ?_
       refine Ah ?_
       refine Au ?_
       refine A6 504 520 B ?_
       refine Bj rfl rfl (.indexA (j:=5) Pg uL rfl rfl rfl) rfl rfl ?_
       refine Ak ?_
       refine Ai fun B=>?_
       refine Af (Bi _ _ []) 520 536 B rfl rfl ?_
       refine Ak ?_
       obtain⟨y_11,hy_11,D⟩:=Ae D
       refine K0 (rd:=[104,24,72]) (ps:=[104,72,24]) (gs:=[]) false rfl rfl (O9 _ _ _ hy_11) rfl rfl (.cons (.ptr rfl) (.cons (.ptr rfl) .nil)) ⟨_,_,_,rfl,.head _,⟨_,rfl,(by repeat' (first | exact Hm.nil | apply Hm.cons | exact Ag.val | exact Ag.sl | exact Ag.nils | exact Ag.ptr rfl | exact Ag.rowK rfl))⟩,⟨_,_,_,rfl,.tail _ (.tail _ (.head _)),⟨_,rfl,(by repeat' (first | exact Hm.nil | apply Hm.cons | exact Ag.val | exact Ag.sl | exact Ag.nils | exact Ag.ptr rfl | exact Ag.rowK rfl))⟩,⟨_,_,_,rfl,.tail _ (.head _),⟨_,rfl,(by repeat' (first | exact Hm.nil | apply Hm.cons | exact Ag.val | exact Ag.sl | exact Ag.nils | exact Ag.ptr rfl | exact Ag.rowK rfl))⟩,rfl⟩⟩⟩ rfl (by intro h; cases h) rfl (by intro h; first | (cases h; done) | exact⟨_,_,⟨rfl,rfl⟩,by simp,by simp⟩) ?_
       rintro _ _ ⟨rfl,rfl⟩
       refine Ai fun B=>?_
       refine Af (Bi _ _ []) 536 552 B rfl rfl ?_
       refine Bj rfl rfl (P4 (z:=6) (by decide)) rfl rfl ?_
       refine Ak ?_
       refine Ai fun B=>?_
       refine dA ?_
       refine A6 552 560 B ?_
       refine Ak ?_
       refine Ai fun B=>?_
       refine Ah ?_
       refine Jt rfl (fun h=>?_) (fun h=>?_)
       ·refine Ao ?_
        repeat first | refine Cw ?_ | refine Cy ?_
        refine Ah ?_
        refine Au ?_
        refine A6 560 576 B ?_
        refine Bj rfl rfl (.indexA (j:=6) Pg uL rfl rfl rfl) rfl rfl ?_
        refine Ak ?_
        refine Ai fun B=>?_
        refine Af (Bi _ _ []) 576 592 B rfl rfl ?_
        refine Ak ?_
        obtain⟨y_12,hy_12,D⟩:=Ae D
        refine K0 (rd:=[104,24,72]) (ps:=[104,72,24]) (gs:=[]) false rfl rfl (Pd _ _ _ hy_12) rfl rfl (.cons (.ptr rfl) (.cons (.ptr rfl) .nil)) ⟨_,_,_,rfl,.head _,⟨_,rfl,(by repeat' (first | exact Hm.nil | apply Hm.cons | exact Ag.val | exact Ag.sl | exact Ag.nils | exact Ag.ptr rfl | exact Ag.rowK rfl))⟩,⟨_,_,_,rfl,.tail _ (.tail _ (.head _)),⟨_,rfl,(by repeat' (first | exact Hm.nil | apply Hm.cons | exact Ag.val | exact Ag.sl | exact Ag.nils | exact Ag.ptr rfl | exact Ag.rowK rfl))⟩,⟨_,_,_,rfl,.tail _ (.head _),⟨_,rfl,(by repeat' (first | exact Hm.nil | apply Hm.cons | exact Ag.val | exact Ag.sl | exact Ag.nils | exact Ag.ptr rfl | exact Ag.rowK rfl))⟩,rfl⟩⟩⟩ rfl (by intro h; cases h) rfl (by intro h; first | (cases h; done) | exact⟨_,_,⟨rfl,rfl⟩,by simp,by simp⟩) ?_
        rintro _ _ ⟨rfl,rfl⟩
        refine Ai fun B=>?_
        refine Af (Bi _ _ []) 592 608 B rfl rfl ?_
        refine Bj rfl rfl (P4 (z:=7) (by decide)) rfl rfl ?_
        refine Ak ?_
        refine Ai fun B=>?_
        refine dA ?_
        refine A6 608 616 B ?_
        refine Ak ?_
        refine Ai fun B=>?_
        refine Ah ?_
        refine Jt rfl (fun h=>?_) (fun h=>?_)
        ·refine Ao ?_
         repeat first | refine Cw ?_ | refine Cy ?_
         refine Ah ?_
         refine Au ?_
         refine A6 616 632 B ?_
         refine Bj rfl rfl (.indexA (j:=7) Pg uL rfl rfl rfl) rfl rfl ?_
         refine Ak ?_
         refine Ai fun B=>?_
         refine Af (Bi _ _ []) 632 648 B rfl rfl ?_
         refine Ak ?_
         obtain⟨y_13,hy_13,D⟩:=Ae D
         refine K0 (rd:=[112,24,96]) (ps:=[112,96,24]) (gs:=[]) false rfl rfl (Ow _ _ _ hy_13) rfl rfl (.cons (.ptr rfl) (.cons (.ptr rfl) .nil)) ⟨_,_,_,rfl,.head _,⟨_,rfl,(by repeat' (first | exact Hm.nil | apply Hm.cons | exact Ag.val | exact Ag.sl | exact Ag.nils | exact Ag.ptr rfl | exact Ag.rowK rfl))⟩,⟨_,_,_,rfl,.tail _ (.tail _ (.head _)),⟨_,rfl,(by repeat' (first | exact Hm.nil | apply Hm.cons | exact Ag.val | exact Ag.sl | exact Ag.nils | exact Ag.ptr rfl | exact Ag.rowK rfl))⟩,⟨_,_,_,rfl,.tail _ (.head _),⟨_,rfl,(by repeat' (first | exact Hm.nil | apply Hm.cons | exact Ag.val | exact Ag.sl | exact Ag.nils | exact Ag.ptr rfl | exact Ag.rowK rfl))⟩,rfl⟩⟩⟩ rfl (by intro h; cases h) rfl (by intro h; first | (cases h; done) | exact⟨_,_,⟨rfl,rfl⟩,by simp,by simp⟩) ?_
         rintro _ _ ⟨rfl,rfl⟩
         refine Ai fun B=>?_
         refine Af (Bi _ _ []) 648 664 B rfl rfl ?_
         refine Bj rfl rfl (P4 (z:=8) (by decide)) rfl rfl ?_
         refine Ak ?_
         refine Ai fun B=>?_
         refine dA ?_
         refine A6 664 672 B ?_
         refine Ak ?_
         refine Ai fun B=>?_
         refine Ah ?_
         refine Jt rfl (fun h=>?_) (fun h=>?_)
         ·exact absurd h (by first | decide | exact fun h=>nomatch (show false=true from h) | exact fun h=>nomatch (show true=false from h))
         ·refine B8 ?_
          repeat first | refine Cw ?_ | refine Cy ?_
          refine Ah ?_
          refine Bm (ι:=Bool) (fun (x48_1:Bool)=>mk [(2,.ptr 0 0),(4,.ptr 1 0),(48,.val (.bool x48_1))] [(0,.box [.val (.int .i64 0),.val (.string (⟨#[]⟩:ByteArray)),.val (.string (⟨#[]⟩:ByteArray)),.val (.int .i64 0),.val (.int .i64 0),.val (.int .i64 0),.val (.int .i64 0),.val (.int .i64 0),.val (.int .i64 0),.val (.int .i64 0),.val (.bool false),.val (.int .i64 0),.val (.slice none 0 0),.val (.int .i64 0),.val (.int .i64 0)] 67),(1,.box (Ab.dv y_13.2) 67)] 2) (fun (x48_1:Bool)=>Cq.j1 y_13 x48_1=some r) ?_ ?_
          ·refine Af (Bi _ _ []) 672 800 B rfl rfl ?_
           refine Ak ?_
           rcases Eb D with ⟨h39,D⟩ | ⟨h39,D⟩
           ·refine Ak ?_
            refine Ai fun B=>?_
            exact⟨true,D,Ay [(0,8),(1,24)]⟩
           ·refine Ak ?_
            rcases Eb D with ⟨h41,D⟩ | ⟨h41,D⟩
            ·refine Ak ?_
             refine Ai fun B=>?_
             exact⟨true,D,Ay [(0,8),(1,24)]⟩
            ·refine Ak ?_
             refine Ai fun B=>?_
             exact⟨y_13.1.Failed,D,Ay [(0,8),(1,24)]⟩
          ·rintro x48_1 D
           replace D:Cq.j1 y_13 x48_1=some r:=D
           show Ca _ _ _ _ (mk _ _ _)
           unfold Cq.j1 at D
           refine Dh rfl D (fun h44 D=>?_) fun h44 D=>?_
           ·refine Ah ?_
            refine Af (Bi _ _ []) 2 26 Az rfl rfl ?_
            refine Bj rfl rfl (.build (r:=[.val (.int .i64 0),.val (.string (⟨#[]⟩:ByteArray)),.val (.string (⟨#[]⟩:ByteArray)),.val (.int .i64 0),.val (.int .i64 0),.val (.int .i64 0),.val (.int .i64 0),.val (.int .i64 0),.val (.int .i64 0),.val (.int .i64 0),.val (.bool false),.val (.int .i64 0),.val (.slice none 0 0),.val (.int .i64 0),.val (.int .i64 0)]) L3 tM sX (by kernel_rfl) rfl) rfl rfl ?_
            refine Ak ?_
            refine Ai fun B=>?_
            refine A4 ?_
            obtain rfl:=oi_ D
            exact A3 [] ⟨rfl,rfl⟩
           ·refine Ao ?_
            repeat first | refine Cw ?_ | refine Cy ?_
            refine A6 2 26 Az ?_
            refine Ak ?_
            refine Ai fun B=>?_
            refine A4 ?_
            obtain rfl:=oi_ D
            exact A3 [] ⟨rfl,rfl⟩
        ·exact absurd h (by first | decide | exact fun h=>nomatch (show false=true from h) | exact fun h=>nomatch (show true=false from h))
       ·exact absurd h (by first | decide | exact fun h=>nomatch (show false=true from h) | exact fun h=>nomatch (show true=false from h))
      ·exact absurd h (by first | decide | exact fun h=>nomatch (show false=true from h) | exact fun h=>nomatch (show true=false from h))
     ·exact absurd h (by first | decide | exact fun h=>nomatch (show false=true from h) | exact fun h=>nomatch (show true=false from h))
    ·exact absurd h (by first | decide | exact fun h=>nomatch (show false=true from h) | exact fun h=>nomatch (show true=false from h))
   ·exact absurd h (by first | decide | exact fun h=>nomatch (show false=true from h) | exact fun h=>nomatch (show true=false from h))
  ·exact absurd h (by first | decide | exact fun h=>nomatch (show false=true from h) | exact fun h=>nomatch (show true=false from h))
 ·exact absurd h (by first | decide | exact fun h=>nomatch (show false=true from h) | exact fun h=>nomatch (show true=false from h))
end Go.Proofs.YtfanepojdefdpaaGreat
