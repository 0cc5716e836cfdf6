import Derived.Test.YtfanepojdefdpaaGreatT1
import Derived.Test.YtfanepojdefdpaaGreatA2
set_option linter.unusedVariables false
set_option linter.unusedSimpArgs false
set_option maxRecDepth 100000
set_option maxHeartbeats 1600000
namespace Go.Proofs.YtfanepojdefdpaaGreat
open Go.RowKit
theorem hH (d:Al) (r:Aw×Al) (D:M6 d=some r):Fn Tryz.prog 94 1 [.ptr 0 0] [.box [.sl 1 (An eI d.L),vj d.At] 59] (fun d' b'=>d'=.agg [vj r.1.Alg,vj r.1.Bits]/\b'=[.box [.sl 1 (An eI r.2.L),vj r.2.At] 59]):=by
 unfold M6 at D
 refine Fn.of Tryz.func94 rfl rfl rfl fun w0 I ρ0=>?_
 show Ca _ ⟨w0,I,ρ0,1,1,12⟩ _ _ _
 refine A6 1 9 Az ?_
 refine Ak ?_
 refine Ai fun B=>?_
 refine Ah ?_
 refine Af (Bi _ _ [17]) 9 41 B rfl rfl ?_
 refine Ak ?_
 refine O8 (rd:=[]) rfl rfl (As Hf z3 (by decide) rfl rfl rfl rfl Mm (cs:=[.int .i64 5,.int .i64 7,.int .i64 5,.int .i64 6,.int .i64 8,.int .i64 9]) (.cons .int (.cons .int (.cons .int (.cons .int (.cons .int (.cons .int .nil)))))) rfl (l:=([5,7,5,6,8,9]:List Int)) (f:=eI) rfl) rfl rfl rfl ?_
 obtain⟨y,hy,D⟩:=Ae D
 refine Hc [0] [0] [] false (Ei _ _ _ hy) ?_
 refine Ak ?_
 refine Ai fun B=>?_
 refine A6 41 89 B ?_
 refine Ak ?_
 obtain⟨y_2,hy_2,D⟩:=Ae D
 refine Hc [0] [0] [] false (gE _ _ _ hy_2) ?_
 refine Bj rfl rfl (.build (r:=[vj y.1,vj y_2.1]) Vs nT z37 (by kernel_rfl) rfl) rfl rfl ?_
 refine Ak ?_
 refine Ai fun B=>?_
 refine A4 ?_
 obtain rfl:=oi_ D
 exact A3 [(0,0)] ⟨rfl,rfl⟩
theorem Lz (d:Al) (n:Int) (r:Bool×Al) (D:Gz d n=some r):Fn Tryz.prog 67 1 [.ptr 0 0,vj n] [.box [.sl 1 (An eI d.L),vj d.At] 59] (fun d' b'=>d'=.val (.bool r.1)/\b'=[.box [.sl 1 (An eI r.2.L),vj r.2.At] 59]):=by
 unfold Gz at D
 refine Fn.of Tryz.func67 rfl rfl rfl fun w0 I ρ0=>?_
 show Ca _ ⟨w0,I,ρ0,1,1,11⟩ _ _ _
 refine A6 1 9 Az ?_
 refine Ak ?_
 refine Ai fun B=>?_
 refine A6 9 65 B ?_
 refine Ak ?_
 obtain⟨y,hy,D⟩:=Ae D
 refine Hc [0] [0] [] false (Hk _ _ _ hy) ?_
 refine Ak ?_
 refine Ai fun B=>?_
 refine A4 ?_
 obtain rfl:=oi_ D
 exact A3 [(0,0)] ⟨rfl,rfl⟩
theorem cO (c:Ab) (r:Ab) (D:Kw c=some r):Fn Tryz.prog 112 0 [.agg (Ab.dv c)] [] (fun d' b'=>d'=.agg (Ab.dv r)/\b'=[]):=by
 unfold Kw at D
 refine Fn.of Tryz.func112 rfl rfl rfl fun w0 I ρ0=>?_
 show Ca _ ⟨w0,I,ρ0,0,0,9⟩ _ _ _
 refine A6 0 16 Az ?_
 refine Ak ?_
 refine Ai fun B=>?_
 refine A6 16 64 B ?_
 refine Bj rfl rfl (As Tz z9 (by decide) rfl rfl rfl rfl wP (cs:=[]) .nil rfl (l:=([]:List ByteArray)) (f:=eS) rfl) rfl rfl ?_
 refine Ak ?_
 obtain⟨l,hl,D⟩:=Ae D
 refine Ff (rd:=[16]) rfl rfl (Dg Tz Jo .row rfl .sl rfl hl rfl) rfl rfl ?_
 refine Ak ?_
 refine Ai fun B=>?_
 refine A6 64 80 B ?_
 refine Ak ?_
 refine Ai fun B=>?_
 refine A4 ?_
 obtain rfl:=oi_ D
 exact A3 [] ⟨rfl,rfl⟩
theorem Me (s:ByteArray) (r:Bool) (D:B4 s=some r):Fn Tryz.prog 43 0 [vk s] [] (fun d' b'=>d'=.val (.bool r)/\b'=[]):=by
 unfold B4 at D
 refine Fn.of Tryz.func43 rfl rfl rfl fun w0 I ρ0=>?_
 show Ca _ ⟨w0,I,ρ0,0,0,28⟩ _ _ _
 refine A6 0 8 Az ?_
 refine Ak ?_
 refine Ai fun B=>?_
 refine Ah ?_
 refine Bm (ι:=Bool) (fun (x11_1:Bool)=>mk [(0,vk s),(11,.val (.bool x11_1))] [] 0) (fun (x11_1:Bool)=>B4.j1 s x11_1=some r) ?_ ?_
 ·refine Af (Bi _ _ []) 8 72 B rfl rfl ?_
  refine Ak ?_
  refine Bj rfl rfl (Xg Rc) rfl rfl ?_
  refine Ak ?_
  rcases Eb D with ⟨h2,D⟩ | ⟨h2,D⟩
  ·refine Ak ?_
   refine Ai fun B=>?_
   exact⟨true,D,Ay []⟩
  ·refine Ak ?_
   refine Bj (Cj rfl rfl h2) rfl (Xg Rc) rfl rfl ?_
   refine Ak ?_
   refine Ai fun B=>?_
   exact⟨decide (32 < (s.size:Int)),D,Ay []⟩
 ·rintro x11_1 D
  replace D:B4.j1 s x11_1=some r:=D
  show Ca _ _ _ _ (mk _ _ _)
  unfold B4.j1 at D
  refine Dh rfl D (fun h5 D=>?_) fun h5 D=>?_
  ·refine Ah ?_
   refine Af (Bi _ _ []) 0 8 Az rfl rfl ?_
   refine Ak ?_
   refine Ai fun B=>?_
   refine A4 ?_
   obtain rfl:=oi_ D
   exact A3 [] ⟨rfl,rfl⟩
  ·refine Ao ?_
   repeat first | refine Cw ?_ | refine Cy ?_
   refine Ah ?_
   refine A6 0 8 Az ?_
   refine Ak ?_
   refine Ai fun B=>?_
   refine Au ?_
   refine Lu (fun (i_2:Int)=>mk [(0,vk s),(3,vj i_2)] [] 0) D (Ay []) ?_
   rintro i_2 m2 o2 D hn2
   replace D:B4.l2 s i_2=some o2:=D
   show Ca _ _ _ _ (mk _ _ _)
   unfold B4.l2 at D
   refine Ah ?_
   refine A6 0 32 Az ?_
   refine Ak ?_
   refine Bj rfl rfl (Xg Rc) rfl rfl ?_
   refine Ak ?_
   refine Ai fun B=>?_
   refine Dh rfl D (fun h9 D=>?_) fun h9 D=>?_
   ·refine Ao ?_
    repeat first | refine Cw ?_ | refine Cy ?_
    refine Ah ?_
    refine Au ?_
    refine Bm (ι:=Bool) (fun (x27_3:Bool)=>mk [(0,vk s),(3,vj i_2),(27,.val (.bool x27_3))] [] 0) (fun (x27_3:Bool)=>B4.j3 i_2 x27_3=some o2) ?_ ?_
    ·refine Af (Bi _ _ []) 32 112 B rfl rfl ?_
     refine Ak ?_
     obtain⟨c,hc,D⟩:=Ae D
     refine Bj rfl rfl (iP Rc hc) rfl rfl ?_
     refine Ak ?_
     rcases Eb D with ⟨h10,D⟩ | ⟨h10,D⟩
     ·refine Ak ?_
      refine Ai fun B=>?_
      exact⟨true,D,Ay []⟩
     ·refine Ak ?_
      obtain⟨c_2,hc_2,D⟩:=Ae D
      refine Bj (Cj rfl rfl h10) rfl (iP Rc hc_2) rfl rfl ?_
      refine Ak ?_
      refine Ai fun B=>?_
      exact⟨decide (126 < (c_2.toNat:Int)),D,Ay []⟩
    ·rintro x27_3 D
     replace D:B4.j3 i_2 x27_3=some o2:=D
     show Ca _ _ _ _ (mk _ _ _)
     unfold B4.j3 at D
     refine Dh rfl D (fun h13 D=>?_) fun h13 D=>?_
     ·refine Ah ?_
      refine Af (Bi _ _ []) 0 8 Az rfl rfl ?_
      refine Ak ?_
      refine Ai fun B=>?_
      refine A4 ?_
      replace D:=C5 D hn2
      obtain rfl:=oi_ D
      exact A3 [] ⟨rfl,rfl⟩
     ·refine Ao ?_
      repeat first | refine Cw ?_ | refine Cy ?_
      refine Af (Bi _ _ []) 0 24 Az rfl rfl ?_
      refine Ak ?_
      refine Ai fun B=>?_
      obtain rfl:=oi_ D
      exact⟨(W (i_2 + 1),m2),aDn _,hn2,Ay []⟩
   ·refine B8 ?_
    repeat first | refine Cw ?_ | refine Cy ?_
    replace D:=C5 D hn2
    refine A6 32 40 B ?_
    refine Ak ?_
    refine Ai fun B=>?_
    refine A4 ?_
    obtain rfl:=oi_ D
    exact A3 [] ⟨rfl,rfl⟩
theorem V2 (b:Int) (r:Int) (D:Dm b=some r):Fn Tryz.prog 177 0 [vj b] [] (fun d' b'=>d'=vj r/\b'=[]):=by
 unfold Dm at D
 refine Fn.of Tryz.func177 rfl rfl rfl fun w0 I ρ0=>?_
 show Ca _ ⟨w0,I,ρ0,0,0,25⟩ _ _ _
 refine A6 0 8 Az ?_
 refine Ak ?_
 refine Ai fun B=>?_
 refine Ah ?_
 refine Au ?_
 refine Bm (ι:=Bool) (fun (x3_1:Bool)=>mk [(0,vj b),(3,.val (.bool x3_1))] [] 0) (fun (x3_1:Bool)=>Dm.j1 b x3_1=some r) ?_ ?_
 ·refine Af (Bi _ _ []) 8 64 B rfl rfl ?_
  refine Ak ?_
  rcases Eb D with ⟨h2,D⟩ | ⟨h2,D⟩
  ·refine Ak ?_
   refine Ai fun B=>?_
   exact⟨true,D,Ay []⟩
  ·refine Ak ?_
   refine Ai fun B=>?_
   exact⟨decide (16384 < b),D,Ay []⟩
 ·rintro x3_1 D
  replace D:Dm.j1 b x3_1=some r:=D
  show Ca _ _ _ _ (mk _ _ _)
  unfold Dm.j1 at D
  refine Dh rfl D (fun h5 D=>?_) fun h5 D=>?_
  ·refine Ah ?_
   refine Af (Bi _ _ []) 0 8 Az rfl rfl ?_
   refine Ak ?_
   refine Ai fun B=>?_
   refine A4 ?_
   obtain rfl:=oi_ D
   exact A3 [] ⟨rfl,rfl⟩
  ·refine Ah ?_
   refine Af (Bi _ _ []) 0 24 Az rfl rfl ?_
   refine Ak ?_
   refine Ai fun B=>?_
   refine Dh rfl D (fun h8 D=>?_) fun h8 D=>?_
   ·refine Ah ?_
    refine Af (Bi _ _ []) 24 32 B rfl rfl ?_
    refine Ak ?_
    refine Ai fun B=>?_
    refine A4 ?_
    obtain rfl:=oi_ D
    exact A3 [] ⟨rfl,rfl⟩
   ·refine Ah ?_
    refine Af (Bi _ _ []) 24 48 B rfl rfl ?_
    refine Ak ?_
    refine Ai fun B=>?_
    refine Dh rfl D (fun h11 D=>?_) fun h11 D=>?_
    ·refine Ah ?_
     refine Af (Bi _ _ []) 48 56 B rfl rfl ?_
     refine Ak ?_
     refine Ai fun B=>?_
     refine A4 ?_
     obtain rfl:=oi_ D
     exact A3 [] ⟨rfl,rfl⟩
    ·refine Ah ?_
     refine Af (Bi _ _ []) 48 72 B rfl rfl ?_
     refine Ak ?_
     refine Ai fun B=>?_
     refine Dh rfl D (fun h14 D=>?_) fun h14 D=>?_
     ·refine Ah ?_
      refine Af (Bi _ _ []) 72 80 B rfl rfl ?_
      refine Ak ?_
      refine Ai fun B=>?_
      refine A4 ?_
      obtain rfl:=oi_ D
      exact A3 [] ⟨rfl,rfl⟩
     ·refine Ah ?_
      refine Af (Bi _ _ []) 72 96 B rfl rfl ?_
      refine Ak ?_
      refine Ai fun B=>?_
      refine Dh rfl D (fun h17 D=>?_) fun h17 D=>?_
      ·refine Ah ?_
       refine Af (Bi _ _ []) 96 104 B rfl rfl ?_
       refine Ak ?_
       refine Ai fun B=>?_
       refine A4 ?_
       obtain rfl:=oi_ D
       exact A3 [] ⟨rfl,rfl⟩
      ·refine Ah ?_
       refine Af (Bi _ _ []) 96 120 B rfl rfl ?_
       refine Ak ?_
       refine Ai fun B=>?_
       refine Dh rfl D (fun h20 D=>?_) fun h20 D=>?_
       ·refine Ah ?_
        refine Af (Bi _ _ []) 120 128 B rfl rfl ?_
        refine Ak ?_
        refine Ai fun B=>?_
        refine A4 ?_
        obtain rfl:=oi_ D
        exact A3 [] ⟨rfl,rfl⟩
       ·refine Ao ?_
        repeat first | refine Cw ?_ | refine Cy ?_
        refine A6 120 128 B ?_
        refine Ak ?_
        refine Ai fun B=>?_
        refine A4 ?_
        obtain rfl:=oi_ D
        exact A3 [] ⟨rfl,rfl⟩
theorem I8 (b:Int) (sizes:(List Int)) (strengths:(List Int)) (r:Int) (D:Bq b sizes strengths=some r):Fn Tryz.prog 178 0 [vj b,.sl 1 (An eI sizes),.sl 1 (An eI strengths)] [] (fun d' b'=>d'=vj r/\b'=[]):=by
 unfold Bq at D
 refine Fn.of Tryz.func178 rfl rfl rfl fun w0 I ρ0=>?_
 show Ca _ ⟨w0,I,ρ0,0,0,24⟩ _ _ _
 refine A6 0 8 Az ?_
 refine Ak ?_
 refine Ai fun B=>?_
 refine Ah ?_
 refine A6 8 16 B ?_
 refine Ak ?_
 refine Ai fun B=>?_
 refine Au ?_
 refine Lu (fun (i_1:Int)=>mk [(0,vj b),(1,.sl 1 (An eI sizes)),(2,.sl 1 (An eI strengths)),(7,vj i_1)] [] 0) D (Ay []) ?_
 rintro i_1 m1 o1 D hn1
 replace D:Bq.l1 b sizes strengths i_1=some o1:=D
 show Ca _ _ _ _ (mk _ _ _)
 unfold Bq.l1 at D
 refine Ah ?_
 refine A6 0 32 Az ?_
 refine Ak ?_
 refine Ai fun B=>?_
 refine Dh rfl D (fun h4 D=>?_) fun h4 D=>?_
 ·refine Ao ?_
  repeat first | refine Cw ?_ | refine Cy ?_
  refine Ah ?_
  refine Au ?_
  refine A6 32 80 B ?_
  refine Ak ?_
  obtain⟨e,he,D⟩:=Ae D
  refine Ak ?_
  refine Bj rfl rfl (Bl Wz (Bf Nt (Aq he) (o:=0) (c:=.int .i64 e) rfl rfl)) rfl rfl ?_
  refine Ak ?_
  refine Ai fun B=>?_
  refine Dh rfl D (fun h6 D=>?_) fun h6 D=>?_
  ·refine Ah ?_
   refine Af (Bi _ _ []) 80 120 B rfl rfl ?_
   refine Ak ?_
   obtain⟨e_2,he_2,D⟩:=Ae D
   refine Ak ?_
   refine Bj rfl rfl (Bl Wz (Bf Nt (Aq he_2) (o:=0) (c:=.int .i64 e_2) rfl rfl)) rfl rfl ?_
   refine Ak ?_
   refine Ai fun B=>?_
   refine A4 ?_
   replace D:=C5 D hn1
   obtain rfl:=oi_ D
   exact A3 [] ⟨rfl,rfl⟩
  ·refine Ao ?_
   repeat first | refine Cw ?_ | refine Cy ?_
   refine Af (Bi _ _ []) 80 104 B rfl rfl ?_
   refine Ak ?_
   refine Ai fun B=>?_
   obtain rfl:=oi_ D
   exact⟨(W (i_1 + 1),m1),aDn _,hn1,Ay []⟩
 ·refine B8 ?_
  repeat first | refine Cw ?_ | refine Cy ?_
  replace D:=C5 D hn1
  refine A6 32 40 B ?_
  refine Ak ?_
  refine Ai fun B=>?_
  refine A4 ?_
  obtain rfl:=oi_ D
  exact A3 [] ⟨rfl,rfl⟩
theorem Xi (alg:Int) (r:Int) (D:C9 alg=some r):Fn Tryz.prog 179 0 [vj alg] [] (fun d' b'=>d'=vj r/\b'=[]):=by
 unfold C9 at D
 refine Fn.of Tryz.func179 rfl rfl rfl fun w0 I ρ0=>?_
 show Ca _ ⟨w0,I,ρ0,0,0,21⟩ _ _ _
 refine A6 0 8 Az ?_
 refine Ak ?_
 refine Ai fun B=>?_
 refine Ah ?_
 refine A6 8 16 B ?_
 refine Ak ?_
 refine Ai fun B=>?_
 refine Au ?_
 refine A6 16 32 B ?_
 refine Ak ?_
 refine Ai fun B=>?_
 refine Dh rfl D (fun h4 D=>?_) fun h4 D=>?_
 ·refine Ah ?_
  refine Af (Bi _ _ []) 32 40 B rfl rfl ?_
  refine Ak ?_
  refine Ai fun B=>?_
  refine A4 ?_
  obtain rfl:=oi_ D
  exact A3 [] ⟨rfl,rfl⟩
 ·refine Ah ?_
  refine Af (Bi _ _ []) 32 48 B rfl rfl ?_
  refine Ak ?_
  refine Ai fun B=>?_
  refine Dh rfl D (fun h7 D=>?_) fun h7 D=>?_
  ·refine Ah ?_
   refine Af (Bi _ _ []) 48 56 B rfl rfl ?_
   refine Ak ?_
   refine Ai fun B=>?_
   refine A4 ?_
   obtain rfl:=oi_ D
   exact A3 [] ⟨rfl,rfl⟩
  ·refine Bm (ι:=Bool) (fun (x8_1:Bool)=>mk [(3,vj alg),(8,.val (.bool x8_1))] [] 0) (fun (x8_1:Bool)=>C9.j1 alg x8_1=some r) ?_ ?_
   ·refine Ah ?_
    refine Af (Bi _ _ []) 48 64 B rfl rfl ?_
    refine Ak ?_
    refine Ai fun B=>?_
    refine Dh rfl D (fun h10 D=>?_) fun h10 D=>?_
    ·refine Ao ?_
     repeat first | refine Cw ?_ | refine Cy ?_
     exact⟨decide (alg=3),D,Ay []⟩
    ·refine Ah ?_
     refine Af (Bi _ _ []) 64 80 B rfl rfl ?_
     refine Ak ?_
     refine Ai fun B=>?_
     refine Dh rfl D (fun h12 D=>?_) fun h12 D=>?_
     ·refine Ao ?_
      repeat first | refine Cw ?_ | refine Cy ?_
      exact⟨decide (alg=8),D,Ay []⟩
     ·refine Af (Bi _ _ []) 80 96 B rfl rfl ?_
      refine Ak ?_
      refine Ai fun B=>?_
      exact⟨decide (alg=21),D,Ay []⟩
   ·rintro x8_1 D
    replace D:C9.j1 alg x8_1=some r:=D
    show Ca _ _ _ _ (mk _ _ _)
    unfold C9.j1 at D
    refine Dh rfl D (fun h14 D=>?_) fun h14 D=>?_
    ·refine Ah ?_
     refine Af (Bi _ _ []) 0 8 Az rfl rfl ?_
     refine Ak ?_
     refine Ai fun B=>?_
     refine A4 ?_
     obtain rfl:=oi_ D
     exact A3 [] ⟨rfl,rfl⟩
    ·refine Ah ?_
     refine Af (Bi _ _ []) 0 16 Az rfl rfl ?_
     refine Ak ?_
     refine Ai fun B=>?_
     refine Dh rfl D (fun h17 D=>?_) fun h17 D=>?_
     ·refine Ah ?_
      refine Af (Bi _ _ []) 16 24 B rfl rfl ?_
      refine Ak ?_
      refine Ai fun B=>?_
      refine A4 ?_
      obtain rfl:=oi_ D
      exact A3 [] ⟨rfl,rfl⟩
     ·refine Bm (ι:=Bool) (fun (x14_2:Bool)=>mk [(3,vj alg),(14,.val (.bool x14_2))] [] 0) (fun (x14_2:Bool)=>C9.j2 alg x14_2=some r) ?_ ?_
      ·refine Ah ?_
       refine Af (Bi _ _ []) 16 32 B rfl rfl ?_
       refine Ak ?_
       refine Ai fun B=>?_
       refine Dh rfl D (fun h20 D=>?_) fun h20 D=>?_
       ·refine Ao ?_
        repeat first | refine Cw ?_ | refine Cy ?_
        exact⟨decide (alg=18),D,Ay []⟩
       ·refine Af (Bi _ _ []) 32 48 B rfl rfl ?_
        refine Ak ?_
        refine Ai fun B=>?_
        exact⟨decide (alg=22),D,Ay []⟩
      ·rintro x14_2 D
       replace D:C9.j2 alg x14_2=some r:=D
       show Ca _ _ _ _ (mk _ _ _)
       unfold C9.j2 at D
       refine Dh rfl D (fun h22 D=>?_) fun h22 D=>?_
       ·refine Ah ?_
        refine Af (Bi _ _ []) 0 8 Az rfl rfl ?_
        refine Ak ?_
        refine Ai fun B=>?_
        refine A4 ?_
        obtain rfl:=oi_ D
        exact A3 [] ⟨rfl,rfl⟩
       ·refine Ah ?_
        refine Af (Bi _ _ []) 0 16 Az rfl rfl ?_
        refine Ak ?_
        refine Ai fun B=>?_
        refine Dh rfl D (fun h25 D=>?_) fun h25 D=>?_
        ·refine Ah ?_
         refine Af (Bi _ _ []) 16 24 B rfl rfl ?_
         refine Ak ?_
         refine Ai fun B=>?_
         refine A4 ?_
         obtain rfl:=oi_ D
         exact A3 [] ⟨rfl,rfl⟩
        ·refine Ah ?_
         refine Af (Bi _ _ []) 16 32 B rfl rfl ?_
         refine Ak ?_
         refine Ai fun B=>?_
         refine Dh rfl D (fun h28 D=>?_) fun h28 D=>?_
         ·refine Ah ?_
          refine Af (Bi _ _ []) 32 40 B rfl rfl ?_
          refine Ak ?_
          refine Ai fun B=>?_
          refine A4 ?_
          obtain rfl:=oi_ D
          exact A3 [] ⟨rfl,rfl⟩
         ·refine Ao ?_
          repeat first | refine Cw ?_ | refine Cy ?_
          refine A6 32 40 B ?_
          refine Ak ?_
          refine Ai fun B=>?_
          refine A4 ?_
          obtain rfl:=oi_ D
          exact A3 [] ⟨rfl,rfl⟩
theorem Ui (u:Aw) (r:Int) (D:Ar u=some r):Fn Tryz.prog 170 0 [.agg [vj u.Alg,vj u.Bits]] [] (fun d' b'=>d'=vj r/\b'=[]):=by
 unfold Ar at D
 refine Fn.of Tryz.func170 rfl rfl rfl fun w0 I ρ0=>?_
 show Ca _ ⟨w0,I,ρ0,0,0,76⟩ _ _ _
 refine A6 0 16 Az ?_
 refine Ak ?_
 refine Ai fun B=>?_
 refine A6 16 40 B ?_
 refine Ak ?_
 refine Ai fun B=>?_
 refine Ah ?_
 refine A6 40 56 B ?_
 refine Ak ?_
 refine Ai fun B=>?_
 refine Au ?_
 refine Bm (ι:=Bool) (fun (x8_1:Bool)=>mk [(1,.ptr 0 0),(3,vj u.Bits),(7,vj u.Alg),(8,.val (.bool x8_1))] [(0,.box [vj u.Alg,vj u.Bits] 37)] 1) (fun (x8_1:Bool)=>Ar.j1 u x8_1=some r) ?_ ?_
 ·refine Ah ?_
  refine Af (Bi _ _ []) 56 72 B rfl rfl ?_
  refine Ak ?_
  refine Ai fun B=>?_
  refine Dh rfl D (fun h5 D=>?_) fun h5 D=>?_
  ·refine Ao ?_
   repeat first | refine Cw ?_ | refine Cy ?_
   exact⟨decide (u.Alg=5),D,Ay [(0,0)]⟩
  ·refine Ah ?_
   refine Af (Bi _ _ []) 72 88 B rfl rfl ?_
   refine Ak ?_
   refine Ai fun B=>?_
   refine Dh rfl D (fun h7 D=>?_) fun h7 D=>?_
   ·refine Ao ?_
    repeat first | refine Cw ?_ | refine Cy ?_
    exact⟨decide (u.Alg=6),D,Ay [(0,0)]⟩
   ·refine Ah ?_
    refine Af (Bi _ _ []) 88 104 B rfl rfl ?_
    refine Ak ?_
    refine Ai fun B=>?_
    refine Dh rfl D (fun h9 D=>?_) fun h9 D=>?_
    ·refine Ao ?_
     repeat first | refine Cw ?_ | refine Cy ?_
     exact⟨decide (u.Alg=10),D,Ay [(0,0)]⟩
    ·refine Af (Bi _ _ []) 104 120 B rfl rfl ?_
     refine Ak ?_
     refine Ai fun B=>?_
     exact⟨decide (u.Alg=11),D,Ay [(0,0)]⟩
 ·rintro x8_1 D
  replace D:Ar.j1 u x8_1=some r:=D
  show Ca _ _ _ _ (mk _ _ _)
  unfold Ar.j1 at D
  refine Dh rfl D (fun h11 D=>?_) fun h11 D=>?_
  ·refine Ah ?_
   refine Af (Bi _ _ []) 1 25 Az rfl rfl ?_
   refine Ak ?_
   obtain⟨y,hy,D⟩:=Ae D
   refine Ek (V2 _ _ hy) ?_
   refine Ak ?_
   refine Ai fun B=>?_
   refine A4 ?_
   obtain rfl:=oi_ D
   exact A3 [] ⟨rfl,rfl⟩
  ·refine Bm (ι:=Bool) (fun (x15_2:Bool)=>mk [(1,.ptr 0 0),(3,vj u.Bits),(7,vj u.Alg),(15,.val (.bool x15_2))] [(0,.box [vj u.Alg,vj u.Bits] 37)] 1) (fun (x15_2:Bool)=>Ar.j2 u x15_2=some r) ?_ ?_
   ·refine Ah ?_
    refine Af (Bi _ _ []) 1 17 Az rfl rfl ?_
    refine Ak ?_
    refine Ai fun B=>?_
    refine Dh rfl D (fun h14 D=>?_) fun h14 D=>?_
    ·refine Ao ?_
     repeat first | refine Cw ?_ | refine Cy ?_
     exact⟨decide (u.Alg=7),D,Ay [(0,0)]⟩
    ·refine Af (Bi _ _ []) 17 33 B rfl rfl ?_
     refine Ak ?_
     refine Ai fun B=>?_
     exact⟨decide (u.Alg=12),D,Ay [(0,0)]⟩
   ·rintro x15_2 D
    replace D:Ar.j2 u x15_2=some r:=D
    show Ca _ _ _ _ (mk _ _ _)
    unfold Ar.j2 at D
    refine Dh rfl D (fun h16 D=>?_) fun h16 D=>?_
    ·refine Ah ?_
     refine Bm (ι:=Bool) (fun (x35_3:Bool)=>mk [(3,vj u.Bits),(35,.val (.bool x35_3))] [] 0) (fun (x35_3:Bool)=>Ar.j3 u x35_3=some r) ?_ ?_
     ·refine Af (Bi _ _ []) 1 145 Az rfl rfl ?_
      refine Ak ?_
      rcases Eb D with ⟨h17,D⟩ | ⟨h17,D⟩
      ·refine Ak ?_
       refine Ai fun B=>?_
       exact⟨true,D,Ay []⟩
      ·refine Ak ?_
       rcases Eb D with ⟨h19,D⟩ | ⟨h19,D⟩
       ·refine Ak ?_
        refine Ai fun B=>?_
        exact⟨true,D,Ay []⟩
       ·refine Ak ?_
        rcases Eb D with ⟨h21,D⟩ | ⟨h21,D⟩
        ·refine Ak ?_
         refine Ai fun B=>?_
         exact⟨true,D,Ay []⟩
        ·refine Ak ?_
         rcases Eb D with ⟨h23,D⟩ | ⟨h23,D⟩
         ·refine Ak ?_
          refine Ai fun B=>?_
          exact⟨true,D,Ay []⟩
         ·refine Ak ?_
          refine Ai fun B=>?_
          exact⟨decide (u.Bits=521),D,Ay []⟩
     ·rintro x35_3 D
      replace D:Ar.j3 u x35_3=some r:=D
      show Ca _ _ _ _ (mk _ _ _)
      unfold Ar.j3 at D
      refine Dh rfl D (fun h26 D=>?_) fun h26 D=>?_
      ·refine Ah ?_
       refine Af (Bi _ _ []) 0 24 Az rfl rfl ?_
       refine Ak ?_
       obtain⟨q,hq,D⟩:=Ae D
       refine Bj rfl rfl (aI hq) rfl rfl ?_
       refine Ak ?_
       refine Ai fun B=>?_
       refine A4 ?_
       obtain rfl:=oi_ D
       exact A3 [] ⟨rfl,rfl⟩
      ·refine Ao ?_
       repeat first | refine Cw ?_ | refine Cy ?_
       refine A6 0 8 Az ?_
       refine Ak ?_
       refine Ai fun B=>?_
       refine A4 ?_
       obtain rfl:=oi_ D
       exact A3 [] ⟨rfl,rfl⟩
    ·refine Ah ?_
     refine Af (Bi _ _ []) 1 17 Az rfl rfl ?_
     refine Ak ?_
     refine Ai fun B=>?_
     refine Dh rfl D (fun h30 D=>?_) fun h30 D=>?_
     ·refine Ah ?_
      refine Af (Bi _ _ []) 17 57 B rfl rfl ?_
      refine Ak ?_
      refine Bj rfl rfl (As Hf z3 (by decide) rfl rfl rfl rfl Mm (cs:=[.int .i64 44,.int .i64 65,.int .i64 87]) (.cons .int (.cons .int (.cons .int .nil))) rfl (l:=([44,65,87]:List Int)) (f:=eI) rfl) rfl rfl ?_
      refine Bj rfl rfl (As Hf z3 (by decide) rfl rfl rfl rfl Mm (cs:=[.int .i64 128,.int .i64 192,.int .i64 256]) (.cons .int (.cons .int (.cons .int .nil))) rfl (l:=([128,192,256]:List Int)) (f:=eI) rfl) rfl rfl ?_
      obtain⟨y_2,hy_2,D⟩:=Ae D
      refine Hc [25,33] [] [] true (I8 _ _ _ _ hy_2) ?_
      refine Ak ?_
      refine Ai fun B=>?_
      refine A4 ?_
      obtain rfl:=oi_ D
      exact A3 [] ⟨rfl,rfl⟩
     ·refine Ah ?_
      refine Af (Bi _ _ []) 17 33 B rfl rfl ?_
      refine Ak ?_
      refine Ai fun B=>?_
      refine Dh rfl D (fun h33 D=>?_) fun h33 D=>?_
      ·refine Ah ?_
       refine Af (Bi _ _ []) 33 73 B rfl rfl ?_
       refine Ak ?_
       refine Bj rfl rfl (As Hf z3 (by decide) rfl rfl rfl rfl Mm (cs:=[.int .i64 512,.int .i64 768,.int .i64 1024]) (.cons .int (.cons .int (.cons .int .nil))) rfl (l:=([512,768,1024]:List Int)) (f:=eI) rfl) rfl rfl ?_
       refine Bj rfl rfl (As Hf z3 (by decide) rfl rfl rfl rfl Mm (cs:=[.int .i64 128,.int .i64 192,.int .i64 256]) (.cons .int (.cons .int (.cons .int .nil))) rfl (l:=([128,192,256]:List Int)) (f:=eI) rfl) rfl rfl ?_
       obtain⟨y_3,hy_3,D⟩:=Ae D
       refine Hc [41,49] [] [] true (I8 _ _ _ _ hy_3) ?_
       refine Ak ?_
       refine Ai fun B=>?_
       refine A4 ?_
       obtain rfl:=oi_ D
       exact A3 [] ⟨rfl,rfl⟩
      ·refine Ah ?_
       refine Af (Bi _ _ []) 33 49 B rfl rfl ?_
       refine Ak ?_
       refine Ai fun B=>?_
       refine Dh rfl D (fun h36 D=>?_) fun h36 D=>?_
       ·refine Ah ?_
        refine Af (Bi _ _ []) 49 89 B rfl rfl ?_
        refine Ak ?_
        refine Bj rfl rfl (As Hf z3 (by decide) rfl rfl rfl rfl Mm (cs:=[.int .i64 40,.int .i64 128]) (.cons .int (.cons .int .nil)) rfl (l:=([40,128]:List Int)) (f:=eI) rfl) rfl rfl ?_
        refine Bj rfl rfl (As Hf z3 (by decide) rfl rfl rfl rfl Mm (cs:=[.int .i64 40,.int .i64 60]) (.cons .int (.cons .int .nil)) rfl (l:=([40,60]:List Int)) (f:=eI) rfl) rfl rfl ?_
        obtain⟨y_4,hy_4,D⟩:=Ae D
        refine Hc [57,65] [] [] true (I8 _ _ _ _ hy_4) ?_
        refine Ak ?_
        refine Ai fun B=>?_
        refine A4 ?_
        obtain rfl:=oi_ D
        exact A3 [] ⟨rfl,rfl⟩
       ·refine Ah ?_
        refine Af (Bi _ _ []) 49 65 B rfl rfl ?_
        refine Ak ?_
        refine Ai fun B=>?_
        refine Dh rfl D (fun h39 D=>?_) fun h39 D=>?_
        ·refine Ah ?_
         refine Af (Bi _ _ []) 65 105 B rfl rfl ?_
         refine Ak ?_
         refine Bj rfl rfl (As Hf z3 (by decide) rfl rfl rfl rfl Mm (cs:=[.int .i64 112,.int .i64 168]) (.cons .int (.cons .int .nil)) rfl (l:=([112,168]:List Int)) (f:=eI) rfl) rfl rfl ?_
         refine Bj rfl rfl (As Hf z3 (by decide) rfl rfl rfl rfl Mm (cs:=[.int .i64 80,.int .i64 112]) (.cons .int (.cons .int .nil)) rfl (l:=([80,112]:List Int)) (f:=eI) rfl) rfl rfl ?_
         obtain⟨y_5,hy_5,D⟩:=Ae D
         refine Hc [73,81] [] [] true (I8 _ _ _ _ hy_5) ?_
         refine Ak ?_
         refine Ai fun B=>?_
         refine A4 ?_
         obtain rfl:=oi_ D
         exact A3 [] ⟨rfl,rfl⟩
        ·refine Bm (ι:=Bool) (fun (x62_4:Bool)=>mk [(1,.ptr 0 0),(3,vj u.Bits),(62,.val (.bool x62_4))] [(0,.box [vj u.Alg,vj u.Bits] 37)] 1) (fun (x62_4:Bool)=>Ar.j4 u x62_4=some r) ?_ ?_
         ·refine Ah ?_
          refine Af (Bi _ _ []) 65 81 B rfl rfl ?_
          refine Ak ?_
          refine Ai fun B=>?_
          refine Dh rfl D (fun h42 D=>?_) fun h42 D=>?_
          ·refine Ao ?_
           repeat first | refine Cw ?_ | refine Cy ?_
           exact⟨decide (u.Alg=16),D,Ay [(0,0)]⟩
          ·refine Af (Bi _ _ []) 81 97 B rfl rfl ?_
           refine Ak ?_
           refine Ai fun B=>?_
           exact⟨decide (u.Alg=17),D,Ay [(0,0)]⟩
         ·rintro x62_4 D
          replace D:Ar.j4 u x62_4=some r:=D
          show Ca _ _ _ _ (mk _ _ _)
          unfold Ar.j4 at D
          refine Dh rfl D (fun h44 D=>?_) fun h44 D=>?_
          ·refine Ah ?_
           refine Af (Bi _ _ []) 1 41 Az rfl rfl ?_
           refine Ak ?_
           refine Bj rfl rfl (As Hf z3 (by decide) rfl rfl rfl rfl Mm (cs:=[.int .i64 128,.int .i64 256]) (.cons .int (.cons .int .nil)) rfl (l:=([128,256]:List Int)) (f:=eI) rfl) rfl rfl ?_
           refine Bj rfl rfl (As Hf z3 (by decide) rfl rfl rfl rfl Mm (cs:=[.int .i64 128,.int .i64 256]) (.cons .int (.cons .int .nil)) rfl (l:=([128,256]:List Int)) (f:=eI) rfl) rfl rfl ?_
           obtain⟨y_6,hy_6,D⟩:=Ae D
           refine Hc [9,17] [] [] true (I8 _ _ _ _ hy_6) ?_
           refine Ak ?_
           refine Ai fun B=>?_
           refine A4 ?_
           obtain rfl:=oi_ D
           exact A3 [] ⟨rfl,rfl⟩
          ·refine Ao ?_
           repeat first | refine Cw ?_ | refine Cy ?_
           refine A6 1 65 Az ?_
           refine Ak ?_
           refine Bj rfl rfl (As Hf z3 (by decide) rfl rfl rfl rfl Mm (cs:=[.int .i64 0]) (.cons .int .nil) rfl (l:=([0]:List Int)) (f:=eI) rfl) rfl rfl ?_
           refine Ak ?_
           obtain⟨y_7,hy_7,D⟩:=Ae D
           refine Ek (Xi _ _ hy_7) ?_
           refine Bj rfl rfl (As Hf z3 (by decide) rfl rfl rfl rfl Mm (cs:=[.int .i64 y_7]) (.cons .int .nil) rfl (l:=([y_7]:List Int)) (f:=eI) rfl) rfl rfl ?_
           obtain⟨y_8,hy_8,D⟩:=Ae D
           refine Hc [9,41] [] [] true (I8 _ _ _ _ hy_8) ?_
           refine Ak ?_
           refine Ai fun B=>?_
           refine A4 ?_
           obtain rfl:=oi_ D
           exact A3 [] ⟨rfl,rfl⟩
theorem Rn (u:Aw) (r:Bool) (D:I7 u=some r):Fn Tryz.prog 136 0 [.agg [vj u.Alg,vj u.Bits]] [] (fun d' b'=>d'=.val (.bool r)/\b'=[]):=by
 unfold I7 at D
 refine Fn.of Tryz.func136 rfl rfl rfl fun w0 I ρ0=>?_
 show Ca _ ⟨w0,I,ρ0,0,0,6⟩ _ _ _
 refine A6 0 16 Az ?_
 refine Ak ?_
 refine Ai fun B=>?_
 refine A6 16 48 B ?_
 refine Ak ?_
 obtain⟨y,hy,D⟩:=Ae D
 refine Ek (Ui _ _ hy) ?_
 refine Ak ?_
 refine Ai fun B=>?_
 refine A4 ?_
 obtain rfl:=oi_ D
 exact A3 [] ⟨rfl,rfl⟩
theorem dD  (r:(List Ap)) (D:O0=some r):Fn Tryz.prog 171 0 [] [] (fun d' b'=>d'=.sl 2 (An Ap.enc r)/\b'=[]):=by
 unfold O0 at D
 refine Fn.of Tryz.func171 rfl rfl rfl fun w0 I ρ0=>?_
 show Ca _ ⟨w0,I,ρ0,0,0,25⟩ _ _ _
 refine A6 0 8 Az ?_
 refine Ak ?_
 refine Ai fun B=>?_
 refine A6 8 208 B ?_
 refine Bj rfl rfl (.build (r:=[.val (.string (⟨#[]⟩:ByteArray)),.val (.int .i64 0)]) Hb Js Ly (by kernel_rfl) rfl) rfl rfl ?_
 refine Bj rfl rfl (.build (r:=[.val (.string (⟨#[109,100,53]⟩:ByteArray)),.val (.int .i64 1)]) Hb Js Ly (by kernel_rfl) rfl) rfl rfl ?_
 refine Bj rfl rfl (.build (r:=[.val (.string (⟨#[115,104,97,49]⟩:ByteArray)),.val (.int .i64 1)]) Hb Js Ly (by kernel_rfl) rfl) rfl rfl ?_
 refine Bj rfl rfl (.build (r:=[.val (.string (⟨#[115,104,97,50,53,54]⟩:ByteArray)),.val (.int .i64 1)]) Hb Js Ly (by kernel_rfl) rfl) rfl rfl ?_
 refine Bj rfl rfl (.build (r:=[.val (.string (⟨#[115,104,97,51,56,52]⟩:ByteArray)),.val (.int .i64 1)]) Hb Js Ly (by kernel_rfl) rfl) rfl rfl ?_
 refine Bj rfl rfl (.build (r:=[.val (.string (⟨#[114,115,97]⟩:ByteArray)),.val (.int .i64 2)]) Hb Js Ly (by kernel_rfl) rfl) rfl rfl ?_
 refine Bj rfl rfl (.build (r:=[.val (.string (⟨#[100,115,97]⟩:ByteArray)),.val (.int .i64 2)]) Hb Js Ly (by kernel_rfl) rfl) rfl rfl ?_
 refine Bj rfl rfl (.build (r:=[.val (.string (⟨#[101,99,100,115,97]⟩:ByteArray)),.val (.int .i64 2)]) Hb Js Ly (by kernel_rfl) rfl) rfl rfl ?_
 refine Bj rfl rfl (.build (r:=[.val (.string (⟨#[101,100,50,53,53,49,57]⟩:ByteArray)),.val (.int .i64 2)]) Hb Js Ly (by kernel_rfl) rfl) rfl rfl ?_
 refine Bj rfl rfl (.build (r:=[.val (.string (⟨#[109,108,100,115,97]⟩:ByteArray)),.val (.int .i64 2)]) Hb Js Ly (by kernel_rfl) rfl) rfl rfl ?_
 refine Bj rfl rfl (.build (r:=[.val (.string (⟨#[114,115,97,107,120]⟩:ByteArray)),.val (.int .i64 3)]) Hb Js Ly (by kernel_rfl) rfl) rfl rfl ?_
 refine Bj rfl rfl (.build (r:=[.val (.string (⟨#[100,104,101]⟩:ByteArray)),.val (.int .i64 3)]) Hb Js Ly (by kernel_rfl) rfl) rfl rfl ?_
 refine Bj rfl rfl (.build (r:=[.val (.string (⟨#[101,99,100,104,101]⟩:ByteArray)),.val (.int .i64 3)]) Hb Js Ly (by kernel_rfl) rfl) rfl rfl ?_
 refine Bj rfl rfl (.build (r:=[.val (.string (⟨#[109,108,107,101,109]⟩:ByteArray)),.val (.int .i64 3)]) Hb Js Ly (by kernel_rfl) rfl) rfl rfl ?_
 refine Bj rfl rfl (.build (r:=[.val (.string (⟨#[114,99,52]⟩:ByteArray)),.val (.int .i64 4)]) Hb Js Ly (by kernel_rfl) rfl) rfl rfl ?_
 refine Bj rfl rfl (.build (r:=[.val (.string (⟨#[100,101,115,51]⟩:ByteArray)),.val (.int .i64 4)]) Hb Js Ly (by kernel_rfl) rfl) rfl rfl ?_
 refine Bj rfl rfl (.build (r:=[.val (.string (⟨#[97,101,115,99,98,99]⟩:ByteArray)),.val (.int .i64 4)]) Hb Js Ly (by kernel_rfl) rfl) rfl rfl ?_
 refine Bj rfl rfl (.build (r:=[.val (.string (⟨#[97,101,115,103,99,109]⟩:ByteArray)),.val (.int .i64 4)]) Hb Js Ly (by kernel_rfl) rfl) rfl rfl ?_
 refine Bj rfl rfl (.build (r:=[.val (.string (⟨#[99,104,97,99,104,97]⟩:ByteArray)),.val (.int .i64 4)]) Hb Js Ly (by kernel_rfl) rfl) rfl rfl ?_
 refine Bj rfl rfl (.build (r:=[.val (.string (⟨#[104,109,97,99,109,100,53]⟩:ByteArray)),.val (.int .i64 5)]) Hb Js Ly (by kernel_rfl) rfl) rfl rfl ?_
 refine Bj rfl rfl (.build (r:=[.val (.string (⟨#[104,109,97,99,115,104,97,49]⟩:ByteArray)),.val (.int .i64 5)]) Hb Js Ly (by kernel_rfl) rfl) rfl rfl ?_
 refine Bj rfl rfl (.build (r:=[.val (.string (⟨#[104,109,97,99,115,104,97,50,53,54]⟩:ByteArray)),.val (.int .i64 5)]) Hb Js Ly (by kernel_rfl) rfl) rfl rfl ?_
 refine Bj rfl rfl (.build (r:=[.val (.string (⟨#[97,101,97,100]⟩:ByteArray)),.val (.int .i64 5)]) Hb Js Ly (by kernel_rfl) rfl) rfl rfl ?_
 refine Bj rfl rfl (As wZ Ly (by decide) rfl rfl rfl rfl aCl (cs:=[.str (⟨#[]⟩:ByteArray),.int .i64 0,.str (⟨#[109,100,53]⟩:ByteArray),.int .i64 1,.str (⟨#[115,104,97,49]⟩:ByteArray),.int .i64 1,.str (⟨#[115,104,97,50,53,54]⟩:ByteArray),.int .i64 1,.str (⟨#[115,104,97,51,56,52]⟩:ByteArray),.int .i64 1,.str (⟨#[114,115,97]⟩:ByteArray),.int .i64 2,.str (⟨#[100,115,97]⟩:ByteArray),.int .i64 2,.str (⟨#[101,99,100,115,97]⟩:ByteArray),.int .i64 2,.str (⟨#[101,100,50,53,53,49,57]⟩:ByteArray),.int .i64 2,.str (⟨#[109,108,100,115,97]⟩:ByteArray),.int .i64 2,.str (⟨#[114,115,97,107,120]⟩:ByteArray),.int .i64 3,.str (⟨#[100,104,101]⟩:ByteArray),.int .i64 3,.str (⟨#[101,99,100,104,101]⟩:ByteArray),.int .i64 3,.str (⟨#[109,108,107,101,109]⟩:ByteArray),.int .i64 3,.str (⟨#[114,99,52]⟩:ByteArray),.int .i64 4,.str (⟨#[100,101,115,51]⟩:ByteArray),.int .i64 4,.str (⟨#[97,101,115,99,98,99]⟩:ByteArray),.int .i64 4,.str (⟨#[97,101,115,103,99,109]⟩:ByteArray),.int .i64 4,.str (⟨#[99,104,97,99,104,97]⟩:ByteArray),.int .i64 4,.str (⟨#[104,109,97,99,109,100,53]⟩:ByteArray),.int .i64 5,.str (⟨#[104,109,97,99,115,104,97,49]⟩:ByteArray),.int .i64 5,.str (⟨#[104,109,97,99,115,104,97,50,53,54]⟩:ByteArray),.int .i64 5,.str (⟨#[97,101,97,100]⟩:ByteArray),.int .i64 5]) (.cons .str (.cons .int (.cons .str (.cons .int (.cons .str (.cons .int (.cons .str (.cons .int (.cons .str (.cons .int (.cons .str (.cons .int (.cons .str (.cons .int (.cons .str (.cons .int (.cons .str (.cons .int (.cons .str (.cons .int (.cons .str (.cons .int (.cons .str (.cons .int (.cons .str (.cons .int (.cons .str (.cons .int (.cons .str (.cons .int (.cons .str (.cons .int (.cons .str (.cons .int (.cons .str (.cons .int (.cons .str (.cons .int (.cons .str (.cons .int (.cons .str (.cons .int (.cons .str (.cons .int (.cons .str (.cons .int .nil)))))))))))))))))))))))))))))))))))))))))))))) rfl (l:=([(Ap.mk (⟨#[]⟩:ByteArray) 0),(Ap.mk (⟨#[109,100,53]⟩:ByteArray) 1),(Ap.mk (⟨#[115,104,97,49]⟩:ByteArray) 1),(Ap.mk (⟨#[115,104,97,50,53,54]⟩:ByteArray) 1),(Ap.mk (⟨#[115,104,97,51,56,52]⟩:ByteArray) 1),(Ap.mk (⟨#[114,115,97]⟩:ByteArray) 2),(Ap.mk (⟨#[100,115,97]⟩:ByteArray) 2),(Ap.mk (⟨#[101,99,100,115,97]⟩:ByteArray) 2),(Ap.mk (⟨#[101,100,50,53,53,49,57]⟩:ByteArray) 2),(Ap.mk (⟨#[109,108,100,115,97]⟩:ByteArray) 2),(Ap.mk (⟨#[114,115,97,107,120]⟩:ByteArray) 3),(Ap.mk (⟨#[100,104,101]⟩:ByteArray) 3),(Ap.mk (⟨#[101,99,100,104,101]⟩:ByteArray) 3),(Ap.mk (⟨#[109,108,107,101,109]⟩:ByteArray) 3),(Ap.mk (⟨#[114,99,52]⟩:ByteArray) 4),(Ap.mk (⟨#[100,101,115,51]⟩:ByteArray) 4),(Ap.mk (⟨#[97,101,115,99,98,99]⟩:ByteArray) 4),(Ap.mk (⟨#[97,101,115,103,99,109]⟩:ByteArray) 4),(Ap.mk (⟨#[99,104,97,99,104,97]⟩:ByteArray) 4),(Ap.mk (⟨#[104,109,97,99,109,100,53]⟩:ByteArray) 5),(Ap.mk (⟨#[104,109,97,99,115,104,97,49]⟩:ByteArray) 5),(Ap.mk (⟨#[104,109,97,99,115,104,97,50,53,54]⟩:ByteArray) 5),(Ap.mk (⟨#[97,101,97,100]⟩:ByteArray) 5)]:List Ap)) (f:=Ap.enc) rfl) rfl rfl ?_
 refine Ak ?_
 refine Ai fun B=>?_
 refine A4 ?_
 obtain rfl:=oi_ D
 exact A3 [] ⟨rfl,rfl⟩
theorem S3 (alg:Int) (r:Int) (D:E0 alg=some r):Fn Tryz.prog 137 0 [vj alg] [] (fun d' b'=>d'=vj r/\b'=[]):=by
 unfold E0 at D
 refine Fn.of Tryz.func137 rfl rfl rfl fun w0 I ρ0=>?_
 show Ca _ ⟨w0,I,ρ0,0,0,14⟩ _ _ _
 refine A6 0 8 Az ?_
 refine Ak ?_
 refine Ai fun B=>?_
 refine Ah ?_
 refine Bm (ι:=Bool) (fun (x8_1:Bool)=>mk [(0,vj alg),(8,.val (.bool x8_1))] [] 0) (fun (x8_1:Bool)=>E0.j1 alg x8_1=some r) ?_ ?_
 ·refine Af (Bi _ _ []) 8 56 B rfl rfl ?_
  refine Ak ?_
  rcases Eb D with ⟨h2,D⟩ | ⟨h2,D⟩
  ·refine Ak ?_
   refine Ai fun B=>?_
   exact⟨true,D,Ay []⟩
  ·refine Ak ?_
   refine Ai fun B=>?_
   exact⟨decide (22 < alg),D,Ay []⟩
 ·rintro x8_1 D
  replace D:E0.j1 alg x8_1=some r:=D
  show Ca _ _ _ _ (mk _ _ _)
  unfold E0.j1 at D
  refine Dh rfl D (fun h5 D=>?_) fun h5 D=>?_
  ·refine Ah ?_
   refine Af (Bi _ _ []) 0 8 Az rfl rfl ?_
   refine Ak ?_
   refine Ai fun B=>?_
   refine A4 ?_
   obtain rfl:=oi_ D
   exact A3 [] ⟨rfl,rfl⟩
  ·refine Ao ?_
   repeat first | refine Cw ?_ | refine Cy ?_
   refine A6 0 48 Az ?_
   obtain⟨y,hy,D⟩:=Ae D
   refine Ek (dD _ hy) ?_
   refine Ak ?_
   obtain⟨e,he,D⟩:=Ae D
   refine Ak ?_
   refine Bj rfl rfl (Eu lL Wz (by decide) (Gh Ap.enc_len (Aq he) (o:=1) (by decide) rfl)) rfl rfl ?_
   refine Bj rfl rfl (Bl Wz (Bf Ap.enc_len (Aq he) (o:=1) (c:=.int .i64 e.kind) rfl rfl)) rfl rfl ?_
   refine Ak ?_
   refine Ai fun B=>?_
   refine A4 ?_
   obtain rfl:=oi_ D
   exact A3 [] ⟨rfl,rfl⟩
theorem Nl (u:Aw) (r:Bool) (D:Gv u=some r):Fn Tryz.prog 90 0 [.agg [vj u.Alg,vj u.Bits]] [] (fun d' b'=>d'=.val (.bool r)/\b'=[]):=by
 unfold Gv at D
 refine Fn.of Tryz.func90 rfl rfl rfl fun w0 I ρ0=>?_
 show Ca _ ⟨w0,I,ρ0,0,0,11⟩ _ _ _
 refine A6 0 16 Az ?_
 refine Ak ?_
 refine Ai fun B=>?_
 refine A6 16 88 B ?_
 refine Ak ?_
 obtain⟨y,hy,D⟩:=Ae D
 refine Ek (Rn _ _ hy) ?_
 refine Ak ?_
 rcases Eb D with ⟨h2,D⟩ | ⟨h2,D⟩
 ·refine Ak ?_
  obtain⟨y_2,hy_2,D⟩:=Ae D
  refine Ek (S3 _ _ hy_2) ?_
  refine Ak ?_
  refine Ai fun B=>?_
  refine A4 ?_
  obtain rfl:=oi_ D
  exact A3 [] ⟨rfl,rfl⟩
 ·refine Ak ?_
  refine Ai fun B=>?_
  refine A4 ?_
  obtain rfl:=oi_ D
  exact A3 [] ⟨rfl,rfl⟩
theorem No (c:Ab) (r:Int) (D:Av c=some r):Fn Tryz.prog 91 0 [.agg (Ab.dv c)] [] (fun d' b'=>d'=vj r/\b'=[]):=by
 unfold Av at D
 refine Fn.of Tryz.func91 rfl rfl rfl fun w0 I ρ0=>?_
 show Ca _ ⟨w0,I,ρ0,0,0,146⟩ _ _ _
 refine A6 0 16 Az ?_
 refine Ak ?_
 refine Ai fun B=>?_
 refine Ah ?_
 refine Bm (ι:=Bool) (fun (x39_1:Bool)=>mk [(1,.ptr 0 0),(39,.val (.bool x39_1))] [(0,.box (Ab.dv c) 67)] 1) (fun (x39_1:Bool)=>Av.j1 c x39_1=some r) ?_ ?_
 ·refine Af (Bi _ _ []) 16 304 B rfl rfl ?_
  refine Ak ?_
  rcases Eb D with ⟨h2,D⟩ | ⟨h2,D⟩
  ·refine Ak ?_
   refine Ai fun B=>?_
   exact⟨true,D,Ay [(0,0)]⟩
  ·refine Ak ?_
   rcases Eb D with ⟨h4,D⟩ | ⟨h4,D⟩
   ·refine Ak ?_
    refine Ai fun B=>?_
    exact⟨true,D,Ay [(0,0)]⟩
   ·refine Ak ?_
    obtain⟨y,hy,D⟩:=Ae D
    refine Ek (Me _ _ hy) ?_
    refine Ak ?_
    rcases Eb D with ⟨h6,D⟩ | ⟨h6,D⟩
    ·refine Ak ?_
     refine Ai fun B=>?_
     exact⟨true,D,Ay [(0,0)]⟩
    ·refine Ak ?_
     obtain⟨y_2,hy_2,D⟩:=Ae D
     refine Ek (Me _ _ hy_2) ?_
     refine Ak ?_
     rcases Eb D with ⟨h8,D⟩ | ⟨h8,D⟩
     ·refine Ak ?_
      refine Ai fun B=>?_
      exact⟨true,D,Ay [(0,0)]⟩
     ·refine Ak ?_
      obtain⟨y_3,hy_3,D⟩:=Ae D
      refine Ek (Nl _ _ hy_3) ?_
      refine Ak ?_
      rcases Eb D with ⟨h10,D⟩ | ⟨h10,D⟩
      ·refine Ak ?_
       refine Ai fun B=>?_
       exact⟨true,D,Ay [(0,0)]⟩
      ·refine Ak ?_
       rcases Eb D with ⟨h12,D⟩ | ⟨h12,D⟩
       ·refine Ak ?_
        refine Ai fun B=>?_
        exact⟨true,D,Ay [(0,0)]⟩
       ·refine Ak ?_
        refine Ai fun B=>?_
        exact⟨decide (2147483648 < c.KeyId),D,Ay [(0,0)]⟩
 ·rintro x39_1 D
  replace D:Av.j1 c x39_1=some r:=D
  show Ca _ _ _ _ (mk _ _ _)
  unfold Av.j1 at D
  refine Dh rfl D (fun h15 D=>?_) fun h15 D=>?_
  ·refine Ah ?_
   refine Af (Bi _ _ []) 1 9 Az rfl rfl ?_
   refine Ak ?_
   refine Ai fun B=>?_
   refine A4 ?_
   obtain rfl:=oi_ D
   exact A3 [] ⟨rfl,rfl⟩
  ·refine Ao ?_
   repeat first | refine Cw ?_ | refine Cy ?_
   refine Ah ?_
   refine Bm (ι:=Bool) (fun (x67_2:Bool)=>mk [(1,.ptr 0 0),(67,.val (.bool x67_2))] [(0,.box (Ab.dv c) 67)] 1) (fun (x67_2:Bool)=>Av.j2 c x67_2=some r) ?_ ?_
   ·refine Af (Bi _ _ []) 1 225 Az rfl rfl ?_
    refine Ak ?_
    obtain⟨y_4,hy_4,D⟩:=Ae D
    refine Ek (Rn _ _ hy_4) ?_
    refine Ak ?_
    rcases Eb D with ⟨h17,D⟩ | ⟨h17,D⟩
    ·refine Ak ?_
     refine Ai fun B=>?_
     exact⟨true,D,Ay [(0,0)]⟩
    ·refine Ak ?_
     obtain⟨y_5,hy_5,D⟩:=Ae D
     refine Ek (S3 _ _ hy_5) ?_
     refine Ak ?_
     rcases Eb D with ⟨h19,D⟩ | ⟨h19,D⟩
     ·refine Ak ?_
      refine Ai fun B=>?_
      exact⟨true,D,Ay [(0,0)]⟩
     ·refine Ak ?_
      rcases Eb D with ⟨h21,D⟩ | ⟨h21,D⟩
      ·refine Ak ?_
       refine Ai fun B=>?_
       exact⟨true,D,Ay [(0,0)]⟩
      ·refine Ak ?_
       rcases Eb D with ⟨h23,D⟩ | ⟨h23,D⟩
       ·refine Ak ?_
        refine Ai fun B=>?_
        exact⟨true,D,Ay [(0,0)]⟩
       ·refine Ak ?_
        refine Ai fun B=>?_
        exact⟨decide (40000 < c.To),D,Ay [(0,0)]⟩
   ·rintro x67_2 D
    replace D:Av.j2 c x67_2=some r:=D
    show Ca _ _ _ _ (mk _ _ _)
    unfold Av.j2 at D
    refine Dh rfl D (fun h26 D=>?_) fun h26 D=>?_
    ·refine Ah ?_
     refine Af (Bi _ _ []) 1 9 Az rfl rfl ?_
     refine Ak ?_
     refine Ai fun B=>?_
     refine A4 ?_
     obtain rfl:=oi_ D
     exact A3 [] ⟨rfl,rfl⟩
    ·refine Ao ?_
     repeat first | refine Cw ?_ | refine Cy ?_
     refine Ah ?_
     refine Bm (ι:=Bool) (fun (x91_3:Bool)=>mk [(1,.ptr 0 0),(91,.val (.bool x91_3))] [(0,.box (Ab.dv c) 67)] 1) (fun (x91_3:Bool)=>Av.j3 c x91_3=some r) ?_ ?_
     ·refine Af (Bi _ _ []) 1 193 Az rfl rfl ?_
      refine Ak ?_
      rcases Eb D with ⟨h28,D⟩ | ⟨h28,D⟩
      ·refine Ak ?_
       refine Ai fun B=>?_
       exact⟨true,D,Ay [(0,0)]⟩
      ·refine Ak ?_
       rcases Eb D with ⟨h30,D⟩ | ⟨h30,D⟩
       ·refine Ak ?_
        refine Ai fun B=>?_
        exact⟨true,D,Ay [(0,0)]⟩
       ·refine Ak ?_
        rcases Eb D with ⟨h32,D⟩ | ⟨h32,D⟩
        ·refine Ak ?_
         rcases Eb D with ⟨h33,D⟩ | ⟨h33,D⟩
         ·refine Ak ?_
          refine Ai fun B=>?_
          exact⟨true,D,Ay [(0,0)]⟩
         ·refine Ak ?_
          refine Ai fun B=>?_
          exact⟨decide (8 < (c.Names.length:Int)),D,Ay [(0,0)]⟩
        ·refine Ak ?_
         refine Ai fun B=>?_
         exact⟨decide (8 < (c.Names.length:Int)),D,Ay [(0,0)]⟩
     ·rintro x91_3 D
      replace D:Av.j3 c x91_3=some r:=D
      show Ca _ _ _ _ (mk _ _ _)
      unfold Av.j3 at D
      refine Dh rfl D (fun h37 D=>?_) fun h37 D=>?_
      ·refine Ah ?_
       refine Af (Bi _ _ []) 1 9 Az rfl rfl ?_
       refine Ak ?_
       refine Ai fun B=>?_
       refine A4 ?_
       obtain rfl:=oi_ D
       exact A3 [] ⟨rfl,rfl⟩
      ·refine Ao ?_
       repeat first | refine Cw ?_ | refine Cy ?_
       refine Ah ?_
       refine A6 1 9 Az ?_
       refine Ak ?_
       refine Ai fun B=>?_
       refine Au ?_
       refine Lu (fun (i_4:Int)=>mk [(1,.ptr 0 0),(3,vj i_4)] [(0,.box (Ab.dv c) 67)] 1) D (Ay [(0,0)]) ?_
       rintro i_4 m4 o4 D hn4
       replace D:Av.l4 c i_4=some o4:=D
       show Ca _ _ _ _ (mk _ _ _)
       unfold Av.l4 at D
       refine Ah ?_
       refine A6 1 41 Az ?_
       refine Ak ?_
       refine Ai fun B=>?_
       refine Dh rfl D (fun h41 D=>?_) fun h41 D=>?_
       ·refine Ao ?_
        repeat first | refine Cw ?_ | refine Cy ?_
        refine Ah ?_
        refine Au ?_
        refine Bm (ι:=Bool) (fun (x123_5:Bool)=>mk [(1,.ptr 0 0),(3,vj i_4),(123,.val (.bool x123_5))] [(0,.box (Ab.dv c) 67)] 1) (fun (x123_5:Bool)=>Av.j5 i_4 x123_5=some o4) ?_ ?_
        ·refine Cs (Bi _ _ []) (by kernel_rfl) [0,1,0,7,15,31,63,127,255,511,1023,2047,4095,2047,10239,32767,65535,2047,133119,2047,919551,1968127,4194303,8388607,16777215] 41 241 B rfl rfl (by kernel_rfl) ?_
         refine Ak ?_
         obtain⟨e,he,D⟩:=Ae D
         refine Ak ?_
         refine Bj rfl rfl (Bl Wv (Bf Jo (Aq he) (o:=0) (c:=.str e) rfl rfl)) rfl rfl ?_
         obtain⟨y_6,hy_6,D⟩:=Ae D
         refine Ek (Me _ _ hy_6) ?_
         refine Ak ?_
         rcases Eb D with ⟨h42,D⟩ | ⟨h42,D⟩
         ·refine Ak ?_
          refine Ai fun B=>?_
          exact⟨true,D,Ay [(0,0)]⟩
         ·refine Ak ?_
          rcases Eb D with ⟨h44,D⟩ | ⟨h44,D⟩
          ·refine Ak ?_
           obtain⟨e_2,he_2,D⟩:=Ae D
           refine Ak ?_
           refine Bj (Cj rfl rfl h44) rfl (Bl Wv (Bf Jo (Aq he_2) (o:=0) (c:=.str e_2) rfl rfl)) rfl rfl ?_
           refine Ak ?_
           refine Bj (Cj rfl rfl h44) rfl (Bl Wv (Bf Jo (Aq he) (o:=0) (c:=.str e) rfl rfl)) rfl rfl ?_
           refine Bj (Cj rfl rfl h44) rfl bQ rfl rfl ?_
           refine Ak ?_
           refine Ai fun B=>?_
           exact⟨!Q3 (J7 e_2) (J7 e),D,Ay [(0,0)]⟩
          ·refine Ak ?_
           refine Ai fun B=>?_
           exact⟨false,D,Ay [(0,0)]⟩
        ·rintro x123_5 D
         replace D:Av.j5 i_4 x123_5=some o4:=D
         show Ca _ _ _ _ (mk _ _ _)
         unfold Av.j5 at D
         refine Dh rfl D (fun h47 D=>?_) fun h47 D=>?_
         ·refine Ah ?_
          refine Af (Bi _ _ []) 1 9 Az rfl rfl ?_
          refine Ak ?_
          refine Ai fun B=>?_
          refine A4 ?_
          replace D:=C5 D hn4
          obtain rfl:=oi_ D
          exact A3 [] ⟨rfl,rfl⟩
         ·refine Ao ?_
          repeat first | refine Cw ?_ | refine Cy ?_
          refine Af (Bi _ _ []) 1 25 Az rfl rfl ?_
          refine Ak ?_
          refine Ai fun B=>?_
          obtain rfl:=oi_ D
          exact⟨(W (i_4 + 1),m4),aDn _,hn4,Ay [(0,0)]⟩
       ·refine B8 ?_
        repeat first | refine Cw ?_ | refine Cy ?_
        replace D:=C5 D hn4
        refine Ah ?_
        refine Bm (ι:=Bool) (fun (x145_6:Bool)=>mk [(145,.val (.bool x145_6))] [] 0) (fun (x145_6:Bool)=>Av.j6 x145_6=some r) ?_ ?_
        ·refine Af (Bi _ _ []) 41 217 B rfl rfl ?_
         refine Ak ?_
         rcases Eb D with ⟨h50,D⟩ | ⟨h50,D⟩
         ·refine Ak ?_
          refine Ai fun B=>?_
          exact⟨true,D,Ay []⟩
         ·refine Ak ?_
          rcases Eb D with ⟨h52,D⟩ | ⟨h52,D⟩
          ·refine Ak ?_
           refine Ai fun B=>?_
           exact⟨true,D,Ay []⟩
          ·refine Ak ?_
           rcases Eb D with ⟨h54,D⟩ | ⟨h54,D⟩
           ·refine Ak ?_
            refine Ai fun B=>?_
            exact⟨true,D,Ay []⟩
           ·refine Ak ?_
            refine Ai fun B=>?_
            exact⟨decide (4294967296<=c.Seal.Sum),D,Ay []⟩
        ·rintro x145_6 D
         replace D:Av.j6 x145_6=some r:=D
         show Ca _ _ _ _ (mk _ _ _)
         unfold Av.j6 at D
         refine Dh rfl D (fun h57 D=>?_) fun h57 D=>?_
         ·refine Ah ?_
          refine Af (Bi _ _ []) 0 8 Az rfl rfl ?_
          refine Ak ?_
          refine Ai fun B=>?_
          refine A4 ?_
          obtain rfl:=oi_ D
          exact A3 [] ⟨rfl,rfl⟩
         ·refine Ao ?_
          repeat first | refine Cw ?_ | refine Cy ?_
          refine A6 0 8 Az ?_
          refine Ak ?_
          refine Ai fun B=>?_
          refine A4 ?_
          obtain rfl:=oi_ D
          exact A3 [] ⟨rfl,rfl⟩
end Go.Proofs.YtfanepojdefdpaaGreat
