import Derived.Test.YtfanepojdefdpaaGreatT1
import Derived.Test.YtfanepojdefdpaaGreatA2
import Derived.Test.YtfanepojdefdpaaGreatA3
set_option linter.unusedVariables false
set_option linter.unusedSimpArgs false
set_option maxRecDepth 100000
set_option maxHeartbeats 1600000
namespace Go.Proofs.YtfanepojdefdpaaGreat
open Go.RowKit
theorem Ma (s:ByteArray) (r:Aa) (D:Ga s=some r):Fn Tryz.prog 79 0 [vk s] [] (fun d' b'=>d'=.agg (Aa.dv r)/\b'=[]):=by
 unfold Ga at D
 refine Fn.of Tryz.func79 rfl rfl rfl fun w0 I ρ0=>?_
 show Ca _ ⟨w0,I,ρ0,0,0,6⟩ _ _ _
 refine A6 0 8 Az ?_
 refine Ak ?_
 refine Ai fun B=>?_
 refine A6 8 40 B ?_
 refine Ak ?_
 refine Bj rfl rfl (lG Rc Tl Ku) rfl rfl ?_
 refine Bj rfl rfl (.build (r:=[.val (.int .i64 12),.sl 1 (An e8 (J7 s)),.val (.bool false),.val (.slice none 0 0)]) Io Nc Pq (by kernel_rfl) rfl) rfl rfl ?_
 refine Ak ?_
 refine Ai fun B=>?_
 refine A4 ?_
 obtain rfl:=oi_ D
 exact A3 [] ⟨rfl,rfl⟩
theorem Fp (n:Int) (r:Aa) (D:Bo n=some r):Fn Tryz.prog 23 0 [vj n] [] (fun d' b'=>d'=.agg (Aa.dv r)/\b'=[]):=by
 unfold Bo at D
 refine Fn.of Tryz.func23 rfl rfl rfl fun w0 I ρ0=>?_
 show Ca _ ⟨w0,I,ρ0,0,0,45⟩ _ _ _
 refine A6 0 8 Az ?_
 refine Ak ?_
 refine Ai fun B=>?_
 refine A6 8 40 B ?_
 refine Ak ?_
 refine Bj rfl rfl (Kq M9 Ku) rfl rfl ?_
 refine Bj rfl rfl (As Hp z5 (by decide) rfl rfl rfl rfl fR (cs:=[.int .u8 ((u8 n).toNat:Int)]) (.cons .int .nil) rfl (l:=([(u8 n)]:List UInt8)) (f:=e8) rfl) rfl rfl ?_
 refine Ak ?_
 refine Ai fun B=>?_
 refine Ah ?_
 refine A6 40 64 B ?_
 refine Ak ?_
 obtain⟨q,hq,D⟩:=Ae D
 refine Bj rfl rfl (Uo hq) rfl rfl ?_
 refine Ak ?_
 refine Ai fun B=>?_
 refine Au ?_
 refine Lu (fun ((x_1,b_1):Int×List UInt8)=>mk [(2,.ptr 0 0),(3,.row 1),(4,vj x_1)] [(0,.box [.val (.int .i64 0),.val (.slice none 0 0),.val (.bool false),.val (.slice none 0 0)] 50),(1,.row 5 1 (An e8 b_1))] 2) D (Ay [(0,0),(1,24)]) ?_
 rintro⟨x_1,b_1⟩ m1 o1 D hn1
 replace D:Bo.l1 x_1 b_1=some o1:=D
 show Ca _ _ _ _ (mk _ _ _)
 unfold Bo.l1 at D
 refine Ah ?_
 refine Bm (ι:=Bool) (fun (x35_2:Bool)=>mk [(2,.ptr 0 0),(3,.row 1),(4,vj x_1),(35,.val (.bool x35_2))] [(0,.box [.val (.int .i64 0),.val (.slice none 0 0),.val (.bool false),.val (.slice none 0 0)] 50),(1,.row 5 1 (An e8 b_1))] 2) (fun (x35_2:Bool)=>Bo.j2 x_1 b_1 x35_2=some o1) ?_ ?_
 ·refine Af (Bi _ _ []) 2 210 Az rfl rfl ?_
  refine Ak ?_
  rcases Eb D with ⟨h4,D⟩ | ⟨h4,D⟩
  ·refine Ak ?_
   rcases Eb D with ⟨h5,D⟩ | ⟨h5,D⟩
   ·refine Ak ?_
    refine Ai fun B=>?_
    exact⟨true,D,Ay [(0,0),(1,1)]⟩
   ·refine Ak ?_
    rcases Eb D with ⟨h7,D⟩ | ⟨h7,D⟩
    ·refine Ak ?_
     obtain⟨e,he,D⟩:=Ae D
     refine Ak ?_
     refine Ff (rd:=[1]) (Cj rfl rfl h7) rfl (.loadR1 N8 (Bf B5 (Aq he) (o:=0) (c:=.int .u8 (e.toNat:Int)) rfl rfl)) rfl rfl ?_
     refine Ak ?_
     rcases Eb D with ⟨h8,D⟩ | ⟨h8,D⟩
     ·refine Ak ?_
      refine Ai fun B=>?_
      exact⟨true,D,Ay [(0,0),(1,1)]⟩
     ·refine Ak ?_
      rcases Eb D with ⟨h10,D⟩ | ⟨h10,D⟩
      ·refine Ak ?_
       refine Ff (rd:=[1]) (Cj rfl rfl h10) rfl (.loadR1 N8 (Bf B5 (Aq he) (o:=0) (c:=.int .u8 (e.toNat:Int)) rfl rfl)) rfl rfl ?_
       refine Ak ?_
       refine Ai fun B=>?_
       exact⟨decide ((e.toNat:Int) < 128),D,Ay [(0,0),(1,1)]⟩
      ·refine Ak ?_
       refine Ai fun B=>?_
       exact⟨false,D,Ay [(0,0),(1,1)]⟩
    ·refine Ak ?_
     rcases Eb D with ⟨h13,D⟩ | ⟨h13,D⟩
     ·refine Ak ?_
      obtain⟨e_2,he_2,D⟩:=Ae D
      refine Ak ?_
      refine Ff (rd:=[1]) (Cj rfl rfl h13) rfl (.loadR1 N8 (Bf B5 (Aq he_2) (o:=0) (c:=.int .u8 (e_2.toNat:Int)) rfl rfl)) rfl rfl ?_
      refine Ak ?_
      refine Ai fun B=>?_
      exact⟨decide ((e_2.toNat:Int) < 128),D,Ay [(0,0),(1,1)]⟩
     ·refine Ak ?_
      refine Ai fun B=>?_
      exact⟨false,D,Ay [(0,0),(1,1)]⟩
  ·refine Ak ?_
   rcases Eb D with ⟨h16,D⟩ | ⟨h16,D⟩
   ·refine Ak ?_
    obtain⟨e_3,he_3,D⟩:=Ae D
    refine Ak ?_
    refine Ff (rd:=[1]) (Cj rfl rfl h16) rfl (.loadR1 N8 (Bf B5 (Aq he_3) (o:=0) (c:=.int .u8 (e_3.toNat:Int)) rfl rfl)) rfl rfl ?_
    refine Ak ?_
    rcases Eb D with ⟨h17,D⟩ | ⟨h17,D⟩
    ·refine Ak ?_
     refine Ai fun B=>?_
     exact⟨true,D,Ay [(0,0),(1,1)]⟩
    ·refine Ak ?_
     rcases Eb D with ⟨h19,D⟩ | ⟨h19,D⟩
     ·refine Ak ?_
      refine Ff (rd:=[1]) (Cj rfl rfl h19) rfl (.loadR1 N8 (Bf B5 (Aq he_3) (o:=0) (c:=.int .u8 (e_3.toNat:Int)) rfl rfl)) rfl rfl ?_
      refine Ak ?_
      refine Ai fun B=>?_
      exact⟨decide ((e_3.toNat:Int) < 128),D,Ay [(0,0),(1,1)]⟩
     ·refine Ak ?_
      refine Ai fun B=>?_
      exact⟨false,D,Ay [(0,0),(1,1)]⟩
   ·refine Ak ?_
    rcases Eb D with ⟨h22,D⟩ | ⟨h22,D⟩
    ·refine Ak ?_
     obtain⟨e_4,he_4,D⟩:=Ae D
     refine Ak ?_
     refine Ff (rd:=[1]) (Cj rfl rfl h22) rfl (.loadR1 N8 (Bf B5 (Aq he_4) (o:=0) (c:=.int .u8 (e_4.toNat:Int)) rfl rfl)) rfl rfl ?_
     refine Ak ?_
     refine Ai fun B=>?_
     exact⟨decide ((e_4.toNat:Int) < 128),D,Ay [(0,0),(1,1)]⟩
    ·refine Ak ?_
     refine Ai fun B=>?_
     exact⟨false,D,Ay [(0,0),(1,1)]⟩
 ·rintro x35_2 D
  replace D:Bo.j2 x_1 b_1 x35_2=some o1:=D
  show Ca _ _ _ _ (mk _ _ _)
  unfold Bo.j2 at D
  refine Dh rfl D (fun h25 D=>?_) fun h25 D=>?_
  ·refine Ao ?_
   repeat first | refine Cw ?_ | refine Cy ?_
   refine Ah ?_
   refine Au ?_
   refine Af (Bi _ _ []) 2 50 Az rfl rfl ?_
   refine Ak ?_
   refine Bj rfl rfl (Kq M9 Ku) rfl rfl ?_
   refine Bj rfl rfl (As Hp z5 (by decide) rfl rfl rfl rfl fR (cs:=[.int .u8 ((u8 x_1).toNat:Int)]) (.cons .int .nil) rfl (l:=([(u8 x_1)]:List UInt8)) (f:=e8) rfl) rfl rfl ?_
   refine Ak ?_
   obtain⟨l,hl,D⟩:=Ae D
   refine Ff (rd:=[18,1]) rfl rfl (Dg Hp B5 .row rfl .row rfl hl rfl) rfl rfl ?_
   refine Ak ?_
   refine Ai fun B=>?_
   refine Af (Bi _ _ []) 50 74 B rfl rfl ?_
   refine Ak ?_
   obtain⟨q_2,hq_2,D⟩:=Ae D
   refine Bj rfl rfl (Uo hq_2) rfl rfl ?_
   refine Ak ?_
   refine Ai fun B=>?_
   obtain rfl:=oi_ D
   exact⟨((q_2,l),m1),aDn _,hn1,Ay [(0,0),(1,34)]⟩
  ·refine B8 ?_
   repeat first | refine Cw ?_ | refine Cy ?_
   replace D:=C5 D hn1
   refine A6 2 26 Az ?_
   refine Ak ?_
   refine Bj rfl rfl (.build (r:=[.val (.int .i64 2),.row 1,.val (.bool false),.val (.slice none 0 0)]) Io Nc Pq (by kernel_rfl) rfl) rfl rfl ?_
   refine Ak ?_
   refine Ai fun B=>?_
   refine A4 ?_
   obtain rfl:=oi_ D
   exact A3 [] ⟨rfl,rfl⟩
theorem K2.F (rec:(List Aa)->Option ((List Aa))) (hrec:∀ (l:(List Aa)) (r:(List Aa)),rec l=some r->Fn Tryz.prog 81 0 [.sl 4 (An Aa.enc l)] [] (fun d' b'=>d'=.sl 4 (An Aa.enc r)/\b'=[])) (l:(List Aa)) (r:(List Aa)) (D:Cb.F rec l=some r):Fn Tryz.prog 81 0 [.sl 4 (An Aa.enc l)] [] (fun d' b'=>d'=.sl 4 (An Aa.enc r)/\b'=[]):=by
 unfold Cb.F at D
 refine Fn.of Tryz.func81 rfl rfl rfl fun w0 I ρ0=>?_
 show Ca _ ⟨w0,I,ρ0,0,0,30⟩ _ _ _
 refine A6 0 8 Az ?_
 refine Ak ?_
 refine Ai fun B=>?_
 refine A6 8 16 B ?_
 refine Ak ?_
 refine Ai fun B=>?_
 refine Ah ?_
 refine A6 16 24 B ?_
 refine Ak ?_
 refine Ai fun B=>?_
 refine Au ?_
 refine Lu (fun ((i_1,out_1):Int×List Aa)=>mk [(0,.sl 4 (An Aa.enc l)),(3,.row 0),(4,vj i_1)] [(0,.row 50 4 (An Aa.enc out_1))] 1) D (Ay []) ?_
 rintro⟨i_1,out_1⟩ m1 o1 D hn1
 replace D:Cb.l1 rec l i_1 out_1=some o1:=D
 show Ca _ _ _ _ (mk _ _ _)
 unfold Cb.l1 at D
 refine Ah ?_
 refine A6 1 33 Az ?_
 refine Ak ?_
 refine Ai fun B=>?_
 refine Dh rfl D (fun h5 D=>?_) fun h5 D=>?_
 ·refine Ao ?_
  repeat first | refine Cw ?_ | refine Cy ?_
  refine Ah ?_
  refine Au ?_
  refine A6 33 81 B ?_
  refine Ak ?_
  obtain⟨e,he,D⟩:=Ae D
  refine Ak ?_
  refine Bj rfl rfl (Dx Nb (Cm Aa.enc_len (Aq he) (o:=0) (m:=4) (cs:=[.int .i64 e.Tag,.sl 1 (An e8 e.Bytes),.bool e.Nested,.sl 4 (An Aa.enc e.Elements)]) (by simp only [Aa.enc_eq]; rfl) (by decide) rfl) (Bn Aa.enc_len (Aq he) (o:=0) (m:=4) (by decide) rfl)) rfl rfl ?_
  refine Ak ?_
  refine Ai fun B=>?_
  refine A6 81 129 B ?_
  refine Bj rfl rfl (As Hp z5 (by decide) rfl rfl rfl rfl fR (cs:=[]) .nil rfl (l:=([]:List UInt8)) (f:=e8) rfl) rfl rfl ?_
  refine Ak ?_
  obtain⟨l_2,hl_2,D⟩:=Ae D
  refine Ff (rd:=[81]) rfl rfl (Dg Hp B5 .row rfl .sl rfl hl_2 rfl) rfl rfl ?_
  refine Ak ?_
  refine Ai fun B=>?_
  refine A6 129 169 B ?_
  refine Ak ?_
  obtain⟨y,hy,D⟩:=Ae D
  refine Ek (hrec _ _ hy) ?_
  refine Ak ?_
  refine Ai fun B=>?_
  refine D1 (σ':=mk [(0,.sl 4 (An Aa.enc l)),(3,.row 0),(4,vj i_1),(5,.ptr 1 0)] [(0,.row 50 4 (An Aa.enc out_1)),(1,.box [vj e.Tag,.sl 1 (An e8 l_2),.val (.bool e.Nested),.sl 4 (An Aa.enc y)] 50)] 2) (Ay [(0,0),(1,65)]) ?_
  refine Af (Bi _ _ []) 2 42 Az rfl rfl ?_
  refine Ak ?_
  refine Bj rfl rfl (As Jz Pq (by decide) rfl rfl rfl rfl Si (cs:=[.int .i64 e.Tag,.sl 1 (An e8 l_2),.bool e.Nested,.sl 4 (An Aa.enc y)]) (.cons .int (.cons .sl (.cons .bool (.cons .sl .nil)))) rfl (l:=([(Aa.mk e.Tag l_2 e.Nested y)]:List Aa)) (f:=Aa.enc) (by simp only [An,aFe,aFo,Aa.enc_eq]; rfl)) rfl rfl ?_
  obtain⟨l_3,hl_3,D⟩:=Ae D
  refine Ff (rd:=[0,18]) rfl rfl (Dg Jz Aa.enc_len .row rfl .row rfl hl_3 rfl) rfl rfl ?_
  refine Ak ?_
  refine Ai fun B=>?_
  refine Af (Bi _ _ []) 42 66 B rfl rfl ?_
  refine Ak ?_
  refine Ai fun B=>?_
  obtain rfl:=oi_ D
  exact⟨((W (i_1 + 1),l_3),m1),aDn _,hn1,Ay [(0,26)]⟩
 ·refine B8 ?_
  repeat first | refine Cw ?_ | refine Cy ?_
  replace D:=C5 D hn1
  refine A6 33 49 B ?_
  refine Ak ?_
  refine Ai fun B=>?_
  refine A4 ?_
  obtain rfl:=oi_ D
  exact A3 [] ⟨rfl,rfl⟩
theorem K2 (l:(List Aa)) (r:(List Aa)) (D:Cb l=some r):Fn Tryz.prog 81 0 [.sl 4 (An Aa.enc l)] [] (fun d' b'=>d'=.sl 4 (An Aa.enc r)/\b'=[]):=
 Kd (motive:=fun (x:(List Aa)) (r:(List Aa))=>Fn Tryz.prog 81 0 [.sl 4 (An Aa.enc x)] [] (fun d' b'=>d'=.sl 4 (An Aa.enc r)/\b'=[])) (fun rec hrec x r h=>K2.F _ (fun l r h=>hrec l r h) x r h) l r D
theorem He (l:(List Aa)) (r:Aa) (D:Dy l=some r):Fn Tryz.prog 34 0 [.sl 4 (An Aa.enc l)] [] (fun d' b'=>d'=.agg (Aa.dv r)/\b'=[]):=by
 unfold Dy at D
 refine Fn.of Tryz.func34 rfl rfl rfl fun w0 I ρ0=>?_
 show Ca _ ⟨w0,I,ρ0,0,0,6⟩ _ _ _
 refine A6 0 8 Az ?_
 refine Ak ?_
 refine Ai fun B=>?_
 refine A6 8 40 B ?_
 refine Ak ?_
 obtain⟨y,hy,D⟩:=Ae D
 refine Ek (K2 _ _ hy) ?_
 refine Bj rfl rfl (.build (r:=[.val (.int .i64 48),.val (.slice none 0 0),.val (.bool true),.sl 4 (An Aa.enc y)]) Io Nc Pq (by kernel_rfl) rfl) rfl rfl ?_
 refine Ak ?_
 refine Ai fun B=>?_
 refine A4 ?_
 obtain rfl:=oi_ D
 exact A3 [] ⟨rfl,rfl⟩
theorem Ve (u:Aw) (r:Aa) (D:Kt u=some r):Fn Tryz.prog 157 0 [.agg [vj u.Alg,vj u.Bits]] [] (fun d' b'=>d'=.agg (Aa.dv r)/\b'=[]):=by
 unfold Kt at D
 refine Fn.of Tryz.func157 rfl rfl rfl fun w0 I ρ0=>?_
 show Ca _ ⟨w0,I,ρ0,0,0,11⟩ _ _ _
 refine A6 0 16 Az ?_
 refine Ak ?_
 refine Ai fun B=>?_
 refine Ah ?_
 refine Cs (Bi _ _ [64]) (by kernel_rfl) [0,1,3,0,8,31,63,127,255] 16 88 B rfl rfl (by kernel_rfl) ?_
 refine Ak ?_
 obtain⟨y,hy,D⟩:=Ae D
 refine Ek (Fp _ _ hy) ?_
 refine Ak ?_
 obtain⟨y_2,hy_2,D⟩:=Ae D
 refine Ek (Fp _ _ hy_2) ?_
 refine O8 (rd:=[]) rfl rfl (As Jz Pq (by decide) rfl rfl rfl rfl Si (cs:=[.int .i64 y.Tag,.sl 1 (An e8 y.Bytes),.bool y.Nested,.sl 4 (An Aa.enc y.Elements),.int .i64 y_2.Tag,.sl 1 (An e8 y_2.Bytes),.bool y_2.Nested,.sl 4 (An Aa.enc y_2.Elements)]) (.cons .int (.cons .sl (.cons .bool (.cons .sl (.cons .int (.cons .sl (.cons .bool (.cons .sl .nil)))))))) rfl (l:=([y,y_2]:List Aa)) (f:=Aa.enc) (by simp only [An,aFe,aFo,Aa.enc_eq]; rfl)) rfl rfl rfl ?_
 obtain⟨y_3,hy_3,D⟩:=Ae D
 refine Ek (He _ _ hy_3) ?_
 refine Ak ?_
 refine Ai fun B=>?_
 refine A4 ?_
 obtain rfl:=oi_ D
 exact A3 [] ⟨rfl,rfl⟩
theorem Sz (b:Bool) (r:Aa) (D:Kx b=some r):Fn Tryz.prog 80 0 [.val (.bool b)] [] (fun d' b'=>d'=.agg (Aa.dv r)/\b'=[]):=by
 unfold Kx at D
 refine Fn.of Tryz.func80 rfl rfl rfl fun w0 I ρ0=>?_
 show Ca _ ⟨w0,I,ρ0,0,0,8⟩ _ _ _
 refine A6 0 8 Az ?_
 refine Ak ?_
 refine Ai fun B=>?_
 refine Ah ?_
 refine A6 8 16 B ?_
 refine Ak ?_
 refine Ai fun B=>?_
 refine Dh rfl D (fun h3 D=>?_) fun h3 D=>?_
 ·refine Ah ?_
  refine Af (Bi _ _ []) 16 40 B rfl rfl ?_
  refine Bj rfl rfl (As Hp z5 (by decide) rfl rfl rfl rfl fR (cs:=[.int .u8 255]) (.cons .int .nil) rfl (l:=([(255:UInt8)]:List UInt8)) (f:=e8) rfl) rfl rfl ?_
  refine Bj rfl rfl (.build (r:=[.val (.int .i64 1),.row 16,.val (.bool false),.val (.slice none 0 0)]) Io Nc Pq (by kernel_rfl) rfl) rfl rfl ?_
  refine Ak ?_
  refine Ai fun B=>?_
  refine A4 ?_
  obtain rfl:=oi_ D
  exact A3 [] ⟨rfl,rfl⟩
 ·refine Ao ?_
  repeat first | refine Cw ?_ | refine Cy ?_
  refine A6 16 40 B ?_
  refine Bj rfl rfl (As Hp z5 (by decide) rfl rfl rfl rfl fR (cs:=[.int .u8 0]) (.cons .int .nil) rfl (l:=([(0:UInt8)]:List UInt8)) (f:=e8) rfl) rfl rfl ?_
  refine Bj rfl rfl (.build (r:=[.val (.int .i64 1),.row 16,.val (.bool false),.val (.slice none 0 0)]) Io Nc Pq (by kernel_rfl) rfl) rfl rfl ?_
  refine Ak ?_
  refine Ai fun B=>?_
  refine A4 ?_
  obtain rfl:=oi_ D
  exact A3 [] ⟨rfl,rfl⟩
theorem S9 (c:Ab) (r:Aa) (D:Db c=some r):Fn Tryz.prog 121 0 [.agg (Ab.dv c)] [] (fun d' b'=>d'=.agg (Aa.dv r)/\b'=[]):=by
 unfold Db at D
 refine Fn.of Tryz.func121 rfl rfl rfl fun w0 I ρ0=>?_
 show Ca _ ⟨w0,I,ρ0,0,0,55⟩ _ _ _
 refine A6 0 16 Az ?_
 refine Ak ?_
 refine Ai fun B=>?_
 refine A6 16 24 B ?_
 refine Ak ?_
 refine Ai fun B=>?_
 refine Ah ?_
 refine A6 24 32 B ?_
 refine Ak ?_
 refine Ai fun B=>?_
 refine Au ?_
 refine Lu (fun ((i_1,names_1):Int×List Aa)=>mk [(1,.ptr 0 0),(2,.ptr 1 0),(3,.row 2),(4,vj i_1)] [(0,.box (Ab.dv c) 67),(1,.box [.val (.int .i64 0),.val (.slice none 0 0),.val (.bool false),.val (.slice none 0 0)] 50),(2,.row 50 4 (An Aa.enc names_1))] 3) D (Ay [(0,0),(1,8)]) ?_
 rintro⟨i_1,names_1⟩ m1 o1 D hn1
 replace D:Db.l1 c i_1 names_1=some o1:=D
 show Ca _ _ _ _ (mk _ _ _)
 unfold Db.l1 at D
 refine Ah ?_
 refine A6 3 43 Az ?_
 refine Ak ?_
 refine Ai fun B=>?_
 refine Dh rfl D (fun h5 D=>?_) fun h5 D=>?_
 ·refine Ao ?_
  repeat first | refine Cw ?_ | refine Cy ?_
  refine Ah ?_
  refine Au ?_
  refine Af (Bi _ _ []) 43 123 B rfl rfl ?_
  refine Ak ?_
  obtain⟨e,he,D⟩:=Ae D
  refine Ak ?_
  refine Bj rfl rfl (Bl Wv (Bf Jo (Aq he) (o:=0) (c:=.str e) rfl rfl)) rfl rfl ?_
  obtain⟨y,hy,D⟩:=Ae D
  refine Ek (Ma _ _ hy) ?_
  refine Bj rfl rfl (As Jz Pq (by decide) rfl rfl rfl rfl Si (cs:=[.int .i64 y.Tag,.sl 1 (An e8 y.Bytes),.bool y.Nested,.sl 4 (An Aa.enc y.Elements)]) (.cons .int (.cons .sl (.cons .bool (.cons .sl .nil)))) rfl (l:=([y]:List Aa)) (f:=Aa.enc) (by simp only [An,aFe,aFo,Aa.enc_eq]; rfl)) rfl rfl ?_
  obtain⟨l,hl,D⟩:=Ae D
  refine Ff (rd:=[2,99]) rfl rfl (Dg Jz Aa.enc_len .row rfl .row rfl hl rfl) rfl rfl ?_
  refine Ak ?_
  refine Ai fun B=>?_
  refine Af (Bi _ _ []) 123 147 B rfl rfl ?_
  refine Ak ?_
  refine Ai fun B=>?_
  obtain rfl:=oi_ D
  exact⟨((W (i_1 + 1),l),m1),aDn _,hn1,Ay [(0,0),(1,1),(2,107)]⟩
 ·refine B8 ?_
  repeat first | refine Cw ?_ | refine Cy ?_
  replace D:=C5 D hn1
  refine Ah ?_
  refine D1 (σ':=mk [(1,.ptr 0 0),(2,.ptr 1 0),(3,.sl 4 (An Aa.enc names_1))] [(0,.box (Ab.dv c) 67),(1,.box [.val (.int .i64 0),.val (.slice none 0 0),.val (.bool false),.val (.slice none 0 0)] 50)] 2) (Ay [(0,0),(1,1)]) ?_
  refine Cs (Bi _ _ [258]) (by kernel_rfl) [0,1,3,0,8,31,0,64,255,0,512,2047,0,4096,16383,0,32768,131071,0,262144,1048575,0,2097152,8388607,0,16777216,67108863,0,134217728,536870911,0,2147483647,4294967295,8589934591,17179869183] 2 282 Az rfl rfl (by kernel_rfl) ?_
  refine Ak ?_
  obtain⟨y_12,hy_12,D⟩:=Ae D
  refine Ek (Fp _ _ hy_12) ?_
  refine Ak ?_
  obtain⟨y_13,hy_13,D⟩:=Ae D
  refine Ek (Ma _ _ hy_13) ?_
  refine Ak ?_
  obtain⟨y_14,hy_14,D⟩:=Ae D
  refine Ek (Ma _ _ hy_14) ?_
  refine Ak ?_
  obtain⟨y_15,hy_15,D⟩:=Ae D
  refine Ek (Ve _ _ hy_15) ?_
  refine Ak ?_
  obtain⟨y_16,hy_16,D⟩:=Ae D
  refine Ek (Fp _ _ hy_16) ?_
  refine Ak ?_
  obtain⟨y_17,hy_17,D⟩:=Ae D
  refine Ek (Ve _ _ hy_17) ?_
  refine Ak ?_
  obtain⟨y_18,hy_18,D⟩:=Ae D
  refine Ek (Fp _ _ hy_18) ?_
  refine Ak ?_
  obtain⟨y_19,hy_19,D⟩:=Ae D
  refine Ek (Fp _ _ hy_19) ?_
  refine Ak ?_
  obtain⟨y_20,hy_20,D⟩:=Ae D
  refine Ek (Sz _ _ hy_20) ?_
  refine Ak ?_
  obtain⟨y_21,hy_21,D⟩:=Ae D
  refine Ek (Fp _ _ hy_21) ?_
  refine Ak ?_
  obtain⟨y_22,hy_22,D⟩:=Ae D
  refine Ek (He _ _ hy_22) ?_
  refine O8 (rd:=[]) rfl rfl (As Jz Pq (by decide) rfl rfl rfl rfl Si (cs:=[.int .i64 y_12.Tag,.sl 1 (An e8 y_12.Bytes),.bool y_12.Nested,.sl 4 (An Aa.enc y_12.Elements),.int .i64 y_13.Tag,.sl 1 (An e8 y_13.Bytes),.bool y_13.Nested,.sl 4 (An Aa.enc y_13.Elements),.int .i64 y_14.Tag,.sl 1 (An e8 y_14.Bytes),.bool y_14.Nested,.sl 4 (An Aa.enc y_14.Elements),.int .i64 y_15.Tag,.sl 1 (An e8 y_15.Bytes),.bool y_15.Nested,.sl 4 (An Aa.enc y_15.Elements),.int .i64 y_16.Tag,.sl 1 (An e8 y_16.Bytes),.bool y_16.Nested,.sl 4 (An Aa.enc y_16.Elements),.int .i64 y_17.Tag,.sl 1 (An e8 y_17.Bytes),.bool y_17.Nested,.sl 4 (An Aa.enc y_17.Elements),.int .i64 y_18.Tag,.sl 1 (An e8 y_18.Bytes),.bool y_18.Nested,.sl 4 (An Aa.enc y_18.Elements),.int .i64 y_19.Tag,.sl 1 (An e8 y_19.Bytes),.bool y_19.Nested,.sl 4 (An Aa.enc y_19.Elements),.int .i64 y_20.Tag,.sl 1 (An e8 y_20.Bytes),.bool y_20.Nested,.sl 4 (An Aa.enc y_20.Elements),.int .i64 y_21.Tag,.sl 1 (An e8 y_21.Bytes),.bool y_21.Nested,.sl 4 (An Aa.enc y_21.Elements),.int .i64 y_22.Tag,.sl 1 (An e8 y_22.Bytes),.bool y_22.Nested,.sl 4 (An Aa.enc y_22.Elements)]) (.cons .int (.cons .sl (.cons .bool (.cons .sl (.cons .int (.cons .sl (.cons .bool (.cons .sl (.cons .int (.cons .sl (.cons .bool (.cons .sl (.cons .int (.cons .sl (.cons .bool (.cons .sl (.cons .int (.cons .sl (.cons .bool (.cons .sl (.cons .int (.cons .sl (.cons .bool (.cons .sl (.cons .int (.cons .sl (.cons .bool (.cons .sl (.cons .int (.cons .sl (.cons .bool (.cons .sl (.cons .int (.cons .sl (.cons .bool (.cons .sl (.cons .int (.cons .sl (.cons .bool (.cons .sl (.cons .int (.cons .sl (.cons .bool (.cons .sl .nil)))))))))))))))))))))))))))))))))))))))))))) rfl (l:=([y_12,y_13,y_14,y_15,y_16,y_17,y_18,y_19,y_20,y_21,y_22]:List Aa)) (f:=Aa.enc) (by simp only [An,aFe,aFo,Aa.enc_eq]; rfl)) rfl rfl rfl ?_
  obtain⟨y_23,hy_23,D⟩:=Ae D
  refine Ek (He _ _ hy_23) ?_
  refine Ak ?_
  refine Ai fun B=>?_
  refine A4 ?_
  obtain rfl:=oi_ D
  exact A3 [] ⟨rfl,rfl⟩
theorem Vu (n:Int) (r:Bool) (D:Kp n=some r):Fn Tryz.prog 97 0 [vj n] [] (fun d' b'=>d'=.val (.bool r)/\b'=[]):=by
 unfold Kp at D
 refine Fn.of Tryz.func97 rfl rfl rfl fun w0 I ρ0=>?_
 show Ca _ ⟨w0,I,ρ0,0,0,14⟩ _ _ _
 refine A6 0 8 Az ?_
 refine Ak ?_
 refine Ai fun B=>?_
 refine A6 8 104 B ?_
 refine Ak ?_
 rcases Eb D with ⟨h2,D⟩ | ⟨h2,D⟩
 ·refine Ak ?_
  rcases Eb D with ⟨h3,D⟩ | ⟨h3,D⟩
  ·refine Ak ?_
   obtain⟨q,hq,D⟩:=Ae D
   refine Bj (Cj rfl rfl h3) rfl (W3 hq) rfl rfl ?_
   refine Ak ?_
   refine Ai fun B=>?_
   refine A4 ?_
   obtain rfl:=oi_ D
   exact A3 [] ⟨rfl,rfl⟩
  ·refine Ak ?_
   refine Ai fun B=>?_
   refine A4 ?_
   obtain rfl:=oi_ D
   exact A3 [] ⟨rfl,rfl⟩
 ·refine Ak ?_
  refine Ai fun B=>?_
  refine A4 ?_
  obtain rfl:=oi_ D
  exact A3 [] ⟨rfl,rfl⟩
theorem Ky.F (rec:Aa->Option (Bool)) (hrec:∀ (v:Aa) (r:Bool),rec v=some r->Fn Tryz.prog 53 0 [.agg (Aa.dv v)] [] (fun d' b'=>d'=.val (.bool r)/\b'=[])) (v:Aa) (r:Bool) (D:Bc.F rec v=some r):Fn Tryz.prog 53 0 [.agg (Aa.dv v)] [] (fun d' b'=>d'=.val (.bool r)/\b'=[]):=by
 unfold Bc.F at D
 refine Fn.of Tryz.func53 rfl rfl rfl fun w0 I ρ0=>?_
 show Ca _ ⟨w0,I,ρ0,0,0,53⟩ _ _ _
 refine A6 0 16 Az ?_
 refine Ak ?_
 refine Ai fun B=>?_
 refine Ah ?_
 refine Bm (ι:=Bool) (fun (x38_1:Bool)=>mk [(1,.ptr 0 0),(38,.val (.bool x38_1))] [(0,.box (Aa.dv v) 50)] 1) (fun (x38_1:Bool)=>Bc.j1 rec v x38_1=some r) ?_ ?_
 ·refine Af (Bi _ _ []) 16 296 B rfl rfl ?_
  refine Ak ?_
  obtain⟨y,hy,D⟩:=Ae D
  refine Ek (Vu _ _ hy) ?_
  refine Ak ?_
  rcases Eb D with ⟨h2,D⟩ | ⟨h2,D⟩
  ·refine Ak ?_
   refine Ai fun B=>?_
   exact⟨true,D,Ay [(0,0)]⟩
  ·refine Ak ?_
   obtain⟨q,hq,D⟩:=Ae D
   refine Bj (Cj rfl rfl h2) rfl (aI hq) rfl rfl ?_
   obtain⟨q_2,hq_2,D⟩:=Ae D
   refine Bj (Cj rfl rfl h2) rfl (W3 hq_2) rfl rfl ?_
   refine Ak ?_
   refine Bj (Cj rfl rfl h2) rfl (iU uU) rfl rfl ?_
   refine Ak ?_
   rcases Eb D with ⟨h4,D⟩ | ⟨h4,D⟩
   ·refine Ak ?_
    refine Ai fun B=>?_
    exact⟨true,D,Ay [(0,0)]⟩
   ·refine Ak ?_
    rcases Eb D with ⟨h6,D⟩ | ⟨h6,D⟩
    ·refine Ak ?_
     rcases Eb D with ⟨h7,D⟩ | ⟨h7,D⟩
     ·refine Ak ?_
      refine Ai fun B=>?_
      exact⟨true,D,Ay [(0,0)]⟩
     ·refine Ak ?_
      refine Ai fun B=>?_
      exact⟨false,D,Ay [(0,0)]⟩
    ·refine Ak ?_
     refine Ai fun B=>?_
     exact⟨decide (0 < (v.Elements.length:Int)),D,Ay [(0,0)]⟩
 ·rintro x38_1 D
  replace D:Bc.j1 rec v x38_1=some r:=D
  show Ca _ _ _ _ (mk _ _ _)
  unfold Bc.j1 at D
  refine Dh rfl D (fun h11 D=>?_) fun h11 D=>?_
  ·refine Ah ?_
   refine Af (Bi _ _ []) 1 9 Az rfl rfl ?_
   refine Ak ?_
   refine Ai fun B=>?_
   refine A4 ?_
   obtain rfl:=oi_ D
   exact A3 [] ⟨rfl,rfl⟩
  ·refine Ao ?_
   repeat first | refine Cw ?_ | refine Cy ?_
   refine Ah ?_
   refine A6 1 9 Az ?_
   refine Ak ?_
   refine Ai fun B=>?_
   refine Au ?_
   refine Lu (fun (i_2:Int)=>mk [(1,.ptr 0 0),(3,vj i_2)] [(0,.box (Aa.dv v) 50)] 1) D (Ay [(0,0)]) ?_
   rintro i_2 m2 o2 D hn2
   replace D:Bc.l2 rec v i_2=some o2:=D
   show Ca _ _ _ _ (mk _ _ _)
   unfold Bc.l2 at D
   refine Ah ?_
   refine A6 1 41 Az ?_
   refine Ak ?_
   refine Ai fun B=>?_
   refine Dh rfl D (fun h15 D=>?_) fun h15 D=>?_
   ·refine Ao ?_
    repeat first | refine Cw ?_ | refine Cy ?_
    refine Ah ?_
    refine Au ?_
    refine A6 41 97 B ?_
    refine Ak ?_
    obtain⟨e,he,D⟩:=Ae D
    refine Ak ?_
    refine Bj rfl rfl (Dx Nb (Cm Aa.enc_len (Aq he) (o:=0) (m:=4) (cs:=[.int .i64 e.Tag,.sl 1 (An e8 e.Bytes),.bool e.Nested,.sl 4 (An Aa.enc e.Elements)]) (by simp only [Aa.enc_eq]; rfl) (by decide) rfl) (Bn Aa.enc_len (Aq he) (o:=0) (m:=4) (by decide) rfl)) rfl rfl ?_
    obtain⟨y_2,hy_2,D⟩:=Ae D
    refine Ek (hrec _ _ hy_2) ?_
    refine Ak ?_
    refine Ai fun B=>?_
    refine Dh rfl D (fun h17 D=>?_) fun h17 D=>?_
    ·refine Ah ?_
     refine Af (Bi _ _ []) 97 105 B rfl rfl ?_
     refine Ak ?_
     refine Ai fun B=>?_
     refine A4 ?_
     replace D:=C5 D hn2
     obtain rfl:=oi_ D
     exact A3 [] ⟨rfl,rfl⟩
    ·refine Ao ?_
     repeat first | refine Cw ?_ | refine Cy ?_
     refine Af (Bi _ _ []) 97 121 B rfl rfl ?_
     refine Ak ?_
     refine Ai fun B=>?_
     obtain rfl:=oi_ D
     exact⟨(W (i_2 + 1),m2),aDn _,hn2,Ay [(0,0)]⟩
   ·refine B8 ?_
    repeat first | refine Cw ?_ | refine Cy ?_
    replace D:=C5 D hn2
    refine A6 41 49 B ?_
    refine Ak ?_
    refine Ai fun B=>?_
    refine A4 ?_
    obtain rfl:=oi_ D
    exact A3 [] ⟨rfl,rfl⟩
theorem Ky (v:Aa) (r:Bool) (D:Bc v=some r):Fn Tryz.prog 53 0 [.agg (Aa.dv v)] [] (fun d' b'=>d'=.val (.bool r)/\b'=[]):=
 Kd (motive:=fun (x:Aa) (r:Bool)=>Fn Tryz.prog 53 0 [.agg (Aa.dv x)] [] (fun d' b'=>d'=.val (.bool r)/\b'=[])) (fun rec hrec x r h=>Ky.F _ (fun v r h=>hrec v r h) x r h) v r D
theorem Ka.F (rec:Aa->Option (Int)) (hrec:∀ (v:Aa) (r:Int),rec v=some r->Fn Tryz.prog 52 0 [.agg (Aa.dv v)] [] (fun d' b'=>d'=vj r/\b'=[])) (v:Aa) (r:Int) (D:Cg.F rec v=some r):Fn Tryz.prog 52 0 [.agg (Aa.dv v)] [] (fun d' b'=>d'=vj r/\b'=[]):=by
 unfold Cg.F at D
 refine Fn.of Tryz.func52 rfl rfl rfl fun w0 I ρ0=>?_
 show Ca _ ⟨w0,I,ρ0,0,0,22⟩ _ _ _
 refine A6 0 16 Az ?_
 refine Ak ?_
 refine Ai fun B=>?_
 refine A6 16 24 B ?_
 refine Ak ?_
 refine Ai fun B=>?_
 refine Ah ?_
 refine A6 24 32 B ?_
 refine Ak ?_
 refine Ai fun B=>?_
 refine Au ?_
 refine Lu (fun ((d_1,i_1):Int×Int)=>mk [(1,.ptr 0 0),(3,vj d_1),(4,vj i_1)] [(0,.box (Aa.dv v) 50)] 1) D (Ay [(0,0)]) ?_
 rintro⟨d_1,i_1⟩ m1 o1 D hn1
 replace D:Cg.l1 rec v d_1 i_1=some o1:=D
 show Ca _ _ _ _ (mk _ _ _)
 unfold Cg.l1 at D
 refine Ah ?_
 refine A6 1 41 Az ?_
 refine Ak ?_
 refine Ai fun B=>?_
 refine Dh rfl D (fun h5 D=>?_) fun h5 D=>?_
 ·refine Ao ?_
  repeat first | refine Cw ?_ | refine Cy ?_
  refine Ah ?_
  refine Au ?_
  refine Af (Bi _ _ []) 41 113 B rfl rfl ?_
  refine Ak ?_
  obtain⟨e,he,D⟩:=Ae D
  refine Ak ?_
  refine Bj rfl rfl (Dx Nb (Cm Aa.enc_len (Aq he) (o:=0) (m:=4) (cs:=[.int .i64 e.Tag,.sl 1 (An e8 e.Bytes),.bool e.Nested,.sl 4 (An Aa.enc e.Elements)]) (by simp only [Aa.enc_eq]; rfl) (by decide) rfl) (Bn Aa.enc_len (Aq he) (o:=0) (m:=4) (by decide) rfl)) rfl rfl ?_
  obtain⟨y,hy,D⟩:=Ae D
  refine Ek (hrec _ _ hy) ?_
  refine Bj rfl rfl wO rfl rfl ?_
  refine Ak ?_
  refine Ai fun B=>?_
  refine Af (Bi _ _ []) 113 137 B rfl rfl ?_
  refine Ak ?_
  refine Ai fun B=>?_
  obtain rfl:=oi_ D
  exact⟨((max d_1 y,W (i_1 + 1)),m1),aDn _,hn1,Ay [(0,0)]⟩
 ·refine B8 ?_
  repeat first | refine Cw ?_ | refine Cy ?_
  replace D:=C5 D hn1
  refine A6 41 65 B ?_
  refine Ak ?_
  refine Ai fun B=>?_
  refine A4 ?_
  obtain rfl:=oi_ D
  exact A3 [] ⟨rfl,rfl⟩
theorem Ka (v:Aa) (r:Int) (D:Cg v=some r):Fn Tryz.prog 52 0 [.agg (Aa.dv v)] [] (fun d' b'=>d'=vj r/\b'=[]):=
 Kd (motive:=fun (x:Aa) (r:Int)=>Fn Tryz.prog 52 0 [.agg (Aa.dv x)] [] (fun d' b'=>d'=vj r/\b'=[])) (fun rec hrec x r h=>Ka.F _ (fun v r h=>hrec v r h) x r h) v r D
theorem Xp (n:Int) (r:(List UInt8)) (D:D9 n=some r):Fn Tryz.prog 98 0 [vj n] [] (fun d' b'=>d'=.sl 1 (An e8 r)/\b'=[]):=by
 unfold D9 at D
 refine Fn.of Tryz.func98 rfl rfl rfl fun w0 I ρ0=>?_
 show Ca _ ⟨w0,I,ρ0,0,0,26⟩ _ _ _
 refine A6 0 8 Az ?_
 refine Ak ?_
 refine Ai fun B=>?_
 refine Ah ?_
 refine A6 8 24 B ?_
 refine Ak ?_
 refine Ai fun B=>?_
 refine Dh rfl D (fun h3 D=>?_) fun h3 D=>?_
 ·refine Ah ?_
  refine Af (Bi _ _ []) 24 56 B rfl rfl ?_
  refine Ak ?_
  refine Bj rfl rfl (Kq M9 Ku) rfl rfl ?_
  refine Bj rfl rfl (As Hp z5 (by decide) rfl rfl rfl rfl fR (cs:=[.int .u8 ((u8 n).toNat:Int)]) (.cons .int .nil) rfl (l:=([(u8 n)]:List UInt8)) (f:=e8) rfl) rfl rfl ?_
  refine Ak ?_
  refine Ai fun B=>?_
  refine A4 ?_
  obtain rfl:=oi_ D
  exact A3 [] ⟨rfl,rfl⟩
 ·refine Ao ?_
  repeat first | refine Cw ?_ | refine Cy ?_
  refine A6 24 32 B ?_
  refine Ak ?_
  refine Ai fun B=>?_
  refine Ah ?_
  refine Au ?_
  refine Lu (fun ((n_1,b_1):Int×List UInt8)=>mk [(0,vj n_1),(3,.row 0)] [(0,.row 5 1 (An e8 b_1))] 1) D (Ay []) ?_
  rintro⟨n_1,b_1⟩ m1 o1 D hn1
  replace D:D9.l1 n_1 b_1=some o1:=D
  show Ca _ _ _ _ (mk _ _ _)
  unfold D9.l1 at D
  refine Ah ?_
  refine A6 1 17 Az ?_
  refine Ak ?_
  refine Ai fun B=>?_
  refine Dh rfl D (fun h7 D=>?_) fun h7 D=>?_
  ·refine Ao ?_
   repeat first | refine Cw ?_ | refine Cy ?_
   refine Au ?_
   refine A6 17 73 B ?_
   refine Ak ?_
   obtain⟨q,hq,D⟩:=Ae D
   refine Bj rfl rfl (W3 hq) rfl rfl ?_
   refine Bj rfl rfl (Kq M9 Ku) rfl rfl ?_
   refine Bj rfl rfl (As Hp z5 (by decide) rfl rfl rfl rfl fR (cs:=[.int .u8 ((u8 q).toNat:Int)]) (.cons .int .nil) rfl (l:=([(u8 q)]:List UInt8)) (f:=e8) rfl) rfl rfl ?_
   refine Ak ?_
   obtain⟨l,hl,D⟩:=Ae D
   refine Ff (rd:=[41,0]) rfl rfl (Dg Hp B5 .row rfl .row rfl hl rfl) rfl rfl ?_
   refine Ak ?_
   refine Ai fun B=>?_
   refine Af (Bi _ _ []) 73 97 B rfl rfl ?_
   refine Ak ?_
   obtain⟨q_2,hq_2,D⟩:=Ae D
   refine Bj rfl rfl (aI hq_2) rfl rfl ?_
   refine Ak ?_
   refine Ai fun B=>?_
   obtain rfl:=oi_ D
   exact⟨((q_2,l),m1),aDn _,hn1,Ay [(0,57)]⟩
  ·refine B8 ?_
   repeat first | refine Cw ?_ | refine Cy ?_
   replace D:=C5 D hn1
   refine A6 17 81 B ?_
   refine Ak ?_
   refine Bj rfl rfl (Kq M9 Ku) rfl rfl ?_
   refine Bj rfl rfl (As Hp z5 (by decide) rfl rfl rfl rfl fR (cs:=[.int .u8 ((u8 (W (128 + (b_1.length:Int)))).toNat:Int)]) (.cons .int .nil) rfl (l:=([(u8 (W (128 + (b_1.length:Int))))]:List UInt8)) (f:=e8) rfl) rfl rfl ?_
   refine Ak ?_
   obtain⟨l_2,hl_2,D⟩:=Ae D
   refine Ff (rd:=[49,0]) rfl rfl (Dg Hp B5 .row rfl .row rfl hl_2 rfl) rfl rfl ?_
   refine Ak ?_
   refine Ai fun B=>?_
   refine A4 ?_
   obtain rfl:=oi_ D
   exact A3 [] ⟨rfl,rfl⟩
theorem L0.F (rec:Aa->Option ((List UInt8))) (hrec:∀ (v:Aa) (r:(List UInt8)),rec v=some r->Fn Tryz.prog 54 0 [.agg (Aa.dv v)] [] (fun d' b'=>d'=.row 0/\b'=[.row 5 1 (An e8 r)])) (v:Aa) (r:(List UInt8)) (D:Dj.F rec v=some r):Fn Tryz.prog 54 0 [.agg (Aa.dv v)] [] (fun d' b'=>d'=.row 0/\b'=[.row 5 1 (An e8 r)]):=by
 unfold Dj.F at D
 refine Fn.of Tryz.func54 rfl rfl rfl fun w0 I ρ0=>?_
 show Ca _ ⟨w0,I,ρ0,0,0,34⟩ _ _ _
 refine A6 0 16 Az ?_
 refine Ak ?_
 refine Ai fun B=>?_
 refine A6 16 56 B ?_
 refine Bj rfl rfl (As Hp z5 (by decide) rfl rfl rfl rfl fR (cs:=[]) .nil rfl (l:=([]:List UInt8)) (f:=e8) rfl) rfl rfl ?_
 refine Ak ?_
 obtain⟨l,hl,D⟩:=Ae D
 refine Ff (rd:=[16]) rfl rfl (Dg Hp B5 .row rfl .sl rfl hl rfl) rfl rfl ?_
 refine Ak ?_
 refine Ai fun B=>?_
 refine Ah ?_
 refine A6 56 64 B ?_
 refine Ak ?_
 refine Ai fun B=>?_
 refine Au ?_
 refine Lu (fun ((i_1,b_1):Int×List UInt8)=>mk [(1,.ptr 0 0),(3,.row 1),(4,vj i_1)] [(0,.box (Aa.dv v) 50),(1,.row 5 1 (An e8 b_1))] 2) D (Ay [(0,0),(1,40)]) ?_
 rintro⟨i_1,b_1⟩ m1 o1 D hn1
 replace D:Dj.l1 rec v i_1 b_1=some o1:=D
 show Ca _ _ _ _ (mk _ _ _)
 unfold Dj.l1 at D
 refine Ah ?_
 refine A6 2 42 Az ?_
 refine Ak ?_
 refine Ai fun B=>?_
 refine Dh rfl D (fun h5 D=>?_) fun h5 D=>?_
 ·refine Ao ?_
  repeat first | refine Cw ?_ | refine Cy ?_
  refine Ah ?_
  refine Au ?_
  refine Af (Bi _ _ []) 42 114 B rfl rfl ?_
  refine Ak ?_
  obtain⟨e,he,D⟩:=Ae D
  refine Ak ?_
  refine Bj rfl rfl (Dx Nb (Cm Aa.enc_len (Aq he) (o:=0) (m:=4) (cs:=[.int .i64 e.Tag,.sl 1 (An e8 e.Bytes),.bool e.Nested,.sl 4 (An Aa.enc e.Elements)]) (by simp only [Aa.enc_eq]; rfl) (by decide) rfl) (Bn Aa.enc_len (Aq he) (o:=0) (m:=4) (by decide) rfl)) rfl rfl ?_
  obtain⟨y,hy,D⟩:=Ae D
  refine Fg (rd:=[]) (ps:=[]) (gs:=[]) false rfl (hrec _ _ hy) rfl rfl (.cons (.agg (.cons .val (.cons .sl (.cons .val (.cons .sl .nil))))) .nil) rfl rfl (by intro h; cases h) rfl (by intro h; first | (cases h; done) | exact⟨_,_,⟨rfl,rfl⟩,by simp,by simp⟩) ?_
  rintro _ _ ⟨rfl,rfl⟩
  obtain⟨l_2,hl_2,D⟩:=Ae D
  refine Ff (rd:=[1,90]) rfl rfl (Dg Hp B5 .row rfl .row rfl hl_2 rfl) rfl rfl ?_
  refine Ak ?_
  refine Ai fun B=>?_
  refine Af (Bi _ _ []) 114 138 B rfl rfl ?_
  refine Ak ?_
  refine Ai fun B=>?_
  obtain rfl:=oi_ D
  exact⟨((W (i_1 + 1),l_2),m1),aDn _,hn1,Ay [(0,0),(1,98)]⟩
 ·refine B8 ?_
  repeat first | refine Cw ?_ | refine Cy ?_
  replace D:=C5 D hn1
  refine Ah ?_
  refine Cs (Bi _ _ []) (by kernel_rfl) [0,1,3,7,0,16,48,127,0,511,1023] 42 130 B rfl rfl (by kernel_rfl) ?_
  refine Ak ?_
  refine Bj rfl rfl (Kq M9 Ku) rfl rfl ?_
  refine Bj rfl rfl (As Hp z5 (by decide) rfl rfl rfl rfl fR (cs:=[.int .u8 ((u8 v.Tag).toNat:Int)]) (.cons .int .nil) rfl (l:=([(u8 v.Tag)]:List UInt8)) (f:=e8) rfl) rfl rfl ?_
  refine Ak ?_
  obtain⟨y_2,hy_2,D⟩:=Ae D
  refine Ek (Xp _ _ hy_2) ?_
  obtain⟨l_3,hl_3,D⟩:=Ae D
  refine Ff (rd:=[66]) rfl rfl (Dg Hp B5 .row rfl .sl rfl hl_3 rfl) rfl rfl ?_
  refine Ak ?_
  obtain⟨l_4,hl_4,D⟩:=Ae D
  refine Ff (rd:=[98,1]) rfl rfl (Dg Hp B5 .row rfl .row rfl hl_4 rfl) rfl rfl ?_
  refine Ak ?_
  refine Ai fun B=>?_
  refine A4 ?_
  obtain rfl:=oi_ D
  exact A3 [(0,114)] ⟨rfl,rfl⟩
theorem L0 (v:Aa) (r:(List UInt8)) (D:Dj v=some r):Fn Tryz.prog 54 0 [.agg (Aa.dv v)] [] (fun d' b'=>d'=.row 0/\b'=[.row 5 1 (An e8 r)]):=
 Kd (motive:=fun (x:Aa) (r:(List UInt8))=>Fn Tryz.prog 54 0 [.agg (Aa.dv x)] [] (fun d' b'=>d'=.row 0/\b'=[.row 5 1 (An e8 r)])) (fun rec hrec x r h=>L0.F _ (fun v r h=>hrec v r h) x r h) v r D
theorem Kj (v:Aa) (r:(List UInt8)×Int) (D:Gq v=some r):Fn Tryz.prog 24 0 [.agg (Aa.dv v)] [] (fun d' b'=>d'=.tup [.row 0,vj r.2]/\b'=[.row 5 1 (An e8 r.1)]):=by
 unfold Gq at D
 refine Fn.of Tryz.func24 rfl rfl rfl fun w0 I ρ0=>?_
 show Ca _ ⟨w0,I,ρ0,0,0,17⟩ _ _ _
 refine A6 0 24 Az ?_
 refine Ak ?_
 refine Ai fun B=>?_
 refine Ah ?_
 refine A6 24 48 B ?_
 refine Ak ?_
 obtain⟨y,hy,D⟩:=Ae D
 refine Ek (Ky _ _ hy) ?_
 refine Ak ?_
 refine Ai fun B=>?_
 refine Dh rfl D (fun h3 D=>?_) fun h3 D=>?_
 ·refine Ah ?_
  refine Af (Bi _ _ []) 48 64 B rfl rfl ?_
  refine Ak ?_
  refine Ai fun B=>?_
  refine A4 ?_
  obtain rfl:=oi_ D
  exact A3 [] ⟨rfl,rfl⟩
 ·refine Ao ?_
  repeat first | refine Cw ?_ | refine Cy ?_
  refine Ah ?_
  refine A6 48 72 B ?_
  refine Ak ?_
  obtain⟨y_2,hy_2,D⟩:=Ae D
  refine Ek (Ka _ _ hy_2) ?_
  refine Ak ?_
  refine Ai fun B=>?_
  refine Dh rfl D (fun h6 D=>?_) fun h6 D=>?_
  ·refine Ah ?_
   refine Af (Bi _ _ []) 72 88 B rfl rfl ?_
   refine Ak ?_
   refine Ai fun B=>?_
   refine A4 ?_
   obtain rfl:=oi_ D
   exact A3 [] ⟨rfl,rfl⟩
  ·refine Ao ?_
   repeat first | refine Cw ?_ | refine Cy ?_
   refine A6 72 96 B ?_
   refine Ak ?_
   obtain⟨y_3,hy_3,D⟩:=Ae D
   refine Fg (rd:=[]) (ps:=[]) (gs:=[]) false rfl (L0 _ _ hy_3) rfl rfl (.cons (.agg (.cons .val (.cons .sl (.cons .val (.cons .sl .nil))))) .nil) rfl rfl (by intro h; cases h) rfl (by intro h; first | (cases h; done) | exact⟨_,_,⟨rfl,rfl⟩,by simp,by simp⟩) ?_
   rintro _ _ ⟨rfl,rfl⟩
   refine Ak ?_
   refine Ai fun B=>?_
   refine Ah ?_
   refine A6 96 120 B ?_
   refine Ak ?_
   refine Ai fun B=>?_
   refine Dh rfl D (fun h10 D=>?_) fun h10 D=>?_
   ·refine Ah ?_
    refine Af (Bi _ _ []) 120 136 B rfl rfl ?_
    refine Ak ?_
    refine Ai fun B=>?_
    refine A4 ?_
    obtain rfl:=oi_ D
    exact A3 [] ⟨rfl,rfl⟩
   ·refine Ao ?_
    repeat first | refine Cw ?_ | refine Cy ?_
    refine A6 120 144 B ?_
    refine Ak ?_
    refine Ai fun B=>?_
    refine A4 ?_
    obtain rfl:=oi_ D
    exact A3 [(0,80)] ⟨rfl,rfl⟩
theorem Y7 (c:Ab) (r:(List UInt8)×Int) (D:I5 c=some r):Fn Tryz.prog 113 0 [.agg (Ab.dv c)] [] (fun d' b'=>d'=.tup [.sl 1 (An e8 r.1),vj r.2]/\b'=[]):=by
 unfold I5 at D
 refine Fn.of Tryz.func113 rfl rfl rfl fun w0 I ρ0=>?_
 show Ca _ ⟨w0,I,ρ0,0,0,12⟩ _ _ _
 refine A6 0 24 Az ?_
 refine Ak ?_
 refine Ai fun B=>?_
 refine Ah ?_
 refine A6 24 48 B ?_
 refine Ak ?_
 obtain⟨y,hy,D⟩:=Ae D
 refine Ek (No _ _ hy) ?_
 refine Ak ?_
 refine Ai fun B=>?_
 refine Dh rfl D (fun h3 D=>?_) fun h3 D=>?_
 ·refine Ah ?_
  refine Af (Bi _ _ []) 48 64 B rfl rfl ?_
  refine Ak ?_
  refine Ai fun B=>?_
  refine A4 ?_
  obtain rfl:=oi_ D
  exact A3 [] ⟨rfl,rfl⟩
 ·refine Ao ?_
  repeat first | refine Cw ?_ | refine Cy ?_
  refine A6 48 104 B ?_
  refine Ak ?_
  obtain⟨y_2,hy_2,D⟩:=Ae D
  refine Ek (S9 _ _ hy_2) ?_
  obtain⟨y_3,hy_3,D⟩:=Ae D
  refine Fg (rd:=[]) (ps:=[]) (gs:=[]) false rfl (Kj _ _ hy_3) rfl rfl (.cons (.agg (.cons .val (.cons .sl (.cons .val (.cons .sl .nil))))) .nil) rfl rfl (by intro h; cases h) rfl (by intro h; first | (cases h; done) | exact⟨_,_,⟨rfl,rfl⟩,by simp,by simp⟩) ?_
  rintro _ _ ⟨rfl,rfl⟩
  refine Ak ?_
  refine Ai fun B=>?_
  refine A4 ?_
  obtain rfl:=oi_ D
  exact A3 [] ⟨rfl,rfl⟩
theorem eM (b:(List UInt8)) (r:Int) (D:Fo b=some r):Fn Tryz.prog 114 0 [.sl 1 (An e8 b)] [] (fun d' b'=>d'=vj r/\b'=[]):=by
 unfold Fo at D
 refine Fn.of Tryz.func114 rfl rfl rfl fun w0 I ρ0=>?_
 show Ca _ ⟨w0,I,ρ0,0,0,21⟩ _ _ _
 refine A6 0 8 Az ?_
 refine Ak ?_
 refine Ai fun B=>?_
 refine A6 8 16 B ?_
 refine Ak ?_
 refine Ai fun B=>?_
 refine Ah ?_
 refine A6 16 24 B ?_
 refine Ak ?_
 refine Ai fun B=>?_
 refine Au ?_
 refine Lu (fun ((h_1,i_1):Int×Int)=>mk [(0,.sl 1 (An e8 b)),(3,.val (.int .u32 h_1)),(4,vj i_1)] [] 0) D (Ay []) ?_
 rintro⟨h_1,i_1⟩ m1 o1 D hn1
 replace D:Fo.l1 b h_1 i_1=some o1:=D
 show Ca _ _ _ _ (mk _ _ _)
 unfold Fo.l1 at D
 refine Ah ?_
 refine A6 0 32 Az ?_
 refine Ak ?_
 refine Ai fun B=>?_
 refine Dh rfl D (fun h5 D=>?_) fun h5 D=>?_
 ·refine Ao ?_
  repeat first | refine Cw ?_ | refine Cy ?_
  refine Ah ?_
  refine Au ?_
  refine Af (Bi _ _ []) 32 104 B rfl rfl ?_
  refine Ak ?_
  obtain⟨e,he,D⟩:=Ae D
  refine Ak ?_
  refine Bj rfl rfl (Bl N8 (Bf B5 (Aq he) (o:=0) (c:=.int .u8 (e.toNat:Int)) rfl rfl)) rfl rfl ?_
  refine Bj rfl rfl (Wq Ku oI) rfl rfl ?_
  refine Bj rfl rfl yX rfl rfl ?_
  refine Bj rfl rfl yS rfl rfl ?_
  refine Ak ?_
  refine Ai fun B=>?_
  refine Af (Bi _ _ []) 104 128 B rfl rfl ?_
  refine Ak ?_
  refine Ai fun B=>?_
  obtain rfl:=oi_ D
  exact⟨((IntKind.wrap .u32 ((Zg .u32 h_1 (IntKind.wrap .u32 (e.toNat:Int))) * 16777619),W (i_1 + 1)),m1),aDn _,hn1,Ay []⟩
 ·refine B8 ?_
  repeat first | refine Cw ?_ | refine Cy ?_
  replace D:=C5 D hn1
  refine A6 32 56 B ?_
  refine Ak ?_
  refine Bj rfl rfl (Sf oI M9) rfl rfl ?_
  refine Ak ?_
  refine Ai fun B=>?_
  refine A4 ?_
  obtain rfl:=oi_ D
  exact A3 [] ⟨rfl,rfl⟩
theorem aS (c:Ab) (key:Int) (r:Ab×Int) (D:E1 c key=some r):Fn Tryz.prog 68 0 [.agg (Ab.dv c),vj key] [] (fun d' b'=>d'=.tup [.agg (Ab.dv r.1),vj r.2]/\b'=[]):=by
 unfold E1 at D
 refine Fn.of Tryz.func68 rfl rfl rfl fun w0 I ρ0=>?_
 show Ca _ ⟨w0,I,ρ0,0,0,35⟩ _ _ _
 refine A6 0 24 Az ?_
 refine Ak ?_
 refine Ai fun B=>?_
 refine A6 24 48 B ?_
 refine Ak ?_
 obtain⟨y,hy,D⟩:=Ae D
 refine Ek (cO _ _ hy) ?_
 refine Ak ?_
 refine Ai fun B=>?_
 refine A6 48 72 B ?_
 refine Bj rfl rfl (.build (r:=[.val (.int .i64 0),.val (.int .i64 0)]) aL vZ z65 (by kernel_rfl) rfl) rfl rfl ?_
 refine Ak ?_
 refine Ai fun B=>?_
 refine Ah ?_
 refine Bm (ι:=Bool) (fun (x22_1:Bool)=>mk [(1,vj key),(2,.ptr 0 0),(4,.ptr 1 0),(22,.val (.bool x22_1))] [(0,.box [vj y.Serial,vk y.Issuer,vk y.Subject,vj y.Key.Alg,vj y.Key.Bits,vj y.KeyId,vj y.Hash.Alg,vj y.Hash.Bits,vj y.From,vj y.To,.val (.bool y.Authority),vj y.Path,.sl 1 (An eS y.Names),.val (.int .i64 0),.val (.int .i64 0)] 67),(1,.box [.val (.int .i64 0),.val (.string (⟨#[]⟩:ByteArray)),.val (.string (⟨#[]⟩:ByteArray)),.val (.int .i64 0),.val (.int .i64 0),.val (.int .i64 0),.val (.int .i64 0),.val (.int .i64 0),.val (.int .i64 0),.val (.int .i64 0),.val (.bool false),.val (.int .i64 0),.val (.slice none 0 0),.val (.int .i64 0),.val (.int .i64 0)] 67)] 2) (fun (x22_1:Bool)=>E1.j1 key y x22_1=some r) ?_ ?_
 ·refine Af (Bi _ _ []) 72 160 B rfl rfl ?_
  refine Ak ?_
  obtain⟨y_2,hy_2,D⟩:=Ae D
  refine Ek (No _ _ hy_2) ?_
  refine Ak ?_
  rcases Eb D with ⟨h4,D⟩ | ⟨h4,D⟩
  ·refine Ak ?_
   refine Ai fun B=>?_
   exact⟨true,D,Ay [(0,0),(1,8)]⟩
  ·refine Ak ?_
   rcases Eb D with ⟨h6,D⟩ | ⟨h6,D⟩
   ·refine Ak ?_
    refine Ai fun B=>?_
    exact⟨true,D,Ay [(0,0),(1,8)]⟩
   ·refine Ak ?_
    refine Ai fun B=>?_
    exact⟨decide (2147483648 < key),D,Ay [(0,0),(1,8)]⟩
 ·rintro x22_1 D
  replace D:E1.j1 key y x22_1=some r:=D
  show Ca _ _ _ _ (mk _ _ _)
  unfold E1.j1 at D
  refine Dh rfl D (fun h9 D=>?_) fun h9 D=>?_
  ·refine Ah ?_
   refine Af (Bi _ _ []) 2 26 Az rfl rfl ?_
   refine Bj rfl rfl (.build (r:=[.val (.int .i64 0),.val (.string (⟨#[]⟩:ByteArray)),.val (.string (⟨#[]⟩:ByteArray)),.val (.int .i64 0),.val (.int .i64 0),.val (.int .i64 0),.val (.int .i64 0),.val (.int .i64 0),.val (.int .i64 0),.val (.int .i64 0),.val (.bool false),.val (.int .i64 0),.val (.slice none 0 0),.val (.int .i64 0),.val (.int .i64 0)]) L3 tM sX (by kernel_rfl) rfl) rfl rfl ?_
   refine Ak ?_
   refine Ai fun B=>?_
   refine A4 ?_
   obtain rfl:=oi_ D
   exact A3 [] ⟨rfl,rfl⟩
  ·refine Ao ?_
   repeat first | refine Cw ?_ | refine Cy ?_
   refine A6 2 58 Az ?_
   refine Ak ?_
   obtain⟨y_3,hy_3,D⟩:=Ae D
   refine Ek (Y7 _ _ hy_3) ?_
   refine Ak ?_
   refine Ai fun B=>?_
   refine A6 58 106 B ?_
   refine Ak ?_
   obtain⟨y_4,hy_4,D⟩:=Ae D
   refine Ek (eM _ _ hy_4) ?_
   refine Bj rfl rfl (.build (r:=[vj key,vj y_4]) aL vZ z65 (by kernel_rfl) rfl) rfl rfl ?_
   refine Ak ?_
   refine Ai fun B=>?_
   refine A6 106 130 B ?_
   refine Ak ?_
   refine Ai fun B=>?_
   refine A4 ?_
   obtain rfl:=oi_ D
   exact A3 [] ⟨rfl,rfl⟩
theorem M2 (d:Al) (issuer:ByteArray) (subject:ByteArray) (key:Aw) (id:Int) (signer:Int) (authority:Bool) (r:Ab×Al) (D:Bw d issuer subject key id signer authority=some r):Fn Tryz.prog 29 1 [.ptr 0 0,vk issuer,vk subject,.agg [vj key.Alg,vj key.Bits],vj id,vj signer,.val (.bool authority)] [.box [.sl 1 (An eI d.L),vj d.At] 59] (fun d' b'=>d'=.agg (Ab.dv r.1)/\b'=[.box [.sl 1 (An eI r.2.L),vj r.2.At] 59]):=by
 unfold Bw at D
 refine Fn.of Tryz.func29 rfl rfl rfl fun w0 I ρ0=>?_
 show Ca _ ⟨w0,I,ρ0,1,1,58⟩ _ _ _
 refine A6 1 17 Az ?_
 refine Ak ?_
 refine Ai fun B=>?_
 refine Ah ?_
 refine Cs (Bi _ _ [73,105,129]) (by kernel_rfl) [0,1,0,0,0,0,0,0,195,451,0,0,3523,0,0,32195,0,131071,0,524287] 17 177 B rfl rfl (by kernel_rfl) ?_
 refine Ak ?_
 obtain⟨y,hy,D⟩:=Ae D
 refine Hc [0] [0] [] false (Hk _ _ _ hy) ?_
 refine Ak ?_
 refine O8 (rd:=[]) rfl rfl (As Hf z3 (by decide) rfl rfl rfl rfl Mm (cs:=[.int .i64 3,.int .i64 2,.int .i64 4,.int .i64 1]) (.cons .int (.cons .int (.cons .int (.cons .int .nil)))) rfl (l:=([3,2,4,1]:List Int)) (f:=eI) rfl) rfl rfl rfl ?_
 obtain⟨y_2,hy_2,D⟩:=Ae D
 refine Hc [0] [0] [] false (Ei _ _ _ hy_2) ?_
 refine Bj rfl rfl (.build (r:=[vj y_2.1,.val (.int .i64 0)]) Vs nT z37 (by kernel_rfl) rfl) rfl rfl ?_
 refine Ak ?_
 refine O8 (rd:=[]) rfl rfl (As Hf z3 (by decide) rfl rfl rfl rfl Mm (cs:=[.int .i64 0,.int .i64 5,.int .i64 10]) (.cons .int (.cons .int (.cons .int .nil))) rfl (l:=([0,5,10]:List Int)) (f:=eI) rfl) rfl rfl rfl ?_
 obtain⟨y_3,hy_3,D⟩:=Ae D
 refine Hc [0] [0] [] false (Ei _ _ _ hy_3) ?_
 refine Ak ?_
 refine O8 (rd:=[]) rfl rfl (As Hf z3 (by decide) rfl rfl rfl rfl Mm (cs:=[.int .i64 1000,.int .i64 100,.int .i64 50,.int .i64 20]) (.cons .int (.cons .int (.cons .int (.cons .int .nil)))) rfl (l:=([1000,100,50,20]:List Int)) (f:=eI) rfl) rfl rfl rfl ?_
 obtain⟨y_4,hy_4,D⟩:=Ae D
 refine Hc [0] [0] [] false (Ei _ _ _ hy_4) ?_
 refine Ak ?_
 refine Bj rfl rfl (.build (r:=[vj y.1,vk issuer,vk subject,vj key.Alg,vj key.Bits,vj id,vj y_2.1,.val (.int .i64 0),vj y_3.1,vj y_4.1,.val (.bool authority),.val (.int .i64 0),.val (.slice none 0 0),.val (.int .i64 0),.val (.int .i64 0)]) L3 tM sX (by kernel_rfl) rfl) rfl rfl ?_
 refine Ak ?_
 refine Ai fun B=>?_
 refine Bm (ι:=Al×Int) (fun ((d_1,c_1):Al×Int)=>mk [(0,.ptr 0 0),(2,vk subject),(5,vj signer),(14,.ptr 1 0),(15,.ptr 2 0)] [(0,.box [.sl 1 (An eI d_1.L),vj d_1.At] 59),(1,.box [.val (.int .i64 0),.val (.string (⟨#[]⟩:ByteArray)),.val (.string (⟨#[]⟩:ByteArray)),.val (.int .i64 0),.val (.int .i64 0),.val (.int .i64 0),.val (.int .i64 0),.val (.int .i64 0),.val (.int .i64 0),.val (.int .i64 0),.val (.bool false),.val (.int .i64 0),.val (.slice none 0 0),.val (.int .i64 0),.val (.int .i64 0)] 67),(2,.box [vj y.1,vk issuer,vk subject,vj key.Alg,vj key.Bits,vj id,vj y_2.1,.val (.int .i64 0),vj y_3.1,vj y_4.1,.val (.bool authority),vj c_1,.val (.slice none 0 0),.val (.int .i64 0),.val (.int .i64 0)] 67)] 3) (fun ((d_1,c_1):Al×Int)=>Bw.j1 issuer subject key id signer authority y y_2 y_3 y_4 d_1 c_1=some r) ?_ ?_
 ·refine Ah ?_
  refine Af (Bi _ _ []) 177 185 B rfl rfl ?_
  refine Ak ?_
  refine Ai fun B=>?_
  refine Dh rfl D (fun h4 D=>?_) fun h4 D=>?_
  ·refine Af (Bi _ _ [193]) 185 225 B rfl rfl ?_
   refine Ak ?_
   refine O8 (rd:=[]) rfl rfl (As Hf z3 (by decide) rfl rfl rfl rfl Mm (cs:=[.int .i64 3,.int .i64 0,.int .i64 1]) (.cons .int (.cons .int (.cons .int .nil))) rfl (l:=([3,0,1]:List Int)) (f:=eI) rfl) rfl rfl rfl ?_
   obtain⟨y_5,hy_5,D⟩:=Ae D
   refine Hc [0] [0] [] false (Ei _ _ _ hy_5) ?_
   refine Ak ?_
   refine Ai fun B=>?_
   exact⟨(y_5.2,y_5.1),D,Ay [(0,0),(1,9),(2,161)]⟩
  ·refine Ao ?_
   repeat first | refine Cw ?_ | refine Cy ?_
   exact⟨(y_4.2,0),D,Ay [(0,0),(1,9),(2,161)]⟩
 ·rintro⟨d_1,c_1⟩ D
  replace D:Bw.j1 issuer subject key id signer authority y y_2 y_3 y_4 d_1 c_1=some r:=D
  show Ca _ _ _ _ (mk _ _ _)
  unfold Bw.j1 at D
  refine A6 3 35 Az ?_
  refine Ak ?_
  refine Bj rfl rfl (As Tz z9 (by decide) rfl rfl rfl rfl wP (cs:=[.str subject]) (.cons .str .nil) rfl (l:=([subject]:List ByteArray)) (f:=eS) rfl) rfl rfl ?_
  refine Ak ?_
  refine Ai fun B=>?_
  refine Bm (ι:=Al×List ByteArray) (fun ((b_2,l_2):Al×List ByteArray)=>mk [(5,vj signer),(14,.ptr 1 0),(15,.ptr 2 0)] [(0,.box [.sl 1 (An eI b_2.L),vj b_2.At] 59),(1,.box [.val (.int .i64 0),.val (.string (⟨#[]⟩:ByteArray)),.val (.string (⟨#[]⟩:ByteArray)),.val (.int .i64 0),.val (.int .i64 0),.val (.int .i64 0),.val (.int .i64 0),.val (.int .i64 0),.val (.int .i64 0),.val (.int .i64 0),.val (.bool false),.val (.int .i64 0),.val (.slice none 0 0),.val (.int .i64 0),.val (.int .i64 0)] 67),(2,.box [vj y.1,vk issuer,vk subject,vj key.Alg,vj key.Bits,vj id,vj y_2.1,.val (.int .i64 0),vj y_3.1,vj y_4.1,.val (.bool authority),vj c_1,.row 3,.val (.int .i64 0),.val (.int .i64 0)] 67),(3,.row 9 1 (An eS l_2))] 4) (fun ((b_2,l_2):Al×List ByteArray)=>Bw.j2 issuer subject key id signer authority y y_2 y_3 y_4 c_1 b_2 l_2=some r) ?_ ?_
  ·refine Ah ?_
   refine Af (Bi _ _ []) 35 51 B rfl rfl ?_
   refine Ak ?_
   obtain⟨y_6,hy_6,D⟩:=Ae D
   refine Hc [0] [0] [] false (Lz _ _ _ hy_6) ?_
   refine Ai fun B=>?_
   refine Dh rfl D (fun h8 D=>?_) fun h8 D=>?_
   ·refine Af (Bi _ _ []) 51 115 B rfl rfl ?_
    refine Ak ?_
    obtain⟨s,hs,D⟩:=Ae D
    refine Bj rfl rfl (aCn hs) rfl rfl ?_
    refine Bj rfl rfl (As Tz z9 (by decide) rfl rfl rfl rfl wP (cs:=[.str s]) (.cons .str .nil) rfl (l:=([s]:List ByteArray)) (f:=eS) rfl) rfl rfl ?_
    obtain⟨l,hl,D⟩:=Ae D
    refine Ff (rd:=[11,83]) rfl rfl (Dg Tz Jo .row rfl .row rfl hl rfl) rfl rfl ?_
    refine Ak ?_
    refine Ai fun B=>?_
    exact⟨(y_6.2,l),D,Ay [(0,0),(1,1),(2,2),(3,91)]⟩
   ·refine Ao ?_
    repeat first | refine Cw ?_ | refine Cy ?_
    exact⟨(y_6.2,([subject]:List ByteArray)),D,Ay [(0,0),(1,1),(2,2),(3,11)]⟩
  ·rintro⟨b_2,l_2⟩ D
   replace D:Bw.j2 issuer subject key id signer authority y y_2 y_3 y_4 c_1 b_2 l_2=some r:=D
   show Ca _ _ _ _ (mk _ _ _)
   unfold Bw.j2 at D
   refine Ah ?_
   refine D1 (σ':=mk [(5,vj signer),(14,.ptr 1 0),(15,.ptr 2 0)] [(0,.box [.sl 1 (An eI b_2.L),vj b_2.At] 59),(1,.box [.val (.int .i64 0),.val (.string (⟨#[]⟩:ByteArray)),.val (.string (⟨#[]⟩:ByteArray)),.val (.int .i64 0),.val (.int .i64 0),.val (.int .i64 0),.val (.int .i64 0),.val (.int .i64 0),.val (.int .i64 0),.val (.int .i64 0),.val (.bool false),.val (.int .i64 0),.val (.slice none 0 0),.val (.int .i64 0),.val (.int .i64 0)] 67),(2,.box [vj y.1,vk issuer,vk subject,vj key.Alg,vj key.Bits,vj id,vj y_2.1,.val (.int .i64 0),vj y_3.1,vj y_4.1,.val (.bool authority),vj c_1,.sl 1 (An eS l_2),.val (.int .i64 0),.val (.int .i64 0)] 67)] 3) (Ay [(0,0),(1,1),(2,2)]) ?_
   refine Af (Bi _ _ []) 3 59 Az rfl rfl ?_
   refine Ak ?_
   obtain⟨y_7,hy_7,D⟩:=Ae D
   refine Ek (aS _ _ _ hy_7) ?_
   refine Ak ?_
   refine Ai fun B=>?_
   refine A6 59 75 B ?_
   refine Ak ?_
   refine Ai fun B=>?_
   refine A4 ?_
   obtain rfl:=oi_ D
   exact A3 [(0,0)] ⟨rfl,rfl⟩
end Go.Proofs.YtfanepojdefdpaaGreat
