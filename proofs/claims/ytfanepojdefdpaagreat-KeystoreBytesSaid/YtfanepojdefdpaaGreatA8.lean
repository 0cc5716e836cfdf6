import Derived.Test.YtfanepojdefdpaaGreatT1
import Derived.Test.YtfanepojdefdpaaGreatA2
import Derived.Test.YtfanepojdefdpaaGreatA4
import Derived.Test.YtfanepojdefdpaaGreatA5
import Derived.Test.YtfanepojdefdpaaGreatA6
import Derived.Test.YtfanepojdefdpaaGreatA7
set_option linter.unusedVariables false
set_option linter.unusedSimpArgs false
set_option maxRecDepth 100000
set_option maxHeartbeats 1600000
namespace Go.Proofs.YtfanepojdefdpaaGreat
open Go.RowKit
theorem Uc (v:Aa) (r:Ac×Bool) (D:D6 v=some r):Fn Tryz.prog 57 0 [.agg (Aa.dv v)] [] (fun d' b'=>d'=.tup [.agg (Ac.dv r.1),.val (.bool r.2)]/\b'=[]):=by
 unfold D6 at D
 refine Fn.of Tryz.func57 rfl rfl rfl fun w0 I ρ0=>?_
 show Ca _ ⟨w0,I,ρ0,0,0,49⟩ _ _ _
 refine A6 0 24 Az ?_
 refine Ak ?_
 refine Ai fun B=>?_
 refine A6 24 48 B ?_
 refine Ak ?_
 obtain⟨y,hy,D⟩:=Ae D
 refine Fg (rd:=[]) (ps:=[]) (gs:=[]) false rfl (Hl _ _ _ hy) rfl rfl (.cons (.agg (.cons .val (.cons .sl (.cons .val (.cons .sl .nil))))) (.cons .val .nil)) rfl rfl (by intro h; cases h) rfl (by intro h; first | (cases h; done) | exact⟨_,_,⟨rfl,rfl⟩,by simp,by simp⟩) ?_
 rintro _ _ ⟨rfl,rfl⟩
 refine Ak ?_
 refine Ai fun B=>?_
 refine A6 48 136 B ?_
 refine Ak ?_
 obtain⟨y_2,hy_2,D⟩:=Ae D
 refine Hc [32] [32] [] false (Hu _ _ hy_2) ?_
 refine Ak ?_
 obtain⟨y_3,hy_3,D⟩:=Ae D
 refine Hc [32] [32] [] false (H5 _ _ hy_3) ?_
 refine Ak ?_
 obtain⟨y_4,hy_4,D⟩:=Ae D
 refine Hc [32] [32] [] false (C6 _ _ hy_4) ?_
 refine Ak ?_
 obtain⟨y_5,hy_5,D⟩:=Ae D
 refine Hc [32] [32] [] false (J3 _ _ hy_5) ?_
 refine Bj rfl rfl (.build (r:=[vk y_2.1,vj y_3.1.Alg,vj y_3.1.Bits,vj y_4.1,.val (.bool y_5.1),.val (.slice none 0 0)]) Nj bH dI (by kernel_rfl) rfl) rfl rfl ?_
 refine Ak ?_
 refine Ai fun B=>?_
 refine Ah ?_
 refine A6 136 168 B ?_
 refine Ak ?_
 obtain⟨y_6,hy_6,D⟩:=Ae D
 refine Hc [32] [32] [] false (J5 _ _ hy_6) ?_
 refine Ak ?_
 refine Ai fun B=>?_
 refine Au ?_
 refine Lu (fun ((x24_1,l_1):Int×List Ab)=>mk [(2,.ptr 0 0),(4,.ptr 1 0),(5,.ptr 2 0),(22,.sl 4 (An Aa.enc y_6.1)),(23,.val (.int .i64 (y_6.1.length:Int))),(24,vj x24_1)] [(0,.box [.val (.string (⟨#[]⟩:ByteArray)),.val (.int .i64 0),.val (.int .i64 0),.val (.int .i64 0),.val (.bool false),.val (.slice none 0 0)] 40),(1,.box [.sl 4 (An Aa.enc y_6.2.l),.val (.bool y_6.2.Failed)] 131),(2,.box [vk y_2.1,vj y_3.1.Alg,vj y_3.1.Bits,vj y_4.1,.val (.bool y_5.1),.row 3] 40),(3,.row 67 15 (An Ab.enc l_1))] 4) D (Ay [(0,8),(1,32),(2,120)]) ?_
 rintro⟨x24_1,l_1⟩ m1 o1 D hn1
 replace D:D6.l1 y_2 y_3 y_4 y_5 y_6 x24_1 l_1=some o1:=D
 show Ca _ _ _ _ (mk _ _ _)
 unfold D6.l1 at D
 refine A6 4 12 Az ?_
 refine Ak ?_
 refine Ai fun B=>?_
 refine Ah ?_
 refine Dh rfl D (fun h6 D=>?_) fun h6 D=>?_
 ·refine Ao ?_
  repeat first | refine Cw ?_ | refine Cy ?_
  refine Ah ?_
  refine Au ?_
  refine A6 12 44 B ?_
  obtain⟨e,he,D⟩:=Ae D
  refine Ak ?_
  refine Bj rfl rfl (Dx Nb (Cm Aa.enc_len (Aq he) (o:=0) (m:=4) (cs:=[.int .i64 e.Tag,.sl 1 (An e8 e.Bytes),.bool e.Nested,.sl 4 (An Aa.enc e.Elements)]) (by simp only [Aa.enc_eq]; rfl) (by decide) rfl) (Bn Aa.enc_len (Aq he) (o:=0) (m:=4) (by decide) rfl)) rfl rfl ?_
  refine Ak ?_
  refine Ai fun B=>?_
  refine A6 44 108 B ?_
  refine Ak ?_
  obtain⟨y_7,hy_7,D⟩:=Ae D
  refine Ek (Rm _ _ hy_7) ?_
  refine Ak ?_
  refine Ai fun B=>?_
  refine Ah ?_
  refine A6 108 124 B ?_
  refine Ak ?_
  refine Ai fun B=>?_
  refine Dh rfl D (fun h10 D=>?_) fun h10 D=>?_
  ·refine Ah ?_
   refine Af (Bi _ _ []) 124 148 B rfl rfl ?_
   refine Bj rfl rfl (.build (r:=[.val (.string (⟨#[]⟩:ByteArray)),.val (.int .i64 0),.val (.int .i64 0),.val (.int .i64 0),.val (.bool false),.val (.slice none 0 0)]) Nj bH dI (by kernel_rfl) rfl) rfl rfl ?_
   refine Ak ?_
   refine Ai fun B=>?_
   refine A4 ?_
   replace D:=C5 D hn1
   obtain rfl:=oi_ D
   exact A3 [] ⟨rfl,rfl⟩
  ·refine Ao ?_
   repeat first | refine Cw ?_ | refine Cy ?_
   refine Af (Bi _ _ []) 124 180 B rfl rfl ?_
   refine Ak ?_
   refine Bj rfl rfl (As W4 sX (by decide) rfl rfl rfl rfl sQ (cs:=(Ab.ec y_7.1)) (.cons .int (.cons .str (.cons .str (.cons .int (.cons .int (.cons .int (.cons .int (.cons .int (.cons .int (.cons .int (.cons .bool (.cons .int (.cons .sl (.cons .int (.cons .int .nil))))))))))))))) rfl (l:=([y_7.1]:List Ab)) (f:=Ab.enc) rfl) rfl rfl ?_
   obtain⟨l,hl,D⟩:=Ae D
   refine Ff (rd:=[3,148]) rfl rfl (Dg W4 Ab.enc_len .row rfl .row rfl hl rfl) rfl rfl ?_
   refine Ak ?_
   refine Ai fun B=>?_
   refine Af (Bi _ _ []) 180 196 B rfl rfl ?_
   refine Ak ?_
   refine Ai fun B=>?_
   obtain rfl:=oi_ D
   exact⟨((W (x24_1 + 1),l),m1),aDn _,hn1,Ay [(0,0),(1,1),(2,2),(3,156)]⟩
 ·refine B8 ?_
  repeat first | refine Cw ?_ | refine Cy ?_
  replace D:=C5 D hn1
  refine Ah ?_
  refine Cs (Bi _ _ []) (by kernel_rfl) [0,0,2,6,14,30,1,127] 12 76 B rfl rfl (by kernel_rfl) ?_
  refine Ak ?_
  refine Ai fun B=>?_
  refine A4 ?_
  obtain rfl:=oi_ D
  exact A3 [] ⟨rfl,rfl⟩
theorem Tr (b:(List UInt8)) (r:(List Ac)×Int) (D:Du b=some r):Fn Tryz.prog 25 0 [.sl 1 (An e8 b)] [] (fun d' b'=>d'=.tup [.sl 6 (An Ac.enc r.1),vj r.2]/\b'=[]):=by
 unfold Du at D
 refine Fn.of Tryz.func25 rfl rfl rfl fun w0 I ρ0=>?_
 show Ca _ ⟨w0,I,ρ0,0,0,49⟩ _ _ _
 refine A6 0 16 Az ?_
 refine Ak ?_
 refine Ai fun B=>?_
 refine A6 16 80 B ?_
 refine Ak ?_
 obtain⟨y,hy,D⟩:=Ae D
 refine Ek (bV _ _ hy) ?_
 refine Ak ?_
 refine Ai fun B=>?_
 refine Ah ?_
 refine A6 80 96 B ?_
 refine Ak ?_
 refine Ai fun B=>?_
 refine Dh rfl D (fun h4 D=>?_) fun h4 D=>?_
 ·refine Ah ?_
  refine Af (Bi _ _ []) 96 120 B rfl rfl ?_
  refine Ak ?_
  refine Ai fun B=>?_
  refine A4 ?_
  obtain rfl:=oi_ D
  exact A3 [] ⟨rfl,rfl⟩
 ·refine Ao ?_
  repeat first | refine Cw ?_ | refine Cy ?_
  refine A6 96 152 B ?_
  refine Ak ?_
  obtain⟨y_2,hy_2,D⟩:=Ae D
  refine Ek (Pc _ _ hy_2) ?_
  refine Ak ?_
  refine Ai fun B=>?_
  refine Ah ?_
  refine A6 152 168 B ?_
  refine Ak ?_
  refine Ai fun B=>?_
  refine Dh rfl D (fun h8 D=>?_) fun h8 D=>?_
  ·refine Ah ?_
   refine Af (Bi _ _ []) 168 184 B rfl rfl ?_
   refine Ak ?_
   refine Ai fun B=>?_
   refine A4 ?_
   obtain rfl:=oi_ D
   exact A3 [] ⟨rfl,rfl⟩
  ·refine Ao ?_
   repeat first | refine Cw ?_ | refine Cy ?_
   refine A6 168 176 B ?_
   refine Ak ?_
   refine Ai fun B=>?_
   refine Ah ?_
   refine A6 176 200 B ?_
   refine Ak ?_
   refine Ai fun B=>?_
   refine Au ?_
   refine Lu (fun ((x29_1,out_1):Int×List Ac)=>mk [(7,.row 0),(27,.sl 4 (An Aa.enc y_2.1)),(28,.val (.int .i64 (y_2.1.length:Int))),(29,vj x29_1)] [(0,.row 40 6 (An Ac.enc out_1))] 1) D (Ay []) ?_
   rintro⟨x29_1,out_1⟩ m1 o1 D hn1
   replace D:Du.l1 y_2 x29_1 out_1=some o1:=D
   show Ca _ _ _ _ (mk _ _ _)
   unfold Du.l1 at D
   refine A6 1 9 Az ?_
   refine Ak ?_
   refine Ai fun B=>?_
   refine Ah ?_
   refine Dh rfl D (fun h13 D=>?_) fun h13 D=>?_
   ·refine Ao ?_
    repeat first | refine Cw ?_ | refine Cy ?_
    refine Ah ?_
    refine Au ?_
    refine A6 9 41 B ?_
    obtain⟨e,he,D⟩:=Ae D
    refine Ak ?_
    refine Bj rfl rfl (Dx Nb (Cm Aa.enc_len (Aq he) (o:=0) (m:=4) (cs:=[.int .i64 e.Tag,.sl 1 (An e8 e.Bytes),.bool e.Nested,.sl 4 (An Aa.enc e.Elements)]) (by simp only [Aa.enc_eq]; rfl) (by decide) rfl) (Bn Aa.enc_len (Aq he) (o:=0) (m:=4) (by decide) rfl)) rfl rfl ?_
    refine Ak ?_
    refine Ai fun B=>?_
    refine A6 41 105 B ?_
    refine Ak ?_
    obtain⟨y_3,hy_3,D⟩:=Ae D
    refine Ek (Uc _ _ hy_3) ?_
    refine Ak ?_
    refine Ai fun B=>?_
    refine Ah ?_
    refine A6 105 121 B ?_
    refine Ak ?_
    refine Ai fun B=>?_
    refine Dh rfl D (fun h17 D=>?_) fun h17 D=>?_
    ·refine Ah ?_
     refine Af (Bi _ _ []) 121 137 B rfl rfl ?_
     refine Ak ?_
     refine Ai fun B=>?_
     refine A4 ?_
     replace D:=C5 D hn1
     obtain rfl:=oi_ D
     exact A3 [] ⟨rfl,rfl⟩
    ·refine Ao ?_
     repeat first | refine Cw ?_ | refine Cy ?_
     refine Af (Bi _ _ []) 121 161 B rfl rfl ?_
     refine Ak ?_
     refine Bj rfl rfl (As P6 dI (by decide) rfl rfl rfl rfl gA (cs:=(Ac.ec y_3.1)) (.cons .str (.cons .int (.cons .int (.cons .int (.cons .bool (.cons .sl .nil)))))) rfl (l:=([y_3.1]:List Ac)) (f:=Ac.enc) rfl) rfl rfl ?_
     obtain⟨l,hl,D⟩:=Ae D
     refine Ff (rd:=[0,137]) rfl rfl (Dg P6 Ac.enc_len .row rfl .row rfl hl rfl) rfl rfl ?_
     refine Ak ?_
     refine Ai fun B=>?_
     refine Af (Bi _ _ []) 161 177 B rfl rfl ?_
     refine Ak ?_
     refine Ai fun B=>?_
     obtain rfl:=oi_ D
     exact⟨((W (x29_1 + 1),l),m1),aDn _,hn1,Ay [(0,145)]⟩
   ·refine B8 ?_
    repeat first | refine Cw ?_ | refine Cy ?_
    replace D:=C5 D hn1
    refine Ah ?_
    refine A6 9 33 B ?_
    refine Ak ?_
    obtain⟨y_4,hy_4,D⟩:=Ae D
    refine Hc [0] [] [] true (Jw _ _ hy_4) ?_
    refine Ak ?_
    refine Ai fun B=>?_
    refine Dh rfl D (fun h22 D=>?_) fun h22 D=>?_
    ·refine Ah ?_
     refine Af (Bi _ _ []) 33 49 B rfl rfl ?_
     refine Ak ?_
     refine Ai fun B=>?_
     refine A4 ?_
     obtain rfl:=oi_ D
     exact A3 [] ⟨rfl,rfl⟩
    ·refine Ao ?_
     repeat first | refine Cw ?_ | refine Cy ?_
     refine A6 33 57 B ?_
     refine Ak ?_
     refine Ai fun B=>?_
     refine A4 ?_
     obtain rfl:=oi_ D
     exact A3 [] ⟨rfl,rfl⟩
theorem Qa.F (rec:(List UInt8)->Option ((List Aa)×Bool)) (hrec:∀ (b:(List UInt8)) (r:(List Aa)×Bool),rec b=some r->Fn Tryz.prog 51 0 [.sl 1 (An e8 b)] [] (fun d' b'=>d'=.tup [.sl 4 (An Aa.enc r.1),.val (.bool r.2)]/\b'=[])) (b:(List UInt8)) (r:(List Aa)×Bool) (D:Ck.F rec b=some r):Fn Tryz.prog 51 0 [.sl 1 (An e8 b)] [] (fun d' b'=>d'=.tup [.sl 4 (An Aa.enc r.1),.val (.bool r.2)]/\b'=[]):=by
 unfold Ck.F at D
 refine Fn.of Tryz.func51 rfl rfl rfl fun w0 I ρ0=>?_
 show Ca _ ⟨w0,I,ρ0,0,0,60⟩ _ _ _
 refine A6 0 16 Az ?_
 refine Ak ?_
 refine Ai fun B=>?_
 refine A6 16 24 B ?_
 refine Ak ?_
 refine Ai fun B=>?_
 refine A6 24 32 B ?_
 refine Ak ?_
 refine Ai fun B=>?_
 refine Ah ?_
 refine Au ?_
 refine Lu (fun ((at_1,out_1):Int×List Aa)=>mk [(0,.sl 1 (An e8 b)),(4,.row 0),(5,vj at_1)] [(0,.row 50 4 (An Aa.enc out_1))] 1) D (Ay []) ?_
 rintro⟨at_1,out_1⟩ m1 o1 D hn1
 replace D:Ck.l1 rec b at_1 out_1=some o1:=D
 show Ca _ _ _ _ (mk _ _ _)
 unfold Ck.l1 at D
 refine Ah ?_
 refine A6 1 33 Az ?_
 refine Ak ?_
 refine Ai fun B=>?_
 refine Dh rfl D (fun h5 D=>?_) fun h5 D=>?_
 ·refine Ao ?_
  repeat first | refine Cw ?_ | refine Cy ?_
  refine Au ?_
  refine A6 33 129 B ?_
  refine Ak ?_
  obtain⟨y,hy,D⟩:=Ae D
  refine Ek (S5 _ _ _ hy) ?_
  refine Ak ?_
  refine Ai fun B=>?_
  refine Ah ?_
  refine A6 129 145 B ?_
  refine Ak ?_
  refine Ai fun B=>?_
  refine Dh rfl D (fun h8 D=>?_) fun h8 D=>?_
  ·refine Ah ?_
   refine Af (Bi _ _ []) 145 161 B rfl rfl ?_
   refine Ak ?_
   refine Ai fun B=>?_
   refine A4 ?_
   replace D:=C5 D hn1
   obtain rfl:=oi_ D
   exact A3 [] ⟨rfl,rfl⟩
  ·refine Ao ?_
   repeat first | refine Cw ?_ | refine Cy ?_
   refine A6 145 209 B ?_
   refine Ak ?_
   obtain⟨q,hq,D⟩:=Ae D
   refine Bj rfl rfl (aI hq) rfl rfl ?_
   obtain⟨q_2,hq_2,D⟩:=Ae D
   refine Bj rfl rfl (W3 hq_2) rfl rfl ?_
   refine Ak ?_
   refine Bj rfl rfl (.build (r:=[vj y.1,.val (.slice none 0 0),.val (.bool (decide (q_2=1))),.val (.slice none 0 0)]) Io Nc Pq (by kernel_rfl) rfl) rfl rfl ?_
   refine Ak ?_
   refine Ai fun B=>?_
   refine Bm (ι:=List Aa×List UInt8) (fun ((v_2,l_2_2):List Aa×List UInt8)=>mk [(0,.sl 1 (An e8 b)),(4,.row 0),(8,vj y.2.2.1),(10,.ptr 1 0)] [(0,.row 50 4 (An Aa.enc out_1)),(1,.box [vj y.1,.row 2,.val (.bool (decide (q_2=1))),.sl 4 (An Aa.enc v_2)] 50),(2,.row 5 1 (An e8 l_2_2))] 3) (fun ((v_2,l_2_2):List Aa×List UInt8)=>Ck.j2 out_1 y q_2 v_2 l_2_2=some o1) ?_ ?_
   ·refine Ah ?_
    refine Af (Bi _ _ []) 209 225 B rfl rfl ?_
    refine Ak ?_
    refine Ai fun B=>?_
    refine Dh rfl D (fun h12 D=>?_) fun h12 D=>?_
    ·refine Ah ?_
     refine Af (Bi _ _ []) 225 305 B rfl rfl ?_
     refine Ak ?_
     obtain⟨l,hl,D⟩:=Ae D
     refine Bj rfl rfl (R5 Hp B5 hl) rfl rfl ?_
     obtain⟨y_2,hy_2,D⟩:=Ae D
     refine Ek (hrec _ _ hy_2) ?_
     refine Ak ?_
     refine Ai fun B=>?_
     refine Ah ?_
     refine A6 305 321 B ?_
     refine Ak ?_
     refine Ai fun B=>?_
     refine Dh rfl D (fun h15 D=>?_) fun h15 D=>?_
     ·refine Ah ?_
      refine Af (Bi _ _ []) 321 337 B rfl rfl ?_
      refine Ak ?_
      refine Ai fun B=>?_
      refine A4 ?_
      replace D:=C5 D hn1
      obtain rfl:=oi_ D
      exact A3 [] ⟨rfl,rfl⟩
     ·refine Ao ?_
      repeat first | refine Cw ?_ | refine Cy ?_
      refine Af (Bi _ _ []) 321 345 B rfl rfl ?_
      refine Ak ?_
      refine Ai fun B=>?_
      exact⟨(y_2.1,([]:List UInt8)),D,Ay [(0,0),(1,193)]⟩
    ·refine Af (Bi _ _ []) 225 289 B rfl rfl ?_
     refine Bj rfl rfl (As Hp z5 (by decide) rfl rfl rfl rfl fR (cs:=[]) .nil rfl (l:=([]:List UInt8)) (f:=e8) rfl) rfl rfl ?_
     refine Ak ?_
     obtain⟨l_2,hl_2,D⟩:=Ae D
     refine Bj rfl rfl (R5 Hp B5 hl_2) rfl rfl ?_
     obtain⟨l_3,hl_3,D⟩:=Ae D
     refine Ff (rd:=[225]) rfl rfl (Dg Hp B5 .row rfl .sl rfl hl_3 rfl) rfl rfl ?_
     refine Ak ?_
     refine Ai fun B=>?_
     exact⟨(([]:List Aa),l_3),D,Ay [(0,0),(1,193),(2,265)]⟩
   ·rintro⟨v_2,l_2_2⟩ D
    replace D:Ck.j2 out_1 y q_2 v_2 l_2_2=some o1:=D
    show Ca _ _ _ _ (mk _ _ _)
    unfold Ck.j2 at D
    refine Ah ?_
    refine D1 (σ':=mk [(0,.sl 1 (An e8 b)),(4,.row 0),(8,vj y.2.2.1),(10,.ptr 1 0)] [(0,.row 50 4 (An Aa.enc out_1)),(1,.box [vj y.1,.sl 1 (An e8 l_2_2),.val (.bool (decide (q_2=1))),.sl 4 (An Aa.enc v_2)] 50)] 2) (Ay [(0,0),(1,1)]) ?_
    refine Af (Bi _ _ []) 2 42 Az rfl rfl ?_
    refine Ak ?_
    refine Bj rfl rfl (As Jz Pq (by decide) rfl rfl rfl rfl Si (cs:=[.int .i64 y.1,.sl 1 (An e8 l_2_2),.bool (decide (q_2=1)),.sl 4 (An Aa.enc v_2)]) (.cons .int (.cons .sl (.cons .bool (.cons .sl .nil)))) rfl (l:=([(Aa.mk y.1 l_2_2 (decide (q_2=1)) v_2)]:List Aa)) (f:=Aa.enc) (by simp only [An,aFe,aFo,Aa.enc_eq]; rfl)) rfl rfl ?_
    obtain⟨l_4,hl_4,D⟩:=Ae D
    refine Ff (rd:=[0,18]) rfl rfl (Dg Jz Aa.enc_len .row rfl .row rfl hl_4 rfl) rfl rfl ?_
    refine Ak ?_
    refine Ai fun B=>?_
    refine Af (Bi _ _ []) 42 58 B rfl rfl ?_
    refine Ak ?_
    refine Ai fun B=>?_
    obtain rfl:=oi_ D
    exact⟨((y.2.2.1,l_4),m1),aDn _,hn1,Ay [(0,26)]⟩
 ·refine B8 ?_
  repeat first | refine Cw ?_ | refine Cy ?_
  replace D:=C5 D hn1
  refine A6 33 57 B ?_
  refine Ak ?_
  refine Ai fun B=>?_
  refine A4 ?_
  obtain rfl:=oi_ D
  exact A3 [] ⟨rfl,rfl⟩
theorem Qa (b:(List UInt8)) (r:(List Aa)×Bool) (D:Ck b=some r):Fn Tryz.prog 51 0 [.sl 1 (An e8 b)] [] (fun d' b'=>d'=.tup [.sl 4 (An Aa.enc r.1),.val (.bool r.2)]/\b'=[]):=
 Kd (motive:=fun (x:(List UInt8)) (r:(List Aa)×Bool)=>Fn Tryz.prog 51 0 [.sl 1 (An e8 x)] [] (fun d' b'=>d'=.tup [.sl 4 (An Aa.enc r.1),.val (.bool r.2)]/\b'=[])) (fun rec hrec x r h=>Qa.F _ (fun b r h=>hrec b r h) x r h) b r D
theorem Ye (b:(List UInt8)) (r:Aa×Int) (D:Eh b=some r):Fn Tryz.prog 22 0 [.sl 1 (An e8 b)] [] (fun d' b'=>d'=.tup [.agg (Aa.dv r.1),vj r.2]/\b'=[]):=by
 unfold Eh at D
 refine Fn.of Tryz.func22 rfl rfl rfl fun w0 I ρ0=>?_
 show Ca _ ⟨w0,I,ρ0,0,0,32⟩ _ _ _
 refine A6 0 16 Az ?_
 refine Ak ?_
 refine Ai fun B=>?_
 refine Ah ?_
 refine A6 16 40 B ?_
 refine Ak ?_
 refine Ai fun B=>?_
 refine Dh rfl D (fun h3 D=>?_) fun h3 D=>?_
 ·refine Ah ?_
  refine Af (Bi _ _ []) 40 64 B rfl rfl ?_
  refine Bj rfl rfl (.build (r:=[.val (.int .i64 0),.val (.slice none 0 0),.val (.bool false),.val (.slice none 0 0)]) Io Nc Pq (by kernel_rfl) rfl) rfl rfl ?_
  refine Ak ?_
  refine Ai fun B=>?_
  refine A4 ?_
  obtain rfl:=oi_ D
  exact A3 [] ⟨rfl,rfl⟩
 ·refine Ao ?_
  repeat first | refine Cw ?_ | refine Cy ?_
  refine A6 40 96 B ?_
  refine Ak ?_
  obtain⟨y,hy,D⟩:=Ae D
  refine Ek (Qa _ _ hy) ?_
  refine Ak ?_
  refine Ai fun B=>?_
  refine Ah ?_
  refine Bm (ι:=Bool) (fun (x21_1:Bool)=>mk [(2,.ptr 0 0),(4,.sl 4 (An Aa.enc y.1)),(21,.val (.bool x21_1))] [(0,.box [.val (.int .i64 0),.val (.slice none 0 0),.val (.bool false),.val (.slice none 0 0)] 50)] 1) (fun (x21_1:Bool)=>Eh.j1 y x21_1=some r) ?_ ?_
  ·refine Af (Bi _ _ []) 96 152 B rfl rfl ?_
   refine Ak ?_
   rcases Eb D with ⟨h6,D⟩ | ⟨h6,D⟩
   ·refine Ak ?_
    refine Ai fun B=>?_
    exact⟨true,D,Ay [(0,0)]⟩
   ·refine Ak ?_
    refine Ai fun B=>?_
    exact⟨!decide ((y.1.length:Int)=1),D,Ay [(0,0)]⟩
  ·rintro x21_1 D
   replace D:Eh.j1 y x21_1=some r:=D
   show Ca _ _ _ _ (mk _ _ _)
   unfold Eh.j1 at D
   refine Dh rfl D (fun h9 D=>?_) fun h9 D=>?_
   ·refine Ah ?_
    refine Af (Bi _ _ []) 1 25 Az rfl rfl ?_
    refine Bj rfl rfl (.build (r:=[.val (.int .i64 0),.val (.slice none 0 0),.val (.bool false),.val (.slice none 0 0)]) Io Nc Pq (by kernel_rfl) rfl) rfl rfl ?_
    refine Ak ?_
    refine Ai fun B=>?_
    refine A4 ?_
    obtain rfl:=oi_ D
    exact A3 [] ⟨rfl,rfl⟩
   ·refine Ao ?_
    repeat first | refine Cw ?_ | refine Cy ?_
    refine Ah ?_
    refine A6 1 41 Az ?_
    refine Ak ?_
    obtain⟨e,he,D⟩:=Ae D
    refine Ak ?_
    refine Bj rfl rfl (Dx Nb (Cm Aa.enc_len (Aq he) (o:=0) (m:=4) (cs:=[.int .i64 e.Tag,.sl 1 (An e8 e.Bytes),.bool e.Nested,.sl 4 (An Aa.enc e.Elements)]) (by simp only [Aa.enc_eq]; rfl) (by decide) rfl) (Bn Aa.enc_len (Aq he) (o:=0) (m:=4) (by decide) rfl)) rfl rfl ?_
    obtain⟨y_2,hy_2,D⟩:=Ae D
    refine Ek (Ka _ _ hy_2) ?_
    refine Ak ?_
    refine Ai fun B=>?_
    refine Dh rfl D (fun h12 D=>?_) fun h12 D=>?_
    ·refine Ah ?_
     refine Af (Bi _ _ []) 41 65 B rfl rfl ?_
     refine Bj rfl rfl (.build (r:=[.val (.int .i64 0),.val (.slice none 0 0),.val (.bool false),.val (.slice none 0 0)]) Io Nc Pq (by kernel_rfl) rfl) rfl rfl ?_
     refine Ak ?_
     refine Ai fun B=>?_
     refine A4 ?_
     obtain rfl:=oi_ D
     exact A3 [] ⟨rfl,rfl⟩
    ·refine Ao ?_
     repeat first | refine Cw ?_ | refine Cy ?_
     refine A6 41 81 B ?_
     refine Ak ?_
     refine Bj rfl rfl (Dx Nb (Cm Aa.enc_len (Aq he) (o:=0) (m:=4) (cs:=[.int .i64 e.Tag,.sl 1 (An e8 e.Bytes),.bool e.Nested,.sl 4 (An Aa.enc e.Elements)]) (by simp only [Aa.enc_eq]; rfl) (by decide) rfl) (Bn Aa.enc_len (Aq he) (o:=0) (m:=4) (by decide) rfl)) rfl rfl ?_
     refine Ak ?_
     refine Ai fun B=>?_
     refine A4 ?_
     obtain rfl:=oi_ D
     exact A3 [] ⟨rfl,rfl⟩
theorem Xn (v:Aa) (r:(List Aa)×Int) (D:Et v=some r):Fn Tryz.prog 108 0 [.agg (Aa.dv v)] [] (fun d' b'=>d'=.tup [.sl 4 (An Aa.enc r.1),vj r.2]/\b'=[]):=by
 unfold Et at D
 refine Fn.of Tryz.func108 rfl rfl rfl fun w0 I ρ0=>?_
 show Ca _ ⟨w0,I,ρ0,0,0,15⟩ _ _ _
 refine A6 0 24 Az ?_
 refine Ak ?_
 refine Ai fun B=>?_
 refine Ah ?_
 refine Bm (ι:=Bool) (fun (x11_1:Bool)=>mk [(1,.ptr 0 0),(11,.val (.bool x11_1))] [(0,.box (Aa.dv v) 50)] 1) (fun (x11_1:Bool)=>Et.j1 v x11_1=some r) ?_ ?_
 ·refine Af (Bi _ _ []) 24 88 B rfl rfl ?_
  refine Ak ?_
  rcases Eb D with ⟨h2,D⟩ | ⟨h2,D⟩
  ·refine Ak ?_
   refine Ai fun B=>?_
   exact⟨true,D,Ay [(0,0)]⟩
  ·refine Ak ?_
   obtain⟨y,hy,D⟩:=Ae D
   refine Ek (Ky _ _ hy) ?_
   refine Ak ?_
   refine Ai fun B=>?_
   exact⟨!y,D,Ay [(0,0)]⟩
 ·rintro x11_1 D
  replace D:Et.j1 v x11_1=some r:=D
  show Ca _ _ _ _ (mk _ _ _)
  unfold Et.j1 at D
  refine Dh rfl D (fun h5 D=>?_) fun h5 D=>?_
  ·refine Ah ?_
   refine Af (Bi _ _ []) 1 17 Az rfl rfl ?_
   refine Ak ?_
   refine Ai fun B=>?_
   refine A4 ?_
   obtain rfl:=oi_ D
   exact A3 [] ⟨rfl,rfl⟩
  ·refine Ao ?_
   repeat first | refine Cw ?_ | refine Cy ?_
   refine A6 1 41 Az ?_
   refine Ak ?_
   obtain⟨y_2,hy_2,D⟩:=Ae D
   refine Ek (K2 _ _ hy_2) ?_
   refine Ak ?_
   refine Ai fun B=>?_
   refine A4 ?_
   obtain rfl:=oi_ D
   exact A3 [] ⟨rfl,rfl⟩
theorem O7 (v:Aa) (r:Ad) (D:It v=some r):Fn Tryz.prog 58 0 [.agg (Aa.dv v)] [] (fun d' b'=>d'=.ptr 0 0/\b'=[.box (Ad.dv r) 96]):=by
 unfold It at D
 refine Fn.of Tryz.func58 rfl rfl rfl fun w0 I ρ0=>?_
 show Ca _ ⟨w0,I,ρ0,0,0,15⟩ _ _ _
 refine A6 0 16 Az ?_
 refine Ak ?_
 refine Ai fun B=>?_
 refine A6 16 72 B ?_
 refine Ak ?_
 obtain⟨y,hy,D⟩:=Ae D
 refine Ek (Xn _ _ hy) ?_
 refine Ak ?_
 refine Ai fun B=>?_
 refine A6 72 120 B ?_
 refine Ak ?_
 refine Bj rfl rfl (.build (r:=[.sl 4 (An Aa.enc y.1),.val (.int .i64 0),.val (.bool (decide (y.2=0)))]) kR aD8 z96 (by kernel_rfl) rfl) rfl rfl ?_
 refine Ak ?_
 refine Ai fun B=>?_
 refine A4 ?_
 obtain rfl:=oi_ D
 exact A3 [(0,104)] ⟨rfl,rfl⟩
theorem G1 (r':Ad) (r:Aa×Ad) (D:B2 r'=some r):Fn Tryz.prog 65 1 [.ptr 0 0] [.box (Ad.dv r') 96] (fun d' b'=>d'=.agg (Aa.dv r.1)/\b'=[.box (Ad.dv r.2) 96]):=by
 unfold B2 at D
 refine Fn.of Tryz.func65 rfl rfl rfl fun w0 I ρ0=>?_
 show Ca _ ⟨w0,I,ρ0,1,1,42⟩ _ _ _
 refine A6 1 9 Az ?_
 refine Ak ?_
 refine Ai fun B=>?_
 refine Ah ?_
 refine Bm (ι:=Bool) (fun (x19_1:Bool)=>mk [(0,.ptr 0 0),(2,.ptr 1 0),(19,.val (.bool x19_1))] [(0,.box (Ad.dv r') 96),(1,.box [.val (.int .i64 0),.val (.slice none 0 0),.val (.bool false),.val (.slice none 0 0)] 50)] 2) (fun (x19_1:Bool)=>B2.j1 r' x19_1=some r) ?_ ?_
 ·refine Cs (Bi _ _ []) (by kernel_rfl) [0,1,3,7,15,31,63,127,255,511,63,1087,3135,7231,15423,32767,65535] 9 145 B rfl rfl (by kernel_rfl) ?_
  refine Ak ?_
  rcases Eb D with ⟨h2,D⟩ | ⟨h2,D⟩
  ·refine Ak ?_
   refine Ai fun B=>?_
   exact⟨true,D,Ay [(0,0),(1,1)]⟩
  ·refine Ak ?_
   refine Ai fun B=>?_
   exact⟨decide ((r'.L.length:Int)<=r'.At),D,Ay [(0,0),(1,1)]⟩
 ·rintro x19_1 D
  replace D:B2.j1 r' x19_1=some r:=D
  show Ca _ _ _ _ (mk _ _ _)
  unfold B2.j1 at D
  refine Dh rfl D (fun h5 D=>?_) fun h5 D=>?_
  ·refine Ah ?_
   refine Af (Bi _ _ []) 2 34 Az rfl rfl ?_
   refine Ak ?_
   refine Ai fun B=>?_
   refine A6 34 50 B ?_
   refine Bj rfl rfl (.build (r:=[.val (.int .i64 0),.val (.slice none 0 0),.val (.bool false),.val (.slice none 0 0)]) Io Nc Pq (by kernel_rfl) rfl) rfl rfl ?_
   refine Ak ?_
   refine Ai fun B=>?_
   refine A4 ?_
   obtain rfl:=oi_ D
   exact A3 [(0,0)] ⟨rfl,rfl⟩
  ·refine Ao ?_
   repeat first | refine Cw ?_ | refine Cy ?_
   refine A6 2 66 Az ?_
   refine Ak ?_
   refine Ai fun B=>?_
   refine Ah ?_
   refine Cs (Bi _ _ []) (by kernel_rfl) [0,1,3,7,0,16,48,112,240,511,1023,2047] 66 162 B rfl rfl (by kernel_rfl) ?_
   refine Ak ?_
   obtain⟨e,he,D⟩:=Ae D
   refine Ak ?_
   refine Bj rfl rfl (Dx Nb (Cm Aa.enc_len (Aq he) (o:=0) (m:=4) (cs:=[.int .i64 e.Tag,.sl 1 (An e8 e.Bytes),.bool e.Nested,.sl 4 (An Aa.enc e.Elements)]) (by simp only [Aa.enc_eq]; rfl) (by decide) rfl) (Bn Aa.enc_len (Aq he) (o:=0) (m:=4) (by decide) rfl)) rfl rfl ?_
   refine Ak ?_
   refine Ai fun B=>?_
   refine A4 ?_
   obtain rfl:=oi_ D
   exact A3 [(0,0)] ⟨rfl,rfl⟩
theorem Gf (r':Ad) (r:Ad×Ad) (D:Dz r'=some r):Fn Tryz.prog 59 1 [.ptr 0 0] [.box (Ad.dv r') 96] (fun d' b'=>d'=.ptr 1 0/\b'=[.box (Ad.dv r.2) 96,.box (Ad.dv r.1) 96]):=by
 unfold Dz at D
 refine Fn.of Tryz.func59 rfl rfl rfl fun w0 I ρ0=>?_
 show Ca _ ⟨w0,I,ρ0,1,1,21⟩ _ _ _
 refine A6 1 9 Az ?_
 refine Ak ?_
 refine Ai fun B=>?_
 refine A6 9 41 B ?_
 refine Ak ?_
 obtain⟨y,hy,D⟩:=Ae D
 refine Hc [0] [0] [] false (G1 _ _ hy) ?_
 obtain⟨y_2,hy_2,D⟩:=Ae D
 refine Fg (rd:=[]) (ps:=[]) (gs:=[]) false rfl (O7 _ _ hy_2) rfl rfl (.cons (.agg (.cons .val (.cons .sl (.cons .val (.cons .sl .nil))))) .nil) rfl rfl (by intro h; cases h) rfl (by intro h; first | (cases h; done) | exact⟨_,_,⟨rfl,rfl⟩,by simp,by simp⟩) ?_
 rintro _ _ ⟨rfl,rfl⟩
 refine Ak ?_
 refine Ai fun B=>?_
 refine A6 41 153 B ?_
 refine Ak ?_
 rcases Eb D with ⟨h3,D⟩ | ⟨h3,D⟩
 ·refine Ak ?_
  refine Ai fun B=>?_
  refine A6 153 169 B ?_
  refine Ak ?_
  refine Ai fun B=>?_
  refine A4 ?_
  obtain rfl:=oi_ D
  exact A3 [(0,0),(1,25)] ⟨rfl,rfl⟩
 ·refine Ak ?_
  refine Ai fun B=>?_
  refine A6 153 169 B ?_
  refine Ak ?_
  refine Ai fun B=>?_
  refine A4 ?_
  obtain rfl:=oi_ D
  exact A3 [(0,0),(1,25)] ⟨rfl,rfl⟩
theorem Xv (v:Aa) (r:ByteArray×Int) (D:Bv v=some r):Fn Tryz.prog 109 0 [.agg (Aa.dv v)] [] (fun d' b'=>d'=.tup [vk r.1,vj r.2]/\b'=[]):=by
 unfold Bv at D
 refine Fn.of Tryz.func109 rfl rfl rfl fun w0 I ρ0=>?_
 show Ca _ ⟨w0,I,ρ0,0,0,42⟩ _ _ _
 refine A6 0 24 Az ?_
 refine Ak ?_
 refine Ai fun B=>?_
 refine Ah ?_
 refine Bm (ι:=Bool) (fun (x17_1:Bool)=>mk [(1,.ptr 0 0),(17,.val (.bool x17_1))] [(0,.box (Aa.dv v) 50)] 1) (fun (x17_1:Bool)=>Bv.j1 v x17_1=some r) ?_ ?_
 ·refine Af (Bi _ _ []) 24 128 B rfl rfl ?_
  refine Ak ?_
  rcases Eb D with ⟨h2,D⟩ | ⟨h2,D⟩
  ·refine Ak ?_
   refine Ai fun B=>?_
   exact⟨true,D,Ay [(0,0)]⟩
  ·refine Ak ?_
   rcases Eb D with ⟨h4,D⟩ | ⟨h4,D⟩
   ·refine Ak ?_
    refine Ai fun B=>?_
    exact⟨true,D,Ay [(0,0)]⟩
   ·refine Ak ?_
    refine Ai fun B=>?_
    exact⟨decide (0 < (v.Elements.length:Int)),D,Ay [(0,0)]⟩
 ·rintro x17_1 D
  replace D:Bv.j1 v x17_1=some r:=D
  show Ca _ _ _ _ (mk _ _ _)
  unfold Bv.j1 at D
  refine Dh rfl D (fun h7 D=>?_) fun h7 D=>?_
  ·refine Ah ?_
   refine Af (Bi _ _ []) 1 17 Az rfl rfl ?_
   refine Ak ?_
   refine Ai fun B=>?_
   refine A4 ?_
   obtain rfl:=oi_ D
   exact A3 [] ⟨rfl,rfl⟩
  ·refine Ao ?_
   repeat first | refine Cw ?_ | refine Cy ?_
   refine Ah ?_
   refine A6 1 9 Az ?_
   refine Ak ?_
   refine Ai fun B=>?_
   refine Au ?_
   refine Lu (fun (i_2:Int)=>mk [(1,.ptr 0 0),(4,vj i_2)] [(0,.box (Aa.dv v) 50)] 1) D (Ay [(0,0)]) ?_
   rintro i_2 m2 o2 D hn2
   replace D:Bv.l2 v i_2=some o2:=D
   show Ca _ _ _ _ (mk _ _ _)
   unfold Bv.l2 at D
   refine Ah ?_
   refine A6 1 41 Az ?_
   refine Ak ?_
   refine Ai fun B=>?_
   refine Dh rfl D (fun h11 D=>?_) fun h11 D=>?_
   ·refine Ao ?_
    repeat first | refine Cw ?_ | refine Cy ?_
    refine Ah ?_
    refine Au ?_
    refine Bm (ι:=Bool) (fun (x38_3:Bool)=>mk [(1,.ptr 0 0),(4,vj i_2),(38,.val (.bool x38_3))] [(0,.box (Aa.dv v) 50)] 1) (fun (x38_3:Bool)=>Bv.j3 i_2 x38_3=some o2) ?_ ?_
    ·refine Af (Bi _ _ []) 41 153 B rfl rfl ?_
     refine Ak ?_
     obtain⟨e,he,D⟩:=Ae D
     refine Ak ?_
     refine Bj rfl rfl (Bl N8 (Bf B5 (Aq he) (o:=0) (c:=.int .u8 (e.toNat:Int)) rfl rfl)) rfl rfl ?_
     refine Ak ?_
     rcases Eb D with ⟨h12,D⟩ | ⟨h12,D⟩
     ·refine Ak ?_
      refine Ai fun B=>?_
      exact⟨true,D,Ay [(0,0)]⟩
     ·refine Ak ?_
      refine Bj (Cj rfl rfl h12) rfl (Bl N8 (Bf B5 (Aq he) (o:=0) (c:=.int .u8 (e.toNat:Int)) rfl rfl)) rfl rfl ?_
      refine Ak ?_
      refine Ai fun B=>?_
      exact⟨decide (126 < (e.toNat:Int)),D,Ay [(0,0)]⟩
    ·rintro x38_3 D
     replace D:Bv.j3 i_2 x38_3=some o2:=D
     show Ca _ _ _ _ (mk _ _ _)
     unfold Bv.j3 at D
     refine Dh rfl D (fun h15 D=>?_) fun h15 D=>?_
     ·refine Ah ?_
      refine Af (Bi _ _ []) 1 17 Az rfl rfl ?_
      refine Ak ?_
      refine Ai fun B=>?_
      refine A4 ?_
      replace D:=C5 D hn2
      obtain rfl:=oi_ D
      exact A3 [] ⟨rfl,rfl⟩
     ·refine Ao ?_
      repeat first | refine Cw ?_ | refine Cy ?_
      refine Af (Bi _ _ []) 1 25 Az rfl rfl ?_
      refine Ak ?_
      refine Ai fun B=>?_
      obtain rfl:=oi_ D
      exact⟨(W (i_2 + 1),m2),aDn _,hn2,Ay [(0,0)]⟩
   ·refine B8 ?_
    repeat first | refine Cw ?_ | refine Cy ?_
    replace D:=C5 D hn2
    refine A6 41 81 B ?_
    refine Ak ?_
    refine Bj rfl rfl (Qq Tl Ku Rc .sl rfl) rfl rfl ?_
    refine Ak ?_
    refine Ai fun B=>?_
    refine A4 ?_
    obtain rfl:=oi_ D
    exact A3 [] ⟨rfl,rfl⟩
theorem Ic (r':Ad) (r:ByteArray×Ad) (D:Ef r'=some r):Fn Tryz.prog 60 1 [.ptr 0 0] [.box (Ad.dv r') 96] (fun d' b'=>d'=vk r.1/\b'=[.box (Ad.dv r.2) 96]):=by
 unfold Ef at D
 refine Fn.of Tryz.func60 rfl rfl rfl fun w0 I ρ0=>?_
 show Ca _ ⟨w0,I,ρ0,1,1,23⟩ _ _ _
 refine A6 1 9 Az ?_
 refine Ak ?_
 refine Ai fun B=>?_
 refine A6 9 73 B ?_
 refine Ak ?_
 obtain⟨y,hy,D⟩:=Ae D
 refine Hc [0] [0] [] false (G1 _ _ hy) ?_
 obtain⟨y_2,hy_2,D⟩:=Ae D
 refine Ek (Xv _ _ hy_2) ?_
 refine Ak ?_
 refine Ai fun B=>?_
 refine A6 73 169 B ?_
 refine Ak ?_
 rcases Eb D with ⟨h3,D⟩ | ⟨h3,D⟩
 ·refine Ak ?_
  refine Ai fun B=>?_
  refine A6 169 185 B ?_
  refine Ak ?_
  refine Ai fun B=>?_
  refine A4 ?_
  obtain rfl:=oi_ D
  exact A3 [(0,0)] ⟨rfl,rfl⟩
 ·refine Ak ?_
  refine Ai fun B=>?_
  refine A6 169 185 B ?_
  refine Ak ?_
  refine Ai fun B=>?_
  refine A4 ?_
  obtain rfl:=oi_ D
  exact A3 [(0,0)] ⟨rfl,rfl⟩
theorem Zh (v:Aa) (r:Int×Int) (D:Bp v=some r):Fn Tryz.prog 110 0 [.agg (Aa.dv v)] [] (fun d' b'=>d'=.tup [vj r.1,vj r.2]/\b'=[]):=by
 unfold Bp at D
 refine Fn.of Tryz.func110 rfl rfl rfl fun w0 I ρ0=>?_
 show Ca _ ⟨w0,I,ρ0,0,0,61⟩ _ _ _
 refine A6 0 24 Az ?_
 refine Ak ?_
 refine Ai fun B=>?_
 refine Ah ?_
 refine Bm (ι:=Bool) (fun (x30_1:Bool)=>mk [(1,.ptr 0 0),(30,.val (.bool x30_1))] [(0,.box (Aa.dv v) 50)] 1) (fun (x30_1:Bool)=>Bp.j1 v x30_1=some r) ?_ ?_
 ·refine Af (Bi _ _ []) 24 224 B rfl rfl ?_
  refine Ak ?_
  rcases Eb D with ⟨h2,D⟩ | ⟨h2,D⟩
  ·refine Ak ?_
   refine Ai fun B=>?_
   exact⟨true,D,Ay [(0,0)]⟩
  ·refine Ak ?_
   rcases Eb D with ⟨h4,D⟩ | ⟨h4,D⟩
   ·refine Ak ?_
    refine Ai fun B=>?_
    exact⟨true,D,Ay [(0,0)]⟩
   ·refine Ak ?_
    rcases Eb D with ⟨h6,D⟩ | ⟨h6,D⟩
    ·refine Ak ?_
     refine Ai fun B=>?_
     exact⟨true,D,Ay [(0,0)]⟩
    ·refine Ak ?_
     rcases Eb D with ⟨h8,D⟩ | ⟨h8,D⟩
     ·refine Ak ?_
      refine Ai fun B=>?_
      exact⟨true,D,Ay [(0,0)]⟩
     ·refine Ak ?_
      refine Ai fun B=>?_
      exact⟨decide (8 < (v.Bytes.length:Int)),D,Ay [(0,0)]⟩
 ·rintro x30_1 D
  replace D:Bp.j1 v x30_1=some r:=D
  show Ca _ _ _ _ (mk _ _ _)
  unfold Bp.j1 at D
  refine Dh rfl D (fun h11 D=>?_) fun h11 D=>?_
  ·refine Ah ?_
   refine Af (Bi _ _ []) 1 17 Az rfl rfl ?_
   refine Ak ?_
   refine Ai fun B=>?_
   refine A4 ?_
   obtain rfl:=oi_ D
   exact A3 [] ⟨rfl,rfl⟩
  ·refine Ao ?_
   repeat first | refine Cw ?_ | refine Cy ?_
   refine A6 1 9 Az ?_
   refine Ak ?_
   refine Ai fun B=>?_
   refine Bm (ι:=Int) (fun (n_2:Int)=>mk [(1,.ptr 0 0),(4,vj n_2)] [(0,.box (Aa.dv v) 50)] 1) (fun (n_2:Int)=>Bp.j2 v n_2=some r) ?_ ?_
   ·refine Ah ?_
    refine Af (Bi _ _ []) 9 49 B rfl rfl ?_
    refine Ak ?_
    obtain⟨e,he,D⟩:=Ae D
    refine Ak ?_
    refine Bj rfl rfl (Bl N8 (Bf B5 (Aq he) (o:=0) (c:=.int .u8 (e.toNat:Int)) rfl rfl)) rfl rfl ?_
    refine Ak ?_
    refine Ai fun B=>?_
    refine Dh rfl D (fun h15 D=>?_) fun h15 D=>?_
    ·refine Af (Bi _ _ []) 49 57 B rfl rfl ?_
     refine Ak ?_
     refine Ai fun B=>?_
     exact⟨-1,D,Ay [(0,0)]⟩
    ·refine Ao ?_
     repeat first | refine Cw ?_ | refine Cy ?_
     exact⟨0,D,Ay [(0,0)]⟩
   ·rintro n_2 D
    replace D:Bp.j2 v n_2=some r:=D
    show Ca _ _ _ _ (mk _ _ _)
    unfold Bp.j2 at D
    refine Ah ?_
    refine A6 1 9 Az ?_
    refine Ak ?_
    refine Ai fun B=>?_
    refine Au ?_
    refine Lu (fun ((n_3,i_3):Int×Int)=>mk [(1,.ptr 0 0),(4,vj n_3),(5,vj i_3)] [(0,.box (Aa.dv v) 50)] 1) D (Ay [(0,0)]) ?_
    rintro⟨n_3,i_3⟩ m3 o3 D hn3
    replace D:Bp.l3 v n_3 i_3=some o3:=D
    show Ca _ _ _ _ (mk _ _ _)
    unfold Bp.l3 at D
    refine Ah ?_
    refine A6 1 41 Az ?_
    refine Ak ?_
    refine Ai fun B=>?_
    refine Dh rfl D (fun h19 D=>?_) fun h19 D=>?_
    ·refine Ao ?_
     repeat first | refine Cw ?_ | refine Cy ?_
     refine Ah ?_
     refine Au ?_
     refine Af (Bi _ _ []) 41 121 B rfl rfl ?_
     refine Ak ?_
     obtain⟨q,hq,D⟩:=Ae D
     refine Bj rfl rfl (jK hq) rfl rfl ?_
     refine Ak ?_
     obtain⟨e_2,he_2,D⟩:=Ae D
     refine Ak ?_
     refine Bj rfl rfl (Bl N8 (Bf B5 (Aq he_2) (o:=0) (c:=.int .u8 (e_2.toNat:Int)) rfl rfl)) rfl rfl ?_
     refine Bj rfl rfl (Hx (u:=e_2) Ku M9) rfl rfl ?_
     refine Bj rfl rfl pS rfl rfl ?_
     refine Ak ?_
     refine Ai fun B=>?_
     refine Af (Bi _ _ []) 121 145 B rfl rfl ?_
     refine Ak ?_
     refine Ai fun B=>?_
     obtain rfl:=oi_ D
     exact⟨((Zk .i64 q (e_2.toNat:Int),W (i_3 + 1)),m3),aDn _,hn3,Ay [(0,0)]⟩
    ·refine B8 ?_
     repeat first | refine Cw ?_ | refine Cy ?_
     replace D:=C5 D hn3
     refine Ah ?_
     refine Ah ?_
     refine Cs (Bi _ _ []) (by kernel_rfl) [0,1,3,7,0,16,48,127] 41 105 B rfl rfl (by kernel_rfl) ?_
     refine Ak ?_
     obtain⟨y,hy,D⟩:=Ae D
     refine Ek (Fp _ _ hy) ?_
     refine Ak ?_
     refine Bj rfl rfl (Qq Tl Ku Rc .sl rfl) rfl rfl ?_
     refine Ak ?_
     refine Bj rfl rfl (Qq Tl Ku Rc .sl rfl) rfl rfl ?_
     refine Ak ?_
     refine Ai fun B=>?_
     refine Dh rfl D (fun h23 D=>?_) fun h23 D=>?_
     ·refine Ah ?_
      refine Af (Bi _ _ []) 105 121 B rfl rfl ?_
      refine Ak ?_
      refine Ai fun B=>?_
      refine A4 ?_
      obtain rfl:=oi_ D
      exact A3 [] ⟨rfl,rfl⟩
     ·refine Ao ?_
      repeat first | refine Cw ?_ | refine Cy ?_
      refine A6 105 129 B ?_
      refine Ak ?_
      refine Ai fun B=>?_
      refine A4 ?_
      obtain rfl:=oi_ D
      exact A3 [] ⟨rfl,rfl⟩
theorem Ec (r':Ad) (r:Int×Ad) (D:Dk r'=some r):Fn Tryz.prog 62 1 [.ptr 0 0] [.box (Ad.dv r') 96] (fun d' b'=>d'=vj r.1/\b'=[.box (Ad.dv r.2) 96]):=by
 unfold Dk at D
 refine Fn.of Tryz.func62 rfl rfl rfl fun w0 I ρ0=>?_
 show Ca _ ⟨w0,I,ρ0,1,1,23⟩ _ _ _
 refine A6 1 9 Az ?_
 refine Ak ?_
 refine Ai fun B=>?_
 refine A6 9 73 B ?_
 refine Ak ?_
 obtain⟨y,hy,D⟩:=Ae D
 refine Hc [0] [0] [] false (G1 _ _ hy) ?_
 obtain⟨y_2,hy_2,D⟩:=Ae D
 refine Ek (Zh _ _ hy_2) ?_
 refine Ak ?_
 refine Ai fun B=>?_
 refine A6 73 169 B ?_
 refine Ak ?_
 rcases Eb D with ⟨h3,D⟩ | ⟨h3,D⟩
 ·refine Ak ?_
  refine Ai fun B=>?_
  refine A6 169 185 B ?_
  refine Ak ?_
  refine Ai fun B=>?_
  refine A4 ?_
  obtain rfl:=oi_ D
  exact A3 [(0,0)] ⟨rfl,rfl⟩
 ·refine Ak ?_
  refine Ai fun B=>?_
  refine A6 169 185 B ?_
  refine Ak ?_
  refine Ai fun B=>?_
  refine A4 ?_
  obtain rfl:=oi_ D
  exact A3 [(0,0)] ⟨rfl,rfl⟩
theorem Fc (r':Ad) (r:Bool×Ad) (D:Ce r'=some r):Fn Tryz.prog 66 1 [.ptr 0 0] [.box (Ad.dv r') 96] (fun d' b'=>d'=.val (.bool r.1)/\b'=[.box (Ad.dv r.2) 96]):=by
 unfold Ce at D
 refine Fn.of Tryz.func66 rfl rfl rfl fun w0 I ρ0=>?_
 show Ca _ ⟨w0,I,ρ0,1,1,19⟩ _ _ _
 refine A6 1 9 Az ?_
 refine Ak ?_
 refine Ai fun B=>?_
 refine Ah ?_
 refine Cs (Bi _ _ []) (by kernel_rfl) [0,1,3,7,15,31,63,127,255,31,543,1567,3615,7711,16383,32767,65535] 9 145 B rfl rfl (by kernel_rfl) ?_
 refine Ak ?_
 rcases Eb D with ⟨h2,D⟩ | ⟨h2,D⟩
 ·refine Ak ?_
  refine Ai fun B=>?_
  refine A4 ?_
  obtain rfl:=oi_ D
  exact A3 [(0,0)] ⟨rfl,rfl⟩
 ·refine Ak ?_
  refine Ai fun B=>?_
  refine A4 ?_
  obtain rfl:=oi_ D
  exact A3 [(0,0)] ⟨rfl,rfl⟩
theorem Kn (r':Ad) (r:Aw×Ad) (D:Dd r'=some r):Fn Tryz.prog 61 1 [.ptr 0 0] [.box (Ad.dv r') 96] (fun d' b'=>d'=.agg [vj r.1.Alg,vj r.1.Bits]/\b'=[.box (Ad.dv r.2) 96]):=by
 unfold Dd at D
 refine Fn.of Tryz.func61 rfl rfl rfl fun w0 I ρ0=>?_
 show Ca _ ⟨w0,I,ρ0,1,1,24⟩ _ _ _
 refine A6 1 9 Az ?_
 refine Ak ?_
 refine Ai fun B=>?_
 refine A6 9 33 B ?_
 refine Ak ?_
 obtain⟨y,hy,D⟩:=Ae D
 refine Fg (rd:=[0]) (ps:=[0]) (gs:=[]) false rfl (Gf _ _ hy) rfl rfl (.cons (.ptr rfl) .nil) ⟨_,_,_,rfl,.head _,⟨_,rfl,(by repeat' (first | exact Hm.nil | apply Hm.cons | exact Ag.val | exact Ag.sl | exact Ag.nils | exact Ag.ptr rfl | exact Ag.rowK rfl))⟩,rfl⟩ rfl (by intro h; cases h) rfl (by intro h; first | (cases h; done) | exact⟨_,_,⟨rfl,rfl⟩,by simp,by simp⟩) ?_
 rintro _ _ ⟨rfl,rfl⟩
 refine Ak ?_
 refine Ai fun B=>?_
 refine A6 33 89 B ?_
 refine Ak ?_
 obtain⟨y_2,hy_2,D⟩:=Ae D
 refine Hc [17] [17] [] false (Ec _ _ hy_2) ?_
 refine Ak ?_
 obtain⟨y_3,hy_3,D⟩:=Ae D
 refine Hc [17] [17] [] false (Ec _ _ hy_3) ?_
 refine Bj rfl rfl (.build (r:=[vj y_2.1,vj y_3.1]) Vs nT z37 (by kernel_rfl) rfl) rfl rfl ?_
 refine Ak ?_
 refine Ai fun B=>?_
 refine Bm (ι:=Bool) (fun (b_1:Bool)=>mk [(2,.ptr 1 0),(4,.ptr 2 0)] [(0,.box [.sl 4 (An Aa.enc y.2.L),vj y.2.At,.val (.bool b_1)] 96),(1,.box [.val (.int .i64 0),.val (.int .i64 0)] 37),(2,.box [vj y_2.1,vj y_3.1] 37)] 3) (fun (b_1:Bool)=>Dd.j1 y y_2 y_3 b_1=some r) ?_ ?_
 ·refine Af (Bi _ _ []) 89 185 B rfl rfl ?_
  refine Ak ?_
  rcases Eb D with ⟨h4,D⟩ | ⟨h4,D⟩
  ·refine Ak ?_
   obtain⟨y_4,hy_4,D⟩:=Ae D
   refine Hc [17] [17] [] false (Fc _ _ hy_4) ?_
   refine Ak ?_
   refine Ai fun B=>?_
   exact⟨y_4.1,D,Ay [(0,0),(1,1),(2,73)]⟩
  ·refine Ak ?_
   refine Ai fun B=>?_
   exact⟨false,D,Ay [(0,0),(1,1),(2,73)]⟩
 ·rintro b_1 D
  replace D:Dd.j1 y y_2 y_3 b_1=some r:=D
  show Ca _ _ _ _ (mk _ _ _)
  unfold Dd.j1 at D
  refine A6 3 19 Az ?_
  refine Ak ?_
  refine Ai fun B=>?_
  refine A4 ?_
  obtain rfl:=oi_ D
  exact A3 [(0,0)] ⟨rfl,rfl⟩
theorem W2 (v:Aa) (r:Bool×Int) (D:Df v=some r):Fn Tryz.prog 111 0 [.agg (Aa.dv v)] [] (fun d' b'=>d'=.tup [.val (.bool r.1),vj r.2]/\b'=[]):=by
 unfold Df at D
 refine Fn.of Tryz.func111 rfl rfl rfl fun w0 I ρ0=>?_
 show Ca _ ⟨w0,I,ρ0,0,0,42⟩ _ _ _
 refine A6 0 24 Az ?_
 refine Ak ?_
 refine Ai fun B=>?_
 refine Ah ?_
 refine Bm (ι:=Bool) (fun (x36_1:Bool)=>mk [(1,.ptr 0 0),(36,.val (.bool x36_1))] [(0,.box (Aa.dv v) 50)] 1) (fun (x36_1:Bool)=>Df.j1 v x36_1=some r) ?_ ?_
 ·refine Af (Bi _ _ []) 24 288 B rfl rfl ?_
  refine Ak ?_
  rcases Eb D with ⟨h2,D⟩ | ⟨h2,D⟩
  ·refine Ak ?_
   refine Ai fun B=>?_
   exact⟨true,D,Ay [(0,0)]⟩
  ·refine Ak ?_
   rcases Eb D with ⟨h4,D⟩ | ⟨h4,D⟩
   ·refine Ak ?_
    refine Ai fun B=>?_
    exact⟨true,D,Ay [(0,0)]⟩
   ·refine Ak ?_
    rcases Eb D with ⟨h6,D⟩ | ⟨h6,D⟩
    ·refine Ak ?_
     refine Ai fun B=>?_
     exact⟨true,D,Ay [(0,0)]⟩
    ·refine Ak ?_
     rcases Eb D with ⟨h8,D⟩ | ⟨h8,D⟩
     ·refine Ak ?_
      refine Ai fun B=>?_
      exact⟨true,D,Ay [(0,0)]⟩
     ·refine Ak ?_
      obtain⟨e,he,D⟩:=Ae D
      refine Ak ?_
      refine Bj (Cj rfl rfl h8) rfl (Bl N8 (Bf B5 (Aq he) (o:=0) (c:=.int .u8 (e.toNat:Int)) rfl rfl)) rfl rfl ?_
      refine Ak ?_
      rcases Eb D with ⟨h10,D⟩ | ⟨h10,D⟩
      ·refine Ak ?_
       refine Bj (Cj rfl rfl h10) rfl (Bl N8 (Bf B5 (Aq he) (o:=0) (c:=.int .u8 (e.toNat:Int)) rfl rfl)) rfl rfl ?_
       refine Ak ?_
       refine Ai fun B=>?_
       exact⟨!decide ((e.toNat:Int)=255),D,Ay [(0,0)]⟩
      ·refine Ak ?_
       refine Ai fun B=>?_
       exact⟨false,D,Ay [(0,0)]⟩
 ·rintro x36_1 D
  replace D:Df.j1 v x36_1=some r:=D
  show Ca _ _ _ _ (mk _ _ _)
  unfold Df.j1 at D
  refine Dh rfl D (fun h13 D=>?_) fun h13 D=>?_
  ·refine Ah ?_
   refine Af (Bi _ _ []) 1 17 Az rfl rfl ?_
   refine Ak ?_
   refine Ai fun B=>?_
   refine A4 ?_
   obtain rfl:=oi_ D
   exact A3 [] ⟨rfl,rfl⟩
  ·refine Ao ?_
   repeat first | refine Cw ?_ | refine Cy ?_
   refine A6 1 57 Az ?_
   refine Ak ?_
   obtain⟨e_2,he_2,D⟩:=Ae D
   refine Ak ?_
   refine Bj rfl rfl (Bl N8 (Bf B5 (Aq he_2) (o:=0) (c:=.int .u8 (e_2.toNat:Int)) rfl rfl)) rfl rfl ?_
   refine Ak ?_
   refine Ai fun B=>?_
   refine A4 ?_
   obtain rfl:=oi_ D
   exact A3 [] ⟨rfl,rfl⟩
end Go.Proofs.YtfanepojdefdpaaGreat
