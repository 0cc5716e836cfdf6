import Derived.Test.YtlfeokjhphpjeaaGreatT1
import Derived.Test.YtlfeokjhphpjeaaGreatA4
import Derived.Test.YtlfeokjhphpjeaaGreatA5
set_option linter.unusedVariables false
set_option linter.unusedSimpArgs false
set_option maxRecDepth 100000
set_option maxHeartbeats 1600000
namespace Go.Proofs.YtlfeokjhphpjeaaGreat
open Go.RowKit
theorem La (s:ByteArray) (r:Aa) (D:Fa s=some r):Fn Tryz.prog 11 0 [vk s] [] (fun d' b'=>d'=.agg (Aa.dv r)/\b'=[]):=by
 unfold Fa at D
 refine Fn.of Tryz.func11 rfl rfl rfl fun w0 I ρ0=>?_
 show B9 _ ⟨w0,I,ρ0,0,0,6⟩ _ _ _
 refine A4 0 8 Az ?_
 refine Aj ?_
 refine Af fun B=>?_
 refine A4 8 40 B ?_
 refine Aj ?_
 refine Bl rfl rfl (Zy P9 Qf Ia) rfl rfl ?_
 refine Bl rfl rfl (.build (r:=[.val (.int .i64 12),.sl 1 (Al e8 (Ln s)),.val (.bool false),.val (.slice none 0 0)]) Hh Me No (by kernel_rfl) rfl) rfl rfl ?_
 refine Aj ?_
 refine Af fun B=>?_
 refine A1 ?_
 obtain rfl:=oi_ D
 exact Ax [] ⟨rfl,rfl⟩
theorem Fc (n:Int) (r:Aa) (D:Bf n=some r):Fn Tryz.prog 10 0 [vj n] [] (fun d' b'=>d'=.agg (Aa.dv r)/\b'=[]):=by
 unfold Bf at D
 refine Fn.of Tryz.func10 rfl rfl rfl fun w0 I ρ0=>?_
 show B9 _ ⟨w0,I,ρ0,0,0,45⟩ _ _ _
 refine A4 0 8 Az ?_
 refine Aj ?_
 refine Af fun B=>?_
 refine A4 8 40 B ?_
 refine Aj ?_
 refine Bl rfl rfl (Gw Kl Ia) rfl rfl ?_
 refine Bl rfl rfl (Ao F5 z5 (by decide) rfl rfl rfl rfl Xn (cs:=[.int .u8 ((u8 n).toNat:Int)]) (.cons .int .nil) rfl (l:=([(u8 n)]:List UInt8)) (f:=e8) rfl) rfl rfl ?_
 refine Aj ?_
 refine Af fun B=>?_
 refine Ah ?_
 refine A4 40 64 B ?_
 refine Aj ?_
 obtain⟨q,hq,D⟩:=Ac D
 refine Bl rfl rfl (Wj hq) rfl rfl ?_
 refine Aj ?_
 refine Af fun B=>?_
 refine Av ?_
 refine Nu (fun ((x_1,b_1):Int×List UInt8)=>mk [(2,.ptr 0 0),(3,.row 1),(4,vj x_1)] [(0,.box [.val (.int .i64 0),.val (.slice none 0 0),.val (.bool false),.val (.slice none 0 0)] 30),(1,.row 5 1 (Al e8 b_1))] 2) D (Ay [(0,0),(1,24)]) ?_
 rintro⟨x_1,b_1⟩ m1 o1 D hn1
 replace D:Bf.l1 x_1 b_1=some o1:=D
 show B9 _ _ _ _ (mk _ _ _)
 unfold Bf.l1 at D
 refine Ah ?_
 refine Bp (ι:=Bool) (fun (x35_2:Bool)=>mk [(2,.ptr 0 0),(3,.row 1),(4,vj x_1),(35,.val (.bool x35_2))] [(0,.box [.val (.int .i64 0),.val (.slice none 0 0),.val (.bool false),.val (.slice none 0 0)] 30),(1,.row 5 1 (Al e8 b_1))] 2) (fun (x35_2:Bool)=>Bf.j2 x_1 b_1 x35_2=some o1) ?_ ?_
 ·refine Ad (Bb _ _ []) 2 210 Az rfl rfl ?_
  refine Aj ?_
  rcases Dx D with ⟨h4,D⟩ | ⟨h4,D⟩
  ·refine Aj ?_
   rcases Dx D with ⟨h5,D⟩ | ⟨h5,D⟩
   ·refine Aj ?_
    refine Af fun B=>?_
    exact⟨true,D,Ay [(0,0),(1,1)]⟩
   ·refine Aj ?_
    rcases Dx D with ⟨h7,D⟩ | ⟨h7,D⟩
    ·refine Aj ?_
     obtain⟨e,he,D⟩:=Ac D
     refine Aj ?_
     refine Fe (rd:=[1]) (Ef rfl rfl h7) rfl (.loadR1 Na (A9 B7 (Aw he) (o:=0) (c:=.int .u8 (e.toNat:Int)) rfl rfl)) rfl rfl ?_
     refine Aj ?_
     rcases Dx D with ⟨h8,D⟩ | ⟨h8,D⟩
     ·refine Aj ?_
      refine Af fun B=>?_
      exact⟨true,D,Ay [(0,0),(1,1)]⟩
     ·refine Aj ?_
      rcases Dx D with ⟨h10,D⟩ | ⟨h10,D⟩
      ·refine Aj ?_
       refine Fe (rd:=[1]) (Ef rfl rfl h10) rfl (.loadR1 Na (A9 B7 (Aw he) (o:=0) (c:=.int .u8 (e.toNat:Int)) rfl rfl)) rfl rfl ?_
       refine Aj ?_
       refine Af fun B=>?_
       exact⟨decide ((e.toNat:Int) < 128),D,Ay [(0,0),(1,1)]⟩
      ·refine Aj ?_
       refine Af fun B=>?_
       exact⟨false,D,Ay [(0,0),(1,1)]⟩
    ·refine Aj ?_
     rcases Dx D with ⟨h13,D⟩ | ⟨h13,D⟩
     ·refine Aj ?_
      obtain⟨e_2,he_2,D⟩:=Ac D
      refine Aj ?_
      refine Fe (rd:=[1]) (Ef rfl rfl h13) rfl (.loadR1 Na (A9 B7 (Aw he_2) (o:=0) (c:=.int .u8 (e_2.toNat:Int)) rfl rfl)) rfl rfl ?_
      refine Aj ?_
      refine Af fun B=>?_
      exact⟨decide ((e_2.toNat:Int) < 128),D,Ay [(0,0),(1,1)]⟩
     ·refine Aj ?_
      refine Af fun B=>?_
      exact⟨false,D,Ay [(0,0),(1,1)]⟩
  ·refine Aj ?_
   rcases Dx D with ⟨h16,D⟩ | ⟨h16,D⟩
   ·refine Aj ?_
    obtain⟨e_3,he_3,D⟩:=Ac D
    refine Aj ?_
    refine Fe (rd:=[1]) (Ef rfl rfl h16) rfl (.loadR1 Na (A9 B7 (Aw he_3) (o:=0) (c:=.int .u8 (e_3.toNat:Int)) rfl rfl)) rfl rfl ?_
    refine Aj ?_
    rcases Dx D with ⟨h17,D⟩ | ⟨h17,D⟩
    ·refine Aj ?_
     refine Af fun B=>?_
     exact⟨true,D,Ay [(0,0),(1,1)]⟩
    ·refine Aj ?_
     rcases Dx D with ⟨h19,D⟩ | ⟨h19,D⟩
     ·refine Aj ?_
      refine Fe (rd:=[1]) (Ef rfl rfl h19) rfl (.loadR1 Na (A9 B7 (Aw he_3) (o:=0) (c:=.int .u8 (e_3.toNat:Int)) rfl rfl)) rfl rfl ?_
      refine Aj ?_
      refine Af fun B=>?_
      exact⟨decide ((e_3.toNat:Int) < 128),D,Ay [(0,0),(1,1)]⟩
     ·refine Aj ?_
      refine Af fun B=>?_
      exact⟨false,D,Ay [(0,0),(1,1)]⟩
   ·refine Aj ?_
    rcases Dx D with ⟨h22,D⟩ | ⟨h22,D⟩
    ·refine Aj ?_
     obtain⟨e_4,he_4,D⟩:=Ac D
     refine Aj ?_
     refine Fe (rd:=[1]) (Ef rfl rfl h22) rfl (.loadR1 Na (A9 B7 (Aw he_4) (o:=0) (c:=.int .u8 (e_4.toNat:Int)) rfl rfl)) rfl rfl ?_
     refine Aj ?_
     refine Af fun B=>?_
     exact⟨decide ((e_4.toNat:Int) < 128),D,Ay [(0,0),(1,1)]⟩
    ·refine Aj ?_
     refine Af fun B=>?_
     exact⟨false,D,Ay [(0,0),(1,1)]⟩
 ·rintro x35_2 D
  replace D:Bf.j2 x_1 b_1 x35_2=some o1:=D
  show B9 _ _ _ _ (mk _ _ _)
  unfold Bf.j2 at D
  refine Dg rfl D (fun h25 D=>?_) fun h25 D=>?_
  ·refine Ap ?_
   repeat first | refine Dc ?_ | refine De ?_
   refine Ah ?_
   refine Av ?_
   refine Ad (Bb _ _ []) 2 50 Az rfl rfl ?_
   refine Aj ?_
   refine Bl rfl rfl (Gw Kl Ia) rfl rfl ?_
   refine Bl rfl rfl (Ao F5 z5 (by decide) rfl rfl rfl rfl Xn (cs:=[.int .u8 ((u8 x_1).toNat:Int)]) (.cons .int .nil) rfl (l:=([(u8 x_1)]:List UInt8)) (f:=e8) rfl) rfl rfl ?_
   refine Aj ?_
   obtain⟨l,hl,D⟩:=Ac D
   refine Fe (rd:=[18,1]) rfl rfl (Dj F5 B7 .row rfl .row rfl hl rfl) rfl rfl ?_
   refine Aj ?_
   refine Af fun B=>?_
   refine Ad (Bb _ _ []) 50 74 B rfl rfl ?_
   refine Aj ?_
   obtain⟨q_2,hq_2,D⟩:=Ac D
   refine Bl rfl rfl (Wj hq_2) rfl rfl ?_
   refine Aj ?_
   refine Af fun B=>?_
   obtain rfl:=oi_ D
   exact⟨((q_2,l),m1),Nat.lt_succ_self _,hn1,Ay [(0,0),(1,34)]⟩
  ·refine Cm ?_
   repeat first | refine Dc ?_ | refine De ?_
   replace D:=Dr D hn1
   refine A4 2 26 Az ?_
   refine Aj ?_
   refine Bl rfl rfl (.build (r:=[.val (.int .i64 2),.row 1,.val (.bool false),.val (.slice none 0 0)]) Hh Me No (by kernel_rfl) rfl) rfl rfl ?_
   refine Aj ?_
   refine Af fun B=>?_
   refine A1 ?_
   obtain rfl:=oi_ D
   exact Ax [] ⟨rfl,rfl⟩
theorem Gq.F (rec:(List Aa)->Option ((List Aa))) (hrec:∀ (l:(List Aa)) (r:(List Aa)),rec l=some r->Fn Tryz.prog 29 0 [.sl 4 (Al Aa.enc l)] [] (fun d' b'=>d'=.row 0/\b'=[.row 30 4 (Al Aa.enc r)])) (l:(List Aa)) (r:(List Aa)) (D:Bs.F rec l=some r):Fn Tryz.prog 29 0 [.sl 4 (Al Aa.enc l)] [] (fun d' b'=>d'=.row 0/\b'=[.row 30 4 (Al Aa.enc r)]):=by
 unfold Bs.F at D
 refine Fn.of Tryz.func29 rfl rfl rfl fun w0 I ρ0=>?_
 show B9 _ ⟨w0,I,ρ0,0,0,30⟩ _ _ _
 refine A4 0 8 Az ?_
 refine Aj ?_
 refine Af fun B=>?_
 refine A4 8 16 B ?_
 refine Aj ?_
 refine Af fun B=>?_
 refine Ah ?_
 refine A4 16 24 B ?_
 refine Aj ?_
 refine Af fun B=>?_
 refine Av ?_
 refine Nu (fun ((i_1,out_1):Int×List Aa)=>mk [(0,.sl 4 (Al Aa.enc l)),(3,.row 0),(4,vj i_1)] [(0,.row 30 4 (Al Aa.enc out_1))] 1) D (Ay []) ?_
 rintro⟨i_1,out_1⟩ m1 o1 D hn1
 replace D:Bs.l1 rec l i_1 out_1=some o1:=D
 show B9 _ _ _ _ (mk _ _ _)
 unfold Bs.l1 at D
 refine Ah ?_
 refine A4 1 33 Az ?_
 refine Aj ?_
 refine Af fun B=>?_
 refine Dg rfl D (fun h5 D=>?_) fun h5 D=>?_
 ·refine Ap ?_
  repeat first | refine Dc ?_ | refine De ?_
  refine Ah ?_
  refine Av ?_
  refine A4 33 81 B ?_
  refine Aj ?_
  obtain⟨e,he,D⟩:=Ac D
  refine Aj ?_
  refine Bl rfl rfl (G1 Nt (Fp Aa.enc_len (Aw he) (o:=0) (m:=4) (cs:=[.int .i64 e.Tag,.sl 1 (Al e8 e.Bytes),.bool e.Nested,.sl 4 (Al Aa.enc e.Elements)]) (by simp only [Aa.enc_eq]; rfl) (by decide) rfl) (Di Aa.enc_len (Aw he) (o:=0) (m:=4) (by decide) rfl)) rfl rfl ?_
  refine Aj ?_
  refine Af fun B=>?_
  refine A4 81 129 B ?_
  refine Bl rfl rfl (Ao F5 z5 (by decide) rfl rfl rfl rfl Xn (cs:=[]) .nil rfl (l:=([]:List UInt8)) (f:=e8) rfl) rfl rfl ?_
  refine Aj ?_
  obtain⟨l_2,hl_2,D⟩:=Ac D
  refine Fe (rd:=[81]) rfl rfl (Dj F5 B7 .row rfl .sl rfl hl_2 rfl) rfl rfl ?_
  refine Aj ?_
  refine Af fun B=>?_
  refine A4 129 169 B ?_
  refine Aj ?_
  obtain⟨y,hy,D⟩:=Ac D
  refine Eh (rd:=[]) (ps:=[]) (gs:=[]) false rfl (hrec _ _ hy) rfl rfl (.cons .sl .nil) rfl rfl (by intro h; cases h) rfl (by intro h; first | (cases h; done) | exact⟨_,_,⟨rfl,rfl⟩,by simp,by simp⟩) ?_
  rintro _ _ ⟨rfl,rfl⟩
  refine Aj ?_
  refine Af fun B=>?_
  refine Je (σ':=mk [(0,.sl 4 (Al Aa.enc l)),(3,.row 0),(4,vj i_1),(5,.ptr 1 0)] [(0,.row 30 4 (Al Aa.enc out_1)),(1,.box [vj e.Tag,.sl 1 (Al e8 l_2),.val (.bool e.Nested),.row 2] 30),(2,.row 30 4 (Al Aa.enc y))] 3) (Ay [(0,0),(1,65),(2,145)]) ?_
  refine Je (σ':=mk [(0,.sl 4 (Al Aa.enc l)),(3,.row 0),(4,vj i_1),(5,.ptr 1 0)] [(0,.row 30 4 (Al Aa.enc out_1)),(1,.box [vj e.Tag,.sl 1 (Al e8 l_2),.val (.bool e.Nested),.sl 4 (Al Aa.enc y)] 30)] 2) (Ay [(0,0),(1,1)]) ?_
  refine Ad (Bb _ _ []) 2 42 Az rfl rfl ?_
  refine Aj ?_
  refine Bl rfl rfl (Ao Ip No (by decide) rfl rfl rfl rfl Qb (cs:=[.int .i64 e.Tag,.sl 1 (Al e8 l_2),.bool e.Nested,.sl 4 (Al Aa.enc y)]) (.cons .int (.cons .sl (.cons .bool (.cons .sl .nil)))) rfl (l:=([(Aa.mk e.Tag l_2 e.Nested y)]:List Aa)) (f:=Aa.enc) (by simp only [Al,List.flatMap_cons,aBn,Aa.enc_eq]; rfl)) rfl rfl ?_
  obtain⟨l_3,hl_3,D⟩:=Ac D
  refine Fe (rd:=[0,18]) rfl rfl (Dj Ip Aa.enc_len .row rfl .row rfl hl_3 rfl) rfl rfl ?_
  refine Aj ?_
  refine Af fun B=>?_
  refine Ad (Bb _ _ []) 42 66 B rfl rfl ?_
  refine Aj ?_
  refine Af fun B=>?_
  obtain rfl:=oi_ D
  exact⟨((W (i_1 + 1),l_3),m1),Nat.lt_succ_self _,hn1,Ay [(0,26)]⟩
 ·refine Cm ?_
  repeat first | refine Dc ?_ | refine De ?_
  replace D:=Dr D hn1
  refine A4 33 49 B ?_
  refine Aj ?_
  refine Af fun B=>?_
  refine A1 ?_
  obtain rfl:=oi_ D
  exact Ax [(0,0)] ⟨rfl,rfl⟩
theorem Gq (l:(List Aa)) (r:(List Aa)) (D:Bs l=some r):Fn Tryz.prog 29 0 [.sl 4 (Al Aa.enc l)] [] (fun d' b'=>d'=.row 0/\b'=[.row 30 4 (Al Aa.enc r)]):=
 Ja (motive:=fun (x:(List Aa)) (r:(List Aa))=>Fn Tryz.prog 29 0 [.sl 4 (Al Aa.enc x)] [] (fun d' b'=>d'=.row 0/\b'=[.row 30 4 (Al Aa.enc r)])) (fun rec hrec x r h=>Gq.F _ (fun l r h=>hrec l r h) x r h) l r D
theorem Lf (l:(List Aa)) (r:Aa) (D:Fr l=some r):Fn Tryz.prog 14 0 [.sl 4 (Al Aa.enc l)] [] (fun d' b'=>d'=.agg (Aa.dv r)/\b'=[]):=by
 unfold Fr at D
 refine Fn.of Tryz.func14 rfl rfl rfl fun w0 I ρ0=>?_
 show B9 _ ⟨w0,I,ρ0,0,0,6⟩ _ _ _
 refine A4 0 8 Az ?_
 refine Aj ?_
 refine Af fun B=>?_
 refine A4 8 40 B ?_
 refine Aj ?_
 obtain⟨y,hy,D⟩:=Ac D
 refine Eh (rd:=[]) (ps:=[]) (gs:=[]) false rfl (Gq _ _ hy) rfl rfl (.cons .sl .nil) rfl rfl (by intro h; cases h) rfl (by intro h; first | (cases h; done) | exact⟨_,_,⟨rfl,rfl⟩,by simp,by simp⟩) ?_
 rintro _ _ ⟨rfl,rfl⟩
 refine Bl rfl rfl (.build (r:=[.val (.int .i64 48),.val (.slice none 0 0),.val (.bool true),.row 16]) Hh Me No (by kernel_rfl) rfl) rfl rfl ?_
 refine Aj ?_
 refine Af fun B=>?_
 refine A1 ?_
 obtain rfl:=oi_ D
 exact Ax [] ⟨rfl,rfl⟩
theorem T8 (u:A3) (r:Aa) (D:Jr u=some r):Fn Tryz.prog 46 0 [.agg [vj u.Alg,vj u.Bits]] [] (fun d' b'=>d'=.agg (Aa.dv r)/\b'=[]):=by
 unfold Jr at D
 refine Fn.of Tryz.func46 rfl rfl rfl fun w0 I ρ0=>?_
 show B9 _ ⟨w0,I,ρ0,0,0,11⟩ _ _ _
 refine A4 0 16 Az ?_
 refine Aj ?_
 refine Af fun B=>?_
 refine Ah ?_
 refine C5 (Bb _ _ [64]) (by kernel_rfl) [0,1,3,0,8,31,63,127,255] 16 88 B rfl rfl (by kernel_rfl) ?_
 refine Aj ?_
 obtain⟨y,hy,D⟩:=Ac D
 refine Dy (Fc _ _ hy) ?_
 refine Aj ?_
 obtain⟨y_2,hy_2,D⟩:=Ac D
 refine Dy (Fc _ _ hy_2) ?_
 refine Hq (rd:=[]) rfl rfl (Ao Ip No (by decide) rfl rfl rfl rfl Qb (cs:=[.int .i64 y.Tag,.sl 1 (Al e8 y.Bytes),.bool y.Nested,.sl 4 (Al Aa.enc y.Elements),.int .i64 y_2.Tag,.sl 1 (Al e8 y_2.Bytes),.bool y_2.Nested,.sl 4 (Al Aa.enc y_2.Elements)]) (.cons .int (.cons .sl (.cons .bool (.cons .sl (.cons .int (.cons .sl (.cons .bool (.cons .sl .nil)))))))) rfl (l:=([y,y_2]:List Aa)) (f:=Aa.enc) (by simp only [Al,List.flatMap_cons,aBn,Aa.enc_eq]; rfl)) rfl rfl rfl ?_
 obtain⟨y_3,hy_3,D⟩:=Ac D
 refine Dy (Lf _ _ hy_3) ?_
 refine Aj ?_
 refine Af fun B=>?_
 refine A1 ?_
 obtain rfl:=oi_ D
 exact Ax [] ⟨rfl,rfl⟩
theorem Z7 (b:Bool) (r:Aa) (D:K9 b=some r):Fn Tryz.prog 47 0 [.val (.bool b)] [] (fun d' b'=>d'=.agg (Aa.dv r)/\b'=[]):=by
 unfold K9 at D
 refine Fn.of Tryz.func47 rfl rfl rfl fun w0 I ρ0=>?_
 show B9 _ ⟨w0,I,ρ0,0,0,8⟩ _ _ _
 refine A4 0 8 Az ?_
 refine Aj ?_
 refine Af fun B=>?_
 refine Ah ?_
 refine A4 8 16 B ?_
 refine Aj ?_
 refine Af fun B=>?_
 refine Dg rfl D (fun h3 D=>?_) fun h3 D=>?_
 ·refine Ah ?_
  refine Ad (Bb _ _ []) 16 40 B rfl rfl ?_
  refine Bl rfl rfl (Ao F5 z5 (by decide) rfl rfl rfl rfl Xn (cs:=[.int .u8 255]) (.cons .int .nil) rfl (l:=([(255:UInt8)]:List UInt8)) (f:=e8) rfl) rfl rfl ?_
  refine Bl rfl rfl (.build (r:=[.val (.int .i64 1),.row 16,.val (.bool false),.val (.slice none 0 0)]) Hh Me No (by kernel_rfl) rfl) rfl rfl ?_
  refine Aj ?_
  refine Af fun B=>?_
  refine A1 ?_
  obtain rfl:=oi_ D
  exact Ax [] ⟨rfl,rfl⟩
 ·refine Ap ?_
  repeat first | refine Dc ?_ | refine De ?_
  refine A4 16 40 B ?_
  refine Bl rfl rfl (Ao F5 z5 (by decide) rfl rfl rfl rfl Xn (cs:=[.int .u8 0]) (.cons .int .nil) rfl (l:=([(0:UInt8)]:List UInt8)) (f:=e8) rfl) rfl rfl ?_
  refine Bl rfl rfl (.build (r:=[.val (.int .i64 1),.row 16,.val (.bool false),.val (.slice none 0 0)]) Hh Me No (by kernel_rfl) rfl) rfl rfl ?_
  refine Aj ?_
  refine Af fun B=>?_
  refine A1 ?_
  obtain rfl:=oi_ D
  exact Ax [] ⟨rfl,rfl⟩
theorem Rs (c:Ab) (r:Aa) (D:Co c=some r):Fn Tryz.prog 24 0 [.agg (Ab.dv c)] [] (fun d' b'=>d'=.agg (Aa.dv r)/\b'=[]):=by
 unfold Co at D
 refine Fn.of Tryz.func24 rfl rfl rfl fun w0 I ρ0=>?_
 show B9 _ ⟨w0,I,ρ0,0,0,55⟩ _ _ _
 refine A4 0 16 Az ?_
 refine Aj ?_
 refine Af fun B=>?_
 refine A4 16 24 B ?_
 refine Aj ?_
 refine Af fun B=>?_
 refine Ah ?_
 refine A4 24 32 B ?_
 refine Aj ?_
 refine Af fun B=>?_
 refine Av ?_
 refine Nu (fun ((i_1,names_1):Int×List Aa)=>mk [(1,.ptr 0 0),(2,.ptr 1 0),(3,.row 2),(4,vj i_1)] [(0,.box (Ab.dv c) 38),(1,.box [.val (.int .i64 0),.val (.slice none 0 0),.val (.bool false),.val (.slice none 0 0)] 30),(2,.row 30 4 (Al Aa.enc names_1))] 3) D (Ay [(0,0),(1,8)]) ?_
 rintro⟨i_1,names_1⟩ m1 o1 D hn1
 replace D:Co.l1 c i_1 names_1=some o1:=D
 show B9 _ _ _ _ (mk _ _ _)
 unfold Co.l1 at D
 refine Ah ?_
 refine A4 3 43 Az ?_
 refine Aj ?_
 refine Af fun B=>?_
 refine Dg rfl D (fun h5 D=>?_) fun h5 D=>?_
 ·refine Ap ?_
  repeat first | refine Dc ?_ | refine De ?_
  refine Ah ?_
  refine Av ?_
  refine Ad (Bb _ _ []) 43 123 B rfl rfl ?_
  refine Aj ?_
  obtain⟨e,he,D⟩:=Ac D
  refine Aj ?_
  refine Bl rfl rfl (Bq jX (A9 Hs (Aw he) (o:=0) (c:=.str e) rfl rfl)) rfl rfl ?_
  obtain⟨y,hy,D⟩:=Ac D
  refine Dy (La _ _ hy) ?_
  refine Bl rfl rfl (Ao Ip No (by decide) rfl rfl rfl rfl Qb (cs:=[.int .i64 y.Tag,.sl 1 (Al e8 y.Bytes),.bool y.Nested,.sl 4 (Al Aa.enc y.Elements)]) (.cons .int (.cons .sl (.cons .bool (.cons .sl .nil)))) rfl (l:=([y]:List Aa)) (f:=Aa.enc) (by simp only [Al,List.flatMap_cons,aBn,Aa.enc_eq]; rfl)) rfl rfl ?_
  obtain⟨l,hl,D⟩:=Ac D
  refine Fe (rd:=[2,99]) rfl rfl (Dj Ip Aa.enc_len .row rfl .row rfl hl rfl) rfl rfl ?_
  refine Aj ?_
  refine Af fun B=>?_
  refine Ad (Bb _ _ []) 123 147 B rfl rfl ?_
  refine Aj ?_
  refine Af fun B=>?_
  obtain rfl:=oi_ D
  exact⟨((W (i_1 + 1),l),m1),Nat.lt_succ_self _,hn1,Ay [(0,0),(1,1),(2,107)]⟩
 ·refine Cm ?_
  repeat first | refine Dc ?_ | refine De ?_
  replace D:=Dr D hn1
  refine Ah ?_
  refine Je (σ':=mk [(1,.ptr 0 0),(2,.ptr 1 0),(3,.sl 4 (Al Aa.enc names_1))] [(0,.box (Ab.dv c) 38),(1,.box [.val (.int .i64 0),.val (.slice none 0 0),.val (.bool false),.val (.slice none 0 0)] 30)] 2) (Ay [(0,0),(1,1)]) ?_
  refine C5 (Bb _ _ [258]) (by kernel_rfl) [0,1,3,0,8,31,0,64,255,0,512,2047,0,4096,16383,0,32768,131071,0,262144,1048575,0,2097152,8388607,0,16777216,67108863,0,134217728,536870911,0,2147483647,4294967295,8589934591,17179869183] 2 282 Az rfl rfl (by kernel_rfl) ?_
  refine Aj ?_
  obtain⟨y_12,hy_12,D⟩:=Ac D
  refine Dy (Fc _ _ hy_12) ?_
  refine Aj ?_
  obtain⟨y_13,hy_13,D⟩:=Ac D
  refine Dy (La _ _ hy_13) ?_
  refine Aj ?_
  obtain⟨y_14,hy_14,D⟩:=Ac D
  refine Dy (La _ _ hy_14) ?_
  refine Aj ?_
  obtain⟨y_15,hy_15,D⟩:=Ac D
  refine Dy (T8 _ _ hy_15) ?_
  refine Aj ?_
  obtain⟨y_16,hy_16,D⟩:=Ac D
  refine Dy (Fc _ _ hy_16) ?_
  refine Aj ?_
  obtain⟨y_17,hy_17,D⟩:=Ac D
  refine Dy (T8 _ _ hy_17) ?_
  refine Aj ?_
  obtain⟨y_18,hy_18,D⟩:=Ac D
  refine Dy (Fc _ _ hy_18) ?_
  refine Aj ?_
  obtain⟨y_19,hy_19,D⟩:=Ac D
  refine Dy (Fc _ _ hy_19) ?_
  refine Aj ?_
  obtain⟨y_20,hy_20,D⟩:=Ac D
  refine Dy (Z7 _ _ hy_20) ?_
  refine Aj ?_
  obtain⟨y_21,hy_21,D⟩:=Ac D
  refine Dy (Fc _ _ hy_21) ?_
  refine Aj ?_
  obtain⟨y_22,hy_22,D⟩:=Ac D
  refine Dy (Lf _ _ hy_22) ?_
  refine Hq (rd:=[]) rfl rfl (Ao Ip No (by decide) rfl rfl rfl rfl Qb (cs:=[.int .i64 y_12.Tag,.sl 1 (Al e8 y_12.Bytes),.bool y_12.Nested,.sl 4 (Al Aa.enc y_12.Elements),.int .i64 y_13.Tag,.sl 1 (Al e8 y_13.Bytes),.bool y_13.Nested,.sl 4 (Al Aa.enc y_13.Elements),.int .i64 y_14.Tag,.sl 1 (Al e8 y_14.Bytes),.bool y_14.Nested,.sl 4 (Al Aa.enc y_14.Elements),.int .i64 y_15.Tag,.sl 1 (Al e8 y_15.Bytes),.bool y_15.Nested,.sl 4 (Al Aa.enc y_15.Elements),.int .i64 y_16.Tag,.sl 1 (Al e8 y_16.Bytes),.bool y_16.Nested,.sl 4 (Al Aa.enc y_16.Elements),.int .i64 y_17.Tag,.sl 1 (Al e8 y_17.Bytes),.bool y_17.Nested,.sl 4 (Al Aa.enc y_17.Elements),.int .i64 y_18.Tag,.sl 1 (Al e8 y_18.Bytes),.bool y_18.Nested,.sl 4 (Al Aa.enc y_18.Elements),.int .i64 y_19.Tag,.sl 1 (Al e8 y_19.Bytes),.bool y_19.Nested,.sl 4 (Al Aa.enc y_19.Elements),.int .i64 y_20.Tag,.sl 1 (Al e8 y_20.Bytes),.bool y_20.Nested,.sl 4 (Al Aa.enc y_20.Elements),.int .i64 y_21.Tag,.sl 1 (Al e8 y_21.Bytes),.bool y_21.Nested,.sl 4 (Al Aa.enc y_21.Elements),.int .i64 y_22.Tag,.sl 1 (Al e8 y_22.Bytes),.bool y_22.Nested,.sl 4 (Al Aa.enc y_22.Elements)]) (.cons .int (.cons .sl (.cons .bool (.cons .sl (.cons .int (.cons .sl (.cons .bool (.cons .sl (.cons .int (.cons .sl (.cons .bool (.cons .sl (.cons .int (.cons .sl (.cons .bool (.cons .sl (.cons .int (.cons .sl (.cons .bool (.cons .sl (.cons .int (.cons .sl (.cons .bool (.cons .sl (.cons .int (.cons .sl (.cons .bool (.cons .sl (.cons .int (.cons .sl (.cons .bool (.cons .sl (.cons .int (.cons .sl (.cons .bool (.cons .sl (.cons .int (.cons .sl (.cons .bool (.cons .sl (.cons .int (.cons .sl (.cons .bool (.cons .sl .nil)))))))))))))))))))))))))))))))))))))))))))) rfl (l:=([y_12,y_13,y_14,y_15,y_16,y_17,y_18,y_19,y_20,y_21,y_22]:List Aa)) (f:=Aa.enc) (by simp only [Al,List.flatMap_cons,aBn,Aa.enc_eq]; rfl)) rfl rfl rfl ?_
  obtain⟨y_23,hy_23,D⟩:=Ac D
  refine Dy (Lf _ _ hy_23) ?_
  refine Aj ?_
  refine Af fun B=>?_
  refine A1 ?_
  obtain rfl:=oi_ D
  exact Ax [] ⟨rfl,rfl⟩
theorem T9 (n:Int) (r:Bool) (D:Jm n=some r):Fn Tryz.prog 50 0 [vj n] [] (fun d' b'=>d'=.val (.bool r)/\b'=[]):=by
 unfold Jm at D
 refine Fn.of Tryz.func50 rfl rfl rfl fun w0 I ρ0=>?_
 show B9 _ ⟨w0,I,ρ0,0,0,14⟩ _ _ _
 refine A4 0 8 Az ?_
 refine Aj ?_
 refine Af fun B=>?_
 refine A4 8 104 B ?_
 refine Aj ?_
 rcases Dx D with ⟨h2,D⟩ | ⟨h2,D⟩
 ·refine Aj ?_
  rcases Dx D with ⟨h3,D⟩ | ⟨h3,D⟩
  ·refine Aj ?_
   obtain⟨q,hq,D⟩:=Ac D
   refine Bl (Ef rfl rfl h3) rfl (Y0 hq) rfl rfl ?_
   refine Aj ?_
   refine Af fun B=>?_
   refine A1 ?_
   obtain rfl:=oi_ D
   exact Ax [] ⟨rfl,rfl⟩
  ·refine Aj ?_
   refine Af fun B=>?_
   refine A1 ?_
   obtain rfl:=oi_ D
   exact Ax [] ⟨rfl,rfl⟩
 ·refine Aj ?_
  refine Af fun B=>?_
  refine A1 ?_
  obtain rfl:=oi_ D
  exact Ax [] ⟨rfl,rfl⟩
theorem J3.F (rec:Aa->Option (Bool)) (hrec:∀ (v:Aa) (r:Bool),rec v=some r->Fn Tryz.prog 30 0 [.agg (Aa.dv v)] [] (fun d' b'=>d'=.val (.bool r)/\b'=[])) (v:Aa) (r:Bool) (D:A6.F rec v=some r):Fn Tryz.prog 30 0 [.agg (Aa.dv v)] [] (fun d' b'=>d'=.val (.bool r)/\b'=[]):=by
 unfold A6.F at D
 refine Fn.of Tryz.func30 rfl rfl rfl fun w0 I ρ0=>?_
 show B9 _ ⟨w0,I,ρ0,0,0,53⟩ _ _ _
 refine A4 0 16 Az ?_
 refine Aj ?_
 refine Af fun B=>?_
 refine Ah ?_
 refine Bp (ι:=Bool) (fun (x38_1:Bool)=>mk [(1,.ptr 0 0),(38,.val (.bool x38_1))] [(0,.box (Aa.dv v) 30)] 1) (fun (x38_1:Bool)=>A6.j1 rec v x38_1=some r) ?_ ?_
 ·refine Ad (Bb _ _ []) 16 296 B rfl rfl ?_
  refine Aj ?_
  obtain⟨y,hy,D⟩:=Ac D
  refine Dy (T9 _ _ hy) ?_
  refine Aj ?_
  rcases Dx D with ⟨h2,D⟩ | ⟨h2,D⟩
  ·refine Aj ?_
   refine Af fun B=>?_
   exact⟨true,D,Ay [(0,0)]⟩
  ·refine Aj ?_
   obtain⟨q,hq,D⟩:=Ac D
   refine Bl (Ef rfl rfl h2) rfl (bA hq) rfl rfl ?_
   obtain⟨q_2,hq_2,D⟩:=Ac D
   refine Bl (Ef rfl rfl h2) rfl (Y0 hq_2) rfl rfl ?_
   refine Aj ?_
   refine Bl (Ef rfl rfl h2) rfl (kH rM) rfl rfl ?_
   refine Aj ?_
   rcases Dx D with ⟨h4,D⟩ | ⟨h4,D⟩
   ·refine Aj ?_
    refine Af fun B=>?_
    exact⟨true,D,Ay [(0,0)]⟩
   ·refine Aj ?_
    rcases Dx D with ⟨h6,D⟩ | ⟨h6,D⟩
    ·refine Aj ?_
     rcases Dx D with ⟨h7,D⟩ | ⟨h7,D⟩
     ·refine Aj ?_
      refine Af fun B=>?_
      exact⟨true,D,Ay [(0,0)]⟩
     ·refine Aj ?_
      refine Af fun B=>?_
      exact⟨false,D,Ay [(0,0)]⟩
    ·refine Aj ?_
     refine Af fun B=>?_
     exact⟨decide (0 < (v.Elements.length:Int)),D,Ay [(0,0)]⟩
 ·rintro x38_1 D
  replace D:A6.j1 rec v x38_1=some r:=D
  show B9 _ _ _ _ (mk _ _ _)
  unfold A6.j1 at D
  refine Dg rfl D (fun h11 D=>?_) fun h11 D=>?_
  ·refine Ah ?_
   refine Ad (Bb _ _ []) 1 9 Az rfl rfl ?_
   refine Aj ?_
   refine Af fun B=>?_
   refine A1 ?_
   obtain rfl:=oi_ D
   exact Ax [] ⟨rfl,rfl⟩
  ·refine Ap ?_
   repeat first | refine Dc ?_ | refine De ?_
   refine Ah ?_
   refine A4 1 9 Az ?_
   refine Aj ?_
   refine Af fun B=>?_
   refine Av ?_
   refine Nu (fun (i_2:Int)=>mk [(1,.ptr 0 0),(3,vj i_2)] [(0,.box (Aa.dv v) 30)] 1) D (Ay [(0,0)]) ?_
   rintro i_2 m2 o2 D hn2
   replace D:A6.l2 rec v i_2=some o2:=D
   show B9 _ _ _ _ (mk _ _ _)
   unfold A6.l2 at D
   refine Ah ?_
   refine A4 1 41 Az ?_
   refine Aj ?_
   refine Af fun B=>?_
   refine Dg rfl D (fun h15 D=>?_) fun h15 D=>?_
   ·refine Ap ?_
    repeat first | refine Dc ?_ | refine De ?_
    refine Ah ?_
    refine Av ?_
    refine A4 41 97 B ?_
    refine Aj ?_
    obtain⟨e,he,D⟩:=Ac D
    refine Aj ?_
    refine Bl rfl rfl (G1 Nt (Fp Aa.enc_len (Aw he) (o:=0) (m:=4) (cs:=[.int .i64 e.Tag,.sl 1 (Al e8 e.Bytes),.bool e.Nested,.sl 4 (Al Aa.enc e.Elements)]) (by simp only [Aa.enc_eq]; rfl) (by decide) rfl) (Di Aa.enc_len (Aw he) (o:=0) (m:=4) (by decide) rfl)) rfl rfl ?_
    obtain⟨y_2,hy_2,D⟩:=Ac D
    refine Dy (hrec _ _ hy_2) ?_
    refine Aj ?_
    refine Af fun B=>?_
    refine Dg rfl D (fun h17 D=>?_) fun h17 D=>?_
    ·refine Ah ?_
     refine Ad (Bb _ _ []) 97 105 B rfl rfl ?_
     refine Aj ?_
     refine Af fun B=>?_
     refine A1 ?_
     replace D:=Dr D hn2
     obtain rfl:=oi_ D
     exact Ax [] ⟨rfl,rfl⟩
    ·refine Ap ?_
     repeat first | refine Dc ?_ | refine De ?_
     refine Ad (Bb _ _ []) 97 121 B rfl rfl ?_
     refine Aj ?_
     refine Af fun B=>?_
     obtain rfl:=oi_ D
     exact⟨(W (i_2 + 1),m2),Nat.lt_succ_self _,hn2,Ay [(0,0)]⟩
   ·refine Cm ?_
    repeat first | refine Dc ?_ | refine De ?_
    replace D:=Dr D hn2
    refine A4 41 49 B ?_
    refine Aj ?_
    refine Af fun B=>?_
    refine A1 ?_
    obtain rfl:=oi_ D
    exact Ax [] ⟨rfl,rfl⟩
theorem J3 (v:Aa) (r:Bool) (D:A6 v=some r):Fn Tryz.prog 30 0 [.agg (Aa.dv v)] [] (fun d' b'=>d'=.val (.bool r)/\b'=[]):=
 Ja (motive:=fun (x:Aa) (r:Bool)=>Fn Tryz.prog 30 0 [.agg (Aa.dv x)] [] (fun d' b'=>d'=.val (.bool r)/\b'=[])) (fun rec hrec x r h=>J3.F _ (fun v r h=>hrec v r h) x r h) v r D
theorem Ko.F (rec:Aa->Option (Int)) (hrec:∀ (v:Aa) (r:Int),rec v=some r->Fn Tryz.prog 31 0 [.agg (Aa.dv v)] [] (fun d' b'=>d'=vj r/\b'=[])) (v:Aa) (r:Int) (D:B6.F rec v=some r):Fn Tryz.prog 31 0 [.agg (Aa.dv v)] [] (fun d' b'=>d'=vj r/\b'=[]):=by
 unfold B6.F at D
 refine Fn.of Tryz.func31 rfl rfl rfl fun w0 I ρ0=>?_
 show B9 _ ⟨w0,I,ρ0,0,0,22⟩ _ _ _
 refine A4 0 16 Az ?_
 refine Aj ?_
 refine Af fun B=>?_
 refine A4 16 24 B ?_
 refine Aj ?_
 refine Af fun B=>?_
 refine Ah ?_
 refine A4 24 32 B ?_
 refine Aj ?_
 refine Af fun B=>?_
 refine Av ?_
 refine Nu (fun ((d_1,i_1):Int×Int)=>mk [(1,.ptr 0 0),(3,vj d_1),(4,vj i_1)] [(0,.box (Aa.dv v) 30)] 1) D (Ay [(0,0)]) ?_
 rintro⟨d_1,i_1⟩ m1 o1 D hn1
 replace D:B6.l1 rec v d_1 i_1=some o1:=D
 show B9 _ _ _ _ (mk _ _ _)
 unfold B6.l1 at D
 refine Ah ?_
 refine A4 1 41 Az ?_
 refine Aj ?_
 refine Af fun B=>?_
 refine Dg rfl D (fun h5 D=>?_) fun h5 D=>?_
 ·refine Ap ?_
  repeat first | refine Dc ?_ | refine De ?_
  refine Ah ?_
  refine Av ?_
  refine Ad (Bb _ _ []) 41 113 B rfl rfl ?_
  refine Aj ?_
  obtain⟨e,he,D⟩:=Ac D
  refine Aj ?_
  refine Bl rfl rfl (G1 Nt (Fp Aa.enc_len (Aw he) (o:=0) (m:=4) (cs:=[.int .i64 e.Tag,.sl 1 (Al e8 e.Bytes),.bool e.Nested,.sl 4 (Al Aa.enc e.Elements)]) (by simp only [Aa.enc_eq]; rfl) (by decide) rfl) (Di Aa.enc_len (Aw he) (o:=0) (m:=4) (by decide) rfl)) rfl rfl ?_
  obtain⟨y,hy,D⟩:=Ac D
  refine Dy (hrec _ _ hy) ?_
  refine Bl rfl rfl sE rfl rfl ?_
  refine Aj ?_
  refine Af fun B=>?_
  refine Ad (Bb _ _ []) 113 137 B rfl rfl ?_
  refine Aj ?_
  refine Af fun B=>?_
  obtain rfl:=oi_ D
  exact⟨((max d_1 y,W (i_1 + 1)),m1),Nat.lt_succ_self _,hn1,Ay [(0,0)]⟩
 ·refine Cm ?_
  repeat first | refine Dc ?_ | refine De ?_
  replace D:=Dr D hn1
  refine A4 41 65 B ?_
  refine Aj ?_
  refine Af fun B=>?_
  refine A1 ?_
  obtain rfl:=oi_ D
  exact Ax [] ⟨rfl,rfl⟩
theorem Ko (v:Aa) (r:Int) (D:B6 v=some r):Fn Tryz.prog 31 0 [.agg (Aa.dv v)] [] (fun d' b'=>d'=vj r/\b'=[]):=
 Ja (motive:=fun (x:Aa) (r:Int)=>Fn Tryz.prog 31 0 [.agg (Aa.dv x)] [] (fun d' b'=>d'=vj r/\b'=[])) (fun rec hrec x r h=>Ko.F _ (fun v r h=>hrec v r h) x r h) v r D
theorem W8 (n:Int) (r:(List UInt8)) (D:Do n=some r):Fn Tryz.prog 51 0 [vj n] [] (fun d' b'=>d'=.sl 1 (Al e8 r)/\b'=[]):=by
 unfold Do at D
 refine Fn.of Tryz.func51 rfl rfl rfl fun w0 I ρ0=>?_
 show B9 _ ⟨w0,I,ρ0,0,0,26⟩ _ _ _
 refine A4 0 8 Az ?_
 refine Aj ?_
 refine Af fun B=>?_
 refine Ah ?_
 refine A4 8 24 B ?_
 refine Aj ?_
 refine Af fun B=>?_
 refine Dg rfl D (fun h3 D=>?_) fun h3 D=>?_
 ·refine Ah ?_
  refine Ad (Bb _ _ []) 24 56 B rfl rfl ?_
  refine Aj ?_
  refine Bl rfl rfl (Gw Kl Ia) rfl rfl ?_
  refine Bl rfl rfl (Ao F5 z5 (by decide) rfl rfl rfl rfl Xn (cs:=[.int .u8 ((u8 n).toNat:Int)]) (.cons .int .nil) rfl (l:=([(u8 n)]:List UInt8)) (f:=e8) rfl) rfl rfl ?_
  refine Aj ?_
  refine Af fun B=>?_
  refine A1 ?_
  obtain rfl:=oi_ D
  exact Ax [] ⟨rfl,rfl⟩
 ·refine Ap ?_
  repeat first | refine Dc ?_ | refine De ?_
  refine A4 24 32 B ?_
  refine Aj ?_
  refine Af fun B=>?_
  refine Ah ?_
  refine Av ?_
  refine Nu (fun ((n_1,b_1):Int×List UInt8)=>mk [(0,vj n_1),(3,.row 0)] [(0,.row 5 1 (Al e8 b_1))] 1) D (Ay []) ?_
  rintro⟨n_1,b_1⟩ m1 o1 D hn1
  replace D:Do.l1 n_1 b_1=some o1:=D
  show B9 _ _ _ _ (mk _ _ _)
  unfold Do.l1 at D
  refine Ah ?_
  refine A4 1 17 Az ?_
  refine Aj ?_
  refine Af fun B=>?_
  refine Dg rfl D (fun h7 D=>?_) fun h7 D=>?_
  ·refine Ap ?_
   repeat first | refine Dc ?_ | refine De ?_
   refine Av ?_
   refine A4 17 73 B ?_
   refine Aj ?_
   obtain⟨q,hq,D⟩:=Ac D
   refine Bl rfl rfl (Y0 hq) rfl rfl ?_
   refine Bl rfl rfl (Gw Kl Ia) rfl rfl ?_
   refine Bl rfl rfl (Ao F5 z5 (by decide) rfl rfl rfl rfl Xn (cs:=[.int .u8 ((u8 q).toNat:Int)]) (.cons .int .nil) rfl (l:=([(u8 q)]:List UInt8)) (f:=e8) rfl) rfl rfl ?_
   refine Aj ?_
   obtain⟨l,hl,D⟩:=Ac D
   refine Fe (rd:=[41,0]) rfl rfl (Dj F5 B7 .row rfl .row rfl hl rfl) rfl rfl ?_
   refine Aj ?_
   refine Af fun B=>?_
   refine Ad (Bb _ _ []) 73 97 B rfl rfl ?_
   refine Aj ?_
   obtain⟨q_2,hq_2,D⟩:=Ac D
   refine Bl rfl rfl (bA hq_2) rfl rfl ?_
   refine Aj ?_
   refine Af fun B=>?_
   obtain rfl:=oi_ D
   exact⟨((q_2,l),m1),Nat.lt_succ_self _,hn1,Ay [(0,57)]⟩
  ·refine Cm ?_
   repeat first | refine Dc ?_ | refine De ?_
   replace D:=Dr D hn1
   refine A4 17 81 B ?_
   refine Aj ?_
   refine Bl rfl rfl (Gw Kl Ia) rfl rfl ?_
   refine Bl rfl rfl (Ao F5 z5 (by decide) rfl rfl rfl rfl Xn (cs:=[.int .u8 ((u8 (W (128 + (b_1.length:Int)))).toNat:Int)]) (.cons .int .nil) rfl (l:=([(u8 (W (128 + (b_1.length:Int))))]:List UInt8)) (f:=e8) rfl) rfl rfl ?_
   refine Aj ?_
   obtain⟨l_2,hl_2,D⟩:=Ac D
   refine Fe (rd:=[49,0]) rfl rfl (Dj F5 B7 .row rfl .row rfl hl_2 rfl) rfl rfl ?_
   refine Aj ?_
   refine Af fun B=>?_
   refine A1 ?_
   obtain rfl:=oi_ D
   exact Ax [] ⟨rfl,rfl⟩
theorem Kz.F (rec:Aa->Option ((List UInt8))) (hrec:∀ (v:Aa) (r:(List UInt8)),rec v=some r->Fn Tryz.prog 32 0 [.agg (Aa.dv v)] [] (fun d' b'=>d'=.row 0/\b'=[.row 5 1 (Al e8 r)])) (v:Aa) (r:(List UInt8)) (D:C2.F rec v=some r):Fn Tryz.prog 32 0 [.agg (Aa.dv v)] [] (fun d' b'=>d'=.row 0/\b'=[.row 5 1 (Al e8 r)]):=by
 unfold C2.F at D
 refine Fn.of Tryz.func32 rfl rfl rfl fun w0 I ρ0=>?_
 show B9 _ ⟨w0,I,ρ0,0,0,34⟩ _ _ _
 refine A4 0 16 Az ?_
 refine Aj ?_
 refine Af fun B=>?_
 refine A4 16 56 B ?_
 refine Bl rfl rfl (Ao F5 z5 (by decide) rfl rfl rfl rfl Xn (cs:=[]) .nil rfl (l:=([]:List UInt8)) (f:=e8) rfl) rfl rfl ?_
 refine Aj ?_
 obtain⟨l,hl,D⟩:=Ac D
 refine Fe (rd:=[16]) rfl rfl (Dj F5 B7 .row rfl .sl rfl hl rfl) rfl rfl ?_
 refine Aj ?_
 refine Af fun B=>?_
 refine Ah ?_
 refine A4 56 64 B ?_
 refine Aj ?_
 refine Af fun B=>?_
 refine Av ?_
 refine Nu (fun ((i_1,b_1):Int×List UInt8)=>mk [(1,.ptr 0 0),(3,.row 1),(4,vj i_1)] [(0,.box (Aa.dv v) 30),(1,.row 5 1 (Al e8 b_1))] 2) D (Ay [(0,0),(1,40)]) ?_
 rintro⟨i_1,b_1⟩ m1 o1 D hn1
 replace D:C2.l1 rec v i_1 b_1=some o1:=D
 show B9 _ _ _ _ (mk _ _ _)
 unfold C2.l1 at D
 refine Ah ?_
 refine A4 2 42 Az ?_
 refine Aj ?_
 refine Af fun B=>?_
 refine Dg rfl D (fun h5 D=>?_) fun h5 D=>?_
 ·refine Ap ?_
  repeat first | refine Dc ?_ | refine De ?_
  refine Ah ?_
  refine Av ?_
  refine Ad (Bb _ _ []) 42 114 B rfl rfl ?_
  refine Aj ?_
  obtain⟨e,he,D⟩:=Ac D
  refine Aj ?_
  refine Bl rfl rfl (G1 Nt (Fp Aa.enc_len (Aw he) (o:=0) (m:=4) (cs:=[.int .i64 e.Tag,.sl 1 (Al e8 e.Bytes),.bool e.Nested,.sl 4 (Al Aa.enc e.Elements)]) (by simp only [Aa.enc_eq]; rfl) (by decide) rfl) (Di Aa.enc_len (Aw he) (o:=0) (m:=4) (by decide) rfl)) rfl rfl ?_
  obtain⟨y,hy,D⟩:=Ac D
  refine Eh (rd:=[]) (ps:=[]) (gs:=[]) false rfl (hrec _ _ hy) rfl rfl (.cons (.agg (.cons .val (.cons .sl (.cons .val (.cons .sl .nil))))) .nil) rfl rfl (by intro h; cases h) rfl (by intro h; first | (cases h; done) | exact⟨_,_,⟨rfl,rfl⟩,by simp,by simp⟩) ?_
  rintro _ _ ⟨rfl,rfl⟩
  obtain⟨l_2,hl_2,D⟩:=Ac D
  refine Fe (rd:=[1,90]) rfl rfl (Dj F5 B7 .row rfl .row rfl hl_2 rfl) rfl rfl ?_
  refine Aj ?_
  refine Af fun B=>?_
  refine Ad (Bb _ _ []) 114 138 B rfl rfl ?_
  refine Aj ?_
  refine Af fun B=>?_
  obtain rfl:=oi_ D
  exact⟨((W (i_1 + 1),l_2),m1),Nat.lt_succ_self _,hn1,Ay [(0,0),(1,98)]⟩
 ·refine Cm ?_
  repeat first | refine Dc ?_ | refine De ?_
  replace D:=Dr D hn1
  refine Ah ?_
  refine C5 (Bb _ _ []) (by kernel_rfl) [0,1,3,7,0,16,48,127,0,511,1023] 42 130 B rfl rfl (by kernel_rfl) ?_
  refine Aj ?_
  refine Bl rfl rfl (Gw Kl Ia) rfl rfl ?_
  refine Bl rfl rfl (Ao F5 z5 (by decide) rfl rfl rfl rfl Xn (cs:=[.int .u8 ((u8 v.Tag).toNat:Int)]) (.cons .int .nil) rfl (l:=([(u8 v.Tag)]:List UInt8)) (f:=e8) rfl) rfl rfl ?_
  refine Aj ?_
  obtain⟨y_2,hy_2,D⟩:=Ac D
  refine Dy (W8 _ _ hy_2) ?_
  obtain⟨l_3,hl_3,D⟩:=Ac D
  refine Fe (rd:=[66]) rfl rfl (Dj F5 B7 .row rfl .sl rfl hl_3 rfl) rfl rfl ?_
  refine Aj ?_
  obtain⟨l_4,hl_4,D⟩:=Ac D
  refine Fe (rd:=[98,1]) rfl rfl (Dj F5 B7 .row rfl .row rfl hl_4 rfl) rfl rfl ?_
  refine Aj ?_
  refine Af fun B=>?_
  refine A1 ?_
  obtain rfl:=oi_ D
  exact Ax [(0,114)] ⟨rfl,rfl⟩
theorem Kz (v:Aa) (r:(List UInt8)) (D:C2 v=some r):Fn Tryz.prog 32 0 [.agg (Aa.dv v)] [] (fun d' b'=>d'=.row 0/\b'=[.row 5 1 (Al e8 r)]):=
 Ja (motive:=fun (x:Aa) (r:(List UInt8))=>Fn Tryz.prog 32 0 [.agg (Aa.dv x)] [] (fun d' b'=>d'=.row 0/\b'=[.row 5 1 (Al e8 r)])) (fun rec hrec x r h=>Kz.F _ (fun v r h=>hrec v r h) x r h) v r D
theorem L0 (v:Aa) (r:(List UInt8)×Int) (D:Hl v=some r):Fn Tryz.prog 15 0 [.agg (Aa.dv v)] [] (fun d' b'=>d'=.tup [.row 0,vj r.2]/\b'=[.row 5 1 (Al e8 r.1)]):=by
 unfold Hl at D
 refine Fn.of Tryz.func15 rfl rfl rfl fun w0 I ρ0=>?_
 show B9 _ ⟨w0,I,ρ0,0,0,17⟩ _ _ _
 refine A4 0 24 Az ?_
 refine Aj ?_
 refine Af fun B=>?_
 refine Ah ?_
 refine A4 24 48 B ?_
 refine Aj ?_
 obtain⟨y,hy,D⟩:=Ac D
 refine Dy (J3 _ _ hy) ?_
 refine Aj ?_
 refine Af fun B=>?_
 refine Dg rfl D (fun h3 D=>?_) fun h3 D=>?_
 ·refine Ah ?_
  refine Ad (Bb _ _ []) 48 64 B rfl rfl ?_
  refine Aj ?_
  refine Af fun B=>?_
  refine A1 ?_
  obtain rfl:=oi_ D
  exact Ax [] ⟨rfl,rfl⟩
 ·refine Ap ?_
  repeat first | refine Dc ?_ | refine De ?_
  refine Ah ?_
  refine A4 48 72 B ?_
  refine Aj ?_
  obtain⟨y_2,hy_2,D⟩:=Ac D
  refine Dy (Ko _ _ hy_2) ?_
  refine Aj ?_
  refine Af fun B=>?_
  refine Dg rfl D (fun h6 D=>?_) fun h6 D=>?_
  ·refine Ah ?_
   refine Ad (Bb _ _ []) 72 88 B rfl rfl ?_
   refine Aj ?_
   refine Af fun B=>?_
   refine A1 ?_
   obtain rfl:=oi_ D
   exact Ax [] ⟨rfl,rfl⟩
  ·refine Ap ?_
   repeat first | refine Dc ?_ | refine De ?_
   refine A4 72 96 B ?_
   refine Aj ?_
   obtain⟨y_3,hy_3,D⟩:=Ac D
   refine Eh (rd:=[]) (ps:=[]) (gs:=[]) false rfl (Kz _ _ hy_3) rfl rfl (.cons (.agg (.cons .val (.cons .sl (.cons .val (.cons .sl .nil))))) .nil) rfl rfl (by intro h; cases h) rfl (by intro h; first | (cases h; done) | exact⟨_,_,⟨rfl,rfl⟩,by simp,by simp⟩) ?_
   rintro _ _ ⟨rfl,rfl⟩
   refine Aj ?_
   refine Af fun B=>?_
   refine Ah ?_
   refine A4 96 120 B ?_
   refine Aj ?_
   refine Af fun B=>?_
   refine Dg rfl D (fun h10 D=>?_) fun h10 D=>?_
   ·refine Ah ?_
    refine Ad (Bb _ _ []) 120 136 B rfl rfl ?_
    refine Aj ?_
    refine Af fun B=>?_
    refine A1 ?_
    obtain rfl:=oi_ D
    exact Ax [] ⟨rfl,rfl⟩
   ·refine Ap ?_
    repeat first | refine Dc ?_ | refine De ?_
    refine A4 120 144 B ?_
    refine Aj ?_
    refine Af fun B=>?_
    refine A1 ?_
    obtain rfl:=oi_ D
    exact Ax [(0,80)] ⟨rfl,rfl⟩
theorem Xv (c:Ab) (r:(List UInt8)×Int) (D:H1 c=some r):Fn Tryz.prog 91 0 [.agg (Ab.dv c)] [] (fun d' b'=>d'=.tup [.sl 1 (Al e8 r.1),vj r.2]/\b'=[]):=by
 unfold H1 at D
 refine Fn.of Tryz.func91 rfl rfl rfl fun w0 I ρ0=>?_
 show B9 _ ⟨w0,I,ρ0,0,0,12⟩ _ _ _
 refine A4 0 24 Az ?_
 refine Aj ?_
 refine Af fun B=>?_
 refine Ah ?_
 refine A4 24 48 B ?_
 refine Aj ?_
 obtain⟨y,hy,D⟩:=Ac D
 refine Dy (M1 _ _ hy) ?_
 refine Aj ?_
 refine Af fun B=>?_
 refine Dg rfl D (fun h3 D=>?_) fun h3 D=>?_
 ·refine Ah ?_
  refine Ad (Bb _ _ []) 48 64 B rfl rfl ?_
  refine Aj ?_
  refine Af fun B=>?_
  refine A1 ?_
  obtain rfl:=oi_ D
  exact Ax [] ⟨rfl,rfl⟩
 ·refine Ap ?_
  repeat first | refine Dc ?_ | refine De ?_
  refine A4 48 104 B ?_
  refine Aj ?_
  obtain⟨y_2,hy_2,D⟩:=Ac D
  refine Dy (Rs _ _ hy_2) ?_
  obtain⟨y_3,hy_3,D⟩:=Ac D
  refine Eh (rd:=[]) (ps:=[]) (gs:=[]) false rfl (L0 _ _ hy_3) rfl rfl (.cons (.agg (.cons .val (.cons .sl (.cons .val (.cons .sl .nil))))) .nil) rfl rfl (by intro h; cases h) rfl (by intro h; first | (cases h; done) | exact⟨_,_,⟨rfl,rfl⟩,by simp,by simp⟩) ?_
  rintro _ _ ⟨rfl,rfl⟩
  refine Aj ?_
  refine Af fun B=>?_
  refine A1 ?_
  obtain rfl:=oi_ D
  exact Ax [] ⟨rfl,rfl⟩
theorem cC (b:(List UInt8)) (r:Int) (D:Et b=some r):Fn Tryz.prog 92 0 [.sl 1 (Al e8 b)] [] (fun d' b'=>d'=vj r/\b'=[]):=by
 unfold Et at D
 refine Fn.of Tryz.func92 rfl rfl rfl fun w0 I ρ0=>?_
 show B9 _ ⟨w0,I,ρ0,0,0,21⟩ _ _ _
 refine A4 0 8 Az ?_
 refine Aj ?_
 refine Af fun B=>?_
 refine A4 8 16 B ?_
 refine Aj ?_
 refine Af fun B=>?_
 refine Ah ?_
 refine A4 16 24 B ?_
 refine Aj ?_
 refine Af fun B=>?_
 refine Av ?_
 refine Nu (fun ((h_1,i_1):Int×Int)=>mk [(0,.sl 1 (Al e8 b)),(3,.val (.int .u32 h_1)),(4,vj i_1)] [] 0) D (Ay []) ?_
 rintro⟨h_1,i_1⟩ m1 o1 D hn1
 replace D:Et.l1 b h_1 i_1=some o1:=D
 show B9 _ _ _ _ (mk _ _ _)
 unfold Et.l1 at D
 refine Ah ?_
 refine A4 0 32 Az ?_
 refine Aj ?_
 refine Af fun B=>?_
 refine Dg rfl D (fun h5 D=>?_) fun h5 D=>?_
 ·refine Ap ?_
  repeat first | refine Dc ?_ | refine De ?_
  refine Ah ?_
  refine Av ?_
  refine Ad (Bb _ _ []) 32 104 B rfl rfl ?_
  refine Aj ?_
  obtain⟨e,he,D⟩:=Ac D
  refine Aj ?_
  refine Bl rfl rfl (Bq Na (A9 B7 (Aw he) (o:=0) (c:=.int .u8 (e.toNat:Int)) rfl rfl)) rfl rfl ?_
  refine Bl rfl rfl (U3 Ia fS) rfl rfl ?_
  refine Bl rfl rfl oE rfl rfl ?_
  refine Bl rfl rfl mE rfl rfl ?_
  refine Aj ?_
  refine Af fun B=>?_
  refine Ad (Bb _ _ []) 104 128 B rfl rfl ?_
  refine Aj ?_
  refine Af fun B=>?_
  obtain rfl:=oi_ D
  exact⟨((IntKind.wrap .u32 ((Zw .u32 h_1 (IntKind.wrap .u32 (e.toNat:Int))) * 16777619),W (i_1 + 1)),m1),Nat.lt_succ_self _,hn1,Ay []⟩
 ·refine Cm ?_
  repeat first | refine Dc ?_ | refine De ?_
  replace D:=Dr D hn1
  refine A4 32 56 B ?_
  refine Aj ?_
  refine Bl rfl rfl (Nv fS Kl) rfl rfl ?_
  refine Aj ?_
  refine Af fun B=>?_
  refine A1 ?_
  obtain rfl:=oi_ D
  exact Ax [] ⟨rfl,rfl⟩
theorem aQ (c:Ab) (key:Int) (r:Ab×Int) (D:Ed c key=some r):Fn Tryz.prog 48 0 [.agg (Ab.dv c),vj key] [] (fun d' b'=>d'=.tup [.agg (Ab.dv r.1),vj r.2]/\b'=[]):=by
 unfold Ed at D
 refine Fn.of Tryz.func48 rfl rfl rfl fun w0 I ρ0=>?_
 show B9 _ ⟨w0,I,ρ0,0,0,35⟩ _ _ _
 refine A4 0 24 Az ?_
 refine Aj ?_
 refine Af fun B=>?_
 refine A4 24 48 B ?_
 refine Aj ?_
 obtain⟨y,hy,D⟩:=Ac D
 refine Dy (Zl _ _ hy) ?_
 refine Aj ?_
 refine Af fun B=>?_
 refine A4 48 72 B ?_
 refine Bl rfl rfl (.build (r:=[.val (.int .i64 0),.val (.int .i64 0)]) Qh cW pF (by kernel_rfl) rfl) rfl rfl ?_
 refine Aj ?_
 refine Af fun B=>?_
 refine Ah ?_
 refine Bp (ι:=Bool) (fun (x22_1:Bool)=>mk [(1,vj key),(2,.ptr 0 0),(4,.ptr 1 0),(22,.val (.bool x22_1))] [(0,.box [vj y.Serial,vk y.Issuer,vk y.Subject,vj y.Key.Alg,vj y.Key.Bits,vj y.KeyId,vj y.Hash.Alg,vj y.Hash.Bits,vj y.From,vj y.To,.val (.bool y.Authority),vj y.Path,.sl 1 (Al eS y.Names),.val (.int .i64 0),.val (.int .i64 0)] 38),(1,.box [.val (.int .i64 0),.val (.string (⟨#[]⟩:ByteArray)),.val (.string (⟨#[]⟩:ByteArray)),.val (.int .i64 0),.val (.int .i64 0),.val (.int .i64 0),.val (.int .i64 0),.val (.int .i64 0),.val (.int .i64 0),.val (.int .i64 0),.val (.bool false),.val (.int .i64 0),.val (.slice none 0 0),.val (.int .i64 0),.val (.int .i64 0)] 38)] 2) (fun (x22_1:Bool)=>Ed.j1 key y x22_1=some r) ?_ ?_
 ·refine Ad (Bb _ _ []) 72 160 B rfl rfl ?_
  refine Aj ?_
  obtain⟨y_2,hy_2,D⟩:=Ac D
  refine Dy (M1 _ _ hy_2) ?_
  refine Aj ?_
  rcases Dx D with ⟨h4,D⟩ | ⟨h4,D⟩
  ·refine Aj ?_
   refine Af fun B=>?_
   exact⟨true,D,Ay [(0,0),(1,8)]⟩
  ·refine Aj ?_
   rcases Dx D with ⟨h6,D⟩ | ⟨h6,D⟩
   ·refine Aj ?_
    refine Af fun B=>?_
    exact⟨true,D,Ay [(0,0),(1,8)]⟩
   ·refine Aj ?_
    refine Af fun B=>?_
    exact⟨decide (2147483648 < key),D,Ay [(0,0),(1,8)]⟩
 ·rintro x22_1 D
  replace D:Ed.j1 key y x22_1=some r:=D
  show B9 _ _ _ _ (mk _ _ _)
  unfold Ed.j1 at D
  refine Dg rfl D (fun h9 D=>?_) fun h9 D=>?_
  ·refine Ah ?_
   refine Ad (Bb _ _ []) 2 26 Az rfl rfl ?_
   refine Bl rfl rfl (.build (r:=[.val (.int .i64 0),.val (.string (⟨#[]⟩:ByteArray)),.val (.string (⟨#[]⟩:ByteArray)),.val (.int .i64 0),.val (.int .i64 0),.val (.int .i64 0),.val (.int .i64 0),.val (.int .i64 0),.val (.int .i64 0),.val (.int .i64 0),.val (.bool false),.val (.int .i64 0),.val (.slice none 0 0),.val (.int .i64 0),.val (.int .i64 0)]) H4 Ui iN (by kernel_rfl) rfl) rfl rfl ?_
   refine Aj ?_
   refine Af fun B=>?_
   refine A1 ?_
   obtain rfl:=oi_ D
   exact Ax [] ⟨rfl,rfl⟩
  ·refine Ap ?_
   repeat first | refine Dc ?_ | refine De ?_
   refine A4 2 58 Az ?_
   refine Aj ?_
   obtain⟨y_3,hy_3,D⟩:=Ac D
   refine Dy (Xv _ _ hy_3) ?_
   refine Aj ?_
   refine Af fun B=>?_
   refine A4 58 106 B ?_
   refine Aj ?_
   obtain⟨y_4,hy_4,D⟩:=Ac D
   refine Dy (cC _ _ hy_4) ?_
   refine Bl rfl rfl (.build (r:=[vj key,vj y_4]) Qh cW pF (by kernel_rfl) rfl) rfl rfl ?_
   refine Aj ?_
   refine Af fun B=>?_
   refine A4 106 130 B ?_
   refine Aj ?_
   refine Af fun B=>?_
   refine A1 ?_
   obtain rfl:=oi_ D
   exact Ax [] ⟨rfl,rfl⟩
theorem Qn (d:Ak) (issuer:ByteArray) (subject:ByteArray) (key:A3) (id:Int) (signer:Int) (authority:Bool) (r:Ab×Ak) (D:Bn d issuer subject key id signer authority=some r):Fn Tryz.prog 25 1 [.ptr 0 0,vk issuer,vk subject,.agg [vj key.Alg,vj key.Bits],vj id,vj signer,.val (.bool authority)] [.box [.sl 1 (Al eI d.L),vj d.At] 59] (fun d' b'=>d'=.agg (Ab.dv r.1)/\b'=[.box [.sl 1 (Al eI r.2.L),vj r.2.At] 59]):=by
 unfold Bn at D
 refine Fn.of Tryz.func25 rfl rfl rfl fun w0 I ρ0=>?_
 show B9 _ ⟨w0,I,ρ0,1,1,58⟩ _ _ _
 refine A4 1 17 Az ?_
 refine Aj ?_
 refine Af fun B=>?_
 refine Ah ?_
 refine C5 (Bb _ _ [73,105,129]) (by kernel_rfl) [0,1,0,0,0,0,0,0,195,451,0,0,3523,0,0,32195,0,131071,0,524287] 17 177 B rfl rfl (by kernel_rfl) ?_
 refine Aj ?_
 obtain⟨y,hy,D⟩:=Ac D
 refine F3 [0] [0] [] false (Dm _ _ _ hy) ?_
 refine Aj ?_
 refine Hq (rd:=[]) rfl rfl (Ao E8 z3 (by decide) rfl rfl rfl rfl J7 (cs:=[.int .i64 3,.int .i64 2,.int .i64 4,.int .i64 1]) (.cons .int (.cons .int (.cons .int (.cons .int .nil)))) rfl (l:=([3,2,4,1]:List Int)) (f:=eI) rfl) rfl rfl rfl ?_
 obtain⟨y_2,hy_2,D⟩:=Ac D
 refine F3 [0] [0] [] false (B3 _ _ _ hy_2) ?_
 refine Bl rfl rfl (.build (r:=[vj y_2.1,.val (.int .i64 0)]) Qg bE rL (by kernel_rfl) rfl) rfl rfl ?_
 refine Aj ?_
 refine Hq (rd:=[]) rfl rfl (Ao E8 z3 (by decide) rfl rfl rfl rfl J7 (cs:=[.int .i64 0,.int .i64 5,.int .i64 10]) (.cons .int (.cons .int (.cons .int .nil))) rfl (l:=([0,5,10]:List Int)) (f:=eI) rfl) rfl rfl rfl ?_
 obtain⟨y_3,hy_3,D⟩:=Ac D
 refine F3 [0] [0] [] false (B3 _ _ _ hy_3) ?_
 refine Aj ?_
 refine Hq (rd:=[]) rfl rfl (Ao E8 z3 (by decide) rfl rfl rfl rfl J7 (cs:=[.int .i64 1000,.int .i64 100,.int .i64 50,.int .i64 20]) (.cons .int (.cons .int (.cons .int (.cons .int .nil)))) rfl (l:=([1000,100,50,20]:List Int)) (f:=eI) rfl) rfl rfl rfl ?_
 obtain⟨y_4,hy_4,D⟩:=Ac D
 refine F3 [0] [0] [] false (B3 _ _ _ hy_4) ?_
 refine Aj ?_
 refine Bl rfl rfl (.build (r:=[vj y.1,vk issuer,vk subject,vj key.Alg,vj key.Bits,vj id,vj y_2.1,.val (.int .i64 0),vj y_3.1,vj y_4.1,.val (.bool authority),.val (.int .i64 0),.val (.slice none 0 0),.val (.int .i64 0),.val (.int .i64 0)]) H4 Ui iN (by kernel_rfl) rfl) rfl rfl ?_
 refine Aj ?_
 refine Af fun B=>?_
 refine Bp (ι:=Ak×Int) (fun ((d_1,c_1):Ak×Int)=>mk [(0,.ptr 0 0),(2,vk subject),(5,vj signer),(14,.ptr 1 0),(15,.ptr 2 0)] [(0,.box [.sl 1 (Al eI d_1.L),vj d_1.At] 59),(1,.box [.val (.int .i64 0),.val (.string (⟨#[]⟩:ByteArray)),.val (.string (⟨#[]⟩:ByteArray)),.val (.int .i64 0),.val (.int .i64 0),.val (.int .i64 0),.val (.int .i64 0),.val (.int .i64 0),.val (.int .i64 0),.val (.int .i64 0),.val (.bool false),.val (.int .i64 0),.val (.slice none 0 0),.val (.int .i64 0),.val (.int .i64 0)] 38),(2,.box [vj y.1,vk issuer,vk subject,vj key.Alg,vj key.Bits,vj id,vj y_2.1,.val (.int .i64 0),vj y_3.1,vj y_4.1,.val (.bool authority),vj c_1,.val (.slice none 0 0),.val (.int .i64 0),.val (.int .i64 0)] 38)] 3) (fun ((d_1,c_1):Ak×Int)=>Bn.j1 issuer subject key id signer authority y y_2 y_3 y_4 d_1 c_1=some r) ?_ ?_
 ·refine Ah ?_
  refine Ad (Bb _ _ []) 177 185 B rfl rfl ?_
  refine Aj ?_
  refine Af fun B=>?_
  refine Dg rfl D (fun h4 D=>?_) fun h4 D=>?_
  ·refine Ad (Bb _ _ [193]) 185 225 B rfl rfl ?_
   refine Aj ?_
   refine Hq (rd:=[]) rfl rfl (Ao E8 z3 (by decide) rfl rfl rfl rfl J7 (cs:=[.int .i64 3,.int .i64 0,.int .i64 1]) (.cons .int (.cons .int (.cons .int .nil))) rfl (l:=([3,0,1]:List Int)) (f:=eI) rfl) rfl rfl rfl ?_
   obtain⟨y_5,hy_5,D⟩:=Ac D
   refine F3 [0] [0] [] false (B3 _ _ _ hy_5) ?_
   refine Aj ?_
   refine Af fun B=>?_
   exact⟨(y_5.2,y_5.1),D,Ay [(0,0),(1,9),(2,161)]⟩
  ·refine Ap ?_
   repeat first | refine Dc ?_ | refine De ?_
   exact⟨(y_4.2,0),D,Ay [(0,0),(1,9),(2,161)]⟩
 ·rintro⟨d_1,c_1⟩ D
  replace D:Bn.j1 issuer subject key id signer authority y y_2 y_3 y_4 d_1 c_1=some r:=D
  show B9 _ _ _ _ (mk _ _ _)
  unfold Bn.j1 at D
  refine A4 3 35 Az ?_
  refine Aj ?_
  refine Bl rfl rfl (Ao Mz z9 (by decide) rfl rfl rfl rfl dL (cs:=[.str subject]) (.cons .str .nil) rfl (l:=([subject]:List ByteArray)) (f:=eS) rfl) rfl rfl ?_
  refine Aj ?_
  refine Af fun B=>?_
  refine Bp (ι:=Ak×List ByteArray) (fun ((b_2,l_2):Ak×List ByteArray)=>mk [(5,vj signer),(14,.ptr 1 0),(15,.ptr 2 0)] [(0,.box [.sl 1 (Al eI b_2.L),vj b_2.At] 59),(1,.box [.val (.int .i64 0),.val (.string (⟨#[]⟩:ByteArray)),.val (.string (⟨#[]⟩:ByteArray)),.val (.int .i64 0),.val (.int .i64 0),.val (.int .i64 0),.val (.int .i64 0),.val (.int .i64 0),.val (.int .i64 0),.val (.int .i64 0),.val (.bool false),.val (.int .i64 0),.val (.slice none 0 0),.val (.int .i64 0),.val (.int .i64 0)] 38),(2,.box [vj y.1,vk issuer,vk subject,vj key.Alg,vj key.Bits,vj id,vj y_2.1,.val (.int .i64 0),vj y_3.1,vj y_4.1,.val (.bool authority),vj c_1,.row 3,.val (.int .i64 0),.val (.int .i64 0)] 38),(3,.row 9 1 (Al eS l_2))] 4) (fun ((b_2,l_2):Ak×List ByteArray)=>Bn.j2 issuer subject key id signer authority y y_2 y_3 y_4 c_1 b_2 l_2=some r) ?_ ?_
  ·refine Ah ?_
   refine Ad (Bb _ _ []) 35 51 B rfl rfl ?_
   refine Aj ?_
   obtain⟨y_6,hy_6,D⟩:=Ac D
   refine F3 [0] [0] [] false (Ol _ _ _ hy_6) ?_
   refine Af fun B=>?_
   refine Dg rfl D (fun h8 D=>?_) fun h8 D=>?_
   ·refine Ad (Bb _ _ []) 51 115 B rfl rfl ?_
    refine Aj ?_
    obtain⟨s,hs,D⟩:=Ac D
    refine Bl rfl rfl (xX hs) rfl rfl ?_
    refine Bl rfl rfl (Ao Mz z9 (by decide) rfl rfl rfl rfl dL (cs:=[.str s]) (.cons .str .nil) rfl (l:=([s]:List ByteArray)) (f:=eS) rfl) rfl rfl ?_
    obtain⟨l,hl,D⟩:=Ac D
    refine Fe (rd:=[11,83]) rfl rfl (Dj Mz Hs .row rfl .row rfl hl rfl) rfl rfl ?_
    refine Aj ?_
    refine Af fun B=>?_
    exact⟨(y_6.2,l),D,Ay [(0,0),(1,1),(2,2),(3,91)]⟩
   ·refine Ap ?_
    repeat first | refine Dc ?_ | refine De ?_
    exact⟨(y_6.2,([subject]:List ByteArray)),D,Ay [(0,0),(1,1),(2,2),(3,11)]⟩
  ·rintro⟨b_2,l_2⟩ D
   replace D:Bn.j2 issuer subject key id signer authority y y_2 y_3 y_4 c_1 b_2 l_2=some r:=D
   show B9 _ _ _ _ (mk _ _ _)
   unfold Bn.j2 at D
   refine Ah ?_
   refine Je (σ':=mk [(5,vj signer),(14,.ptr 1 0),(15,.ptr 2 0)] [(0,.box [.sl 1 (Al eI b_2.L),vj b_2.At] 59),(1,.box [.val (.int .i64 0),.val (.string (⟨#[]⟩:ByteArray)),.val (.string (⟨#[]⟩:ByteArray)),.val (.int .i64 0),.val (.int .i64 0),.val (.int .i64 0),.val (.int .i64 0),.val (.int .i64 0),.val (.int .i64 0),.val (.int .i64 0),.val (.bool false),.val (.int .i64 0),.val (.slice none 0 0),.val (.int .i64 0),.val (.int .i64 0)] 38),(2,.box [vj y.1,vk issuer,vk subject,vj key.Alg,vj key.Bits,vj id,vj y_2.1,.val (.int .i64 0),vj y_3.1,vj y_4.1,.val (.bool authority),vj c_1,.sl 1 (Al eS l_2),.val (.int .i64 0),.val (.int .i64 0)] 38)] 3) (Ay [(0,0),(1,1),(2,2)]) ?_
   refine Ad (Bb _ _ []) 3 59 Az rfl rfl ?_
   refine Aj ?_
   obtain⟨y_7,hy_7,D⟩:=Ac D
   refine Dy (aQ _ _ _ hy_7) ?_
   refine Aj ?_
   refine Af fun B=>?_
   refine A4 59 75 B ?_
   refine Aj ?_
   refine Af fun B=>?_
   refine A1 ?_
   obtain rfl:=oi_ D
   exact Ax [(0,0)] ⟨rfl,rfl⟩
end Go.Proofs.YtlfeokjhphpjeaaGreat
