import Derived.Test.YtlfeokjhphpjeaaGreatT1
import Derived.Test.YtlfeokjhphpjeaaGreatA5
import Derived.Test.YtlfeokjhphpjeaaGreatA7
set_option linter.unusedVariables false
set_option linter.unusedSimpArgs false
set_option maxRecDepth 100000
set_option maxHeartbeats 1600000
namespace Go.Proofs.YtlfeokjhphpjeaaGreat
open Go.RowKit
theorem D2 (r':Ae) (r:Int×Ae) (D:Db r'=some r):Fn Tryz.prog 76 1 [.ptr 0 0] [.box (Ae.dv r') 104] (fun d' b'=>d'=vj r.1/\b'=[.box (Ae.dv r.2) 104]):=by
 unfold Db at D
 refine Fn.of Tryz.func76 rfl rfl rfl fun w0 I ρ0=>?_
 show B9 _ ⟨w0,I,ρ0,1,1,23⟩ _ _ _
 refine A4 1 9 Az ?_
 refine Aj ?_
 refine Af fun B=>?_
 refine A4 9 73 B ?_
 refine Aj ?_
 obtain⟨y,hy,D⟩:=Ac D
 refine F3 [0] [0] [] false (Hb _ _ hy) ?_
 obtain⟨y_2,hy_2,D⟩:=Ac D
 refine Dy (Xz _ _ hy_2) ?_
 refine Aj ?_
 refine Af fun B=>?_
 refine A4 73 169 B ?_
 refine Aj ?_
 rcases Dx D with ⟨h3,D⟩ | ⟨h3,D⟩
 ·refine Aj ?_
  refine Af fun B=>?_
  refine A4 169 185 B ?_
  refine Aj ?_
  refine Af fun B=>?_
  refine A1 ?_
  obtain rfl:=oi_ D
  exact Ax [(0,0)] ⟨rfl,rfl⟩
 ·refine Aj ?_
  refine Af fun B=>?_
  refine A4 169 185 B ?_
  refine Aj ?_
  refine Af fun B=>?_
  refine A1 ?_
  obtain rfl:=oi_ D
  exact Ax [(0,0)] ⟨rfl,rfl⟩
theorem Xb (v:Aa) (r:ByteArray×Int) (D:Bk v=some r):Fn Tryz.prog 108 0 [.agg (Aa.dv v)] [] (fun d' b'=>d'=.tup [vk r.1,vj r.2]/\b'=[]):=by
 unfold Bk at D
 refine Fn.of Tryz.func108 rfl rfl rfl fun w0 I ρ0=>?_
 show B9 _ ⟨w0,I,ρ0,0,0,42⟩ _ _ _
 refine A4 0 24 Az ?_
 refine Aj ?_
 refine Af fun B=>?_
 refine Ah ?_
 refine Bp (ι:=Bool) (fun (x17_1:Bool)=>mk [(1,.ptr 0 0),(17,.val (.bool x17_1))] [(0,.box (Aa.dv v) 30)] 1) (fun (x17_1:Bool)=>Bk.j1 v x17_1=some r) ?_ ?_
 ·refine Ad (Bb _ _ []) 24 128 B rfl rfl ?_
  refine Aj ?_
  rcases Dx D with ⟨h2,D⟩ | ⟨h2,D⟩
  ·refine Aj ?_
   refine Af fun B=>?_
   exact⟨true,D,Ay [(0,0)]⟩
  ·refine Aj ?_
   rcases Dx D with ⟨h4,D⟩ | ⟨h4,D⟩
   ·refine Aj ?_
    refine Af fun B=>?_
    exact⟨true,D,Ay [(0,0)]⟩
   ·refine Aj ?_
    refine Af fun B=>?_
    exact⟨decide (0 < (v.Elements.length:Int)),D,Ay [(0,0)]⟩
 ·rintro x17_1 D
  replace D:Bk.j1 v x17_1=some r:=D
  show B9 _ _ _ _ (mk _ _ _)
  unfold Bk.j1 at D
  refine Dg rfl D (fun h7 D=>?_) fun h7 D=>?_
  ·refine Ah ?_
   refine Ad (Bb _ _ []) 1 17 Az rfl rfl ?_
   refine Aj ?_
   refine Af fun B=>?_
   refine A1 ?_
   obtain rfl:=oi_ D
   exact Ax [] ⟨rfl,rfl⟩
  ·refine Ap ?_
   repeat first | refine Dc ?_ | refine De ?_
   refine Ah ?_
   refine A4 1 9 Az ?_
   refine Aj ?_
   refine Af fun B=>?_
   refine Av ?_
   refine Nu (fun (i_2:Int)=>mk [(1,.ptr 0 0),(4,vj i_2)] [(0,.box (Aa.dv v) 30)] 1) D (Ay [(0,0)]) ?_
   rintro i_2 m2 o2 D hn2
   replace D:Bk.l2 v i_2=some o2:=D
   show B9 _ _ _ _ (mk _ _ _)
   unfold Bk.l2 at D
   refine Ah ?_
   refine A4 1 41 Az ?_
   refine Aj ?_
   refine Af fun B=>?_
   refine Dg rfl D (fun h11 D=>?_) fun h11 D=>?_
   ·refine Ap ?_
    repeat first | refine Dc ?_ | refine De ?_
    refine Ah ?_
    refine Av ?_
    refine Bp (ι:=Bool) (fun (x38_3:Bool)=>mk [(1,.ptr 0 0),(4,vj i_2),(38,.val (.bool x38_3))] [(0,.box (Aa.dv v) 30)] 1) (fun (x38_3:Bool)=>Bk.j3 i_2 x38_3=some o2) ?_ ?_
    ·refine Ad (Bb _ _ []) 41 153 B rfl rfl ?_
     refine Aj ?_
     obtain⟨e,he,D⟩:=Ac D
     refine Aj ?_
     refine Bl rfl rfl (Bq Na (A9 B7 (Aw he) (o:=0) (c:=.int .u8 (e.toNat:Int)) rfl rfl)) rfl rfl ?_
     refine Aj ?_
     rcases Dx D with ⟨h12,D⟩ | ⟨h12,D⟩
     ·refine Aj ?_
      refine Af fun B=>?_
      exact⟨true,D,Ay [(0,0)]⟩
     ·refine Aj ?_
      refine Bl (Ef rfl rfl h12) rfl (Bq Na (A9 B7 (Aw he) (o:=0) (c:=.int .u8 (e.toNat:Int)) rfl rfl)) rfl rfl ?_
      refine Aj ?_
      refine Af fun B=>?_
      exact⟨decide (126 < (e.toNat:Int)),D,Ay [(0,0)]⟩
    ·rintro x38_3 D
     replace D:Bk.j3 i_2 x38_3=some o2:=D
     show B9 _ _ _ _ (mk _ _ _)
     unfold Bk.j3 at D
     refine Dg rfl D (fun h15 D=>?_) fun h15 D=>?_
     ·refine Ah ?_
      refine Ad (Bb _ _ []) 1 17 Az rfl rfl ?_
      refine Aj ?_
      refine Af fun B=>?_
      refine A1 ?_
      replace D:=Dr D hn2
      obtain rfl:=oi_ D
      exact Ax [] ⟨rfl,rfl⟩
     ·refine Ap ?_
      repeat first | refine Dc ?_ | refine De ?_
      refine Ad (Bb _ _ []) 1 25 Az rfl rfl ?_
      refine Aj ?_
      refine Af fun B=>?_
      obtain rfl:=oi_ D
      exact⟨(W (i_2 + 1),m2),Nat.lt_succ_self _,hn2,Ay [(0,0)]⟩
   ·refine Cm ?_
    repeat first | refine Dc ?_ | refine De ?_
    replace D:=Dr D hn2
    refine A4 41 81 B ?_
    refine Aj ?_
    refine Bl rfl rfl (Pu Qf Ia P9 .sl rfl) rfl rfl ?_
    refine Aj ?_
    refine Af fun B=>?_
    refine A1 ?_
    obtain rfl:=oi_ D
    exact Ax [] ⟨rfl,rfl⟩
theorem I2 (r':Ae) (r:ByteArray×Ae) (D:D8 r'=some r):Fn Tryz.prog 77 1 [.ptr 0 0] [.box (Ae.dv r') 104] (fun d' b'=>d'=vk r.1/\b'=[.box (Ae.dv r.2) 104]):=by
 unfold D8 at D
 refine Fn.of Tryz.func77 rfl rfl rfl fun w0 I ρ0=>?_
 show B9 _ ⟨w0,I,ρ0,1,1,23⟩ _ _ _
 refine A4 1 9 Az ?_
 refine Aj ?_
 refine Af fun B=>?_
 refine A4 9 73 B ?_
 refine Aj ?_
 obtain⟨y,hy,D⟩:=Ac D
 refine F3 [0] [0] [] false (Hb _ _ hy) ?_
 obtain⟨y_2,hy_2,D⟩:=Ac D
 refine Dy (Xb _ _ hy_2) ?_
 refine Aj ?_
 refine Af fun B=>?_
 refine A4 73 169 B ?_
 refine Aj ?_
 rcases Dx D with ⟨h3,D⟩ | ⟨h3,D⟩
 ·refine Aj ?_
  refine Af fun B=>?_
  refine A4 169 185 B ?_
  refine Aj ?_
  refine Af fun B=>?_
  refine A1 ?_
  obtain rfl:=oi_ D
  exact Ax [(0,0)] ⟨rfl,rfl⟩
 ·refine Aj ?_
  refine Af fun B=>?_
  refine A4 169 185 B ?_
  refine Aj ?_
  refine Af fun B=>?_
  refine A1 ?_
  obtain rfl:=oi_ D
  exact Ax [(0,0)] ⟨rfl,rfl⟩
theorem Gk (r':Ae) (r:Bool×Ae) (D:Dh r'=some r):Fn Tryz.prog 80 1 [.ptr 0 0] [.box (Ae.dv r') 104] (fun d' b'=>d'=.val (.bool r.1)/\b'=[.box (Ae.dv r.2) 104]):=by
 unfold Dh at D
 refine Fn.of Tryz.func80 rfl rfl rfl fun w0 I ρ0=>?_
 show B9 _ ⟨w0,I,ρ0,1,1,19⟩ _ _ _
 refine A4 1 9 Az ?_
 refine Aj ?_
 refine Af fun B=>?_
 refine Ah ?_
 refine C5 (Bb _ _ []) (by kernel_rfl) [0,1,3,7,15,31,63,127,255,31,543,1567,3615,7711,16383,32767,65535] 9 145 B rfl rfl (by kernel_rfl) ?_
 refine Aj ?_
 rcases Dx D with ⟨h2,D⟩ | ⟨h2,D⟩
 ·refine Aj ?_
  refine Af fun B=>?_
  refine A1 ?_
  obtain rfl:=oi_ D
  exact Ax [(0,0)] ⟨rfl,rfl⟩
 ·refine Aj ?_
  refine Af fun B=>?_
  refine A1 ?_
  obtain rfl:=oi_ D
  exact Ax [(0,0)] ⟨rfl,rfl⟩
theorem Lt (r':Ae) (r:A3×Ae) (D:C4 r'=some r):Fn Tryz.prog 78 1 [.ptr 0 0] [.box (Ae.dv r') 104] (fun d' b'=>d'=.agg [vj r.1.Alg,vj r.1.Bits]/\b'=[.box (Ae.dv r.2) 104]):=by
 unfold C4 at D
 refine Fn.of Tryz.func78 rfl rfl rfl fun w0 I ρ0=>?_
 show B9 _ ⟨w0,I,ρ0,1,1,24⟩ _ _ _
 refine A4 1 9 Az ?_
 refine Aj ?_
 refine Af fun B=>?_
 refine A4 9 33 B ?_
 refine Aj ?_
 obtain⟨y,hy,D⟩:=Ac D
 refine Eh (rd:=[0]) (ps:=[0]) (gs:=[]) false rfl (Hd _ _ hy) rfl rfl (.cons (.ptr rfl) .nil) ⟨_,_,_,rfl,.head _,⟨_,rfl,(by repeat' (first | exact G7.nil | apply G7.cons | exact Ag.val | exact Ag.sl | exact Ag.nils | exact Ag.ptr rfl | exact Ag.rowK rfl))⟩,rfl⟩ rfl (by intro h; cases h) rfl (by intro h; first | (cases h; done) | exact⟨_,_,⟨rfl,rfl⟩,by simp,by simp⟩) ?_
 rintro _ _ ⟨rfl,rfl⟩
 refine Aj ?_
 refine Af fun B=>?_
 refine A4 33 89 B ?_
 refine Aj ?_
 obtain⟨y_2,hy_2,D⟩:=Ac D
 refine F3 [17] [17] [] false (D2 _ _ hy_2) ?_
 refine Aj ?_
 obtain⟨y_3,hy_3,D⟩:=Ac D
 refine F3 [17] [17] [] false (D2 _ _ hy_3) ?_
 refine Bl rfl rfl (.build (r:=[vj y_2.1,vj y_3.1]) Qg bE rL (by kernel_rfl) rfl) rfl rfl ?_
 refine Aj ?_
 refine Af fun B=>?_
 refine Bp (ι:=Bool) (fun (b_1:Bool)=>mk [(2,.ptr 1 0),(4,.ptr 2 0)] [(0,.box [.sl 4 (Al Aa.enc y.2.L),vj y.2.At,.val (.bool b_1)] 104),(1,.box [.val (.int .i64 0),.val (.int .i64 0)] 33),(2,.box [vj y_2.1,vj y_3.1] 33)] 3) (fun (b_1:Bool)=>C4.j1 y y_2 y_3 b_1=some r) ?_ ?_
 ·refine Ad (Bb _ _ []) 89 185 B rfl rfl ?_
  refine Aj ?_
  rcases Dx D with ⟨h4,D⟩ | ⟨h4,D⟩
  ·refine Aj ?_
   obtain⟨y_4,hy_4,D⟩:=Ac D
   refine F3 [17] [17] [] false (Gk _ _ hy_4) ?_
   refine Aj ?_
   refine Af fun B=>?_
   exact⟨y_4.1,D,Ay [(0,0),(1,1),(2,73)]⟩
  ·refine Aj ?_
   refine Af fun B=>?_
   exact⟨false,D,Ay [(0,0),(1,1),(2,73)]⟩
 ·rintro b_1 D
  replace D:C4.j1 y y_2 y_3 b_1=some r:=D
  show B9 _ _ _ _ (mk _ _ _)
  unfold C4.j1 at D
  refine A4 3 19 Az ?_
  refine Aj ?_
  refine Af fun B=>?_
  refine A1 ?_
  obtain rfl:=oi_ D
  exact Ax [(0,0)] ⟨rfl,rfl⟩
theorem Vl (v:Aa) (r:Bool×Int) (D:C1 v=some r):Fn Tryz.prog 109 0 [.agg (Aa.dv v)] [] (fun d' b'=>d'=.tup [.val (.bool r.1),vj r.2]/\b'=[]):=by
 unfold C1 at D
 refine Fn.of Tryz.func109 rfl rfl rfl fun w0 I ρ0=>?_
 show B9 _ ⟨w0,I,ρ0,0,0,42⟩ _ _ _
 refine A4 0 24 Az ?_
 refine Aj ?_
 refine Af fun B=>?_
 refine Ah ?_
 refine Bp (ι:=Bool) (fun (x36_1:Bool)=>mk [(1,.ptr 0 0),(36,.val (.bool x36_1))] [(0,.box (Aa.dv v) 30)] 1) (fun (x36_1:Bool)=>C1.j1 v x36_1=some r) ?_ ?_
 ·refine Ad (Bb _ _ []) 24 288 B rfl rfl ?_
  refine Aj ?_
  rcases Dx D with ⟨h2,D⟩ | ⟨h2,D⟩
  ·refine Aj ?_
   refine Af fun B=>?_
   exact⟨true,D,Ay [(0,0)]⟩
  ·refine Aj ?_
   rcases Dx D with ⟨h4,D⟩ | ⟨h4,D⟩
   ·refine Aj ?_
    refine Af fun B=>?_
    exact⟨true,D,Ay [(0,0)]⟩
   ·refine Aj ?_
    rcases Dx D with ⟨h6,D⟩ | ⟨h6,D⟩
    ·refine Aj ?_
     refine Af fun B=>?_
     exact⟨true,D,Ay [(0,0)]⟩
    ·refine Aj ?_
     rcases Dx D with ⟨h8,D⟩ | ⟨h8,D⟩
     ·refine Aj ?_
      refine Af fun B=>?_
      exact⟨true,D,Ay [(0,0)]⟩
     ·refine Aj ?_
      obtain⟨e,he,D⟩:=Ac D
      refine Aj ?_
      refine Bl (Ef rfl rfl h8) rfl (Bq Na (A9 B7 (Aw he) (o:=0) (c:=.int .u8 (e.toNat:Int)) rfl rfl)) rfl rfl ?_
      refine Aj ?_
      rcases Dx D with ⟨h10,D⟩ | ⟨h10,D⟩
      ·refine Aj ?_
       refine Bl (Ef rfl rfl h10) rfl (Bq Na (A9 B7 (Aw he) (o:=0) (c:=.int .u8 (e.toNat:Int)) rfl rfl)) rfl rfl ?_
       refine Aj ?_
       refine Af fun B=>?_
       exact⟨!decide ((e.toNat:Int)=255),D,Ay [(0,0)]⟩
      ·refine Aj ?_
       refine Af fun B=>?_
       exact⟨false,D,Ay [(0,0)]⟩
 ·rintro x36_1 D
  replace D:C1.j1 v x36_1=some r:=D
  show B9 _ _ _ _ (mk _ _ _)
  unfold C1.j1 at D
  refine Dg rfl D (fun h13 D=>?_) fun h13 D=>?_
  ·refine Ah ?_
   refine Ad (Bb _ _ []) 1 17 Az rfl rfl ?_
   refine Aj ?_
   refine Af fun B=>?_
   refine A1 ?_
   obtain rfl:=oi_ D
   exact Ax [] ⟨rfl,rfl⟩
  ·refine Ap ?_
   repeat first | refine Dc ?_ | refine De ?_
   refine A4 1 57 Az ?_
   refine Aj ?_
   obtain⟨e_2,he_2,D⟩:=Ac D
   refine Aj ?_
   refine Bl rfl rfl (Bq Na (A9 B7 (Aw he_2) (o:=0) (c:=.int .u8 (e_2.toNat:Int)) rfl rfl)) rfl rfl ?_
   refine Aj ?_
   refine Af fun B=>?_
   refine A1 ?_
   obtain rfl:=oi_ D
   exact Ax [] ⟨rfl,rfl⟩
theorem Qa (r':Ae) (r:Bool×Ae) (D:He r'=some r):Fn Tryz.prog 79 1 [.ptr 0 0] [.box (Ae.dv r') 104] (fun d' b'=>d'=.val (.bool r.1)/\b'=[.box (Ae.dv r.2) 104]):=by
 unfold He at D
 refine Fn.of Tryz.func79 rfl rfl rfl fun w0 I ρ0=>?_
 show B9 _ ⟨w0,I,ρ0,1,1,23⟩ _ _ _
 refine A4 1 9 Az ?_
 refine Aj ?_
 refine Af fun B=>?_
 refine A4 9 73 B ?_
 refine Aj ?_
 obtain⟨y,hy,D⟩:=Ac D
 refine F3 [0] [0] [] false (Hb _ _ hy) ?_
 obtain⟨y_2,hy_2,D⟩:=Ac D
 refine Dy (Vl _ _ hy_2) ?_
 refine Aj ?_
 refine Af fun B=>?_
 refine A4 73 169 B ?_
 refine Aj ?_
 rcases Dx D with ⟨h3,D⟩ | ⟨h3,D⟩
 ·refine Aj ?_
  refine Af fun B=>?_
  refine A4 169 185 B ?_
  refine Aj ?_
  refine Af fun B=>?_
  refine A1 ?_
  obtain rfl:=oi_ D
  exact Ax [(0,0)] ⟨rfl,rfl⟩
 ·refine Aj ?_
  refine Af fun B=>?_
  refine A4 169 185 B ?_
  refine Aj ?_
  refine Af fun B=>?_
  refine A1 ?_
  obtain rfl:=oi_ D
  exact Ax [(0,0)] ⟨rfl,rfl⟩
theorem aK (v:Aa) (r:Ab×Bool) (D:Da v=some r):Fn Tryz.prog 37 0 [.agg (Aa.dv v)] [] (fun d' b'=>d'=.tup [.agg (Ab.dv r.1),.val (.bool r.2)]/\b'=[]):=by
 unfold Da at D
 refine Fn.of Tryz.func37 rfl rfl rfl fun w0 I ρ0=>?_
 show B9 _ ⟨w0,I,ρ0,0,0,82⟩ _ _ _
 refine A4 0 24 Az ?_
 refine Aj ?_
 refine Af fun B=>?_
 refine A4 24 48 B ?_
 refine Aj ?_
 obtain⟨y,hy,D⟩:=Ac D
 refine Eh (rd:=[]) (ps:=[]) (gs:=[]) false rfl (Ry _ _ hy) rfl rfl (.cons (.agg (.cons .val (.cons .sl (.cons .val (.cons .sl .nil))))) .nil) rfl rfl (by intro h; cases h) rfl (by intro h; first | (cases h; done) | exact⟨_,_,⟨rfl,rfl⟩,by simp,by simp⟩) ?_
 rintro _ _ ⟨rfl,rfl⟩
 refine Aj ?_
 refine Af fun B=>?_
 refine A4 48 72 B ?_
 refine Aj ?_
 obtain⟨y_2,hy_2,D⟩:=Ac D
 refine Eh (rd:=[32]) (ps:=[32]) (gs:=[]) false rfl (Hd _ _ hy_2) rfl rfl (.cons (.ptr rfl) .nil) ⟨_,_,_,rfl,.head _,⟨_,rfl,(by repeat' (first | exact G7.nil | apply G7.cons | exact Ag.val | exact Ag.sl | exact Ag.nils | exact Ag.ptr rfl | exact Ag.rowK rfl))⟩,rfl⟩ rfl (by intro h; cases h) rfl (by intro h; first | (cases h; done) | exact⟨_,_,⟨rfl,rfl⟩,by simp,by simp⟩) ?_
 rintro _ _ ⟨rfl,rfl⟩
 refine Aj ?_
 refine Af fun B=>?_
 refine A4 72 256 B ?_
 refine Aj ?_
 obtain⟨y_3,hy_3,D⟩:=Ac D
 refine F3 [56] [56] [] false (D2 _ _ hy_3) ?_
 refine Aj ?_
 obtain⟨y_4,hy_4,D⟩:=Ac D
 refine F3 [56] [56] [] false (I2 _ _ hy_4) ?_
 refine Aj ?_
 obtain⟨y_5,hy_5,D⟩:=Ac D
 refine F3 [56] [56] [] false (I2 _ _ hy_5) ?_
 refine Aj ?_
 obtain⟨y_6,hy_6,D⟩:=Ac D
 refine F3 [56] [56] [] false (Lt _ _ hy_6) ?_
 refine Aj ?_
 obtain⟨y_7,hy_7,D⟩:=Ac D
 refine F3 [56] [56] [] false (D2 _ _ hy_7) ?_
 refine Aj ?_
 obtain⟨y_8,hy_8,D⟩:=Ac D
 refine F3 [56] [56] [] false (Lt _ _ hy_8) ?_
 refine Aj ?_
 obtain⟨y_9,hy_9,D⟩:=Ac D
 refine F3 [56] [56] [] false (D2 _ _ hy_9) ?_
 refine Aj ?_
 obtain⟨y_10,hy_10,D⟩:=Ac D
 refine F3 [56] [56] [] false (D2 _ _ hy_10) ?_
 refine Aj ?_
 obtain⟨y_11,hy_11,D⟩:=Ac D
 refine F3 [56] [56] [] false (Qa _ _ hy_11) ?_
 refine Aj ?_
 obtain⟨y_12,hy_12,D⟩:=Ac D
 refine F3 [56] [56] [] false (D2 _ _ hy_12) ?_
 refine Bl rfl rfl (.build (r:=[vj y_3.1,vk y_4.1,vk y_5.1,vj y_6.1.Alg,vj y_6.1.Bits,vj y_7.1,vj y_8.1.Alg,vj y_8.1.Bits,vj y_9.1,vj y_10.1,.val (.bool y_11.1),vj y_12.1,.val (.slice none 0 0),.val (.int .i64 0),.val (.int .i64 0)]) H4 Ui iN (by kernel_rfl) rfl) rfl rfl ?_
 refine Aj ?_
 refine Af fun B=>?_
 refine A4 256 280 B ?_
 refine Aj ?_
 obtain⟨y_13,hy_13,D⟩:=Ac D
 refine Eh (rd:=[56]) (ps:=[56]) (gs:=[]) false rfl (Hd _ _ hy_13) rfl rfl (.cons (.ptr rfl) .nil) ⟨_,_,_,rfl,.head _,⟨_,rfl,(by repeat' (first | exact G7.nil | apply G7.cons | exact Ag.val | exact Ag.sl | exact Ag.nils | exact Ag.ptr rfl | exact Ag.rowK rfl))⟩,rfl⟩ rfl (by intro h; cases h) rfl (by intro h; first | (cases h; done) | exact⟨_,_,⟨rfl,rfl⟩,by simp,by simp⟩) ?_
 rintro _ _ ⟨rfl,rfl⟩
 refine Aj ?_
 refine Af fun B=>?_
 refine Ah ?_
 refine Av ?_
 refine Nu (fun ((n_1,l_1):Ae×List ByteArray)=>mk [(2,.ptr 0 0),(4,.ptr 1 0),(5,.ptr 2 0),(6,.ptr 3 0),(7,.ptr 4 0)] [(0,.box [.val (.int .i64 0),.val (.string (⟨#[]⟩:ByteArray)),.val (.string (⟨#[]⟩:ByteArray)),.val (.int .i64 0),.val (.int .i64 0),.val (.int .i64 0),.val (.int .i64 0),.val (.int .i64 0),.val (.int .i64 0),.val (.int .i64 0),.val (.bool false),.val (.int .i64 0),.val (.slice none 0 0),.val (.int .i64 0),.val (.int .i64 0)] 38),(1,.box (Ae.dv y_2.2) 104),(2,.box (Ae.dv y_13.2) 104),(3,.box [vj y_3.1,vk y_4.1,vk y_5.1,vj y_6.1.Alg,vj y_6.1.Bits,vj y_7.1,vj y_8.1.Alg,vj y_8.1.Bits,vj y_9.1,vj y_10.1,.val (.bool y_11.1),vj y_12.1,.row 5,.val (.int .i64 0),.val (.int .i64 0)] 38),(4,.box (Ae.dv n_1) 104),(5,.row 9 1 (Al eS l_1))] 6) D (Ay [(0,8),(1,32),(2,56),(3,240),(4,264)]) ?_
 rintro⟨n_1,l_1⟩ m1 o1 D hn1
 replace D:Da.l1 y_2 y_3 y_4 y_5 y_6 y_7 y_8 y_9 y_10 y_11 y_12 y_13 n_1 l_1=some o1:=D
 show B9 _ _ _ _ (mk _ _ _)
 unfold Da.l1 at D
 refine Ah ?_
 refine Bp (ι:=Bool) (fun (x51_2:Bool)=>mk [(2,.ptr 0 0),(4,.ptr 1 0),(5,.ptr 2 0),(6,.ptr 3 0),(7,.ptr 4 0),(51,.val (.bool x51_2))] [(0,.box [.val (.int .i64 0),.val (.string (⟨#[]⟩:ByteArray)),.val (.string (⟨#[]⟩:ByteArray)),.val (.int .i64 0),.val (.int .i64 0),.val (.int .i64 0),.val (.int .i64 0),.val (.int .i64 0),.val (.int .i64 0),.val (.int .i64 0),.val (.bool false),.val (.int .i64 0),.val (.slice none 0 0),.val (.int .i64 0),.val (.int .i64 0)] 38),(1,.box (Ae.dv y_2.2) 104),(2,.box (Ae.dv y_13.2) 104),(3,.box [vj y_3.1,vk y_4.1,vk y_5.1,vj y_6.1.Alg,vj y_6.1.Bits,vj y_7.1,vj y_8.1.Alg,vj y_8.1.Bits,vj y_9.1,vj y_10.1,.val (.bool y_11.1),vj y_12.1,.row 5,.val (.int .i64 0),.val (.int .i64 0)] 38),(4,.box (Ae.dv n_1) 104),(5,.row 9 1 (Al eS l_1))] 6) (fun (x51_2:Bool)=>Da.j2 y_2 y_3 y_4 y_5 y_6 y_7 y_8 y_9 y_10 y_11 y_12 y_13 n_1 l_1 x51_2=some o1) ?_ ?_
 ·refine C5 (Bb _ _ []) (by kernel_rfl) [0,1,3,7,15,31,63,127,255,31,543,1567,3615,7711,16383,32767] 6 134 Az rfl rfl (by kernel_rfl) ?_
  refine Aj ?_
  rcases Dx D with ⟨h6,D⟩ | ⟨h6,D⟩
  ·refine Aj ?_
   refine Af fun B=>?_
   exact⟨decide (n_1.At < (n_1.L.length:Int)),D,Ay [(0,0),(1,1),(2,2),(3,3),(4,4),(5,5)]⟩
  ·refine Aj ?_
   refine Af fun B=>?_
   exact⟨false,D,Ay [(0,0),(1,1),(2,2),(3,3),(4,4),(5,5)]⟩
 ·rintro x51_2 D
  replace D:Da.j2 y_2 y_3 y_4 y_5 y_6 y_7 y_8 y_9 y_10 y_11 y_12 y_13 n_1 l_1 x51_2=some o1:=D
  show B9 _ _ _ _ (mk _ _ _)
  unfold Da.j2 at D
  refine Dg rfl D (fun h9 D=>?_) fun h9 D=>?_
  ·refine Ap ?_
   repeat first | refine Dc ?_ | refine De ?_
   refine Av ?_
   refine C5 (Bb _ _ []) (by kernel_rfl) [0,1,0,4,12,31,63,127] 6 70 Az rfl rfl (by kernel_rfl) ?_
   refine Aj ?_
   obtain⟨y_14,hy_14,D⟩:=Ac D
   refine F3 [4] [4] [] false (I2 _ _ hy_14) ?_
   refine Bl rfl rfl (Ao Mz z9 (by decide) rfl rfl rfl rfl dL (cs:=[.str y_14.1]) (.cons .str .nil) rfl (l:=([y_14.1]:List ByteArray)) (f:=eS) rfl) rfl rfl ?_
   obtain⟨l,hl,D⟩:=Ac D
   refine Fe (rd:=[5,38]) rfl rfl (Dj Mz Hs .row rfl .row rfl hl rfl) rfl rfl ?_
   refine Aj ?_
   refine Af fun B=>?_
   obtain rfl:=oi_ D
   exact⟨((y_14.2,l),m1),Nat.lt_succ_self _,hn1,Ay [(0,0),(1,1),(2,2),(3,3),(4,4),(5,46)]⟩
  ·refine Cm ?_
   repeat first | refine Dc ?_ | refine De ?_
   replace D:=Dr D hn1
   refine A4 6 30 Az ?_
   refine Aj ?_
   obtain⟨y_15,hy_15,D⟩:=Ac D
   refine Eh (rd:=[1]) (ps:=[1]) (gs:=[]) false rfl (Hd _ _ hy_15) rfl rfl (.cons (.ptr rfl) .nil) ⟨_,_,_,rfl,.head _,⟨_,rfl,(by repeat' (first | exact G7.nil | apply G7.cons | exact Ag.val | exact Ag.sl | exact Ag.nils | exact Ag.ptr rfl | exact Ag.rowK rfl))⟩,rfl⟩ rfl (by intro h; cases h) rfl (by intro h; first | (cases h; done) | exact⟨_,_,⟨rfl,rfl⟩,by simp,by simp⟩) ?_
   rintro _ _ ⟨rfl,rfl⟩
   refine Aj ?_
   refine Af fun B=>?_
   refine A4 30 86 B ?_
   refine Aj ?_
   obtain⟨y_16,hy_16,D⟩:=Ac D
   refine F3 [14] [14] [] false (D2 _ _ hy_16) ?_
   refine Aj ?_
   obtain⟨y_17,hy_17,D⟩:=Ac D
   refine F3 [14] [14] [] false (D2 _ _ hy_17) ?_
   refine Bl rfl rfl (.build (r:=[vj y_16.1,vj y_17.1]) Qh cW pF (by kernel_rfl) rfl) rfl rfl ?_
   refine Aj ?_
   refine Af fun B=>?_
   refine Ah ?_
   refine C5 (Bb _ _ []) (by kernel_rfl) [0,0,2,6,14,30,62,126,254,510,1022,2046,4094,8190,16382,16383,65535] 86 222 B rfl rfl (by kernel_rfl) ?_
   refine Aj ?_
   obtain⟨y_18,hy_18,D⟩:=Ac D
   refine F3 [1] [1] [] false (Gk _ _ hy_18) ?_
   refine Aj ?_
   rcases Dx D with ⟨h13,D⟩ | ⟨h13,D⟩
   ·refine Aj ?_
    obtain⟨y_19,hy_19,D⟩:=Ac D
    refine F3 [2] [2] [] false (Gk _ _ hy_19) ?_
    refine Aj ?_
    rcases Dx D with ⟨h14,D⟩ | ⟨h14,D⟩
    ·refine Aj ?_
     obtain⟨y_20,hy_20,D⟩:=Ac D
     refine F3 [4] [4] [] false (Gk _ _ hy_20) ?_
     refine Aj ?_
     rcases Dx D with ⟨h15,D⟩ | ⟨h15,D⟩
     ·refine Aj ?_
      obtain⟨y_21,hy_21,D⟩:=Ac D
      refine F3 [14] [14] [] false (Gk _ _ hy_21) ?_
      refine Aj ?_
      refine Af fun B=>?_
      refine A1 ?_
      obtain rfl:=oi_ D
      exact Ax [] ⟨rfl,rfl⟩
     ·refine Aj ?_
      refine Af fun B=>?_
      refine A1 ?_
      obtain rfl:=oi_ D
      exact Ax [] ⟨rfl,rfl⟩
    ·refine Aj ?_
     refine Af fun B=>?_
     refine A1 ?_
     obtain rfl:=oi_ D
     exact Ax [] ⟨rfl,rfl⟩
   ·refine Aj ?_
    refine Af fun B=>?_
    refine A1 ?_
    obtain rfl:=oi_ D
    exact Ax [] ⟨rfl,rfl⟩
theorem Xg (b:(List UInt8)) (r:Ab×Int) (D:In b=some r):Fn Tryz.prog 17 0 [.sl 1 (Al e8 b)] [] (fun d' b'=>d'=.tup [.agg (Ab.dv r.1),vj r.2]/\b'=[]):=by
 unfold In at D
 refine Fn.of Tryz.func17 rfl rfl rfl fun w0 I ρ0=>?_
 show B9 _ ⟨w0,I,ρ0,0,0,30⟩ _ _ _
 refine A4 0 16 Az ?_
 refine Aj ?_
 refine Af fun B=>?_
 refine A4 16 80 B ?_
 refine Aj ?_
 obtain⟨y,hy,D⟩:=Ac D
 refine Dy (V3 _ _ hy) ?_
 refine Aj ?_
 refine Af fun B=>?_
 refine Ah ?_
 refine A4 80 96 B ?_
 refine Aj ?_
 refine Af fun B=>?_
 refine Dg rfl D (fun h4 D=>?_) fun h4 D=>?_
 ·refine Ah ?_
  refine Ad (Bb _ _ []) 96 128 B rfl rfl ?_
  refine Bl rfl rfl (.build (r:=[.val (.int .i64 0),.val (.string (⟨#[]⟩:ByteArray)),.val (.string (⟨#[]⟩:ByteArray)),.val (.int .i64 0),.val (.int .i64 0),.val (.int .i64 0),.val (.int .i64 0),.val (.int .i64 0),.val (.int .i64 0),.val (.int .i64 0),.val (.bool false),.val (.int .i64 0),.val (.slice none 0 0),.val (.int .i64 0),.val (.int .i64 0)]) H4 Ui iN (by kernel_rfl) rfl) rfl rfl ?_
  refine Aj ?_
  refine Af fun B=>?_
  refine A1 ?_
  obtain rfl:=oi_ D
  exact Ax [] ⟨rfl,rfl⟩
 ·refine Ap ?_
  repeat first | refine Dc ?_ | refine De ?_
  refine A4 96 160 B ?_
  refine Aj ?_
  obtain⟨y_2,hy_2,D⟩:=Ac D
  refine Dy (aK _ _ hy_2) ?_
  refine Aj ?_
  refine Af fun B=>?_
  refine Ah ?_
  refine A4 160 176 B ?_
  refine Aj ?_
  refine Af fun B=>?_
  refine Dg rfl D (fun h8 D=>?_) fun h8 D=>?_
  ·refine Ah ?_
   refine Ad (Bb _ _ []) 176 200 B rfl rfl ?_
   refine Bl rfl rfl (.build (r:=[.val (.int .i64 0),.val (.string (⟨#[]⟩:ByteArray)),.val (.string (⟨#[]⟩:ByteArray)),.val (.int .i64 0),.val (.int .i64 0),.val (.int .i64 0),.val (.int .i64 0),.val (.int .i64 0),.val (.int .i64 0),.val (.int .i64 0),.val (.bool false),.val (.int .i64 0),.val (.slice none 0 0),.val (.int .i64 0),.val (.int .i64 0)]) H4 Ui iN (by kernel_rfl) rfl) rfl rfl ?_
   refine Aj ?_
   refine Af fun B=>?_
   refine A1 ?_
   obtain rfl:=oi_ D
   exact Ax [] ⟨rfl,rfl⟩
  ·refine Ap ?_
   repeat first | refine Dc ?_ | refine De ?_
   refine Ah ?_
   refine A4 176 200 B ?_
   refine Aj ?_
   obtain⟨y_3,hy_3,D⟩:=Ac D
   refine Dy (M1 _ _ hy_3) ?_
   refine Aj ?_
   refine Af fun B=>?_
   refine Dg rfl D (fun h11 D=>?_) fun h11 D=>?_
   ·refine Ah ?_
    refine Ad (Bb _ _ []) 200 224 B rfl rfl ?_
    refine Bl rfl rfl (.build (r:=[.val (.int .i64 0),.val (.string (⟨#[]⟩:ByteArray)),.val (.string (⟨#[]⟩:ByteArray)),.val (.int .i64 0),.val (.int .i64 0),.val (.int .i64 0),.val (.int .i64 0),.val (.int .i64 0),.val (.int .i64 0),.val (.int .i64 0),.val (.bool false),.val (.int .i64 0),.val (.slice none 0 0),.val (.int .i64 0),.val (.int .i64 0)]) H4 Ui iN (by kernel_rfl) rfl) rfl rfl ?_
    refine Aj ?_
    refine Af fun B=>?_
    refine A1 ?_
    obtain rfl:=oi_ D
    exact Ax [] ⟨rfl,rfl⟩
   ·refine Ap ?_
    repeat first | refine Dc ?_ | refine De ?_
    refine A4 200 224 B ?_
    refine Aj ?_
    refine Af fun B=>?_
    refine A1 ?_
    obtain rfl:=oi_ D
    exact Ax [] ⟨rfl,rfl⟩
theorem Rk (a:(List ByteArray)) (b:(List ByteArray)) (r:Bool) (D:Dq a b=some r):Fn Tryz.prog 39 0 [.sl 1 (Al eS a),.sl 1 (Al eS b)] [] (fun d' b'=>d'=.val (.bool r)/\b'=[]):=by
 unfold Dq at D
 refine Fn.of Tryz.func39 rfl rfl rfl fun w0 I ρ0=>?_
 show B9 _ ⟨w0,I,ρ0,0,0,26⟩ _ _ _
 refine A4 0 8 Az ?_
 refine Aj ?_
 refine Af fun B=>?_
 refine Ah ?_
 refine A4 8 48 B ?_
 refine Aj ?_
 refine Af fun B=>?_
 refine Dg rfl D (fun h3 D=>?_) fun h3 D=>?_
 ·refine Ah ?_
  refine Ad (Bb _ _ []) 48 56 B rfl rfl ?_
  refine Aj ?_
  refine Af fun B=>?_
  refine A1 ?_
  obtain rfl:=oi_ D
  exact Ax [] ⟨rfl,rfl⟩
 ·refine Ap ?_
  repeat first | refine Dc ?_ | refine De ?_
  refine Ah ?_
  refine A4 48 56 B ?_
  refine Aj ?_
  refine Af fun B=>?_
  refine Av ?_
  refine Nu (fun (i_1:Int)=>mk [(0,.sl 1 (Al eS a)),(1,.sl 1 (Al eS b)),(5,vj i_1)] [] 0) D (Ay []) ?_
  rintro i_1 m1 o1 D hn1
  replace D:Dq.l1 a b i_1=some o1:=D
  show B9 _ _ _ _ (mk _ _ _)
  unfold Dq.l1 at D
  refine Ah ?_
  refine A4 0 32 Az ?_
  refine Aj ?_
  refine Af fun B=>?_
  refine Dg rfl D (fun h7 D=>?_) fun h7 D=>?_
  ·refine Ap ?_
   repeat first | refine Dc ?_ | refine De ?_
   refine Ah ?_
   refine Av ?_
   refine Ah ?_
   refine C5 (Bb _ _ []) (by kernel_rfl) [0,0,3,7,0,0,48,112,255] 32 104 B rfl rfl (by kernel_rfl) ?_
   refine Aj ?_
   obtain⟨e,he,D⟩:=Ac D
   refine Aj ?_
   refine Bl rfl rfl (Bq jX (A9 Hs (Aw he) (o:=0) (c:=.str e) rfl rfl)) rfl rfl ?_
   refine Aj ?_
   obtain⟨e_2,he_2,D⟩:=Ac D
   refine Aj ?_
   refine Bl rfl rfl (Bq jX (A9 Hs (Aw he_2) (o:=0) (c:=.str e_2) rfl rfl)) rfl rfl ?_
   refine Aj ?_
   refine Af fun B=>?_
   refine Dg rfl D (fun h9 D=>?_) fun h9 D=>?_
   ·refine Ah ?_
    refine Ad (Bb _ _ []) 104 112 B rfl rfl ?_
    refine Aj ?_
    refine Af fun B=>?_
    refine A1 ?_
    replace D:=Dr D hn1
    obtain rfl:=oi_ D
    exact Ax [] ⟨rfl,rfl⟩
   ·refine Ap ?_
    repeat first | refine Dc ?_ | refine De ?_
    refine Ad (Bb _ _ []) 104 128 B rfl rfl ?_
    refine Aj ?_
    refine Af fun B=>?_
    obtain rfl:=oi_ D
    exact⟨(W (i_1 + 1),m1),Nat.lt_succ_self _,hn1,Ay []⟩
  ·refine Cm ?_
   repeat first | refine Dc ?_ | refine De ?_
   replace D:=Dr D hn1
   refine A4 32 40 B ?_
   refine Aj ?_
   refine Af fun B=>?_
   refine A1 ?_
   obtain rfl:=oi_ D
   exact Ax [] ⟨rfl,rfl⟩
theorem Zr (a:Ab) (b:Ab) (r:Bool) (D:J0 a b=some r):Fn Tryz.prog 18 0 [.agg (Ab.dv a),.agg (Ab.dv b)] [] (fun d' b'=>d'=.val (.bool r)/\b'=[]):=by
 unfold J0 at D
 refine Fn.of Tryz.func18 rfl rfl rfl fun w0 I ρ0=>?_
 show B9 _ ⟨w0,I,ρ0,0,0,87⟩ _ _ _
 refine A4 0 24 Az ?_
 refine Aj ?_
 refine Af fun B=>?_
 refine A4 24 688 B ?_
 refine Aj ?_
 rcases Dx D with ⟨h2,D⟩ | ⟨h2,D⟩
 ·refine Aj ?_
  rcases Dx D with ⟨h3,D⟩ | ⟨h3,D⟩
  ·refine Aj ?_
   rcases Dx D with ⟨h4,D⟩ | ⟨h4,D⟩
   ·refine Aj ?_
    refine Bl (Ef rfl rfl h4) rfl (N2 a.Key b.Key) rfl rfl ?_
    refine Aj ?_
    rcases Dx D with ⟨h5,D⟩ | ⟨h5,D⟩
    ·refine Aj ?_
     rcases Dx D with ⟨h6,D⟩ | ⟨h6,D⟩
     ·refine Aj ?_
      refine Bl (Ef rfl rfl h6) rfl (N2 a.Hash b.Hash) rfl rfl ?_
      refine Aj ?_
      rcases Dx D with ⟨h7,D⟩ | ⟨h7,D⟩
      ·refine Aj ?_
       rcases Dx D with ⟨h8,D⟩ | ⟨h8,D⟩
       ·refine Aj ?_
        rcases Dx D with ⟨h9,D⟩ | ⟨h9,D⟩
        ·refine Aj ?_
         refine Bl (Ef rfl rfl h9) rfl (lP rM) rfl rfl ?_
         refine Aj ?_
         rcases Dx D with ⟨h10,D⟩ | ⟨h10,D⟩
         ·refine Aj ?_
          rcases Dx D with ⟨h11,D⟩ | ⟨h11,D⟩
          ·refine Aj ?_
           obtain⟨y,hy,D⟩:=Ac D
           refine Dy (Rk _ _ _ hy) ?_
           refine Aj ?_
           rcases Dx D with ⟨h12,D⟩ | ⟨h12,D⟩
           ·refine Aj ?_
            refine Bl (Ef rfl rfl h12) rfl (Qp a.Seal b.Seal) rfl rfl ?_
            refine Aj ?_
            refine Af fun B=>?_
            refine A1 ?_
            obtain rfl:=oi_ D
            exact Ax [] ⟨rfl,rfl⟩
           ·refine Aj ?_
            refine Af fun B=>?_
            refine A1 ?_
            obtain rfl:=oi_ D
            exact Ax [] ⟨rfl,rfl⟩
          ·refine Aj ?_
           refine Af fun B=>?_
           refine A1 ?_
           obtain rfl:=oi_ D
           exact Ax [] ⟨rfl,rfl⟩
         ·refine Aj ?_
          refine Af fun B=>?_
          refine A1 ?_
          obtain rfl:=oi_ D
          exact Ax [] ⟨rfl,rfl⟩
        ·refine Aj ?_
         refine Af fun B=>?_
         refine A1 ?_
         obtain rfl:=oi_ D
         exact Ax [] ⟨rfl,rfl⟩
       ·refine Aj ?_
        refine Af fun B=>?_
        refine A1 ?_
        obtain rfl:=oi_ D
        exact Ax [] ⟨rfl,rfl⟩
      ·refine Aj ?_
       refine Af fun B=>?_
       refine A1 ?_
       obtain rfl:=oi_ D
       exact Ax [] ⟨rfl,rfl⟩
     ·refine Aj ?_
      refine Af fun B=>?_
      refine A1 ?_
      obtain rfl:=oi_ D
      exact Ax [] ⟨rfl,rfl⟩
    ·refine Aj ?_
     refine Af fun B=>?_
     refine A1 ?_
     obtain rfl:=oi_ D
     exact Ax [] ⟨rfl,rfl⟩
   ·refine Aj ?_
    refine Af fun B=>?_
    refine A1 ?_
    obtain rfl:=oi_ D
    exact Ax [] ⟨rfl,rfl⟩
  ·refine Aj ?_
   refine Af fun B=>?_
   refine A1 ?_
   obtain rfl:=oi_ D
   exact Ax [] ⟨rfl,rfl⟩
 ·refine Aj ?_
  refine Af fun B=>?_
  refine A1 ?_
  obtain rfl:=oi_ D
  exact Ax [] ⟨rfl,rfl⟩
end Go.Proofs.YtlfeokjhphpjeaaGreat
