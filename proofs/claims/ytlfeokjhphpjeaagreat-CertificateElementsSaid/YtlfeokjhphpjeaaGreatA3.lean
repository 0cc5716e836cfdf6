import Derived.Test.YtlfeokjhphpjeaaGreatT1
import Derived.Test.YtlfeokjhphpjeaaGreatA1
import Derived.Test.YtlfeokjhphpjeaaGreatA2
set_option linter.unusedVariables false
set_option linter.unusedSimpArgs false
set_option maxRecDepth 100000
set_option maxHeartbeats 1600000
namespace Go.Proofs.YtlfeokjhphpjeaaGreat
open Go.RowKit
theorem iD (rec:(List UInt8)->Option (Aa×Int×Bool)) (hrec:∀ (b:(List UInt8)) (r:Aa×Int×Bool),rec b=some r->Fn Tryz.prog 52 0 [.sl 1 (Al e8 b)] [] (fun d' b'=>d'=.tup [.agg (Aa.dv r.1),vj r.2.1,.val (.bool r.2.2)]/\b'=[])) (b:(List UInt8)) (r:(List Aa)×Bool) (D:E3 rec b=some r):Fn Tryz.prog 95 0 [.sl 1 (Al e8 b)] [] (fun d' b'=>d'=.tup [.sl 4 (Al Aa.enc r.1),.val (.bool r.2)]/\b'=[]):=by
 unfold E3 at D
 refine Fn.of Tryz.func95 rfl rfl rfl fun w0 I ρ0=>?_
 show B9 _ ⟨w0,I,ρ0,0,0,31⟩ _ _ _
 refine A4 0 16 Az ?_
 refine Aj ?_
 refine Af fun B=>?_
 refine A4 16 24 B ?_
 refine Aj ?_
 refine Af fun B=>?_
 refine Ah ?_
 refine A4 24 32 B ?_
 refine Aj ?_
 refine Af fun B=>?_
 refine Av ?_
 refine Nu (fun ((at_1,out_1):Int×List Aa)=>mk [(0,.sl 1 (Al e8 b)),(4,.row 0),(5,vj at_1)] [(0,.row 30 4 (Al Aa.enc out_1))] 1) D (Ay []) ?_
 rintro⟨at_1,out_1⟩ m1 o1 D hn1
 replace D:E3.l1 rec b at_1 out_1=some o1:=D
 show B9 _ _ _ _ (mk _ _ _)
 unfold E3.l1 at D
 refine Ah ?_
 refine A4 1 33 Az ?_
 refine Aj ?_
 refine Af fun B=>?_
 refine Dg rfl D (fun h5 D=>?_) fun h5 D=>?_
 ·refine Ap ?_
  repeat first | refine Dc ?_ | refine De ?_
  refine Av ?_
  refine A4 33 129 B ?_
  refine Aj ?_
  obtain⟨l,hl,D⟩:=Ac D
  refine Bl rfl rfl (P6 F5 B7 hl) rfl rfl ?_
  obtain⟨y,hy,D⟩:=Ac D
  refine Dy (hrec _ _ hy) ?_
  refine Aj ?_
  refine Af fun B=>?_
  refine Ah ?_
  refine A4 129 145 B ?_
  refine Aj ?_
  refine Af fun B=>?_
  refine Dg rfl D (fun h8 D=>?_) fun h8 D=>?_
  ·refine Ah ?_
   refine Ad (Bb _ _ []) 145 161 B rfl rfl ?_
   refine Aj ?_
   refine Af fun B=>?_
   refine A1 ?_
   replace D:=Dr D hn1
   obtain rfl:=oi_ D
   exact Ax [] ⟨rfl,rfl⟩
  ·refine Ap ?_
   repeat first | refine Dc ?_ | refine De ?_
   refine Ad (Bb _ _ []) 145 217 B rfl rfl ?_
   refine Aj ?_
   refine Bl rfl rfl (Ao Ip No (by decide) rfl rfl rfl rfl Qb (cs:=[.int .i64 y.1.Tag,.sl 1 (Al e8 y.1.Bytes),.bool y.1.Nested,.sl 4 (Al Aa.enc y.1.Elements)]) (.cons .int (.cons .sl (.cons .bool (.cons .sl .nil)))) rfl (l:=([y.1]:List Aa)) (f:=Aa.enc) (by simp only [Al,List.flatMap_cons,aBn,Aa.enc_eq]; rfl)) rfl rfl ?_
   obtain⟨l_2,hl_2,D⟩:=Ac D
   refine Fe (rd:=[0,161]) rfl rfl (Dj Ip Aa.enc_len .row rfl .row rfl hl_2 rfl) rfl rfl ?_
   refine Aj ?_
   refine Af fun B=>?_
   obtain rfl:=oi_ D
   exact⟨((W (at_1 + y.2.1),l_2),m1),Nat.lt_succ_self _,hn1,Ay [(0,169)]⟩
 ·refine Cm ?_
  repeat first | refine Dc ?_ | refine De ?_
  replace D:=Dr D hn1
  refine A4 33 57 B ?_
  refine Aj ?_
  refine Af fun B=>?_
  refine A1 ?_
  obtain rfl:=oi_ D
  exact Ax [] ⟨rfl,rfl⟩
theorem Q1.F (rec:(List UInt8)->Option (Aa×Int×Bool)) (hrec:∀ (b:(List UInt8)) (r:Aa×Int×Bool),rec b=some r->Fn Tryz.prog 52 0 [.sl 1 (Al e8 b)] [] (fun d' b'=>d'=.tup [.agg (Aa.dv r.1),vj r.2.1,.val (.bool r.2.2)]/\b'=[])) (b:(List UInt8)) (r:Aa×Int×Bool) (D:B2.F rec b=some r):Fn Tryz.prog 52 0 [.sl 1 (Al e8 b)] [] (fun d' b'=>d'=.tup [.agg (Aa.dv r.1),vj r.2.1,.val (.bool r.2.2)]/\b'=[]):=by
 unfold B2.F at D
 refine Fn.of Tryz.func52 rfl rfl rfl fun w0 I ρ0=>?_
 show B9 _ ⟨w0,I,ρ0,0,0,83⟩ _ _ _
 refine A4 0 24 Az ?_
 refine Aj ?_
 refine Af fun B=>?_
 refine Ah ?_
 refine Bp (ι:=Bool) (fun (x20_1:Bool)=>mk [(0,.sl 1 (Al e8 b)),(2,.ptr 0 0),(20,.val (.bool x20_1))] [(0,.box [.val (.int .i64 0),.val (.slice none 0 0),.val (.bool false),.val (.slice none 0 0)] 30)] 1) (fun (x20_1:Bool)=>B2.j1 rec b x20_1=some r) ?_ ?_
 ·refine Ad (Bb _ _ []) 24 112 B rfl rfl ?_
  refine Aj ?_
  rcases Dx D with ⟨h2,D⟩ | ⟨h2,D⟩
  ·refine Aj ?_
   refine Af fun B=>?_
   exact⟨true,D,Ay [(0,0)]⟩
  ·refine Aj ?_
   obtain⟨e,he,D⟩:=Ac D
   refine Aj ?_
   refine Bl (Ef rfl rfl h2) rfl (Bq Na (A9 B7 (Aw he) (o:=0) (c:=.int .u8 (e.toNat:Int)) rfl rfl)) rfl rfl ?_
   refine Bl (Ef rfl rfl h2) rfl (Hk (u:=e) Ia Kl) rfl rfl ?_
   obtain⟨y,hy,D⟩:=Ac D
   refine Dy (Yf _ _ hy) ?_
   refine Aj ?_
   refine Af fun B=>?_
   exact⟨!y,D,Ay [(0,0)]⟩
 ·rintro x20_1 D
  replace D:B2.j1 rec b x20_1=some r:=D
  show B9 _ _ _ _ (mk _ _ _)
  unfold B2.j1 at D
  refine Dg rfl D (fun h5 D=>?_) fun h5 D=>?_
  ·refine Ah ?_
   refine Ad (Bb _ _ []) 1 33 Az rfl rfl ?_
   refine Bl rfl rfl (.build (r:=[.val (.int .i64 0),.val (.slice none 0 0),.val (.bool false),.val (.slice none 0 0)]) Hh Me No (by kernel_rfl) rfl) rfl rfl ?_
   refine Aj ?_
   refine Af fun B=>?_
   refine A1 ?_
   obtain rfl:=oi_ D
   exact Ax [] ⟨rfl,rfl⟩
  ·refine Ap ?_
   repeat first | refine Dc ?_ | refine De ?_
   refine A4 1 81 Az ?_
   refine Aj ?_
   obtain⟨l,hl,D⟩:=Ac D
   refine Bl rfl rfl (P6 F5 B7 hl) rfl rfl ?_
   obtain⟨y_2,hy_2,D⟩:=Ac D
   refine Dy (dP _ _ hy_2) ?_
   refine Aj ?_
   refine Af fun B=>?_
   refine A4 81 105 B ?_
   refine Aj ?_
   refine Af fun B=>?_
   refine Bp (ι:=Bool) (fun (x40_2:Bool)=>mk [(0,.sl 1 (Al e8 b)),(2,.ptr 0 0),(5,vj y_2.1),(8,.val (.int .i64 (W (1 + y_2.2.1)))),(40,.val (.bool x40_2))] [(0,.box [.val (.int .i64 0),.val (.slice none 0 0),.val (.bool false),.val (.slice none 0 0)] 30)] 1) (fun (x40_2:Bool)=>B2.j2 rec b y_2 x40_2=some r) ?_ ?_
   ·refine Ad (Bb _ _ []) 105 185 B rfl rfl ?_
    refine Aj ?_
    rcases Dx D with ⟨h9,D⟩ | ⟨h9,D⟩
    ·refine Aj ?_
     refine Af fun B=>?_
     exact⟨true,D,Ay [(0,0)]⟩
    ·refine Aj ?_
     refine Af fun B=>?_
     exact⟨decide ((W ((b.length:Int) - (W (1 + y_2.2.1)))) < y_2.1),D,Ay [(0,0)]⟩
   ·rintro x40_2 D
    replace D:B2.j2 rec b y_2 x40_2=some r:=D
    show B9 _ _ _ _ (mk _ _ _)
    unfold B2.j2 at D
    refine Dg rfl D (fun h12 D=>?_) fun h12 D=>?_
    ·refine Ah ?_
     refine Ad (Bb _ _ []) 1 33 Az rfl rfl ?_
     refine Bl rfl rfl (.build (r:=[.val (.int .i64 0),.val (.slice none 0 0),.val (.bool false),.val (.slice none 0 0)]) Hh Me No (by kernel_rfl) rfl) rfl rfl ?_
     refine Aj ?_
     refine Af fun B=>?_
     refine A1 ?_
     obtain rfl:=oi_ D
     exact Ax [] ⟨rfl,rfl⟩
    ·refine Ah ?_
     refine C5 (Bb _ _ []) (by kernel_rfl) [0,1,3,7,0,16,48,112,240,496,1023,0,4095] 1 105 Az rfl rfl (by kernel_rfl) ?_
     refine Aj ?_
     obtain⟨e_2,he_2,D⟩:=Ac D
     refine Aj ?_
     refine Bl rfl rfl (Bq Na (A9 B7 (Aw he_2) (o:=0) (c:=.int .u8 (e_2.toNat:Int)) rfl rfl)) rfl rfl ?_
     refine Bl rfl rfl (Hk (u:=e_2) Ia Kl) rfl rfl ?_
     refine Aj ?_
     refine Bl rfl rfl (Bq Na (A9 B7 (Aw he_2) (o:=0) (c:=.int .u8 (e_2.toNat:Int)) rfl rfl)) rfl rfl ?_
     refine Bl rfl rfl (Hk (u:=e_2) Ia Kl) rfl rfl ?_
     refine Bl rfl rfl eM rfl rfl ?_
     refine Aj ?_
     refine Bl rfl rfl (.build (r:=[.val (.int .i64 (e_2.toNat:Int)),.val (.slice none 0 0),.val (.bool (!decide ((Wf .i64 (e_2.toNat:Int) 32)=0))),.val (.slice none 0 0)]) Hh Me No (by kernel_rfl) rfl) rfl rfl ?_
     refine Aj ?_
     refine Af fun B=>?_
     refine A4 105 121 B ?_
     refine Aj ?_
     refine Af fun B=>?_
     refine Dg rfl D (fun h16 D=>?_) fun h16 D=>?_
     ·refine Ah ?_
      refine Ad (Bb _ _ []) 121 225 B rfl rfl ?_
      refine Aj ?_
      obtain⟨l_2,hl_2,D⟩:=Ac D
      refine Bl rfl rfl (W0 F5 B7 hl_2) rfl rfl ?_
      obtain⟨y_3,hy_3,D⟩:=Ac D
      refine Dy (iD rec hrec _ _ hy_3) ?_
      refine Aj ?_
      refine Af fun B=>?_
      refine A4 225 289 B ?_
      refine Aj ?_
      refine Af fun B=>?_
      refine A1 ?_
      obtain rfl:=oi_ D
      exact Ax [] ⟨rfl,rfl⟩
     ·refine Ah ?_
      refine Ad (Bb _ _ []) 121 193 B rfl rfl ?_
      refine Aj ?_
      obtain⟨l_3,hl_3,D⟩:=Ac D
      refine Bl rfl rfl (W0 F5 B7 hl_3) rfl rfl ?_
      obtain⟨y_4,hy_4,D⟩:=Ac D
      refine Dy (Qj _ _ hy_4) ?_
      refine Aj ?_
      refine Af fun B=>?_
      refine A4 193 249 B ?_
      refine Aj ?_
      refine Af fun B=>?_
      refine A1 ?_
      obtain rfl:=oi_ D
      exact Ax [] ⟨rfl,rfl⟩
theorem Q1 (b:(List UInt8)) (r:Aa×Int×Bool) (D:B2 b=some r):Fn Tryz.prog 52 0 [.sl 1 (Al e8 b)] [] (fun d' b'=>d'=.tup [.agg (Aa.dv r.1),vj r.2.1,.val (.bool r.2.2)]/\b'=[]):=
 Ja (motive:=fun (x:(List UInt8)) (r:Aa×Int×Bool)=>Fn Tryz.prog 52 0 [.sl 1 (Al e8 x)] [] (fun d' b'=>d'=.tup [.agg (Aa.dv r.1),vj r.2.1,.val (.bool r.2.2)]/\b'=[])) (fun rec hrec x r h=>Q1.F _ (fun b r h=>hrec b r h) x r h) b r D
theorem Zn (b:(List UInt8)) (r:Aa×Int) (D:Eu b=some r):Fn Tryz.prog 33 0 [.sl 1 (Al e8 b)] [] (fun d' b'=>d'=.tup [.agg (Aa.dv r.1),vj r.2]/\b'=[]):=by
 unfold Eu at D
 refine Fn.of Tryz.func33 rfl rfl rfl fun w0 I ρ0=>?_
 show B9 _ ⟨w0,I,ρ0,0,0,31⟩ _ _ _
 refine A4 0 16 Az ?_
 refine Aj ?_
 refine Af fun B=>?_
 refine Ah ?_
 refine A4 16 40 B ?_
 refine Aj ?_
 refine Af fun B=>?_
 refine Dg rfl D (fun h3 D=>?_) fun h3 D=>?_
 ·refine Ah ?_
  refine Ad (Bb _ _ []) 40 64 B rfl rfl ?_
  refine Bl rfl rfl (.build (r:=[.val (.int .i64 0),.val (.slice none 0 0),.val (.bool false),.val (.slice none 0 0)]) Hh Me No (by kernel_rfl) rfl) rfl rfl ?_
  refine Aj ?_
  refine Af fun B=>?_
  refine A1 ?_
  obtain rfl:=oi_ D
  exact Ax [] ⟨rfl,rfl⟩
 ·refine Ap ?_
  repeat first | refine Dc ?_ | refine De ?_
  refine A4 40 120 B ?_
  refine Aj ?_
  obtain⟨y,hy,D⟩:=Ac D
  refine Dy (Q1 _ _ hy) ?_
  refine Aj ?_
  refine Af fun B=>?_
  refine Ah ?_
  refine Bp (ι:=Bool) (fun (x24_1:Bool)=>mk [(2,.ptr 0 0),(4,.ptr 1 0),(24,.val (.bool x24_1))] [(0,.box [.val (.int .i64 0),.val (.slice none 0 0),.val (.bool false),.val (.slice none 0 0)] 30),(1,.box (Aa.dv y.1) 30)] 2) (fun (x24_1:Bool)=>Eu.j1 y x24_1=some r) ?_ ?_
  ·refine Ad (Bb _ _ []) 120 184 B rfl rfl ?_
   refine Aj ?_
   rcases Dx D with ⟨h6,D⟩ | ⟨h6,D⟩
   ·refine Aj ?_
    refine Af fun B=>?_
    exact⟨true,D,Ay [(0,0),(1,88)]⟩
   ·refine Aj ?_
    refine Af fun B=>?_
    exact⟨!decide (y.2.1=(b.length:Int)),D,Ay [(0,0),(1,88)]⟩
  ·rintro x24_1 D
   replace D:Eu.j1 y x24_1=some r:=D
   show B9 _ _ _ _ (mk _ _ _)
   unfold Eu.j1 at D
   refine Dg rfl D (fun h9 D=>?_) fun h9 D=>?_
   ·refine Ah ?_
    refine Ad (Bb _ _ []) 2 26 Az rfl rfl ?_
    refine Bl rfl rfl (.build (r:=[.val (.int .i64 0),.val (.slice none 0 0),.val (.bool false),.val (.slice none 0 0)]) Hh Me No (by kernel_rfl) rfl) rfl rfl ?_
    refine Aj ?_
    refine Af fun B=>?_
    refine A1 ?_
    obtain rfl:=oi_ D
    exact Ax [] ⟨rfl,rfl⟩
   ·refine Ap ?_
    repeat first | refine Dc ?_ | refine De ?_
    refine Ah ?_
    refine A4 2 26 Az ?_
    refine Aj ?_
    obtain⟨y_2,hy_2,D⟩:=Ac D
    refine Dy (Mt _ _ hy_2) ?_
    refine Aj ?_
    refine Af fun B=>?_
    refine Dg rfl D (fun h12 D=>?_) fun h12 D=>?_
    ·refine Ah ?_
     refine Ad (Bb _ _ []) 26 50 B rfl rfl ?_
     refine Bl rfl rfl (.build (r:=[.val (.int .i64 0),.val (.slice none 0 0),.val (.bool false),.val (.slice none 0 0)]) Hh Me No (by kernel_rfl) rfl) rfl rfl ?_
     refine Aj ?_
     refine Af fun B=>?_
     refine A1 ?_
     obtain rfl:=oi_ D
     exact Ax [] ⟨rfl,rfl⟩
    ·refine Ap ?_
     repeat first | refine Dc ?_ | refine De ?_
     refine A4 26 50 B ?_
     refine Aj ?_
     refine Af fun B=>?_
     refine A1 ?_
     obtain rfl:=oi_ D
     exact Ax [] ⟨rfl,rfl⟩
theorem Rv (v:Aa) (r:(List Aa)×Int) (D:Ee v=some r):Fn Tryz.prog 97 0 [.agg (Aa.dv v)] [] (fun d' b'=>d'=.tup [.sl 4 (Al Aa.enc r.1),vj r.2]/\b'=[]):=by
 unfold Ee at D
 refine Fn.of Tryz.func97 rfl rfl rfl fun w0 I ρ0=>?_
 show B9 _ ⟨w0,I,ρ0,0,0,15⟩ _ _ _
 refine A4 0 24 Az ?_
 refine Aj ?_
 refine Af fun B=>?_
 refine Ah ?_
 refine Bp (ι:=Bool) (fun (x11_1:Bool)=>mk [(1,.ptr 0 0),(11,.val (.bool x11_1))] [(0,.box (Aa.dv v) 30)] 1) (fun (x11_1:Bool)=>Ee.j1 v x11_1=some r) ?_ ?_
 ·refine Ad (Bb _ _ []) 24 88 B rfl rfl ?_
  refine Aj ?_
  rcases Dx D with ⟨h2,D⟩ | ⟨h2,D⟩
  ·refine Aj ?_
   refine Af fun B=>?_
   exact⟨true,D,Ay [(0,0)]⟩
  ·refine Aj ?_
   obtain⟨y,hy,D⟩:=Ac D
   refine Dy (Le _ _ hy) ?_
   refine Aj ?_
   refine Af fun B=>?_
   exact⟨!y,D,Ay [(0,0)]⟩
 ·rintro x11_1 D
  replace D:Ee.j1 v x11_1=some r:=D
  show B9 _ _ _ _ (mk _ _ _)
  unfold Ee.j1 at D
  refine Dg rfl D (fun h5 D=>?_) fun h5 D=>?_
  ·refine Ah ?_
   refine Ad (Bb _ _ []) 1 17 Az rfl rfl ?_
   refine Aj ?_
   refine Af fun B=>?_
   refine A1 ?_
   obtain rfl:=oi_ D
   exact Ax [] ⟨rfl,rfl⟩
  ·refine Ap ?_
   repeat first | refine Dc ?_ | refine De ?_
   refine A4 1 41 Az ?_
   refine Aj ?_
   obtain⟨y_2,hy_2,D⟩:=Ac D
   refine Dy (Ld _ _ hy_2) ?_
   refine Aj ?_
   refine Af fun B=>?_
   refine A1 ?_
   obtain rfl:=oi_ D
   exact Ax [] ⟨rfl,rfl⟩
theorem Hp (v:Aa) (count:Int) (r:Ai) (D:D1 v count=some r):Fn Tryz.prog 54 0 [.agg (Aa.dv v),vj count] [] (fun d' b'=>d'=.ptr 0 0/\b'=[.box [.sl 4 (Al Aa.enc r.l),.val (.bool r.Failed)] 94]):=by
 unfold D1 at D
 refine Fn.of Tryz.func54 rfl rfl rfl fun w0 I ρ0=>?_
 show B9 _ ⟨w0,I,ρ0,0,0,23⟩ _ _ _
 refine A4 0 16 Az ?_
 refine Aj ?_
 refine Af fun B=>?_
 refine A4 16 72 B ?_
 refine Aj ?_
 obtain⟨y,hy,D⟩:=Ac D
 refine Dy (Rv _ _ hy) ?_
 refine Aj ?_
 refine Af fun B=>?_
 refine A4 72 168 B ?_
 refine Aj ?_
 rcases Dx D with ⟨h3,D⟩ | ⟨h3,D⟩
 ·refine Aj ?_
  refine Bl rfl rfl (.build (r:=[.sl 4 (Al Aa.enc y.1),.val (.bool true)]) hH yA z94 (by kernel_rfl) rfl) rfl rfl ?_
  refine Aj ?_
  refine Af fun B=>?_
  refine A1 ?_
  obtain rfl:=oi_ D
  exact Ax [(0,152)] ⟨rfl,rfl⟩
 ·refine Aj ?_
  refine Bl rfl rfl (.build (r:=[.sl 4 (Al Aa.enc y.1),.val (.bool (!decide ((y.1.length:Int)=count)))]) hH yA z94 (by kernel_rfl) rfl) rfl rfl ?_
  refine Aj ?_
  refine Af fun B=>?_
  refine A1 ?_
  obtain rfl:=oi_ D
  exact Ax [(0,152)] ⟨rfl,rfl⟩
theorem Dk (r':Ai) (r:Aa×Ai) (D:A5 r'=some r):Fn Tryz.prog 55 1 [.ptr 0 0] [.box [.sl 4 (Al Aa.enc r'.l),.val (.bool r'.Failed)] 94] (fun d' b'=>d'=.agg (Aa.dv r.1)/\b'=[.box [.sl 4 (Al Aa.enc r.2.l),.val (.bool r.2.Failed)] 94]):=by
 unfold A5 at D
 refine Fn.of Tryz.func55 rfl rfl rfl fun w0 I ρ0=>?_
 show B9 _ ⟨w0,I,ρ0,1,1,35⟩ _ _ _
 refine A4 1 9 Az ?_
 refine Aj ?_
 refine Af fun B=>?_
 refine Ah ?_
 refine Bp (ι:=Bool) (fun (x15_1:Bool)=>mk [(0,.ptr 0 0),(2,.ptr 1 0),(15,.val (.bool x15_1))] [(0,.box [.sl 4 (Al Aa.enc r'.l),.val (.bool r'.Failed)] 94),(1,.box [.val (.int .i64 0),.val (.slice none 0 0),.val (.bool false),.val (.slice none 0 0)] 30)] 2) (fun (x15_1:Bool)=>A5.j1 r' x15_1=some r) ?_ ?_
 ·refine Ad (Bb _ _ []) 9 105 B rfl rfl ?_
  refine Aj ?_
  rcases Dx D with ⟨h2,D⟩ | ⟨h2,D⟩
  ·refine Aj ?_
   refine Af fun B=>?_
   exact⟨true,D,Ay [(0,0),(1,1)]⟩
  ·refine Aj ?_
   refine Af fun B=>?_
   exact⟨decide ((r'.l.length:Int)=0),D,Ay [(0,0),(1,1)]⟩
 ·rintro x15_1 D
  replace D:A5.j1 r' x15_1=some r:=D
  show B9 _ _ _ _ (mk _ _ _)
  unfold A5.j1 at D
  refine Dg rfl D (fun h5 D=>?_) fun h5 D=>?_
  ·refine Ah ?_
   refine Ad (Bb _ _ []) 2 34 Az rfl rfl ?_
   refine Aj ?_
   refine Af fun B=>?_
   refine A4 34 50 B ?_
   refine Bl rfl rfl (.build (r:=[.val (.int .i64 0),.val (.slice none 0 0),.val (.bool false),.val (.slice none 0 0)]) Hh Me No (by kernel_rfl) rfl) rfl rfl ?_
   refine Aj ?_
   refine Af fun B=>?_
   refine A1 ?_
   obtain rfl:=oi_ D
   exact Ax [(0,0)] ⟨rfl,rfl⟩
  ·refine Ap ?_
   repeat first | refine Dc ?_ | refine De ?_
   refine A4 2 66 Az ?_
   refine Aj ?_
   obtain⟨e,he,D⟩:=Ac D
   refine Aj ?_
   refine Bl rfl rfl (G1 Nt (Fp Aa.enc_len (Aw he) (o:=0) (m:=4) (cs:=[.int .i64 e.Tag,.sl 1 (Al e8 e.Bytes),.bool e.Nested,.sl 4 (Al Aa.enc e.Elements)]) (by simp only [Aa.enc_eq]; rfl) (by decide) rfl) (Di Aa.enc_len (Aw he) (o:=0) (m:=4) (by decide) rfl)) rfl rfl ?_
   refine Aj ?_
   refine Af fun B=>?_
   refine A4 66 138 B ?_
   refine Aj ?_
   obtain⟨l,hl,D⟩:=Ac D
   refine Bl rfl rfl (P6 Ip Aa.enc_len hl) rfl rfl ?_
   refine Aj ?_
   refine Af fun B=>?_
   refine A4 138 154 B ?_
   refine Aj ?_
   refine Af fun B=>?_
   refine A1 ?_
   obtain rfl:=oi_ D
   exact Ax [(0,0)] ⟨rfl,rfl⟩
theorem Pm (v:Aa) (tag:Int) (r:Bool) (D:Ig v tag=some r):Fn Tryz.prog 121 0 [.agg (Aa.dv v),vj tag] [] (fun d' b'=>d'=.val (.bool r)/\b'=[]):=by
 unfold Ig at D
 refine Fn.of Tryz.func121 rfl rfl rfl fun w0 I ρ0=>?_
 show B9 _ ⟨w0,I,ρ0,0,0,20⟩ _ _ _
 refine A4 0 16 Az ?_
 refine Aj ?_
 refine Af fun B=>?_
 refine A4 16 144 B ?_
 refine Aj ?_
 rcases Dx D with ⟨h2,D⟩ | ⟨h2,D⟩
 ·refine Aj ?_
  rcases Dx D with ⟨h3,D⟩ | ⟨h3,D⟩
  ·refine Aj ?_
   refine Af fun B=>?_
   refine A1 ?_
   obtain rfl:=oi_ D
   exact Ax [] ⟨rfl,rfl⟩
  ·refine Aj ?_
   refine Af fun B=>?_
   refine A1 ?_
   obtain rfl:=oi_ D
   exact Ax [] ⟨rfl,rfl⟩
 ·refine Aj ?_
  refine Af fun B=>?_
  refine A1 ?_
  obtain rfl:=oi_ D
  exact Ax [] ⟨rfl,rfl⟩
theorem Xr (a:(List UInt8)) (b:(List UInt8)) (r:Bool) (D:Jb a b=some r):Fn Tryz.prog 122 0 [.sl 1 (Al e8 a),.sl 1 (Al e8 b)] [] (fun d' b'=>d'=.val (.bool r)/\b'=[]):=by
 unfold Jb at D
 refine Fn.of Tryz.func122 rfl rfl rfl fun w0 I ρ0=>?_
 show B9 _ ⟨w0,I,ρ0,0,0,10⟩ _ _ _
 refine A4 0 8 Az ?_
 refine Aj ?_
 refine Af fun B=>?_
 refine A4 8 56 B ?_
 refine Aj ?_
 refine Bl rfl rfl (Pu Qf Ia P9 .sl rfl) rfl rfl ?_
 refine Aj ?_
 refine Bl rfl rfl (Pu Qf Ia P9 .sl rfl) rfl rfl ?_
 refine Aj ?_
 refine Af fun B=>?_
 refine A1 ?_
 obtain rfl:=oi_ D
 exact Ax [] ⟨rfl,rfl⟩
theorem cL (v:Aa) (r:Int×Int) (D:B0 v=some r):Fn Tryz.prog 98 0 [.agg (Aa.dv v)] [] (fun d' b'=>d'=.tup [vj r.1,vj r.2]/\b'=[]):=by
 unfold B0 at D
 refine Fn.of Tryz.func98 rfl rfl rfl fun w0 I ρ0=>?_
 show B9 _ ⟨w0,I,ρ0,0,0,52⟩ _ _ _
 refine A4 0 24 Az ?_
 refine Aj ?_
 refine Af fun B=>?_
 refine Ah ?_
 refine Bp (ι:=Bool) (fun (x21_1:Bool)=>mk [(1,.ptr 0 0),(21,.val (.bool x21_1))] [(0,.box (Aa.dv v) 30)] 1) (fun (x21_1:Bool)=>B0.j1 v x21_1=some r) ?_ ?_
 ·refine Ad (Bb _ _ []) 24 144 B rfl rfl ?_
  refine Aj ?_
  obtain⟨y,hy,D⟩:=Ac D
  refine Dy (Pm _ _ _ hy) ?_
  refine Aj ?_
  rcases Dx D with ⟨h2,D⟩ | ⟨h2,D⟩
  ·refine Aj ?_
   refine Af fun B=>?_
   exact⟨true,D,Ay [(0,0)]⟩
  ·refine Aj ?_
   rcases Dx D with ⟨h4,D⟩ | ⟨h4,D⟩
   ·refine Aj ?_
    refine Af fun B=>?_
    exact⟨true,D,Ay [(0,0)]⟩
   ·refine Aj ?_
    refine Af fun B=>?_
    exact⟨decide (8 < (v.Bytes.length:Int)),D,Ay [(0,0)]⟩
 ·rintro x21_1 D
  replace D:B0.j1 v x21_1=some r:=D
  show B9 _ _ _ _ (mk _ _ _)
  unfold B0.j1 at D
  refine Dg rfl D (fun h7 D=>?_) fun h7 D=>?_
  ·refine Ah ?_
   refine Ad (Bb _ _ []) 1 17 Az rfl rfl ?_
   refine Aj ?_
   refine Af fun B=>?_
   refine A1 ?_
   obtain rfl:=oi_ D
   exact Ax [] ⟨rfl,rfl⟩
  ·refine Ap ?_
   repeat first | refine Dc ?_ | refine De ?_
   refine A4 1 9 Az ?_
   refine Aj ?_
   refine Af fun B=>?_
   refine Bp (ι:=Int) (fun (n_2:Int)=>mk [(1,.ptr 0 0),(4,.val (.int .u64 n_2))] [(0,.box (Aa.dv v) 30)] 1) (fun (n_2:Int)=>B0.j2 v n_2=some r) ?_ ?_
   ·refine Ah ?_
    refine Ad (Bb _ _ []) 9 49 B rfl rfl ?_
    refine Aj ?_
    obtain⟨e,he,D⟩:=Ac D
    refine Aj ?_
    refine Bl rfl rfl (Bq Na (A9 B7 (Aw he) (o:=0) (c:=.int .u8 (e.toNat:Int)) rfl rfl)) rfl rfl ?_
    refine Aj ?_
    refine Af fun B=>?_
    refine Dg rfl D (fun h11 D=>?_) fun h11 D=>?_
    ·refine Ad (Bb _ _ []) 49 73 B rfl rfl ?_
     refine Aj ?_
     refine Bl rfl rfl tY rfl rfl ?_
     refine Aj ?_
     refine Af fun B=>?_
     exact⟨rA .u64 0,D,Ay [(0,0)]⟩
    ·refine Ap ?_
     repeat first | refine Dc ?_ | refine De ?_
     exact⟨0,D,Ay [(0,0)]⟩
   ·rintro n_2 D
    replace D:B0.j2 v n_2=some r:=D
    show B9 _ _ _ _ (mk _ _ _)
    unfold B0.j2 at D
    refine Ah ?_
    refine A4 1 33 Az ?_
    refine Aj ?_
    refine Af fun B=>?_
    refine Av ?_
    refine Nu (fun ((n_3,x32_3):Int×Int)=>mk [(1,.ptr 0 0),(4,.val (.int .u64 n_3)),(30,.sl 1 (Al e8 v.Bytes)),(31,.val (.int .i64 (v.Bytes.length:Int))),(32,vj x32_3)] [(0,.box (Aa.dv v) 30)] 1) D (Ay [(0,0)]) ?_
    rintro⟨n_3,x32_3⟩ m3 o3 D hn3
    replace D:B0.l3 v n_3 x32_3=some o3:=D
    show B9 _ _ _ _ (mk _ _ _)
    unfold B0.l3 at D
    refine A4 1 9 Az ?_
    refine Aj ?_
    refine Af fun B=>?_
    refine Ah ?_
    refine Dg rfl D (fun h15 D=>?_) fun h15 D=>?_
    ·refine Ap ?_
     repeat first | refine Dc ?_ | refine De ?_
     refine Ah ?_
     refine Av ?_
     refine A4 9 33 B ?_
     obtain⟨e_2,he_2,D⟩:=Ac D
     refine Aj ?_
     refine Bl rfl rfl (Bq Na (A9 B7 (Aw he_2) (o:=0) (c:=.int .u8 (e_2.toNat:Int)) rfl rfl)) rfl rfl ?_
     refine Aj ?_
     refine Af fun B=>?_
     refine Ad (Bb _ _ []) 33 81 B rfl rfl ?_
     refine Aj ?_
     obtain⟨q,hq,D⟩:=Ac D
     refine Bl rfl rfl (dO hq) rfl rfl ?_
     refine Aj ?_
     refine Bl rfl rfl (U3 Ia Xj) rfl rfl ?_
     refine Bl rfl rfl mJ rfl rfl ?_
     refine Aj ?_
     refine Af fun B=>?_
     refine Ad (Bb _ _ []) 81 97 B rfl rfl ?_
     refine Aj ?_
     refine Af fun B=>?_
     obtain rfl:=oi_ D
     exact⟨((Xq .u64 q (IntKind.wrap .u64 (e_2.toNat:Int)),W (x32_3 + 1)),m3),Nat.lt_succ_self _,hn3,Ay [(0,0)]⟩
    ·refine Cm ?_
     repeat first | refine Dc ?_ | refine De ?_
     replace D:=Dr D hn3
     refine Ah ?_
     refine Ah ?_
     refine C5 (Bb _ _ []) (by kernel_rfl) [0,1,3,7,0,16,63,127] 9 73 B rfl rfl (by kernel_rfl) ?_
     refine Aj ?_
     refine Bl rfl rfl (Nv Xj Kl) rfl rfl ?_
     obtain⟨y_2,hy_2,D⟩:=Ac D
     refine Dy (Hz _ _ hy_2) ?_
     refine Aj ?_
     obtain⟨y_3,hy_3,D⟩:=Ac D
     refine Dy (Xr _ _ _ hy_3) ?_
     refine Aj ?_
     refine Af fun B=>?_
     refine Dg rfl D (fun h20 D=>?_) fun h20 D=>?_
     ·refine Ah ?_
      refine Ad (Bb _ _ []) 73 89 B rfl rfl ?_
      refine Aj ?_
      refine Af fun B=>?_
      refine A1 ?_
      obtain rfl:=oi_ D
      exact Ax [] ⟨rfl,rfl⟩
     ·refine Ap ?_
      repeat first | refine Dc ?_ | refine De ?_
      refine A4 73 105 B ?_
      refine Aj ?_
      refine Bl rfl rfl (Nv Xj Kl) rfl rfl ?_
      refine Aj ?_
      refine Af fun B=>?_
      refine A1 ?_
      obtain rfl:=oi_ D
      exact Ax [] ⟨rfl,rfl⟩
theorem C7 (r':Ai) (r:Int×Ai) (D:Br r'=some r):Fn Tryz.prog 57 1 [.ptr 0 0] [.box [.sl 4 (Al Aa.enc r'.l),.val (.bool r'.Failed)] 94] (fun d' b'=>d'=vj r.1/\b'=[.box [.sl 4 (Al Aa.enc r.2.l),.val (.bool r.2.Failed)] 94]):=by
 unfold Br at D
 refine Fn.of Tryz.func57 rfl rfl rfl fun w0 I ρ0=>?_
 show B9 _ ⟨w0,I,ρ0,1,1,23⟩ _ _ _
 refine A4 1 9 Az ?_
 refine Aj ?_
 refine Af fun B=>?_
 refine A4 9 73 B ?_
 refine Aj ?_
 obtain⟨y,hy,D⟩:=Ac D
 refine F3 [0] [0] [] false (Dk _ _ hy) ?_
 obtain⟨y_2,hy_2,D⟩:=Ac D
 refine Dy (cL _ _ hy_2) ?_
 refine Aj ?_
 refine Af fun B=>?_
 refine A4 73 169 B ?_
 refine Aj ?_
 rcases Dx D with ⟨h3,D⟩ | ⟨h3,D⟩
 ·refine Aj ?_
  refine Af fun B=>?_
  refine A4 169 185 B ?_
  refine Aj ?_
  refine Af fun B=>?_
  refine A1 ?_
  obtain rfl:=oi_ D
  exact Ax [(0,0)] ⟨rfl,rfl⟩
 ·refine Aj ?_
  refine Af fun B=>?_
  refine A4 169 185 B ?_
  refine Aj ?_
  refine Af fun B=>?_
  refine A1 ?_
  obtain rfl:=oi_ D
  exact Ax [(0,0)] ⟨rfl,rfl⟩
theorem Nq (c0:Ai) (c1:Ab) (r:Ai×Ab) (D:Gb c0 c1=some r):Fn Tryz.prog 56 3 [.ptr 0 0,.ptr 2 0] [.box [.ptr 1 0] 85,.box [.sl 4 (Al Aa.enc c0.l),.val (.bool c0.Failed)] 94,.box (Ab.dv c1) 38] (fun d' b'=>d'=.tup []/\b'=[.box [.ptr 1 0] 85,.box [.sl 4 (Al Aa.enc r.1.l),.val (.bool r.1.Failed)] 94,.box (Ab.dv r.2) 38]):=by
 unfold Gb at D
 refine Fn.of Tryz.func56 rfl rfl rfl fun w0 I ρ0=>?_
 show B9 _ ⟨w0,I,ρ0,3,3,5⟩ _ _ _
 refine Ad (Bb _ _ []) 3 35 Az rfl rfl ?_
 refine Aj ?_
 obtain⟨y,hy,D⟩:=Ac D
 refine F3 [1] [1] [] false (C7 _ _ hy) ?_
 refine Aj ?_
 refine Af fun B=>?_
 obtain rfl:=oi_ D
 exact Ax [(0,0),(1,1),(2,2)] ⟨rfl,rfl⟩
theorem Um (x':UInt8) (r:Bool) (D:F2 x'=some r):Fn Tryz.prog 124 0 [.val (.int .u8 (x'.toNat:Int))] [] (fun d' b'=>d'=.val (.bool r)/\b'=[]):=by
 unfold F2 at D
 refine Fn.of Tryz.func124 rfl rfl rfl fun w0 I ρ0=>?_
 show B9 _ ⟨w0,I,ρ0,0,0,9⟩ _ _ _
 refine A4 0 8 Az ?_
 refine Aj ?_
 refine Af fun B=>?_
 refine A4 8 64 B ?_
 refine Aj ?_
 rcases Dx D with ⟨h2,D⟩ | ⟨h2,D⟩
 ·refine Aj ?_
  refine Af fun B=>?_
  refine A1 ?_
  obtain rfl:=oi_ D
  exact Ax [] ⟨rfl,rfl⟩
 ·refine Aj ?_
  refine Af fun B=>?_
  refine A1 ?_
  obtain rfl:=oi_ D
  exact Ax [] ⟨rfl,rfl⟩
theorem Jl (s:(List UInt8)) (f:UInt8->Option (Bool)) (hf_f:∀ (x0:UInt8) (y:Bool),f x0=some y->Fn Tryz.prog 124 0 [.val (.int .u8 (x0.toNat:Int))] [] (fun d' b'=>d'=.val (.bool y)/\b'=[])) (r:Int) (D:Bi s f=some r):Fn Tryz.prog 131 0 [.sl 1 (Al e8 s),.clo 124 0 []] [] (fun d' b'=>d'=vj r/\b'=[]):=by
 unfold Bi at D
 refine Fn.of Tryz.func131 rfl rfl rfl fun w0 I ρ0=>?_
 show B9 _ ⟨w0,I,ρ0,0,0,19⟩ _ _ _
 refine A4 0 8 Az ?_
 refine Aj ?_
 refine Af fun B=>?_
 refine Ah ?_
 refine A4 8 32 B ?_
 refine Aj ?_
 refine Af fun B=>?_
 refine Av ?_
 refine Nu (fun (x8_1:Int)=>mk [(0,.sl 1 (Al e8 s)),(1,.clo 124 0 []),(7,.val (.int .i64 (s.length:Int))),(8,vj x8_1)] [] 0) D (Ay []) ?_
 rintro x8_1 m1 o1 D hn1
 replace D:Bi.l1 s f x8_1=some o1:=D
 show B9 _ _ _ _ (mk _ _ _)
 unfold Bi.l1 at D
 refine A4 0 8 Az ?_
 refine Aj ?_
 refine Af fun B=>?_
 refine Ah ?_
 refine Dg rfl D (fun h4 D=>?_) fun h4 D=>?_
 ·refine Ap ?_
  repeat first | refine Dc ?_ | refine De ?_
  refine Ah ?_
  refine Av ?_
  refine A4 8 24 B ?_
  refine Aj ?_
  refine Af fun B=>?_
  refine A4 24 72 B ?_
  refine Aj ?_
  obtain⟨e,he,D⟩:=Ac D
  refine Aj ?_
  refine Bl rfl rfl (Bq Na (A9 B7 (Aw he) (o:=0) (c:=.int .u8 (e.toNat:Int)) rfl rfl)) rfl rfl ?_
  obtain⟨y,hy,D⟩:=Ac D
  refine Yx (rd:=[]) (ps:=[]) (gs:=[]) false rfl rfl (hf_f e _ hy) rfl rfl (.cons .val .nil) rfl rfl (by intro h; cases h) rfl rfl rfl rfl ?_
  refine Af fun B=>?_
  refine Dg rfl D (fun h7 D=>?_) fun h7 D=>?_
  ·refine Ah ?_
   refine Ad (Bb _ _ []) 72 88 B rfl rfl ?_
   refine Aj ?_
   refine Af fun B=>?_
   refine A1 ?_
   replace D:=Dr D hn1
   obtain rfl:=oi_ D
   exact Ax [] ⟨rfl,rfl⟩
  ·refine Ap ?_
   repeat first | refine Dc ?_ | refine De ?_
   refine Ad (Bb _ _ []) 72 88 B rfl rfl ?_
   refine Aj ?_
   refine Af fun B=>?_
   obtain rfl:=oi_ D
   exact⟨(W (x8_1 + 1),m1),Nat.lt_succ_self _,hn1,Ay []⟩
 ·refine Cm ?_
  repeat first | refine Dc ?_ | refine De ?_
  replace D:=Dr D hn1
  refine A4 8 16 B ?_
  refine Aj ?_
  refine Af fun B=>?_
  refine A1 ?_
  obtain rfl:=oi_ D
  exact Ax [] ⟨rfl,rfl⟩
theorem Iv (s:(List UInt8)) (f:UInt8->Option (Bool)) (hf_f:∀ (x0:UInt8) (y:Bool),f x0=some y->Fn Tryz.prog 124 0 [.val (.int .u8 (x0.toNat:Int))] [] (fun d' b'=>d'=.val (.bool y)/\b'=[])) (r:Bool) (D:El s f=some r):Fn Tryz.prog 123 0 [.sl 1 (Al e8 s),.clo 124 0 []] [] (fun d' b'=>d'=.val (.bool r)/\b'=[]):=by
 unfold El at D
 refine Fn.of Tryz.func123 rfl rfl rfl fun w0 I ρ0=>?_
 show B9 _ ⟨w0,I,ρ0,0,0,9⟩ _ _ _
 refine A4 0 8 Az ?_
 refine Aj ?_
 refine Af fun B=>?_
 refine A4 8 48 B ?_
 refine Aj ?_
 obtain⟨y,hy,D⟩:=Ac D
 refine Dy (Jl s f hf_f _ hy) ?_
 refine Aj ?_
 refine Af fun B=>?_
 refine A1 ?_
 obtain rfl:=oi_ D
 exact Ax [] ⟨rfl,rfl⟩
theorem Q9 (v:Aa) (r:ByteArray×Int) (D:Eo v=some r):Fn Tryz.prog 99 0 [.agg (Aa.dv v)] [] (fun d' b'=>d'=.tup [vk r.1,vj r.2]/\b'=[]):=by
 unfold Eo at D
 refine Fn.of Tryz.func99 rfl rfl rfl fun w0 I ρ0=>?_
 show B9 _ ⟨w0,I,ρ0,0,0,15⟩ _ _ _
 refine A4 0 24 Az ?_
 refine Aj ?_
 refine Af fun B=>?_
 refine Ah ?_
 refine Bp (ι:=Bool) (fun (x11_1:Bool)=>mk [(1,.ptr 0 0),(11,.val (.bool x11_1))] [(0,.box (Aa.dv v) 30)] 1) (fun (x11_1:Bool)=>Eo.j1 v x11_1=some r) ?_ ?_
 ·refine Ad (Bb _ _ []) 24 88 B rfl rfl ?_
  refine Aj ?_
  obtain⟨y,hy,D⟩:=Ac D
  refine Dy (Pm _ _ _ hy) ?_
  refine Aj ?_
  rcases Dx D with ⟨h2,D⟩ | ⟨h2,D⟩
  ·refine Aj ?_
   refine Af fun B=>?_
   exact⟨true,D,Ay [(0,0)]⟩
  ·refine Aj ?_
   obtain⟨y_2,hy_2,D⟩:=Ac D
   refine Dy (Iv v.Bytes (fun x0=>F2 x0) (fun x0 yy hh=>Um x0 yy hh) _ hy_2) ?_
   refine Aj ?_
   refine Af fun B=>?_
   exact⟨y_2,D,Ay [(0,0)]⟩
 ·rintro x11_1 D
  replace D:Eo.j1 v x11_1=some r:=D
  show B9 _ _ _ _ (mk _ _ _)
  unfold Eo.j1 at D
  refine Dg rfl D (fun h5 D=>?_) fun h5 D=>?_
  ·refine Ah ?_
   refine Ad (Bb _ _ []) 1 17 Az rfl rfl ?_
   refine Aj ?_
   refine Af fun B=>?_
   refine A1 ?_
   obtain rfl:=oi_ D
   exact Ax [] ⟨rfl,rfl⟩
  ·refine Ap ?_
   repeat first | refine Dc ?_ | refine De ?_
   refine A4 1 41 Az ?_
   refine Aj ?_
   refine Bl rfl rfl (Pu Qf Ia P9 .sl rfl) rfl rfl ?_
   refine Aj ?_
   refine Af fun B=>?_
   refine A1 ?_
   obtain rfl:=oi_ D
   exact Ax [] ⟨rfl,rfl⟩
theorem Ix (r':Ai) (r:ByteArray×Ai) (D:Er r'=some r):Fn Tryz.prog 59 1 [.ptr 0 0] [.box [.sl 4 (Al Aa.enc r'.l),.val (.bool r'.Failed)] 94] (fun d' b'=>d'=vk r.1/\b'=[.box [.sl 4 (Al Aa.enc r.2.l),.val (.bool r.2.Failed)] 94]):=by
 unfold Er at D
 refine Fn.of Tryz.func59 rfl rfl rfl fun w0 I ρ0=>?_
 show B9 _ ⟨w0,I,ρ0,1,1,23⟩ _ _ _
 refine A4 1 9 Az ?_
 refine Aj ?_
 refine Af fun B=>?_
 refine A4 9 73 B ?_
 refine Aj ?_
 obtain⟨y,hy,D⟩:=Ac D
 refine F3 [0] [0] [] false (Dk _ _ hy) ?_
 obtain⟨y_2,hy_2,D⟩:=Ac D
 refine Dy (Q9 _ _ hy_2) ?_
 refine Aj ?_
 refine Af fun B=>?_
 refine A4 73 169 B ?_
 refine Aj ?_
 rcases Dx D with ⟨h3,D⟩ | ⟨h3,D⟩
 ·refine Aj ?_
  refine Af fun B=>?_
  refine A4 169 185 B ?_
  refine Aj ?_
  refine Af fun B=>?_
  refine A1 ?_
  obtain rfl:=oi_ D
  exact Ax [(0,0)] ⟨rfl,rfl⟩
 ·refine Aj ?_
  refine Af fun B=>?_
  refine A4 169 185 B ?_
  refine Aj ?_
  refine Af fun B=>?_
  refine A1 ?_
  obtain rfl:=oi_ D
  exact Ax [(0,0)] ⟨rfl,rfl⟩
theorem Oa (c0:Ai) (c1:Ab) (r:Ai×Ab) (D:F6 c0 c1=some r):Fn Tryz.prog 58 3 [.ptr 0 0,.ptr 2 0] [.box [.ptr 1 0] 85,.box [.sl 4 (Al Aa.enc c0.l),.val (.bool c0.Failed)] 94,.box (Ab.dv c1) 38] (fun d' b'=>d'=.tup []/\b'=[.box [.ptr 1 0] 85,.box [.sl 4 (Al Aa.enc r.1.l),.val (.bool r.1.Failed)] 94,.box (Ab.dv r.2) 38]):=by
 unfold F6 at D
 refine Fn.of Tryz.func58 rfl rfl rfl fun w0 I ρ0=>?_
 show B9 _ ⟨w0,I,ρ0,3,3,8⟩ _ _ _
 refine C5 (Bb _ _ []) (by kernel_rfl) [0,1,0,7,15,31,63,127] 3 67 Az rfl rfl (by kernel_rfl) ?_
 refine Aj ?_
 obtain⟨y,hy,D⟩:=Ac D
 refine F3 [1] [1] [] false (Ix _ _ hy) ?_
 refine Aj ?_
 obtain⟨y_2,hy_2,D⟩:=Ac D
 refine F3 [1] [1] [] false (Ix _ _ hy_2) ?_
 refine Aj ?_
 refine Af fun B=>?_
 obtain rfl:=oi_ D
 exact Ax [(0,0),(1,1),(2,2)] ⟨rfl,rfl⟩
theorem I6 (r':Ai) (r:A3×Ai) (D:By r'=some r):Fn Tryz.prog 61 1 [.ptr 0 0] [.box [.sl 4 (Al Aa.enc r'.l),.val (.bool r'.Failed)] 94] (fun d' b'=>d'=.agg [vj r.1.Alg,vj r.1.Bits]/\b'=[.box [.sl 4 (Al Aa.enc r.2.l),.val (.bool r.2.Failed)] 94]):=by
 unfold By at D
 refine Fn.of Tryz.func61 rfl rfl rfl fun w0 I ρ0=>?_
 show B9 _ ⟨w0,I,ρ0,1,1,27⟩ _ _ _
 refine A4 1 9 Az ?_
 refine Aj ?_
 refine Af fun B=>?_
 refine A4 9 41 B ?_
 refine Aj ?_
 obtain⟨y,hy,D⟩:=Ac D
 refine F3 [0] [0] [] false (Dk _ _ hy) ?_
 obtain⟨y_2,hy_2,D⟩:=Ac D
 refine Eh (rd:=[]) (ps:=[]) (gs:=[]) false rfl (Hp _ _ _ hy_2) rfl rfl (.cons (.agg (.cons .val (.cons .sl (.cons .val (.cons .sl .nil))))) (.cons .val .nil)) rfl rfl (by intro h; cases h) rfl (by intro h; first | (cases h; done) | exact⟨_,_,⟨rfl,rfl⟩,by simp,by simp⟩) ?_
 rintro _ _ ⟨rfl,rfl⟩
 refine Aj ?_
 refine Af fun B=>?_
 refine A4 41 97 B ?_
 refine Aj ?_
 obtain⟨y_3,hy_3,D⟩:=Ac D
 refine F3 [25] [25] [] false (C7 _ _ hy_3) ?_
 refine Aj ?_
 obtain⟨y_4,hy_4,D⟩:=Ac D
 refine F3 [25] [25] [] false (C7 _ _ hy_4) ?_
 refine Bl rfl rfl (.build (r:=[vj y_3.1,vj y_4.1]) Qg bE rL (by kernel_rfl) rfl) rfl rfl ?_
 refine Aj ?_
 refine Af fun B=>?_
 refine Bp (ι:=Bool) (fun (b_1:Bool)=>mk [(2,.ptr 1 0),(4,.ptr 2 0)] [(0,.box [.sl 4 (Al Aa.enc y.2.l),.val (.bool b_1)] 94),(1,.box [.val (.int .i64 0),.val (.int .i64 0)] 33),(2,.box [vj y_3.1,vj y_4.1] 33)] 3) (fun (b_1:Bool)=>By.j1 y y_3 y_4 b_1=some r) ?_ ?_
 ·refine Ad (Bb _ _ []) 97 209 B rfl rfl ?_
  refine Aj ?_
  rcases Dx D with ⟨h4,D⟩ | ⟨h4,D⟩
  ·refine Aj ?_
   refine Af fun B=>?_
   exact⟨true,D,Ay [(0,0),(1,1),(2,81)]⟩
  ·refine Aj ?_
   refine Af fun B=>?_
   exact⟨y_4.2.Failed,D,Ay [(0,0),(1,1),(2,81)]⟩
 ·rintro b_1 D
  replace D:By.j1 y y_3 y_4 b_1=some r:=D
  show B9 _ _ _ _ (mk _ _ _)
  unfold By.j1 at D
  refine A4 3 19 Az ?_
  refine Aj ?_
  refine Af fun B=>?_
  refine A1 ?_
  obtain rfl:=oi_ D
  exact Ax [(0,0)] ⟨rfl,rfl⟩
theorem N1 (c0:Ai) (c1:Ab) (r:Ai×Ab) (D:F9 c0 c1=some r):Fn Tryz.prog 60 3 [.ptr 0 0,.ptr 2 0] [.box [.ptr 1 0] 85,.box [.sl 4 (Al Aa.enc c0.l),.val (.bool c0.Failed)] 94,.box (Ab.dv c1) 38] (fun d' b'=>d'=.tup []/\b'=[.box [.ptr 1 0] 85,.box [.sl 4 (Al Aa.enc r.1.l),.val (.bool r.1.Failed)] 94,.box (Ab.dv r.2) 38]):=by
 unfold F9 at D
 refine Fn.of Tryz.func60 rfl rfl rfl fun w0 I ρ0=>?_
 show B9 _ ⟨w0,I,ρ0,3,3,8⟩ _ _ _
 refine C5 (Bb _ _ []) (by kernel_rfl) [0,1,0,7,15,31,63,127] 3 67 Az rfl rfl (by kernel_rfl) ?_
 refine Aj ?_
 obtain⟨y,hy,D⟩:=Ac D
 refine F3 [1] [1] [] false (I6 _ _ hy) ?_
 refine Aj ?_
 obtain⟨y_2,hy_2,D⟩:=Ac D
 refine F3 [1] [1] [] false (C7 _ _ hy_2) ?_
 refine Aj ?_
 refine Af fun B=>?_
 obtain rfl:=oi_ D
 exact Ax [(0,0),(1,1),(2,2)] ⟨rfl,rfl⟩
theorem N3 (c0:Ai) (c1:Ab) (r:Ai×Ab) (D:Gd c0 c1=some r):Fn Tryz.prog 62 3 [.ptr 0 0,.ptr 2 0] [.box [.ptr 1 0] 85,.box [.sl 4 (Al Aa.enc c0.l),.val (.bool c0.Failed)] 94,.box (Ab.dv c1) 38] (fun d' b'=>d'=.tup []/\b'=[.box [.ptr 1 0] 85,.box [.sl 4 (Al Aa.enc r.1.l),.val (.bool r.1.Failed)] 94,.box (Ab.dv r.2) 38]):=by
 unfold Gd at D
 refine Fn.of Tryz.func62 rfl rfl rfl fun w0 I ρ0=>?_
 show B9 _ ⟨w0,I,ρ0,3,3,5⟩ _ _ _
 refine Ad (Bb _ _ []) 3 35 Az rfl rfl ?_
 refine Aj ?_
 obtain⟨y,hy,D⟩:=Ac D
 refine F3 [1] [1] [] false (I6 _ _ hy) ?_
 refine Aj ?_
 refine Af fun B=>?_
 obtain rfl:=oi_ D
 exact Ax [(0,0),(1,1),(2,2)] ⟨rfl,rfl⟩
theorem N8 (c0:Ai) (c1:Ab) (r:Ai×Ab) (D:Ge c0 c1=some r):Fn Tryz.prog 63 3 [.ptr 0 0,.ptr 2 0] [.box [.ptr 1 0] 85,.box [.sl 4 (Al Aa.enc c0.l),.val (.bool c0.Failed)] 94,.box (Ab.dv c1) 38] (fun d' b'=>d'=.tup []/\b'=[.box [.ptr 1 0] 85,.box [.sl 4 (Al Aa.enc r.1.l),.val (.bool r.1.Failed)] 94,.box (Ab.dv r.2) 38]):=by
 unfold Ge at D
 refine Fn.of Tryz.func63 rfl rfl rfl fun w0 I ρ0=>?_
 show B9 _ ⟨w0,I,ρ0,3,3,8⟩ _ _ _
 refine C5 (Bb _ _ []) (by kernel_rfl) [0,1,0,7,15,31,63,127] 3 67 Az rfl rfl (by kernel_rfl) ?_
 refine Aj ?_
 obtain⟨y,hy,D⟩:=Ac D
 refine F3 [1] [1] [] false (C7 _ _ hy) ?_
 refine Aj ?_
 obtain⟨y_2,hy_2,D⟩:=Ac D
 refine F3 [1] [1] [] false (C7 _ _ hy_2) ?_
 refine Aj ?_
 refine Af fun B=>?_
 obtain rfl:=oi_ D
 exact Ax [(0,0),(1,1),(2,2)] ⟨rfl,rfl⟩
theorem Zx (v:Aa) (r:Bool×Int) (D:Dt v=some r):Fn Tryz.prog 100 0 [.agg (Aa.dv v)] [] (fun d' b'=>d'=.tup [.val (.bool r.1),vj r.2]/\b'=[]):=by
 unfold Dt at D
 refine Fn.of Tryz.func100 rfl rfl rfl fun w0 I ρ0=>?_
 show B9 _ ⟨w0,I,ρ0,0,0,32⟩ _ _ _
 refine A4 0 24 Az ?_
 refine Aj ?_
 refine Af fun B=>?_
 refine Ah ?_
 refine Bp (ι:=Bool) (fun (x26_1:Bool)=>mk [(1,.ptr 0 0),(26,.val (.bool x26_1))] [(0,.box (Aa.dv v) 30)] 1) (fun (x26_1:Bool)=>Dt.j1 v x26_1=some r) ?_ ?_
 ·refine Ad (Bb _ _ []) 24 208 B rfl rfl ?_
  refine Aj ?_
  obtain⟨y,hy,D⟩:=Ac D
  refine Dy (Pm _ _ _ hy) ?_
  refine Aj ?_
  rcases Dx D with ⟨h2,D⟩ | ⟨h2,D⟩
  ·refine Aj ?_
   refine Af fun B=>?_
   exact⟨true,D,Ay [(0,0)]⟩
  ·refine Aj ?_
   rcases Dx D with ⟨h4,D⟩ | ⟨h4,D⟩
   ·refine Aj ?_
    refine Af fun B=>?_
    exact⟨true,D,Ay [(0,0)]⟩
   ·refine Aj ?_
    obtain⟨e,he,D⟩:=Ac D
    refine Aj ?_
    refine Bl (Ef rfl rfl h4) rfl (Bq Na (A9 B7 (Aw he) (o:=0) (c:=.int .u8 (e.toNat:Int)) rfl rfl)) rfl rfl ?_
    refine Aj ?_
    rcases Dx D with ⟨h6,D⟩ | ⟨h6,D⟩
    ·refine Aj ?_
     refine Bl (Ef rfl rfl h6) rfl (Bq Na (A9 B7 (Aw he) (o:=0) (c:=.int .u8 (e.toNat:Int)) rfl rfl)) rfl rfl ?_
     refine Aj ?_
     refine Af fun B=>?_
     exact⟨!decide ((e.toNat:Int)=255),D,Ay [(0,0)]⟩
    ·refine Aj ?_
     refine Af fun B=>?_
     exact⟨false,D,Ay [(0,0)]⟩
 ·rintro x26_1 D
  replace D:Dt.j1 v x26_1=some r:=D
  show B9 _ _ _ _ (mk _ _ _)
  unfold Dt.j1 at D
  refine Dg rfl D (fun h9 D=>?_) fun h9 D=>?_
  ·refine Ah ?_
   refine Ad (Bb _ _ []) 1 17 Az rfl rfl ?_
   refine Aj ?_
   refine Af fun B=>?_
   refine A1 ?_
   obtain rfl:=oi_ D
   exact Ax [] ⟨rfl,rfl⟩
  ·refine Ap ?_
   repeat first | refine Dc ?_ | refine De ?_
   refine A4 1 57 Az ?_
   refine Aj ?_
   obtain⟨e_2,he_2,D⟩:=Ac D
   refine Aj ?_
   refine Bl rfl rfl (Bq Na (A9 B7 (Aw he_2) (o:=0) (c:=.int .u8 (e_2.toNat:Int)) rfl rfl)) rfl rfl ?_
   refine Aj ?_
   refine Af fun B=>?_
   refine A1 ?_
   obtain rfl:=oi_ D
   exact Ax [] ⟨rfl,rfl⟩
theorem Mo (r':Ai) (r:Bool×Ai) (D:Fh r'=some r):Fn Tryz.prog 65 1 [.ptr 0 0] [.box [.sl 4 (Al Aa.enc r'.l),.val (.bool r'.Failed)] 94] (fun d' b'=>d'=.val (.bool r.1)/\b'=[.box [.sl 4 (Al Aa.enc r.2.l),.val (.bool r.2.Failed)] 94]):=by
 unfold Fh at D
 refine Fn.of Tryz.func65 rfl rfl rfl fun w0 I ρ0=>?_
 show B9 _ ⟨w0,I,ρ0,1,1,23⟩ _ _ _
 refine A4 1 9 Az ?_
 refine Aj ?_
 refine Af fun B=>?_
 refine A4 9 73 B ?_
 refine Aj ?_
 obtain⟨y,hy,D⟩:=Ac D
 refine F3 [0] [0] [] false (Dk _ _ hy) ?_
 obtain⟨y_2,hy_2,D⟩:=Ac D
 refine Dy (Zx _ _ hy_2) ?_
 refine Aj ?_
 refine Af fun B=>?_
 refine A4 73 169 B ?_
 refine Aj ?_
 rcases Dx D with ⟨h3,D⟩ | ⟨h3,D⟩
 ·refine Aj ?_
  refine Af fun B=>?_
  refine A4 169 185 B ?_
  refine Aj ?_
  refine Af fun B=>?_
  refine A1 ?_
  obtain rfl:=oi_ D
  exact Ax [(0,0)] ⟨rfl,rfl⟩
 ·refine Aj ?_
  refine Af fun B=>?_
  refine A4 169 185 B ?_
  refine Aj ?_
  refine Af fun B=>?_
  refine A1 ?_
  obtain rfl:=oi_ D
  exact Ax [(0,0)] ⟨rfl,rfl⟩
theorem Od (c0:Ai) (c1:Ab) (r:Ai×Ab) (D:Gf c0 c1=some r):Fn Tryz.prog 64 3 [.ptr 0 0,.ptr 2 0] [.box [.ptr 1 0] 85,.box [.sl 4 (Al Aa.enc c0.l),.val (.bool c0.Failed)] 94,.box (Ab.dv c1) 38] (fun d' b'=>d'=.tup []/\b'=[.box [.ptr 1 0] 85,.box [.sl 4 (Al Aa.enc r.1.l),.val (.bool r.1.Failed)] 94,.box (Ab.dv r.2) 38]):=by
 unfold Gf at D
 refine Fn.of Tryz.func64 rfl rfl rfl fun w0 I ρ0=>?_
 show B9 _ ⟨w0,I,ρ0,3,3,8⟩ _ _ _
 refine C5 (Bb _ _ []) (by kernel_rfl) [0,1,0,7,15,31,63,127] 3 67 Az rfl rfl (by kernel_rfl) ?_
 refine Aj ?_
 obtain⟨y,hy,D⟩:=Ac D
 refine F3 [1] [1] [] false (Mo _ _ hy) ?_
 refine Aj ?_
 obtain⟨y_2,hy_2,D⟩:=Ac D
 refine F3 [1] [1] [] false (C7 _ _ hy_2) ?_
 refine Aj ?_
 refine Af fun B=>?_
 obtain rfl:=oi_ D
 exact Ax [(0,0),(1,1),(2,2)] ⟨rfl,rfl⟩
theorem Mn (r':Ai) (r:(List Aa)×Ai) (D:Dz r'=some r):Fn Tryz.prog 101 1 [.ptr 0 0] [.box [.sl 4 (Al Aa.enc r'.l),.val (.bool r'.Failed)] 94] (fun d' b'=>d'=.sl 4 (Al Aa.enc r.1)/\b'=[.box [.sl 4 (Al Aa.enc r.2.l),.val (.bool r.2.Failed)] 94]):=by
 unfold Dz at D
 refine Fn.of Tryz.func101 rfl rfl rfl fun w0 I ρ0=>?_
 show B9 _ ⟨w0,I,ρ0,1,1,23⟩ _ _ _
 refine A4 1 9 Az ?_
 refine Aj ?_
 refine Af fun B=>?_
 refine A4 9 73 B ?_
 refine Aj ?_
 obtain⟨y,hy,D⟩:=Ac D
 refine F3 [0] [0] [] false (Dk _ _ hy) ?_
 obtain⟨y_2,hy_2,D⟩:=Ac D
 refine Dy (Rv _ _ hy_2) ?_
 refine Aj ?_
 refine Af fun B=>?_
 refine A4 73 169 B ?_
 refine Aj ?_
 rcases Dx D with ⟨h3,D⟩ | ⟨h3,D⟩
 ·refine Aj ?_
  refine Af fun B=>?_
  refine A4 169 185 B ?_
  refine Aj ?_
  refine Af fun B=>?_
  refine A1 ?_
  obtain rfl:=oi_ D
  exact Ax [(0,0)] ⟨rfl,rfl⟩
 ·refine Aj ?_
  refine Af fun B=>?_
  refine A4 169 185 B ?_
  refine Aj ?_
  refine Af fun B=>?_
  refine A1 ?_
  obtain rfl:=oi_ D
  exact Ax [(0,0)] ⟨rfl,rfl⟩
end Go.Proofs.YtlfeokjhphpjeaaGreat
