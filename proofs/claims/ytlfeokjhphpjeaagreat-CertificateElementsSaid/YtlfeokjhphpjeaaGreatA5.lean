import Derived.Test.YtlfeokjhphpjeaaGreatT1
import Derived.Test.YtlfeokjhphpjeaaGreatA4
set_option linter.unusedVariables false
set_option linter.unusedSimpArgs false
set_option maxRecDepth 100000
set_option maxHeartbeats 1600000
namespace Go.Proofs.YtlfeokjhphpjeaaGreat
open Go.RowKit
theorem cO (d:Ak) (a:Int) (r:Int×Ak) (D:B4 d a=some r):Fn Tryz.prog 49 1 [.ptr 0 0,vj a] [.box [.sl 1 (Al eI d.L),vj d.At] 59] (fun d' b'=>d'=vj r.1/\b'=[.box [.sl 1 (Al eI r.2.L),vj r.2.At] 59]):=by
 unfold B4 at D
 refine Fn.of Tryz.func49 rfl rfl rfl fun w0 I ρ0=>?_
 show B9 _ ⟨w0,I,ρ0,1,1,46⟩ _ _ _
 refine A4 1 9 Az ?_
 refine Aj ?_
 refine Af fun B=>?_
 refine Ah ?_
 refine A4 9 17 B ?_
 refine Aj ?_
 refine Af fun B=>?_
 refine Av ?_
 refine Bp (ι:=Bool) (fun (x6_1:Bool)=>mk [(0,.ptr 0 0),(5,vj a),(6,.val (.bool x6_1))] [(0,.box [.sl 1 (Al eI d.L),vj d.At] 59)] 1) (fun (x6_1:Bool)=>B4.j1 d a x6_1=some r) ?_ ?_
 ·refine Ah ?_
  refine Ad (Bb _ _ []) 17 33 B rfl rfl ?_
  refine Aj ?_
  refine Af fun B=>?_
  refine Dg rfl D (fun h4 D=>?_) fun h4 D=>?_
  ·refine Ap ?_
   repeat first | refine Dc ?_ | refine De ?_
   exact⟨decide (a=5),D,Ay [(0,0)]⟩
  ·refine Ah ?_
   refine Ad (Bb _ _ []) 33 49 B rfl rfl ?_
   refine Aj ?_
   refine Af fun B=>?_
   refine Dg rfl D (fun h6 D=>?_) fun h6 D=>?_
   ·refine Ap ?_
    repeat first | refine Dc ?_ | refine De ?_
    exact⟨decide (a=6),D,Ay [(0,0)]⟩
   ·refine Ah ?_
    refine Ad (Bb _ _ []) 49 65 B rfl rfl ?_
    refine Aj ?_
    refine Af fun B=>?_
    refine Dg rfl D (fun h8 D=>?_) fun h8 D=>?_
    ·refine Ap ?_
     repeat first | refine Dc ?_ | refine De ?_
     exact⟨decide (a=10),D,Ay [(0,0)]⟩
    ·refine Ad (Bb _ _ []) 65 81 B rfl rfl ?_
     refine Aj ?_
     refine Af fun B=>?_
     exact⟨decide (a=11),D,Ay [(0,0)]⟩
 ·rintro x6_1 D
  replace D:B4.j1 d a x6_1=some r:=D
  show B9 _ _ _ _ (mk _ _ _)
  unfold B4.j1 at D
  refine Dg rfl D (fun h10 D=>?_) fun h10 D=>?_
  ·refine Ah ?_
   refine Ad (Bb _ _ [9]) 1 33 Az rfl rfl ?_
   refine Aj ?_
   refine Hq (rd:=[]) rfl rfl (Ao E8 z3 (by decide) rfl rfl rfl rfl J7 (cs:=[.int .i64 2048,.int .i64 1024,.int .i64 512,.int .i64 3072,.int .i64 1023,.int .i64 4096,.int .i64 16384]) (.cons .int (.cons .int (.cons .int (.cons .int (.cons .int (.cons .int (.cons .int .nil))))))) rfl (l:=([2048,1024,512,3072,1023,4096,16384]:List Int)) (f:=eI) rfl) rfl rfl rfl ?_
   obtain⟨y,hy,D⟩:=Ac D
   refine F3 [0] [0] [] false (B3 _ _ _ hy) ?_
   refine Aj ?_
   refine Af fun B=>?_
   refine A1 ?_
   obtain rfl:=oi_ D
   exact Ax [(0,0)] ⟨rfl,rfl⟩
  ·refine Bp (ι:=Bool) (fun (x14_2:Bool)=>mk [(0,.ptr 0 0),(5,vj a),(14,.val (.bool x14_2))] [(0,.box [.sl 1 (Al eI d.L),vj d.At] 59)] 1) (fun (x14_2:Bool)=>B4.j2 d a x14_2=some r) ?_ ?_
   ·refine Ah ?_
    refine Ad (Bb _ _ []) 1 17 Az rfl rfl ?_
    refine Aj ?_
    refine Af fun B=>?_
    refine Dg rfl D (fun h13 D=>?_) fun h13 D=>?_
    ·refine Ap ?_
     repeat first | refine Dc ?_ | refine De ?_
     exact⟨decide (a=7),D,Ay [(0,0)]⟩
    ·refine Ad (Bb _ _ []) 17 33 B rfl rfl ?_
     refine Aj ?_
     refine Af fun B=>?_
     exact⟨decide (a=12),D,Ay [(0,0)]⟩
   ·rintro x14_2 D
    replace D:B4.j2 d a x14_2=some r:=D
    show B9 _ _ _ _ (mk _ _ _)
    unfold B4.j2 at D
    refine Dg rfl D (fun h15 D=>?_) fun h15 D=>?_
    ·refine Ah ?_
     refine Ad (Bb _ _ [9]) 1 33 Az rfl rfl ?_
     refine Aj ?_
     refine Hq (rd:=[]) rfl rfl (Ao E8 z3 (by decide) rfl rfl rfl rfl J7 (cs:=[.int .i64 256,.int .i64 160,.int .i64 224,.int .i64 384,.int .i64 521]) (.cons .int (.cons .int (.cons .int (.cons .int (.cons .int .nil))))) rfl (l:=([256,160,224,384,521]:List Int)) (f:=eI) rfl) rfl rfl rfl ?_
     obtain⟨y_2,hy_2,D⟩:=Ac D
     refine F3 [0] [0] [] false (B3 _ _ _ hy_2) ?_
     refine Aj ?_
     refine Af fun B=>?_
     refine A1 ?_
     obtain rfl:=oi_ D
     exact Ax [(0,0)] ⟨rfl,rfl⟩
    ·refine Ah ?_
     refine Ad (Bb _ _ []) 1 17 Az rfl rfl ?_
     refine Aj ?_
     refine Af fun B=>?_
     refine Dg rfl D (fun h18 D=>?_) fun h18 D=>?_
     ·refine Ah ?_
      refine Ad (Bb _ _ [25]) 17 49 B rfl rfl ?_
      refine Aj ?_
      refine Hq (rd:=[]) rfl rfl (Ao E8 z3 (by decide) rfl rfl rfl rfl J7 (cs:=[.int .i64 65,.int .i64 44,.int .i64 87]) (.cons .int (.cons .int (.cons .int .nil))) rfl (l:=([65,44,87]:List Int)) (f:=eI) rfl) rfl rfl rfl ?_
      obtain⟨y_3,hy_3,D⟩:=Ac D
      refine F3 [0] [0] [] false (B3 _ _ _ hy_3) ?_
      refine Aj ?_
      refine Af fun B=>?_
      refine A1 ?_
      obtain rfl:=oi_ D
      exact Ax [(0,0)] ⟨rfl,rfl⟩
     ·refine Ah ?_
      refine Ad (Bb _ _ []) 17 33 B rfl rfl ?_
      refine Aj ?_
      refine Af fun B=>?_
      refine Dg rfl D (fun h21 D=>?_) fun h21 D=>?_
      ·refine Ah ?_
       refine Ad (Bb _ _ [41]) 33 65 B rfl rfl ?_
       refine Aj ?_
       refine Hq (rd:=[]) rfl rfl (Ao E8 z3 (by decide) rfl rfl rfl rfl J7 (cs:=[.int .i64 768,.int .i64 512,.int .i64 1024]) (.cons .int (.cons .int (.cons .int .nil))) rfl (l:=([768,512,1024]:List Int)) (f:=eI) rfl) rfl rfl rfl ?_
       obtain⟨y_4,hy_4,D⟩:=Ac D
       refine F3 [0] [0] [] false (B3 _ _ _ hy_4) ?_
       refine Aj ?_
       refine Af fun B=>?_
       refine A1 ?_
       obtain rfl:=oi_ D
       exact Ax [(0,0)] ⟨rfl,rfl⟩
      ·refine Ah ?_
       refine Ad (Bb _ _ []) 33 49 B rfl rfl ?_
       refine Aj ?_
       refine Af fun B=>?_
       refine Dg rfl D (fun h24 D=>?_) fun h24 D=>?_
       ·refine Ah ?_
        refine Ad (Bb _ _ [57]) 49 81 B rfl rfl ?_
        refine Aj ?_
        refine Hq (rd:=[]) rfl rfl (Ao E8 z3 (by decide) rfl rfl rfl rfl J7 (cs:=[.int .i64 128,.int .i64 40]) (.cons .int (.cons .int .nil)) rfl (l:=([128,40]:List Int)) (f:=eI) rfl) rfl rfl rfl ?_
        obtain⟨y_5,hy_5,D⟩:=Ac D
        refine F3 [0] [0] [] false (B3 _ _ _ hy_5) ?_
        refine Aj ?_
        refine Af fun B=>?_
        refine A1 ?_
        obtain rfl:=oi_ D
        exact Ax [(0,0)] ⟨rfl,rfl⟩
       ·refine Ah ?_
        refine Ad (Bb _ _ []) 49 65 B rfl rfl ?_
        refine Aj ?_
        refine Af fun B=>?_
        refine Dg rfl D (fun h27 D=>?_) fun h27 D=>?_
        ·refine Ah ?_
         refine Ad (Bb _ _ [73]) 65 97 B rfl rfl ?_
         refine Aj ?_
         refine Hq (rd:=[]) rfl rfl (Ao E8 z3 (by decide) rfl rfl rfl rfl J7 (cs:=[.int .i64 168,.int .i64 112]) (.cons .int (.cons .int .nil)) rfl (l:=([168,112]:List Int)) (f:=eI) rfl) rfl rfl rfl ?_
         obtain⟨y_6,hy_6,D⟩:=Ac D
         refine F3 [0] [0] [] false (B3 _ _ _ hy_6) ?_
         refine Aj ?_
         refine Af fun B=>?_
         refine A1 ?_
         obtain rfl:=oi_ D
         exact Ax [(0,0)] ⟨rfl,rfl⟩
        ·refine Bp (ι:=Bool) (fun (x40_3:Bool)=>mk [(0,.ptr 0 0),(40,.val (.bool x40_3))] [(0,.box [.sl 1 (Al eI d.L),vj d.At] 59)] 1) (fun (x40_3:Bool)=>B4.j3 d x40_3=some r) ?_ ?_
         ·refine Ah ?_
          refine Ad (Bb _ _ []) 65 81 B rfl rfl ?_
          refine Aj ?_
          refine Af fun B=>?_
          refine Dg rfl D (fun h30 D=>?_) fun h30 D=>?_
          ·refine Ap ?_
           repeat first | refine Dc ?_ | refine De ?_
           exact⟨decide (a=16),D,Ay [(0,0)]⟩
          ·refine Ad (Bb _ _ []) 81 97 B rfl rfl ?_
           refine Aj ?_
           refine Af fun B=>?_
           exact⟨decide (a=17),D,Ay [(0,0)]⟩
         ·rintro x40_3 D
          replace D:B4.j3 d x40_3=some r:=D
          show B9 _ _ _ _ (mk _ _ _)
          unfold B4.j3 at D
          refine Dg rfl D (fun h32 D=>?_) fun h32 D=>?_
          ·refine Ah ?_
           refine Ad (Bb _ _ [9]) 1 33 Az rfl rfl ?_
           refine Aj ?_
           refine Hq (rd:=[]) rfl rfl (Ao E8 z3 (by decide) rfl rfl rfl rfl J7 (cs:=[.int .i64 128,.int .i64 256]) (.cons .int (.cons .int .nil)) rfl (l:=([128,256]:List Int)) (f:=eI) rfl) rfl rfl rfl ?_
           obtain⟨y_7,hy_7,D⟩:=Ac D
           refine F3 [0] [0] [] false (B3 _ _ _ hy_7) ?_
           refine Aj ?_
           refine Af fun B=>?_
           refine A1 ?_
           obtain rfl:=oi_ D
           exact Ax [(0,0)] ⟨rfl,rfl⟩
          ·refine Ap ?_
           repeat first | refine Dc ?_ | refine De ?_
           refine A4 1 9 Az ?_
           refine Aj ?_
           refine Af fun B=>?_
           refine A1 ?_
           obtain rfl:=oi_ D
           exact Ax [(0,0)] ⟨rfl,rfl⟩
theorem fK (d:Ak) (r:A3×Ak) (D:Mj d=some r):Fn Tryz.prog 26 1 [.ptr 0 0] [.box [.sl 1 (Al eI d.L),vj d.At] 59] (fun d' b'=>d'=.agg [vj r.1.Alg,vj r.1.Bits]/\b'=[.box [.sl 1 (Al eI r.2.L),vj r.2.At] 59]):=by
 unfold Mj at D
 refine Fn.of Tryz.func26 rfl rfl rfl fun w0 I ρ0=>?_
 show B9 _ ⟨w0,I,ρ0,1,1,12⟩ _ _ _
 refine A4 1 9 Az ?_
 refine Aj ?_
 refine Af fun B=>?_
 refine Ah ?_
 refine Ad (Bb _ _ [17]) 9 41 B rfl rfl ?_
 refine Aj ?_
 refine Hq (rd:=[]) rfl rfl (Ao E8 z3 (by decide) rfl rfl rfl rfl J7 (cs:=[.int .i64 5,.int .i64 7,.int .i64 5,.int .i64 6,.int .i64 8,.int .i64 9]) (.cons .int (.cons .int (.cons .int (.cons .int (.cons .int (.cons .int .nil)))))) rfl (l:=([5,7,5,6,8,9]:List Int)) (f:=eI) rfl) rfl rfl rfl ?_
 obtain⟨y,hy,D⟩:=Ac D
 refine F3 [0] [0] [] false (B3 _ _ _ hy) ?_
 refine Aj ?_
 refine Af fun B=>?_
 refine A4 41 89 B ?_
 refine Aj ?_
 obtain⟨y_2,hy_2,D⟩:=Ac D
 refine F3 [0] [0] [] false (cO _ _ _ hy_2) ?_
 refine Bl rfl rfl (.build (r:=[vj y.1,vj y_2.1]) Qg bE rL (by kernel_rfl) rfl) rfl rfl ?_
 refine Aj ?_
 refine Af fun B=>?_
 refine A1 ?_
 obtain rfl:=oi_ D
 exact Ax [(0,0)] ⟨rfl,rfl⟩
theorem Ol (d:Ak) (n:Int) (r:Bool×Ak) (D:Gx d n=some r):Fn Tryz.prog 27 1 [.ptr 0 0,vj n] [.box [.sl 1 (Al eI d.L),vj d.At] 59] (fun d' b'=>d'=.val (.bool r.1)/\b'=[.box [.sl 1 (Al eI r.2.L),vj r.2.At] 59]):=by
 unfold Gx at D
 refine Fn.of Tryz.func27 rfl rfl rfl fun w0 I ρ0=>?_
 show B9 _ ⟨w0,I,ρ0,1,1,11⟩ _ _ _
 refine A4 1 9 Az ?_
 refine Aj ?_
 refine Af fun B=>?_
 refine A4 9 65 B ?_
 refine Aj ?_
 obtain⟨y,hy,D⟩:=Ac D
 refine F3 [0] [0] [] false (Dm _ _ _ hy) ?_
 refine Aj ?_
 refine Af fun B=>?_
 refine A1 ?_
 obtain rfl:=oi_ D
 exact Ax [(0,0)] ⟨rfl,rfl⟩
theorem Zl (c:Ab) (r:Ab) (D:Jx c=some r):Fn Tryz.prog 90 0 [.agg (Ab.dv c)] [] (fun d' b'=>d'=.agg (Ab.dv r)/\b'=[]):=by
 unfold Jx at D
 refine Fn.of Tryz.func90 rfl rfl rfl fun w0 I ρ0=>?_
 show B9 _ ⟨w0,I,ρ0,0,0,9⟩ _ _ _
 refine A4 0 16 Az ?_
 refine Aj ?_
 refine Af fun B=>?_
 refine A4 16 64 B ?_
 refine Bl rfl rfl (Ao Mz z9 (by decide) rfl rfl rfl rfl dL (cs:=[]) .nil rfl (l:=([]:List ByteArray)) (f:=eS) rfl) rfl rfl ?_
 refine Aj ?_
 obtain⟨l,hl,D⟩:=Ac D
 refine Fe (rd:=[16]) rfl rfl (Dj Mz Hs .row rfl .sl rfl hl rfl) rfl rfl ?_
 refine Aj ?_
 refine Af fun B=>?_
 refine A4 64 80 B ?_
 refine Aj ?_
 refine Af fun B=>?_
 refine A1 ?_
 obtain rfl:=oi_ D
 exact Ax [] ⟨rfl,rfl⟩
theorem N7 (s:ByteArray) (r:Bool) (D:Bu s=some r):Fn Tryz.prog 81 0 [vk s] [] (fun d' b'=>d'=.val (.bool r)/\b'=[]):=by
 unfold Bu at D
 refine Fn.of Tryz.func81 rfl rfl rfl fun w0 I ρ0=>?_
 show B9 _ ⟨w0,I,ρ0,0,0,28⟩ _ _ _
 refine A4 0 8 Az ?_
 refine Aj ?_
 refine Af fun B=>?_
 refine Ah ?_
 refine Bp (ι:=Bool) (fun (x11_1:Bool)=>mk [(0,vk s),(11,.val (.bool x11_1))] [] 0) (fun (x11_1:Bool)=>Bu.j1 s x11_1=some r) ?_ ?_
 ·refine Ad (Bb _ _ []) 8 72 B rfl rfl ?_
  refine Aj ?_
  refine Bl rfl rfl (Xi P9) rfl rfl ?_
  refine Aj ?_
  rcases Dx D with ⟨h2,D⟩ | ⟨h2,D⟩
  ·refine Aj ?_
   refine Af fun B=>?_
   exact⟨true,D,Ay []⟩
  ·refine Aj ?_
   refine Bl (Ef rfl rfl h2) rfl (Xi P9) rfl rfl ?_
   refine Aj ?_
   refine Af fun B=>?_
   exact⟨decide (32 < (s.size:Int)),D,Ay []⟩
 ·rintro x11_1 D
  replace D:Bu.j1 s x11_1=some r:=D
  show B9 _ _ _ _ (mk _ _ _)
  unfold Bu.j1 at D
  refine Dg rfl D (fun h5 D=>?_) fun h5 D=>?_
  ·refine Ah ?_
   refine Ad (Bb _ _ []) 0 8 Az rfl rfl ?_
   refine Aj ?_
   refine Af fun B=>?_
   refine A1 ?_
   obtain rfl:=oi_ D
   exact Ax [] ⟨rfl,rfl⟩
  ·refine Ap ?_
   repeat first | refine Dc ?_ | refine De ?_
   refine Ah ?_
   refine A4 0 8 Az ?_
   refine Aj ?_
   refine Af fun B=>?_
   refine Av ?_
   refine Nu (fun (i_2:Int)=>mk [(0,vk s),(3,vj i_2)] [] 0) D (Ay []) ?_
   rintro i_2 m2 o2 D hn2
   replace D:Bu.l2 s i_2=some o2:=D
   show B9 _ _ _ _ (mk _ _ _)
   unfold Bu.l2 at D
   refine Ah ?_
   refine A4 0 32 Az ?_
   refine Aj ?_
   refine Bl rfl rfl (Xi P9) rfl rfl ?_
   refine Aj ?_
   refine Af fun B=>?_
   refine Dg rfl D (fun h9 D=>?_) fun h9 D=>?_
   ·refine Ap ?_
    repeat first | refine Dc ?_ | refine De ?_
    refine Ah ?_
    refine Av ?_
    refine Bp (ι:=Bool) (fun (x27_3:Bool)=>mk [(0,vk s),(3,vj i_2),(27,.val (.bool x27_3))] [] 0) (fun (x27_3:Bool)=>Bu.j3 i_2 x27_3=some o2) ?_ ?_
    ·refine Ad (Bb _ _ []) 32 112 B rfl rfl ?_
     refine Aj ?_
     obtain⟨c,hc,D⟩:=Ac D
     refine Bl rfl rfl (kP P9 hc) rfl rfl ?_
     refine Aj ?_
     rcases Dx D with ⟨h10,D⟩ | ⟨h10,D⟩
     ·refine Aj ?_
      refine Af fun B=>?_
      exact⟨true,D,Ay []⟩
     ·refine Aj ?_
      obtain⟨c_2,hc_2,D⟩:=Ac D
      refine Bl (Ef rfl rfl h10) rfl (kP P9 hc_2) rfl rfl ?_
      refine Aj ?_
      refine Af fun B=>?_
      exact⟨decide (126 < (c_2.toNat:Int)),D,Ay []⟩
    ·rintro x27_3 D
     replace D:Bu.j3 i_2 x27_3=some o2:=D
     show B9 _ _ _ _ (mk _ _ _)
     unfold Bu.j3 at D
     refine Dg rfl D (fun h13 D=>?_) fun h13 D=>?_
     ·refine Ah ?_
      refine Ad (Bb _ _ []) 0 8 Az rfl rfl ?_
      refine Aj ?_
      refine Af fun B=>?_
      refine A1 ?_
      replace D:=Dr D hn2
      obtain rfl:=oi_ D
      exact Ax [] ⟨rfl,rfl⟩
     ·refine Ap ?_
      repeat first | refine Dc ?_ | refine De ?_
      refine Ad (Bb _ _ []) 0 24 Az rfl rfl ?_
      refine Aj ?_
      refine Af fun B=>?_
      obtain rfl:=oi_ D
      exact⟨(W (i_2 + 1),m2),Nat.lt_succ_self _,hn2,Ay []⟩
   ·refine Cm ?_
    repeat first | refine Dc ?_ | refine De ?_
    replace D:=Dr D hn2
    refine A4 32 40 B ?_
    refine Aj ?_
    refine Af fun B=>?_
    refine A1 ?_
    obtain rfl:=oi_ D
    exact Ax [] ⟨rfl,rfl⟩
theorem Ub (b:Int) (r:Int) (D:C6 b=some r):Fn Tryz.prog 127 0 [vj b] [] (fun d' b'=>d'=vj r/\b'=[]):=by
 unfold C6 at D
 refine Fn.of Tryz.func127 rfl rfl rfl fun w0 I ρ0=>?_
 show B9 _ ⟨w0,I,ρ0,0,0,25⟩ _ _ _
 refine A4 0 8 Az ?_
 refine Aj ?_
 refine Af fun B=>?_
 refine Ah ?_
 refine Av ?_
 refine Bp (ι:=Bool) (fun (x3_1:Bool)=>mk [(0,vj b),(3,.val (.bool x3_1))] [] 0) (fun (x3_1:Bool)=>C6.j1 b x3_1=some r) ?_ ?_
 ·refine Ad (Bb _ _ []) 8 64 B rfl rfl ?_
  refine Aj ?_
  rcases Dx D with ⟨h2,D⟩ | ⟨h2,D⟩
  ·refine Aj ?_
   refine Af fun B=>?_
   exact⟨true,D,Ay []⟩
  ·refine Aj ?_
   refine Af fun B=>?_
   exact⟨decide (16384 < b),D,Ay []⟩
 ·rintro x3_1 D
  replace D:C6.j1 b x3_1=some r:=D
  show B9 _ _ _ _ (mk _ _ _)
  unfold C6.j1 at D
  refine Dg rfl D (fun h5 D=>?_) fun h5 D=>?_
  ·refine Ah ?_
   refine Ad (Bb _ _ []) 0 8 Az rfl rfl ?_
   refine Aj ?_
   refine Af fun B=>?_
   refine A1 ?_
   obtain rfl:=oi_ D
   exact Ax [] ⟨rfl,rfl⟩
  ·refine Ah ?_
   refine Ad (Bb _ _ []) 0 24 Az rfl rfl ?_
   refine Aj ?_
   refine Af fun B=>?_
   refine Dg rfl D (fun h8 D=>?_) fun h8 D=>?_
   ·refine Ah ?_
    refine Ad (Bb _ _ []) 24 32 B rfl rfl ?_
    refine Aj ?_
    refine Af fun B=>?_
    refine A1 ?_
    obtain rfl:=oi_ D
    exact Ax [] ⟨rfl,rfl⟩
   ·refine Ah ?_
    refine Ad (Bb _ _ []) 24 48 B rfl rfl ?_
    refine Aj ?_
    refine Af fun B=>?_
    refine Dg rfl D (fun h11 D=>?_) fun h11 D=>?_
    ·refine Ah ?_
     refine Ad (Bb _ _ []) 48 56 B rfl rfl ?_
     refine Aj ?_
     refine Af fun B=>?_
     refine A1 ?_
     obtain rfl:=oi_ D
     exact Ax [] ⟨rfl,rfl⟩
    ·refine Ah ?_
     refine Ad (Bb _ _ []) 48 72 B rfl rfl ?_
     refine Aj ?_
     refine Af fun B=>?_
     refine Dg rfl D (fun h14 D=>?_) fun h14 D=>?_
     ·refine Ah ?_
      refine Ad (Bb _ _ []) 72 80 B rfl rfl ?_
      refine Aj ?_
      refine Af fun B=>?_
      refine A1 ?_
      obtain rfl:=oi_ D
      exact Ax [] ⟨rfl,rfl⟩
     ·refine Ah ?_
      refine Ad (Bb _ _ []) 72 96 B rfl rfl ?_
      refine Aj ?_
      refine Af fun B=>?_
      refine Dg rfl D (fun h17 D=>?_) fun h17 D=>?_
      ·refine Ah ?_
       refine Ad (Bb _ _ []) 96 104 B rfl rfl ?_
       refine Aj ?_
       refine Af fun B=>?_
       refine A1 ?_
       obtain rfl:=oi_ D
       exact Ax [] ⟨rfl,rfl⟩
      ·refine Ah ?_
       refine Ad (Bb _ _ []) 96 120 B rfl rfl ?_
       refine Aj ?_
       refine Af fun B=>?_
       refine Dg rfl D (fun h20 D=>?_) fun h20 D=>?_
       ·refine Ah ?_
        refine Ad (Bb _ _ []) 120 128 B rfl rfl ?_
        refine Aj ?_
        refine Af fun B=>?_
        refine A1 ?_
        obtain rfl:=oi_ D
        exact Ax [] ⟨rfl,rfl⟩
       ·refine Ap ?_
        repeat first | refine Dc ?_ | refine De ?_
        refine A4 120 128 B ?_
        refine Aj ?_
        refine Af fun B=>?_
        refine A1 ?_
        obtain rfl:=oi_ D
        exact Ax [] ⟨rfl,rfl⟩
theorem H3 (b:Int) (sizes:(List Int)) (strengths:(List Int)) (r:Int) (D:Bd b sizes strengths=some r):Fn Tryz.prog 128 0 [vj b,.sl 1 (Al eI sizes),.sl 1 (Al eI strengths)] [] (fun d' b'=>d'=vj r/\b'=[]):=by
 unfold Bd at D
 refine Fn.of Tryz.func128 rfl rfl rfl fun w0 I ρ0=>?_
 show B9 _ ⟨w0,I,ρ0,0,0,24⟩ _ _ _
 refine A4 0 8 Az ?_
 refine Aj ?_
 refine Af fun B=>?_
 refine Ah ?_
 refine A4 8 16 B ?_
 refine Aj ?_
 refine Af fun B=>?_
 refine Av ?_
 refine Nu (fun (i_1:Int)=>mk [(0,vj b),(1,.sl 1 (Al eI sizes)),(2,.sl 1 (Al eI strengths)),(7,vj i_1)] [] 0) D (Ay []) ?_
 rintro i_1 m1 o1 D hn1
 replace D:Bd.l1 b sizes strengths i_1=some o1:=D
 show B9 _ _ _ _ (mk _ _ _)
 unfold Bd.l1 at D
 refine Ah ?_
 refine A4 0 32 Az ?_
 refine Aj ?_
 refine Af fun B=>?_
 refine Dg rfl D (fun h4 D=>?_) fun h4 D=>?_
 ·refine Ap ?_
  repeat first | refine Dc ?_ | refine De ?_
  refine Ah ?_
  refine Av ?_
  refine A4 32 80 B ?_
  refine Aj ?_
  obtain⟨e,he,D⟩:=Ac D
  refine Aj ?_
  refine Bl rfl rfl (Bq jY (A9 M2 (Aw he) (o:=0) (c:=.int .i64 e) rfl rfl)) rfl rfl ?_
  refine Aj ?_
  refine Af fun B=>?_
  refine Dg rfl D (fun h6 D=>?_) fun h6 D=>?_
  ·refine Ah ?_
   refine Ad (Bb _ _ []) 80 120 B rfl rfl ?_
   refine Aj ?_
   obtain⟨e_2,he_2,D⟩:=Ac D
   refine Aj ?_
   refine Bl rfl rfl (Bq jY (A9 M2 (Aw he_2) (o:=0) (c:=.int .i64 e_2) rfl rfl)) rfl rfl ?_
   refine Aj ?_
   refine Af fun B=>?_
   refine A1 ?_
   replace D:=Dr D hn1
   obtain rfl:=oi_ D
   exact Ax [] ⟨rfl,rfl⟩
  ·refine Ap ?_
   repeat first | refine Dc ?_ | refine De ?_
   refine Ad (Bb _ _ []) 80 104 B rfl rfl ?_
   refine Aj ?_
   refine Af fun B=>?_
   obtain rfl:=oi_ D
   exact⟨(W (i_1 + 1),m1),Nat.lt_succ_self _,hn1,Ay []⟩
 ·refine Cm ?_
  repeat first | refine Dc ?_ | refine De ?_
  replace D:=Dr D hn1
  refine A4 32 40 B ?_
  refine Aj ?_
  refine Af fun B=>?_
  refine A1 ?_
  obtain rfl:=oi_ D
  exact Ax [] ⟨rfl,rfl⟩
theorem Wq (alg:Int) (r:Int) (D:Cq alg=some r):Fn Tryz.prog 129 0 [vj alg] [] (fun d' b'=>d'=vj r/\b'=[]):=by
 unfold Cq at D
 refine Fn.of Tryz.func129 rfl rfl rfl fun w0 I ρ0=>?_
 show B9 _ ⟨w0,I,ρ0,0,0,21⟩ _ _ _
 refine A4 0 8 Az ?_
 refine Aj ?_
 refine Af fun B=>?_
 refine Ah ?_
 refine A4 8 16 B ?_
 refine Aj ?_
 refine Af fun B=>?_
 refine Av ?_
 refine A4 16 32 B ?_
 refine Aj ?_
 refine Af fun B=>?_
 refine Dg rfl D (fun h4 D=>?_) fun h4 D=>?_
 ·refine Ah ?_
  refine Ad (Bb _ _ []) 32 40 B rfl rfl ?_
  refine Aj ?_
  refine Af fun B=>?_
  refine A1 ?_
  obtain rfl:=oi_ D
  exact Ax [] ⟨rfl,rfl⟩
 ·refine Ah ?_
  refine Ad (Bb _ _ []) 32 48 B rfl rfl ?_
  refine Aj ?_
  refine Af fun B=>?_
  refine Dg rfl D (fun h7 D=>?_) fun h7 D=>?_
  ·refine Ah ?_
   refine Ad (Bb _ _ []) 48 56 B rfl rfl ?_
   refine Aj ?_
   refine Af fun B=>?_
   refine A1 ?_
   obtain rfl:=oi_ D
   exact Ax [] ⟨rfl,rfl⟩
  ·refine Bp (ι:=Bool) (fun (x8_1:Bool)=>mk [(3,vj alg),(8,.val (.bool x8_1))] [] 0) (fun (x8_1:Bool)=>Cq.j1 alg x8_1=some r) ?_ ?_
   ·refine Ah ?_
    refine Ad (Bb _ _ []) 48 64 B rfl rfl ?_
    refine Aj ?_
    refine Af fun B=>?_
    refine Dg rfl D (fun h10 D=>?_) fun h10 D=>?_
    ·refine Ap ?_
     repeat first | refine Dc ?_ | refine De ?_
     exact⟨decide (alg=3),D,Ay []⟩
    ·refine Ah ?_
     refine Ad (Bb _ _ []) 64 80 B rfl rfl ?_
     refine Aj ?_
     refine Af fun B=>?_
     refine Dg rfl D (fun h12 D=>?_) fun h12 D=>?_
     ·refine Ap ?_
      repeat first | refine Dc ?_ | refine De ?_
      exact⟨decide (alg=8),D,Ay []⟩
     ·refine Ad (Bb _ _ []) 80 96 B rfl rfl ?_
      refine Aj ?_
      refine Af fun B=>?_
      exact⟨decide (alg=21),D,Ay []⟩
   ·rintro x8_1 D
    replace D:Cq.j1 alg x8_1=some r:=D
    show B9 _ _ _ _ (mk _ _ _)
    unfold Cq.j1 at D
    refine Dg rfl D (fun h14 D=>?_) fun h14 D=>?_
    ·refine Ah ?_
     refine Ad (Bb _ _ []) 0 8 Az rfl rfl ?_
     refine Aj ?_
     refine Af fun B=>?_
     refine A1 ?_
     obtain rfl:=oi_ D
     exact Ax [] ⟨rfl,rfl⟩
    ·refine Ah ?_
     refine Ad (Bb _ _ []) 0 16 Az rfl rfl ?_
     refine Aj ?_
     refine Af fun B=>?_
     refine Dg rfl D (fun h17 D=>?_) fun h17 D=>?_
     ·refine Ah ?_
      refine Ad (Bb _ _ []) 16 24 B rfl rfl ?_
      refine Aj ?_
      refine Af fun B=>?_
      refine A1 ?_
      obtain rfl:=oi_ D
      exact Ax [] ⟨rfl,rfl⟩
     ·refine Bp (ι:=Bool) (fun (x14_2:Bool)=>mk [(3,vj alg),(14,.val (.bool x14_2))] [] 0) (fun (x14_2:Bool)=>Cq.j2 alg x14_2=some r) ?_ ?_
      ·refine Ah ?_
       refine Ad (Bb _ _ []) 16 32 B rfl rfl ?_
       refine Aj ?_
       refine Af fun B=>?_
       refine Dg rfl D (fun h20 D=>?_) fun h20 D=>?_
       ·refine Ap ?_
        repeat first | refine Dc ?_ | refine De ?_
        exact⟨decide (alg=18),D,Ay []⟩
       ·refine Ad (Bb _ _ []) 32 48 B rfl rfl ?_
        refine Aj ?_
        refine Af fun B=>?_
        exact⟨decide (alg=22),D,Ay []⟩
      ·rintro x14_2 D
       replace D:Cq.j2 alg x14_2=some r:=D
       show B9 _ _ _ _ (mk _ _ _)
       unfold Cq.j2 at D
       refine Dg rfl D (fun h22 D=>?_) fun h22 D=>?_
       ·refine Ah ?_
        refine Ad (Bb _ _ []) 0 8 Az rfl rfl ?_
        refine Aj ?_
        refine Af fun B=>?_
        refine A1 ?_
        obtain rfl:=oi_ D
        exact Ax [] ⟨rfl,rfl⟩
       ·refine Ah ?_
        refine Ad (Bb _ _ []) 0 16 Az rfl rfl ?_
        refine Aj ?_
        refine Af fun B=>?_
        refine Dg rfl D (fun h25 D=>?_) fun h25 D=>?_
        ·refine Ah ?_
         refine Ad (Bb _ _ []) 16 24 B rfl rfl ?_
         refine Aj ?_
         refine Af fun B=>?_
         refine A1 ?_
         obtain rfl:=oi_ D
         exact Ax [] ⟨rfl,rfl⟩
        ·refine Ah ?_
         refine Ad (Bb _ _ []) 16 32 B rfl rfl ?_
         refine Aj ?_
         refine Af fun B=>?_
         refine Dg rfl D (fun h28 D=>?_) fun h28 D=>?_
         ·refine Ah ?_
          refine Ad (Bb _ _ []) 32 40 B rfl rfl ?_
          refine Aj ?_
          refine Af fun B=>?_
          refine A1 ?_
          obtain rfl:=oi_ D
          exact Ax [] ⟨rfl,rfl⟩
         ·refine Ap ?_
          repeat first | refine Dc ?_ | refine De ?_
          refine A4 32 40 B ?_
          refine Aj ?_
          refine Af fun B=>?_
          refine A1 ?_
          obtain rfl:=oi_ D
          exact Ax [] ⟨rfl,rfl⟩
theorem Sw (u:A3) (r:Int) (D:Aq u=some r):Fn Tryz.prog 110 0 [.agg [vj u.Alg,vj u.Bits]] [] (fun d' b'=>d'=vj r/\b'=[]):=by
 unfold Aq at D
 refine Fn.of Tryz.func110 rfl rfl rfl fun w0 I ρ0=>?_
 show B9 _ ⟨w0,I,ρ0,0,0,76⟩ _ _ _
 refine A4 0 16 Az ?_
 refine Aj ?_
 refine Af fun B=>?_
 refine A4 16 40 B ?_
 refine Aj ?_
 refine Af fun B=>?_
 refine Ah ?_
 refine A4 40 56 B ?_
 refine Aj ?_
 refine Af fun B=>?_
 refine Av ?_
 refine Bp (ι:=Bool) (fun (x8_1:Bool)=>mk [(1,.ptr 0 0),(3,vj u.Bits),(7,vj u.Alg),(8,.val (.bool x8_1))] [(0,.box [vj u.Alg,vj u.Bits] 33)] 1) (fun (x8_1:Bool)=>Aq.j1 u x8_1=some r) ?_ ?_
 ·refine Ah ?_
  refine Ad (Bb _ _ []) 56 72 B rfl rfl ?_
  refine Aj ?_
  refine Af fun B=>?_
  refine Dg rfl D (fun h5 D=>?_) fun h5 D=>?_
  ·refine Ap ?_
   repeat first | refine Dc ?_ | refine De ?_
   exact⟨decide (u.Alg=5),D,Ay [(0,0)]⟩
  ·refine Ah ?_
   refine Ad (Bb _ _ []) 72 88 B rfl rfl ?_
   refine Aj ?_
   refine Af fun B=>?_
   refine Dg rfl D (fun h7 D=>?_) fun h7 D=>?_
   ·refine Ap ?_
    repeat first | refine Dc ?_ | refine De ?_
    exact⟨decide (u.Alg=6),D,Ay [(0,0)]⟩
   ·refine Ah ?_
    refine Ad (Bb _ _ []) 88 104 B rfl rfl ?_
    refine Aj ?_
    refine Af fun B=>?_
    refine Dg rfl D (fun h9 D=>?_) fun h9 D=>?_
    ·refine Ap ?_
     repeat first | refine Dc ?_ | refine De ?_
     exact⟨decide (u.Alg=10),D,Ay [(0,0)]⟩
    ·refine Ad (Bb _ _ []) 104 120 B rfl rfl ?_
     refine Aj ?_
     refine Af fun B=>?_
     exact⟨decide (u.Alg=11),D,Ay [(0,0)]⟩
 ·rintro x8_1 D
  replace D:Aq.j1 u x8_1=some r:=D
  show B9 _ _ _ _ (mk _ _ _)
  unfold Aq.j1 at D
  refine Dg rfl D (fun h11 D=>?_) fun h11 D=>?_
  ·refine Ah ?_
   refine Ad (Bb _ _ []) 1 25 Az rfl rfl ?_
   refine Aj ?_
   obtain⟨y,hy,D⟩:=Ac D
   refine Dy (Ub _ _ hy) ?_
   refine Aj ?_
   refine Af fun B=>?_
   refine A1 ?_
   obtain rfl:=oi_ D
   exact Ax [] ⟨rfl,rfl⟩
  ·refine Bp (ι:=Bool) (fun (x15_2:Bool)=>mk [(1,.ptr 0 0),(3,vj u.Bits),(7,vj u.Alg),(15,.val (.bool x15_2))] [(0,.box [vj u.Alg,vj u.Bits] 33)] 1) (fun (x15_2:Bool)=>Aq.j2 u x15_2=some r) ?_ ?_
   ·refine Ah ?_
    refine Ad (Bb _ _ []) 1 17 Az rfl rfl ?_
    refine Aj ?_
    refine Af fun B=>?_
    refine Dg rfl D (fun h14 D=>?_) fun h14 D=>?_
    ·refine Ap ?_
     repeat first | refine Dc ?_ | refine De ?_
     exact⟨decide (u.Alg=7),D,Ay [(0,0)]⟩
    ·refine Ad (Bb _ _ []) 17 33 B rfl rfl ?_
     refine Aj ?_
     refine Af fun B=>?_
     exact⟨decide (u.Alg=12),D,Ay [(0,0)]⟩
   ·rintro x15_2 D
    replace D:Aq.j2 u x15_2=some r:=D
    show B9 _ _ _ _ (mk _ _ _)
    unfold Aq.j2 at D
    refine Dg rfl D (fun h16 D=>?_) fun h16 D=>?_
    ·refine Ah ?_
     refine Bp (ι:=Bool) (fun (x35_3:Bool)=>mk [(3,vj u.Bits),(35,.val (.bool x35_3))] [] 0) (fun (x35_3:Bool)=>Aq.j3 u x35_3=some r) ?_ ?_
     ·refine Ad (Bb _ _ []) 1 145 Az rfl rfl ?_
      refine Aj ?_
      rcases Dx D with ⟨h17,D⟩ | ⟨h17,D⟩
      ·refine Aj ?_
       refine Af fun B=>?_
       exact⟨true,D,Ay []⟩
      ·refine Aj ?_
       rcases Dx D with ⟨h19,D⟩ | ⟨h19,D⟩
       ·refine Aj ?_
        refine Af fun B=>?_
        exact⟨true,D,Ay []⟩
       ·refine Aj ?_
        rcases Dx D with ⟨h21,D⟩ | ⟨h21,D⟩
        ·refine Aj ?_
         refine Af fun B=>?_
         exact⟨true,D,Ay []⟩
        ·refine Aj ?_
         rcases Dx D with ⟨h23,D⟩ | ⟨h23,D⟩
         ·refine Aj ?_
          refine Af fun B=>?_
          exact⟨true,D,Ay []⟩
         ·refine Aj ?_
          refine Af fun B=>?_
          exact⟨decide (u.Bits=521),D,Ay []⟩
     ·rintro x35_3 D
      replace D:Aq.j3 u x35_3=some r:=D
      show B9 _ _ _ _ (mk _ _ _)
      unfold Aq.j3 at D
      refine Dg rfl D (fun h26 D=>?_) fun h26 D=>?_
      ·refine Ah ?_
       refine Ad (Bb _ _ []) 0 24 Az rfl rfl ?_
       refine Aj ?_
       obtain⟨q,hq,D⟩:=Ac D
       refine Bl rfl rfl (bA hq) rfl rfl ?_
       refine Aj ?_
       refine Af fun B=>?_
       refine A1 ?_
       obtain rfl:=oi_ D
       exact Ax [] ⟨rfl,rfl⟩
      ·refine Ap ?_
       repeat first | refine Dc ?_ | refine De ?_
       refine A4 0 8 Az ?_
       refine Aj ?_
       refine Af fun B=>?_
       refine A1 ?_
       obtain rfl:=oi_ D
       exact Ax [] ⟨rfl,rfl⟩
    ·refine Ah ?_
     refine Ad (Bb _ _ []) 1 17 Az rfl rfl ?_
     refine Aj ?_
     refine Af fun B=>?_
     refine Dg rfl D (fun h30 D=>?_) fun h30 D=>?_
     ·refine Ah ?_
      refine Ad (Bb _ _ []) 17 57 B rfl rfl ?_
      refine Aj ?_
      refine Bl rfl rfl (Ao E8 z3 (by decide) rfl rfl rfl rfl J7 (cs:=[.int .i64 44,.int .i64 65,.int .i64 87]) (.cons .int (.cons .int (.cons .int .nil))) rfl (l:=([44,65,87]:List Int)) (f:=eI) rfl) rfl rfl ?_
      refine Bl rfl rfl (Ao E8 z3 (by decide) rfl rfl rfl rfl J7 (cs:=[.int .i64 128,.int .i64 192,.int .i64 256]) (.cons .int (.cons .int (.cons .int .nil))) rfl (l:=([128,192,256]:List Int)) (f:=eI) rfl) rfl rfl ?_
      obtain⟨y_2,hy_2,D⟩:=Ac D
      refine F3 [25,33] [] [] true (H3 _ _ _ _ hy_2) ?_
      refine Aj ?_
      refine Af fun B=>?_
      refine A1 ?_
      obtain rfl:=oi_ D
      exact Ax [] ⟨rfl,rfl⟩
     ·refine Ah ?_
      refine Ad (Bb _ _ []) 17 33 B rfl rfl ?_
      refine Aj ?_
      refine Af fun B=>?_
      refine Dg rfl D (fun h33 D=>?_) fun h33 D=>?_
      ·refine Ah ?_
       refine Ad (Bb _ _ []) 33 73 B rfl rfl ?_
       refine Aj ?_
       refine Bl rfl rfl (Ao E8 z3 (by decide) rfl rfl rfl rfl J7 (cs:=[.int .i64 512,.int .i64 768,.int .i64 1024]) (.cons .int (.cons .int (.cons .int .nil))) rfl (l:=([512,768,1024]:List Int)) (f:=eI) rfl) rfl rfl ?_
       refine Bl rfl rfl (Ao E8 z3 (by decide) rfl rfl rfl rfl J7 (cs:=[.int .i64 128,.int .i64 192,.int .i64 256]) (.cons .int (.cons .int (.cons .int .nil))) rfl (l:=([128,192,256]:List Int)) (f:=eI) rfl) rfl rfl ?_
       obtain⟨y_3,hy_3,D⟩:=Ac D
       refine F3 [41,49] [] [] true (H3 _ _ _ _ hy_3) ?_
       refine Aj ?_
       refine Af fun B=>?_
       refine A1 ?_
       obtain rfl:=oi_ D
       exact Ax [] ⟨rfl,rfl⟩
      ·refine Ah ?_
       refine Ad (Bb _ _ []) 33 49 B rfl rfl ?_
       refine Aj ?_
       refine Af fun B=>?_
       refine Dg rfl D (fun h36 D=>?_) fun h36 D=>?_
       ·refine Ah ?_
        refine Ad (Bb _ _ []) 49 89 B rfl rfl ?_
        refine Aj ?_
        refine Bl rfl rfl (Ao E8 z3 (by decide) rfl rfl rfl rfl J7 (cs:=[.int .i64 40,.int .i64 128]) (.cons .int (.cons .int .nil)) rfl (l:=([40,128]:List Int)) (f:=eI) rfl) rfl rfl ?_
        refine Bl rfl rfl (Ao E8 z3 (by decide) rfl rfl rfl rfl J7 (cs:=[.int .i64 40,.int .i64 60]) (.cons .int (.cons .int .nil)) rfl (l:=([40,60]:List Int)) (f:=eI) rfl) rfl rfl ?_
        obtain⟨y_4,hy_4,D⟩:=Ac D
        refine F3 [57,65] [] [] true (H3 _ _ _ _ hy_4) ?_
        refine Aj ?_
        refine Af fun B=>?_
        refine A1 ?_
        obtain rfl:=oi_ D
        exact Ax [] ⟨rfl,rfl⟩
       ·refine Ah ?_
        refine Ad (Bb _ _ []) 49 65 B rfl rfl ?_
        refine Aj ?_
        refine Af fun B=>?_
        refine Dg rfl D (fun h39 D=>?_) fun h39 D=>?_
        ·refine Ah ?_
         refine Ad (Bb _ _ []) 65 105 B rfl rfl ?_
         refine Aj ?_
         refine Bl rfl rfl (Ao E8 z3 (by decide) rfl rfl rfl rfl J7 (cs:=[.int .i64 112,.int .i64 168]) (.cons .int (.cons .int .nil)) rfl (l:=([112,168]:List Int)) (f:=eI) rfl) rfl rfl ?_
         refine Bl rfl rfl (Ao E8 z3 (by decide) rfl rfl rfl rfl J7 (cs:=[.int .i64 80,.int .i64 112]) (.cons .int (.cons .int .nil)) rfl (l:=([80,112]:List Int)) (f:=eI) rfl) rfl rfl ?_
         obtain⟨y_5,hy_5,D⟩:=Ac D
         refine F3 [73,81] [] [] true (H3 _ _ _ _ hy_5) ?_
         refine Aj ?_
         refine Af fun B=>?_
         refine A1 ?_
         obtain rfl:=oi_ D
         exact Ax [] ⟨rfl,rfl⟩
        ·refine Bp (ι:=Bool) (fun (x62_4:Bool)=>mk [(1,.ptr 0 0),(3,vj u.Bits),(62,.val (.bool x62_4))] [(0,.box [vj u.Alg,vj u.Bits] 33)] 1) (fun (x62_4:Bool)=>Aq.j4 u x62_4=some r) ?_ ?_
         ·refine Ah ?_
          refine Ad (Bb _ _ []) 65 81 B rfl rfl ?_
          refine Aj ?_
          refine Af fun B=>?_
          refine Dg rfl D (fun h42 D=>?_) fun h42 D=>?_
          ·refine Ap ?_
           repeat first | refine Dc ?_ | refine De ?_
           exact⟨decide (u.Alg=16),D,Ay [(0,0)]⟩
          ·refine Ad (Bb _ _ []) 81 97 B rfl rfl ?_
           refine Aj ?_
           refine Af fun B=>?_
           exact⟨decide (u.Alg=17),D,Ay [(0,0)]⟩
         ·rintro x62_4 D
          replace D:Aq.j4 u x62_4=some r:=D
          show B9 _ _ _ _ (mk _ _ _)
          unfold Aq.j4 at D
          refine Dg rfl D (fun h44 D=>?_) fun h44 D=>?_
          ·refine Ah ?_
           refine Ad (Bb _ _ []) 1 41 Az rfl rfl ?_
           refine Aj ?_
           refine Bl rfl rfl (Ao E8 z3 (by decide) rfl rfl rfl rfl J7 (cs:=[.int .i64 128,.int .i64 256]) (.cons .int (.cons .int .nil)) rfl (l:=([128,256]:List Int)) (f:=eI) rfl) rfl rfl ?_
           refine Bl rfl rfl (Ao E8 z3 (by decide) rfl rfl rfl rfl J7 (cs:=[.int .i64 128,.int .i64 256]) (.cons .int (.cons .int .nil)) rfl (l:=([128,256]:List Int)) (f:=eI) rfl) rfl rfl ?_
           obtain⟨y_6,hy_6,D⟩:=Ac D
           refine F3 [9,17] [] [] true (H3 _ _ _ _ hy_6) ?_
           refine Aj ?_
           refine Af fun B=>?_
           refine A1 ?_
           obtain rfl:=oi_ D
           exact Ax [] ⟨rfl,rfl⟩
          ·refine Ap ?_
           repeat first | refine Dc ?_ | refine De ?_
           refine A4 1 65 Az ?_
           refine Aj ?_
           refine Bl rfl rfl (Ao E8 z3 (by decide) rfl rfl rfl rfl J7 (cs:=[.int .i64 0]) (.cons .int .nil) rfl (l:=([0]:List Int)) (f:=eI) rfl) rfl rfl ?_
           refine Aj ?_
           obtain⟨y_7,hy_7,D⟩:=Ac D
           refine Dy (Wq _ _ hy_7) ?_
           refine Bl rfl rfl (Ao E8 z3 (by decide) rfl rfl rfl rfl J7 (cs:=[.int .i64 y_7]) (.cons .int .nil) rfl (l:=([y_7]:List Int)) (f:=eI) rfl) rfl rfl ?_
           obtain⟨y_8,hy_8,D⟩:=Ac D
           refine F3 [9,41] [] [] true (H3 _ _ _ _ hy_8) ?_
           refine Aj ?_
           refine Af fun B=>?_
           refine A1 ?_
           obtain rfl:=oi_ D
           exact Ax [] ⟨rfl,rfl⟩
theorem Qk (u:A3) (r:Bool) (D:Hy u=some r):Fn Tryz.prog 83 0 [.agg [vj u.Alg,vj u.Bits]] [] (fun d' b'=>d'=.val (.bool r)/\b'=[]):=by
 unfold Hy at D
 refine Fn.of Tryz.func83 rfl rfl rfl fun w0 I ρ0=>?_
 show B9 _ ⟨w0,I,ρ0,0,0,6⟩ _ _ _
 refine A4 0 16 Az ?_
 refine Aj ?_
 refine Af fun B=>?_
 refine A4 16 48 B ?_
 refine Aj ?_
 obtain⟨y,hy,D⟩:=Ac D
 refine Dy (Sw _ _ hy) ?_
 refine Aj ?_
 refine Af fun B=>?_
 refine A1 ?_
 obtain rfl:=oi_ D
 exact Ax [] ⟨rfl,rfl⟩
theorem Zu  (r:(List Am)) (D:Ny=some r):Fn Tryz.prog 111 0 [] [] (fun d' b'=>d'=.sl 2 (Al Am.enc r)/\b'=[]):=by
 unfold Ny at D
 refine Fn.of Tryz.func111 rfl rfl rfl fun w0 I ρ0=>?_
 show B9 _ ⟨w0,I,ρ0,0,0,25⟩ _ _ _
 refine A4 0 8 Az ?_
 refine Aj ?_
 refine Af fun B=>?_
 refine A4 8 208 B ?_
 refine Bl rfl rfl (.build (r:=[.val (.string (⟨#[]⟩:ByteArray)),.val (.int .i64 0)]) F8 Ih Ky (by kernel_rfl) rfl) rfl rfl ?_
 refine Bl rfl rfl (.build (r:=[.val (.string (⟨#[109,100,53]⟩:ByteArray)),.val (.int .i64 1)]) F8 Ih Ky (by kernel_rfl) rfl) rfl rfl ?_
 refine Bl rfl rfl (.build (r:=[.val (.string (⟨#[115,104,97,49]⟩:ByteArray)),.val (.int .i64 1)]) F8 Ih Ky (by kernel_rfl) rfl) rfl rfl ?_
 refine Bl rfl rfl (.build (r:=[.val (.string (⟨#[115,104,97,50,53,54]⟩:ByteArray)),.val (.int .i64 1)]) F8 Ih Ky (by kernel_rfl) rfl) rfl rfl ?_
 refine Bl rfl rfl (.build (r:=[.val (.string (⟨#[115,104,97,51,56,52]⟩:ByteArray)),.val (.int .i64 1)]) F8 Ih Ky (by kernel_rfl) rfl) rfl rfl ?_
 refine Bl rfl rfl (.build (r:=[.val (.string (⟨#[114,115,97]⟩:ByteArray)),.val (.int .i64 2)]) F8 Ih Ky (by kernel_rfl) rfl) rfl rfl ?_
 refine Bl rfl rfl (.build (r:=[.val (.string (⟨#[100,115,97]⟩:ByteArray)),.val (.int .i64 2)]) F8 Ih Ky (by kernel_rfl) rfl) rfl rfl ?_
 refine Bl rfl rfl (.build (r:=[.val (.string (⟨#[101,99,100,115,97]⟩:ByteArray)),.val (.int .i64 2)]) F8 Ih Ky (by kernel_rfl) rfl) rfl rfl ?_
 refine Bl rfl rfl (.build (r:=[.val (.string (⟨#[101,100,50,53,53,49,57]⟩:ByteArray)),.val (.int .i64 2)]) F8 Ih Ky (by kernel_rfl) rfl) rfl rfl ?_
 refine Bl rfl rfl (.build (r:=[.val (.string (⟨#[109,108,100,115,97]⟩:ByteArray)),.val (.int .i64 2)]) F8 Ih Ky (by kernel_rfl) rfl) rfl rfl ?_
 refine Bl rfl rfl (.build (r:=[.val (.string (⟨#[114,115,97,107,120]⟩:ByteArray)),.val (.int .i64 3)]) F8 Ih Ky (by kernel_rfl) rfl) rfl rfl ?_
 refine Bl rfl rfl (.build (r:=[.val (.string (⟨#[100,104,101]⟩:ByteArray)),.val (.int .i64 3)]) F8 Ih Ky (by kernel_rfl) rfl) rfl rfl ?_
 refine Bl rfl rfl (.build (r:=[.val (.string (⟨#[101,99,100,104,101]⟩:ByteArray)),.val (.int .i64 3)]) F8 Ih Ky (by kernel_rfl) rfl) rfl rfl ?_
 refine Bl rfl rfl (.build (r:=[.val (.string (⟨#[109,108,107,101,109]⟩:ByteArray)),.val (.int .i64 3)]) F8 Ih Ky (by kernel_rfl) rfl) rfl rfl ?_
 refine Bl rfl rfl (.build (r:=[.val (.string (⟨#[114,99,52]⟩:ByteArray)),.val (.int .i64 4)]) F8 Ih Ky (by kernel_rfl) rfl) rfl rfl ?_
 refine Bl rfl rfl (.build (r:=[.val (.string (⟨#[100,101,115,51]⟩:ByteArray)),.val (.int .i64 4)]) F8 Ih Ky (by kernel_rfl) rfl) rfl rfl ?_
 refine Bl rfl rfl (.build (r:=[.val (.string (⟨#[97,101,115,99,98,99]⟩:ByteArray)),.val (.int .i64 4)]) F8 Ih Ky (by kernel_rfl) rfl) rfl rfl ?_
 refine Bl rfl rfl (.build (r:=[.val (.string (⟨#[97,101,115,103,99,109]⟩:ByteArray)),.val (.int .i64 4)]) F8 Ih Ky (by kernel_rfl) rfl) rfl rfl ?_
 refine Bl rfl rfl (.build (r:=[.val (.string (⟨#[99,104,97,99,104,97]⟩:ByteArray)),.val (.int .i64 4)]) F8 Ih Ky (by kernel_rfl) rfl) rfl rfl ?_
 refine Bl rfl rfl (.build (r:=[.val (.string (⟨#[104,109,97,99,109,100,53]⟩:ByteArray)),.val (.int .i64 5)]) F8 Ih Ky (by kernel_rfl) rfl) rfl rfl ?_
 refine Bl rfl rfl (.build (r:=[.val (.string (⟨#[104,109,97,99,115,104,97,49]⟩:ByteArray)),.val (.int .i64 5)]) F8 Ih Ky (by kernel_rfl) rfl) rfl rfl ?_
 refine Bl rfl rfl (.build (r:=[.val (.string (⟨#[104,109,97,99,115,104,97,50,53,54]⟩:ByteArray)),.val (.int .i64 5)]) F8 Ih Ky (by kernel_rfl) rfl) rfl rfl ?_
 refine Bl rfl rfl (.build (r:=[.val (.string (⟨#[97,101,97,100]⟩:ByteArray)),.val (.int .i64 5)]) F8 Ih Ky (by kernel_rfl) rfl) rfl rfl ?_
 refine Bl rfl rfl (Ao rY Ky (by decide) rfl rfl rfl rfl wZ (cs:=[.str (⟨#[]⟩:ByteArray),.int .i64 0,.str (⟨#[109,100,53]⟩:ByteArray),.int .i64 1,.str (⟨#[115,104,97,49]⟩:ByteArray),.int .i64 1,.str (⟨#[115,104,97,50,53,54]⟩:ByteArray),.int .i64 1,.str (⟨#[115,104,97,51,56,52]⟩:ByteArray),.int .i64 1,.str (⟨#[114,115,97]⟩:ByteArray),.int .i64 2,.str (⟨#[100,115,97]⟩:ByteArray),.int .i64 2,.str (⟨#[101,99,100,115,97]⟩:ByteArray),.int .i64 2,.str (⟨#[101,100,50,53,53,49,57]⟩:ByteArray),.int .i64 2,.str (⟨#[109,108,100,115,97]⟩:ByteArray),.int .i64 2,.str (⟨#[114,115,97,107,120]⟩:ByteArray),.int .i64 3,.str (⟨#[100,104,101]⟩:ByteArray),.int .i64 3,.str (⟨#[101,99,100,104,101]⟩:ByteArray),.int .i64 3,.str (⟨#[109,108,107,101,109]⟩:ByteArray),.int .i64 3,.str (⟨#[114,99,52]⟩:ByteArray),.int .i64 4,.str (⟨#[100,101,115,51]⟩:ByteArray),.int .i64 4,.str (⟨#[97,101,115,99,98,99]⟩:ByteArray),.int .i64 4,.str (⟨#[97,101,115,103,99,109]⟩:ByteArray),.int .i64 4,.str (⟨#[99,104,97,99,104,97]⟩:ByteArray),.int .i64 4,.str (⟨#[104,109,97,99,109,100,53]⟩:ByteArray),.int .i64 5,.str (⟨#[104,109,97,99,115,104,97,49]⟩:ByteArray),.int .i64 5,.str (⟨#[104,109,97,99,115,104,97,50,53,54]⟩:ByteArray),.int .i64 5,.str (⟨#[97,101,97,100]⟩:ByteArray),.int .i64 5]) (.cons .str (.cons .int (.cons .str (.cons .int (.cons .str (.cons .int (.cons .str (.cons .int (.cons .str (.cons .int (.cons .str (.cons .int (.cons .str (.cons .int (.cons .str (.cons .int (.cons .str (.cons .int (.cons .str (.cons .int (.cons .str (.cons .int (.cons .str (.cons .int (.cons .str (.cons .int (.cons .str (.cons .int (.cons .str (.cons .int (.cons .str (.cons .int (.cons .str (.cons .int (.cons .str (.cons .int (.cons .str (.cons .int (.cons .str (.cons .int (.cons .str (.cons .int (.cons .str (.cons .int (.cons .str (.cons .int .nil)))))))))))))))))))))))))))))))))))))))))))))) rfl (l:=([(Am.mk (⟨#[]⟩:ByteArray) 0),(Am.mk (⟨#[109,100,53]⟩:ByteArray) 1),(Am.mk (⟨#[115,104,97,49]⟩:ByteArray) 1),(Am.mk (⟨#[115,104,97,50,53,54]⟩:ByteArray) 1),(Am.mk (⟨#[115,104,97,51,56,52]⟩:ByteArray) 1),(Am.mk (⟨#[114,115,97]⟩:ByteArray) 2),(Am.mk (⟨#[100,115,97]⟩:ByteArray) 2),(Am.mk (⟨#[101,99,100,115,97]⟩:ByteArray) 2),(Am.mk (⟨#[101,100,50,53,53,49,57]⟩:ByteArray) 2),(Am.mk (⟨#[109,108,100,115,97]⟩:ByteArray) 2),(Am.mk (⟨#[114,115,97,107,120]⟩:ByteArray) 3),(Am.mk (⟨#[100,104,101]⟩:ByteArray) 3),(Am.mk (⟨#[101,99,100,104,101]⟩:ByteArray) 3),(Am.mk (⟨#[109,108,107,101,109]⟩:ByteArray) 3),(Am.mk (⟨#[114,99,52]⟩:ByteArray) 4),(Am.mk (⟨#[100,101,115,51]⟩:ByteArray) 4),(Am.mk (⟨#[97,101,115,99,98,99]⟩:ByteArray) 4),(Am.mk (⟨#[97,101,115,103,99,109]⟩:ByteArray) 4),(Am.mk (⟨#[99,104,97,99,104,97]⟩:ByteArray) 4),(Am.mk (⟨#[104,109,97,99,109,100,53]⟩:ByteArray) 5),(Am.mk (⟨#[104,109,97,99,115,104,97,49]⟩:ByteArray) 5),(Am.mk (⟨#[104,109,97,99,115,104,97,50,53,54]⟩:ByteArray) 5),(Am.mk (⟨#[97,101,97,100]⟩:ByteArray) 5)]:List Am)) (f:=Am.enc) rfl) rfl rfl ?_
 refine Aj ?_
 refine Af fun B=>?_
 refine A1 ?_
 obtain rfl:=oi_ D
 exact Ax [] ⟨rfl,rfl⟩
theorem Rf (alg:Int) (r:Int) (D:Eg alg=some r):Fn Tryz.prog 84 0 [vj alg] [] (fun d' b'=>d'=vj r/\b'=[]):=by
 unfold Eg at D
 refine Fn.of Tryz.func84 rfl rfl rfl fun w0 I ρ0=>?_
 show B9 _ ⟨w0,I,ρ0,0,0,14⟩ _ _ _
 refine A4 0 8 Az ?_
 refine Aj ?_
 refine Af fun B=>?_
 refine Ah ?_
 refine Bp (ι:=Bool) (fun (x8_1:Bool)=>mk [(0,vj alg),(8,.val (.bool x8_1))] [] 0) (fun (x8_1:Bool)=>Eg.j1 alg x8_1=some r) ?_ ?_
 ·refine Ad (Bb _ _ []) 8 56 B rfl rfl ?_
  refine Aj ?_
  rcases Dx D with ⟨h2,D⟩ | ⟨h2,D⟩
  ·refine Aj ?_
   refine Af fun B=>?_
   exact⟨true,D,Ay []⟩
  ·refine Aj ?_
   refine Af fun B=>?_
   exact⟨decide (22 < alg),D,Ay []⟩
 ·rintro x8_1 D
  replace D:Eg.j1 alg x8_1=some r:=D
  show B9 _ _ _ _ (mk _ _ _)
  unfold Eg.j1 at D
  refine Dg rfl D (fun h5 D=>?_) fun h5 D=>?_
  ·refine Ah ?_
   refine Ad (Bb _ _ []) 0 8 Az rfl rfl ?_
   refine Aj ?_
   refine Af fun B=>?_
   refine A1 ?_
   obtain rfl:=oi_ D
   exact Ax [] ⟨rfl,rfl⟩
  ·refine Ap ?_
   repeat first | refine Dc ?_ | refine De ?_
   refine A4 0 48 Az ?_
   obtain⟨y,hy,D⟩:=Ac D
   refine Dy (Zu _ hy) ?_
   refine Aj ?_
   obtain⟨e,he,D⟩:=Ac D
   refine Aj ?_
   refine Bl rfl rfl (kF gF jY (by decide) (L2 Am.enc_len (Aw he) (o:=1) (by decide) rfl)) rfl rfl ?_
   refine Bl rfl rfl (Bq jY (A9 Am.enc_len (Aw he) (o:=1) (c:=.int .i64 e.kind) rfl rfl)) rfl rfl ?_
   refine Aj ?_
   refine Af fun B=>?_
   refine A1 ?_
   obtain rfl:=oi_ D
   exact Ax [] ⟨rfl,rfl⟩
theorem Rc (u:A3) (r:Bool) (D:Gz u=some r):Fn Tryz.prog 82 0 [.agg [vj u.Alg,vj u.Bits]] [] (fun d' b'=>d'=.val (.bool r)/\b'=[]):=by
 unfold Gz at D
 refine Fn.of Tryz.func82 rfl rfl rfl fun w0 I ρ0=>?_
 show B9 _ ⟨w0,I,ρ0,0,0,11⟩ _ _ _
 refine A4 0 16 Az ?_
 refine Aj ?_
 refine Af fun B=>?_
 refine A4 16 88 B ?_
 refine Aj ?_
 obtain⟨y,hy,D⟩:=Ac D
 refine Dy (Qk _ _ hy) ?_
 refine Aj ?_
 rcases Dx D with ⟨h2,D⟩ | ⟨h2,D⟩
 ·refine Aj ?_
  obtain⟨y_2,hy_2,D⟩:=Ac D
  refine Dy (Rf _ _ hy_2) ?_
  refine Aj ?_
  refine Af fun B=>?_
  refine A1 ?_
  obtain rfl:=oi_ D
  exact Ax [] ⟨rfl,rfl⟩
 ·refine Aj ?_
  refine Af fun B=>?_
  refine A1 ?_
  obtain rfl:=oi_ D
  exact Ax [] ⟨rfl,rfl⟩
theorem M1 (c:Ab) (r:Int) (D:Ar c=some r):Fn Tryz.prog 38 0 [.agg (Ab.dv c)] [] (fun d' b'=>d'=vj r/\b'=[]):=by
 unfold Ar at D
 refine Fn.of Tryz.func38 rfl rfl rfl fun w0 I ρ0=>?_
 show B9 _ ⟨w0,I,ρ0,0,0,146⟩ _ _ _
 refine A4 0 16 Az ?_
 refine Aj ?_
 refine Af fun B=>?_
 refine Ah ?_
 refine Bp (ι:=Bool) (fun (x39_1:Bool)=>mk [(1,.ptr 0 0),(39,.val (.bool x39_1))] [(0,.box (Ab.dv c) 38)] 1) (fun (x39_1:Bool)=>Ar.j1 c x39_1=some r) ?_ ?_
 ·refine Ad (Bb _ _ []) 16 304 B rfl rfl ?_
  refine Aj ?_
  rcases Dx D with ⟨h2,D⟩ | ⟨h2,D⟩
  ·refine Aj ?_
   refine Af fun B=>?_
   exact⟨true,D,Ay [(0,0)]⟩
  ·refine Aj ?_
   rcases Dx D with ⟨h4,D⟩ | ⟨h4,D⟩
   ·refine Aj ?_
    refine Af fun B=>?_
    exact⟨true,D,Ay [(0,0)]⟩
   ·refine Aj ?_
    obtain⟨y,hy,D⟩:=Ac D
    refine Dy (N7 _ _ hy) ?_
    refine Aj ?_
    rcases Dx D with ⟨h6,D⟩ | ⟨h6,D⟩
    ·refine Aj ?_
     refine Af fun B=>?_
     exact⟨true,D,Ay [(0,0)]⟩
    ·refine Aj ?_
     obtain⟨y_2,hy_2,D⟩:=Ac D
     refine Dy (N7 _ _ hy_2) ?_
     refine Aj ?_
     rcases Dx D with ⟨h8,D⟩ | ⟨h8,D⟩
     ·refine Aj ?_
      refine Af fun B=>?_
      exact⟨true,D,Ay [(0,0)]⟩
     ·refine Aj ?_
      obtain⟨y_3,hy_3,D⟩:=Ac D
      refine Dy (Rc _ _ hy_3) ?_
      refine Aj ?_
      rcases Dx D with ⟨h10,D⟩ | ⟨h10,D⟩
      ·refine Aj ?_
       refine Af fun B=>?_
       exact⟨true,D,Ay [(0,0)]⟩
      ·refine Aj ?_
       rcases Dx D with ⟨h12,D⟩ | ⟨h12,D⟩
       ·refine Aj ?_
        refine Af fun B=>?_
        exact⟨true,D,Ay [(0,0)]⟩
       ·refine Aj ?_
        refine Af fun B=>?_
        exact⟨decide (2147483648 < c.KeyId),D,Ay [(0,0)]⟩
 ·rintro x39_1 D
  replace D:Ar.j1 c x39_1=some r:=D
  show B9 _ _ _ _ (mk _ _ _)
  unfold Ar.j1 at D
  refine Dg rfl D (fun h15 D=>?_) fun h15 D=>?_
  ·refine Ah ?_
   refine Ad (Bb _ _ []) 1 9 Az rfl rfl ?_
   refine Aj ?_
   refine Af fun B=>?_
   refine A1 ?_
   obtain rfl:=oi_ D
   exact Ax [] ⟨rfl,rfl⟩
  ·refine Ap ?_
   repeat first | refine Dc ?_ | refine De ?_
   refine Ah ?_
   refine Bp (ι:=Bool) (fun (x67_2:Bool)=>mk [(1,.ptr 0 0),(67,.val (.bool x67_2))] [(0,.box (Ab.dv c) 38)] 1) (fun (x67_2:Bool)=>Ar.j2 c x67_2=some r) ?_ ?_
   ·refine Ad (Bb _ _ []) 1 225 Az rfl rfl ?_
    refine Aj ?_
    obtain⟨y_4,hy_4,D⟩:=Ac D
    refine Dy (Qk _ _ hy_4) ?_
    refine Aj ?_
    rcases Dx D with ⟨h17,D⟩ | ⟨h17,D⟩
    ·refine Aj ?_
     refine Af fun B=>?_
     exact⟨true,D,Ay [(0,0)]⟩
    ·refine Aj ?_
     obtain⟨y_5,hy_5,D⟩:=Ac D
     refine Dy (Rf _ _ hy_5) ?_
     refine Aj ?_
     rcases Dx D with ⟨h19,D⟩ | ⟨h19,D⟩
     ·refine Aj ?_
      refine Af fun B=>?_
      exact⟨true,D,Ay [(0,0)]⟩
     ·refine Aj ?_
      rcases Dx D with ⟨h21,D⟩ | ⟨h21,D⟩
      ·refine Aj ?_
       refine Af fun B=>?_
       exact⟨true,D,Ay [(0,0)]⟩
      ·refine Aj ?_
       rcases Dx D with ⟨h23,D⟩ | ⟨h23,D⟩
       ·refine Aj ?_
        refine Af fun B=>?_
        exact⟨true,D,Ay [(0,0)]⟩
       ·refine Aj ?_
        refine Af fun B=>?_
        exact⟨decide (40000 < c.To),D,Ay [(0,0)]⟩
   ·rintro x67_2 D
    replace D:Ar.j2 c x67_2=some r:=D
    show B9 _ _ _ _ (mk _ _ _)
    unfold Ar.j2 at D
    refine Dg rfl D (fun h26 D=>?_) fun h26 D=>?_
    ·refine Ah ?_
     refine Ad (Bb _ _ []) 1 9 Az rfl rfl ?_
     refine Aj ?_
     refine Af fun B=>?_
     refine A1 ?_
     obtain rfl:=oi_ D
     exact Ax [] ⟨rfl,rfl⟩
    ·refine Ap ?_
     repeat first | refine Dc ?_ | refine De ?_
     refine Ah ?_
     refine Bp (ι:=Bool) (fun (x91_3:Bool)=>mk [(1,.ptr 0 0),(91,.val (.bool x91_3))] [(0,.box (Ab.dv c) 38)] 1) (fun (x91_3:Bool)=>Ar.j3 c x91_3=some r) ?_ ?_
     ·refine Ad (Bb _ _ []) 1 193 Az rfl rfl ?_
      refine Aj ?_
      rcases Dx D with ⟨h28,D⟩ | ⟨h28,D⟩
      ·refine Aj ?_
       refine Af fun B=>?_
       exact⟨true,D,Ay [(0,0)]⟩
      ·refine Aj ?_
       rcases Dx D with ⟨h30,D⟩ | ⟨h30,D⟩
       ·refine Aj ?_
        refine Af fun B=>?_
        exact⟨true,D,Ay [(0,0)]⟩
       ·refine Aj ?_
        rcases Dx D with ⟨h32,D⟩ | ⟨h32,D⟩
        ·refine Aj ?_
         rcases Dx D with ⟨h33,D⟩ | ⟨h33,D⟩
         ·refine Aj ?_
          refine Af fun B=>?_
          exact⟨true,D,Ay [(0,0)]⟩
         ·refine Aj ?_
          refine Af fun B=>?_
          exact⟨decide (8 < (c.Names.length:Int)),D,Ay [(0,0)]⟩
        ·refine Aj ?_
         refine Af fun B=>?_
         exact⟨decide (8 < (c.Names.length:Int)),D,Ay [(0,0)]⟩
     ·rintro x91_3 D
      replace D:Ar.j3 c x91_3=some r:=D
      show B9 _ _ _ _ (mk _ _ _)
      unfold Ar.j3 at D
      refine Dg rfl D (fun h37 D=>?_) fun h37 D=>?_
      ·refine Ah ?_
       refine Ad (Bb _ _ []) 1 9 Az rfl rfl ?_
       refine Aj ?_
       refine Af fun B=>?_
       refine A1 ?_
       obtain rfl:=oi_ D
       exact Ax [] ⟨rfl,rfl⟩
      ·refine Ap ?_
       repeat first | refine Dc ?_ | refine De ?_
       refine Ah ?_
       refine A4 1 9 Az ?_
       refine Aj ?_
       refine Af fun B=>?_
       refine Av ?_
       refine Nu (fun (i_4:Int)=>mk [(1,.ptr 0 0),(3,vj i_4)] [(0,.box (Ab.dv c) 38)] 1) D (Ay [(0,0)]) ?_
       rintro i_4 m4 o4 D hn4
       replace D:Ar.l4 c i_4=some o4:=D
       show B9 _ _ _ _ (mk _ _ _)
       unfold Ar.l4 at D
       refine Ah ?_
       refine A4 1 41 Az ?_
       refine Aj ?_
       refine Af fun B=>?_
       refine Dg rfl D (fun h41 D=>?_) fun h41 D=>?_
       ·refine Ap ?_
        repeat first | refine Dc ?_ | refine De ?_
        refine Ah ?_
        refine Av ?_
        refine Bp (ι:=Bool) (fun (x123_5:Bool)=>mk [(1,.ptr 0 0),(3,vj i_4),(123,.val (.bool x123_5))] [(0,.box (Ab.dv c) 38)] 1) (fun (x123_5:Bool)=>Ar.j5 i_4 x123_5=some o4) ?_ ?_
        ·refine C5 (Bb _ _ []) (by kernel_rfl) [0,1,0,7,15,31,63,127,255,511,1023,2047,4095,2047,10239,32767,65535,2047,133119,2047,919551,1968127,4194303,8388607,16777215] 41 241 B rfl rfl (by kernel_rfl) ?_
         refine Aj ?_
         obtain⟨e,he,D⟩:=Ac D
         refine Aj ?_
         refine Bl rfl rfl (Bq jX (A9 Hs (Aw he) (o:=0) (c:=.str e) rfl rfl)) rfl rfl ?_
         obtain⟨y_6,hy_6,D⟩:=Ac D
         refine Dy (N7 _ _ hy_6) ?_
         refine Aj ?_
         rcases Dx D with ⟨h42,D⟩ | ⟨h42,D⟩
         ·refine Aj ?_
          refine Af fun B=>?_
          exact⟨true,D,Ay [(0,0)]⟩
         ·refine Aj ?_
          rcases Dx D with ⟨h44,D⟩ | ⟨h44,D⟩
          ·refine Aj ?_
           obtain⟨e_2,he_2,D⟩:=Ac D
           refine Aj ?_
           refine Bl (Ef rfl rfl h44) rfl (Bq jX (A9 Hs (Aw he_2) (o:=0) (c:=.str e_2) rfl rfl)) rfl rfl ?_
           refine Aj ?_
           refine Bl (Ef rfl rfl h44) rfl (Bq jX (A9 Hs (Aw he) (o:=0) (c:=.str e) rfl rfl)) rfl rfl ?_
           refine Bl (Ef rfl rfl h44) rfl mW rfl rfl ?_
           refine Aj ?_
           refine Af fun B=>?_
           exact⟨!kJ (Ln e_2) (Ln e),D,Ay [(0,0)]⟩
          ·refine Aj ?_
           refine Af fun B=>?_
           exact⟨false,D,Ay [(0,0)]⟩
        ·rintro x123_5 D
         replace D:Ar.j5 i_4 x123_5=some o4:=D
         show B9 _ _ _ _ (mk _ _ _)
         unfold Ar.j5 at D
         refine Dg rfl D (fun h47 D=>?_) fun h47 D=>?_
         ·refine Ah ?_
          refine Ad (Bb _ _ []) 1 9 Az rfl rfl ?_
          refine Aj ?_
          refine Af fun B=>?_
          refine A1 ?_
          replace D:=Dr D hn4
          obtain rfl:=oi_ D
          exact Ax [] ⟨rfl,rfl⟩
         ·refine Ap ?_
          repeat first | refine Dc ?_ | refine De ?_
          refine Ad (Bb _ _ []) 1 25 Az rfl rfl ?_
          refine Aj ?_
          refine Af fun B=>?_
          obtain rfl:=oi_ D
          exact⟨(W (i_4 + 1),m4),Nat.lt_succ_self _,hn4,Ay [(0,0)]⟩
       ·refine Cm ?_
        repeat first | refine Dc ?_ | refine De ?_
        replace D:=Dr D hn4
        refine Ah ?_
        refine Bp (ι:=Bool) (fun (x145_6:Bool)=>mk [(145,.val (.bool x145_6))] [] 0) (fun (x145_6:Bool)=>Ar.j6 x145_6=some r) ?_ ?_
        ·refine Ad (Bb _ _ []) 41 217 B rfl rfl ?_
         refine Aj ?_
         rcases Dx D with ⟨h50,D⟩ | ⟨h50,D⟩
         ·refine Aj ?_
          refine Af fun B=>?_
          exact⟨true,D,Ay []⟩
         ·refine Aj ?_
          rcases Dx D with ⟨h52,D⟩ | ⟨h52,D⟩
          ·refine Aj ?_
           refine Af fun B=>?_
           exact⟨true,D,Ay []⟩
          ·refine Aj ?_
           rcases Dx D with ⟨h54,D⟩ | ⟨h54,D⟩
           ·refine Aj ?_
            refine Af fun B=>?_
            exact⟨true,D,Ay []⟩
           ·refine Aj ?_
            refine Af fun B=>?_
            exact⟨decide (4294967296<=c.Seal.Sum),D,Ay []⟩
        ·rintro x145_6 D
         replace D:Ar.j6 x145_6=some r:=D
         show B9 _ _ _ _ (mk _ _ _)
         unfold Ar.j6 at D
         refine Dg rfl D (fun h57 D=>?_) fun h57 D=>?_
         ·refine Ah ?_
          refine Ad (Bb _ _ []) 0 8 Az rfl rfl ?_
          refine Aj ?_
          refine Af fun B=>?_
          refine A1 ?_
          obtain rfl:=oi_ D
          exact Ax [] ⟨rfl,rfl⟩
         ·refine Ap ?_
          repeat first | refine Dc ?_ | refine De ?_
          refine A4 0 8 Az ?_
          refine Aj ?_
          refine Af fun B=>?_
          refine A1 ?_
          obtain rfl:=oi_ D
          exact Ax [] ⟨rfl,rfl⟩
end Go.Proofs.YtlfeokjhphpjeaaGreat
