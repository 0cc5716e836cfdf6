import Derived.Test.YtlfeokjhphpjeaaGreatT1
import Derived.Test.YtlfeokjhphpjeaaGreatA1
import Derived.Test.YtlfeokjhphpjeaaGreatA2
import Derived.Test.YtlfeokjhphpjeaaGreatA3
set_option linter.unusedVariables false
set_option linter.unusedSimpArgs false
set_option maxRecDepth 100000
set_option maxHeartbeats 1600000
namespace Go.Proofs.YtlfeokjhphpjeaaGreat
open Go.RowKit
theorem Ls (r':Ai) (r:(List ByteArray)×Ai) (D:A7 r'=some r):Fn Tryz.prog 67 1 [.ptr 0 0] [.box [.sl 4 (Al Aa.enc r'.l),.val (.bool r'.Failed)] 94] (fun d' b'=>d'=.sl 1 (Al eS r.1)/\b'=[.box [.sl 4 (Al Aa.enc r.2.l),.val (.bool r.2.Failed)] 94]):=by
 unfold A7 at D
 refine Fn.of Tryz.func67 rfl rfl rfl fun w0 I ρ0=>?_
 show B9 _ ⟨w0,I,ρ0,1,1,37⟩ _ _ _
 refine A4 1 9 Az ?_
 refine Aj ?_
 refine Af fun B=>?_
 refine A4 9 17 B ?_
 refine Aj ?_
 refine Af fun B=>?_
 refine Ah ?_
 refine A4 17 49 B ?_
 refine Aj ?_
 obtain⟨y,hy,D⟩:=Ac D
 refine F3 [0] [0] [] false (Mn _ _ hy) ?_
 refine Aj ?_
 refine Af fun B=>?_
 refine Av ?_
 refine Nu (fun ((x11_1,r_1,out_1):Int×Bool×List ByteArray)=>mk [(0,.ptr 0 0),(3,.row 1),(9,.sl 4 (Al Aa.enc y.1)),(10,.val (.int .i64 (y.1.length:Int))),(11,vj x11_1)] [(0,.box [.sl 4 (Al Aa.enc y.2.l),.val (.bool r_1)] 94),(1,.row 9 1 (Al eS out_1))] 2) D (Ay [(0,0)]) ?_
 rintro⟨x11_1,r_1,out_1⟩ m1 o1 D hn1
 replace D:A7.l1 y x11_1 r_1 out_1=some o1:=D
 show B9 _ _ _ _ (mk _ _ _)
 unfold A7.l1 at D
 refine A4 2 10 Az ?_
 refine Aj ?_
 refine Af fun B=>?_
 refine Ah ?_
 refine Dg rfl D (fun h5 D=>?_) fun h5 D=>?_
 ·refine Ap ?_
  repeat first | refine Dc ?_ | refine De ?_
  refine Ah ?_
  refine Av ?_
  refine A4 10 42 B ?_
  obtain⟨e,he,D⟩:=Ac D
  refine Aj ?_
  refine Bl rfl rfl (G1 Nt (Fp Aa.enc_len (Aw he) (o:=0) (m:=4) (cs:=[.int .i64 e.Tag,.sl 1 (Al e8 e.Bytes),.bool e.Nested,.sl 4 (Al Aa.enc e.Elements)]) (by simp only [Aa.enc_eq]; rfl) (by decide) rfl) (Di Aa.enc_len (Aw he) (o:=0) (m:=4) (by decide) rfl)) rfl rfl ?_
  refine Aj ?_
  refine Af fun B=>?_
  refine A4 42 98 B ?_
  refine Aj ?_
  obtain⟨y_2,hy_2,D⟩:=Ac D
  refine Dy (Q9 _ _ hy_2) ?_
  refine Aj ?_
  refine Af fun B=>?_
  refine Bp (ι:=Bool) (fun (r_2:Bool)=>mk [(0,.ptr 0 0),(3,.row 1),(6,vk y_2.1),(9,.sl 4 (Al Aa.enc y.1)),(10,.val (.int .i64 (y.1.length:Int))),(11,vj x11_1)] [(0,.box [.sl 4 (Al Aa.enc y.2.l),.val (.bool r_2)] 94),(1,.row 9 1 (Al eS out_1))] 2) (fun (r_2:Bool)=>A7.j2 x11_1 out_1 y_2 r_2=some o1) ?_ ?_
  ·refine Ad (Bb _ _ []) 98 194 B rfl rfl ?_
   refine Aj ?_
   rcases Dx D with ⟨h8,D⟩ | ⟨h8,D⟩
   ·refine Aj ?_
    refine Af fun B=>?_
    exact⟨true,D,Ay [(0,0),(1,1)]⟩
   ·refine Aj ?_
    refine Af fun B=>?_
    exact⟨!decide (y_2.2=0),D,Ay [(0,0),(1,1)]⟩
  ·rintro r_2 D
   replace D:A7.j2 x11_1 out_1 y_2 r_2=some o1:=D
   show B9 _ _ _ _ (mk _ _ _)
   unfold A7.j2 at D
   refine Ad (Bb _ _ []) 2 42 Az rfl rfl ?_
   refine Aj ?_
   refine Bl rfl rfl (Ao Mz z9 (by decide) rfl rfl rfl rfl dL (cs:=[.str y_2.1]) (.cons .str .nil) rfl (l:=([y_2.1]:List ByteArray)) (f:=eS) rfl) rfl rfl ?_
   obtain⟨l,hl,D⟩:=Ac D
   refine Fe (rd:=[1,18]) rfl rfl (Dj Mz Hs .row rfl .row rfl hl rfl) rfl rfl ?_
   refine Aj ?_
   refine Af fun B=>?_
   refine Ad (Bb _ _ []) 42 58 B rfl rfl ?_
   refine Aj ?_
   refine Af fun B=>?_
   obtain rfl:=oi_ D
   exact⟨((W (x11_1 + 1),r_2,l),m1),Nat.lt_succ_self _,hn1,Ay [(0,0),(1,26)]⟩
 ·refine Cm ?_
  repeat first | refine Dc ?_ | refine De ?_
  replace D:=Dr D hn1
  refine A4 10 26 B ?_
  refine Aj ?_
  refine Af fun B=>?_
  refine A1 ?_
  obtain rfl:=oi_ D
  exact Ax [(0,0)] ⟨rfl,rfl⟩
theorem N6 (c0:Ai) (c1:Ab) (r:Ai×Ab) (D:Ga c0 c1=some r):Fn Tryz.prog 66 3 [.ptr 0 0,.ptr 2 0] [.box [.ptr 1 0] 85,.box [.sl 4 (Al Aa.enc c0.l),.val (.bool c0.Failed)] 94,.box (Ab.dv c1) 38] (fun d' b'=>d'=.tup []/\b'=[.box [.ptr 1 0] 85,.box [.sl 4 (Al Aa.enc r.1.l),.val (.bool r.1.Failed)] 94,.box (Ab.dv r.2) 38]):=by
 unfold Ga at D
 refine Fn.of Tryz.func66 rfl rfl rfl fun w0 I ρ0=>?_
 show B9 _ ⟨w0,I,ρ0,3,3,5⟩ _ _ _
 refine Ad (Bb _ _ []) 3 35 Az rfl rfl ?_
 refine Aj ?_
 obtain⟨y,hy,D⟩:=Ac D
 refine F3 [1] [1] [] false (Ls _ _ hy) ?_
 refine Aj ?_
 refine Af fun B=>?_
 obtain rfl:=oi_ D
 exact Ax [(0,0),(1,1),(2,2)] ⟨rfl,rfl⟩
theorem Nr (c0:Ai) (c1:Ab) (r:Ai×Ab) (D:F7 c0 c1=some r):Fn Tryz.prog 68 3 [.ptr 0 0,.ptr 2 0] [.box [.ptr 1 0] 85,.box [.sl 4 (Al Aa.enc c0.l),.val (.bool c0.Failed)] 94,.box (Ab.dv c1) 38] (fun d' b'=>d'=.tup []/\b'=[.box [.ptr 1 0] 85,.box [.sl 4 (Al Aa.enc r.1.l),.val (.bool r.1.Failed)] 94,.box (Ab.dv r.2) 38]):=by
 unfold F7 at D
 refine Fn.of Tryz.func68 rfl rfl rfl fun w0 I ρ0=>?_
 show B9 _ ⟨w0,I,ρ0,3,3,8⟩ _ _ _
 refine C5 (Bb _ _ []) (by kernel_rfl) [0,1,0,7,15,31,63] 3 59 Az rfl rfl (by kernel_rfl) ?_
 refine Aj ?_
 obtain⟨y,hy,D⟩:=Ac D
 refine F3 [1] [1] [] false (C7 _ _ hy) ?_
 refine Aj ?_
 obtain⟨y_2,hy_2,D⟩:=Ac D
 refine F3 [1] [1] [] false (C7 _ _ hy_2) ?_
 refine Bl rfl rfl (.build (r:=[vj y.1,vj y_2.1]) Qh cW pF (by kernel_rfl) rfl) rfl rfl ?_
 refine Aj ?_
 refine Af fun B=>?_
 obtain rfl:=oi_ D
 exact Ax [(0,0),(1,1),(2,2)] ⟨rfl,rfl⟩
theorem P8 (v:Aa) (r:Ab×Bool) (D:Cc v=some r):Fn Tryz.prog 34 0 [.agg (Aa.dv v)] [] (fun d' b'=>d'=.tup [.agg (Ab.dv r.1),.val (.bool r.2)]/\b'=[]):=by
 unfold Cc at D
 refine Fn.of Tryz.func34 rfl rfl rfl fun w0 I ρ0=>?_
 show B9 _ ⟨w0,I,ρ0,0,0,51⟩ _ _ _
 refine A4 0 24 Az ?_
 refine Aj ?_
 refine Af fun B=>?_
 refine A4 24 32 B ?_
 refine Aj ?_
 refine Af fun B=>?_
 refine A4 32 56 B ?_
 refine Aj ?_
 obtain⟨y,hy,D⟩:=Ac D
 refine Eh (rd:=[]) (ps:=[]) (gs:=[]) false rfl (Hp _ _ _ hy) rfl rfl (.cons (.agg (.cons .val (.cons .sl (.cons .val (.cons .sl .nil))))) (.cons .val .nil)) rfl rfl (by intro h; cases h) rfl (by intro h; first | (cases h; done) | exact⟨_,_,⟨rfl,rfl⟩,by simp,by simp⟩) ?_
 rintro _ _ ⟨rfl,rfl⟩
 refine Aj ?_
 refine Af fun B=>?_
 refine A4 56 136 B ?_
 refine Aj ?_
 obtain⟨y_2,hy_2,D⟩:=Ac D
 refine F3 [40] [40] [] false (Dk _ _ hy_2) ?_
 obtain⟨y_3,hy_3,D⟩:=Ac D
 refine Eh (rd:=[]) (ps:=[]) (gs:=[]) false rfl (Hp _ _ _ hy_3) rfl rfl (.cons (.agg (.cons .val (.cons .sl (.cons .val (.cons .sl .nil))))) (.cons .val .nil)) rfl rfl (by intro h; cases h) rfl (by intro h; first | (cases h; done) | exact⟨_,_,⟨rfl,rfl⟩,by simp,by simp⟩) ?_
 rintro _ _ ⟨rfl,rfl⟩
 refine Aj ?_
 obtain⟨y_4,hy_4,D⟩:=Ac D
 refine F3 [40] [40] [] false (Dk _ _ hy_4) ?_
 obtain⟨y_5,hy_5,D⟩:=Ac D
 refine Eh (rd:=[]) (ps:=[]) (gs:=[]) false rfl (Hp _ _ _ hy_5) rfl rfl (.cons (.agg (.cons .val (.cons .sl (.cons .val (.cons .sl .nil))))) (.cons .val .nil)) rfl rfl (by intro h; cases h) rfl (by intro h; first | (cases h; done) | exact⟨_,_,⟨rfl,rfl⟩,by simp,by simp⟩) ?_
 rintro _ _ ⟨rfl,rfl⟩
 refine Aj ?_
 refine Af fun B=>?_
 refine Ah ?_
 refine A4 136 216 B ?_
 refine Aj ?_
 refine Bl rfl rfl (.buildArr (sz:=1) (r:=[.clo 56 0 [.ptr 104 0,.ptr 24 0],.clo 58 0 [.ptr 104 0,.ptr 24 0],.clo 60 0 [.ptr 104 0,.ptr 24 0],.clo 62 0 [.ptr 104 0,.ptr 24 0],.clo 63 0 [.ptr 104 0,.ptr 24 0],.clo 64 0 [.ptr 104 0,.ptr 24 0],.clo 66 0 [.ptr 104 0,.ptr 24 0],.clo 68 0 [.ptr 112 0,.ptr 24 0]]) Ra (by kernel_rfl) z92 (by kernel_rfl) rfl) rfl rfl ?_
 refine Aj ?_
 refine Af fun B=>?_
 refine Av ?_
 refine dN 10 ?_
 refine Z5 ?_
 refine A4 216 224 B ?_
 refine Aj ?_
 refine Af fun B=>?_
 refine Ah ?_
 refine I7 rfl (fun h=>?_) (fun h=>?_)
 ·refine Ap ?_
  repeat first | refine Dc ?_ | refine De ?_
  refine Ah ?_
  refine Av ?_
  refine A4 224 240 B ?_
  refine Bl rfl rfl (.indexA (j:=0) Ra pW rfl rfl rfl) rfl rfl ?_
  refine Aj ?_
  refine Af fun B=>?_
  refine Ad (Bb _ _ []) 240 256 B rfl rfl ?_
  refine Aj ?_
  obtain⟨y_6,hy_6,D⟩:=Ac D
  refine Jw (rd:=[104,24,72]) (ps:=[104,72,24]) (gs:=[]) false rfl rfl (Nq _ _ _ hy_6) rfl rfl (.cons (.ptr rfl) (.cons (.ptr rfl) .nil)) ⟨_,_,_,rfl,.head _,⟨_,rfl,(by repeat' (first | exact G7.nil | apply G7.cons | exact Ag.val | exact Ag.sl | exact Ag.nils | exact Ag.ptr rfl | exact Ag.rowK rfl))⟩,⟨_,_,_,rfl,.tail _ (.tail _ (.head _)),⟨_,rfl,(by repeat' (first | exact G7.nil | apply G7.cons | exact Ag.val | exact Ag.sl | exact Ag.nils | exact Ag.ptr rfl | exact Ag.rowK rfl))⟩,⟨_,_,_,rfl,.tail _ (.head _),⟨_,rfl,(by repeat' (first | exact G7.nil | apply G7.cons | exact Ag.val | exact Ag.sl | exact Ag.nils | exact Ag.ptr rfl | exact Ag.rowK rfl))⟩,rfl⟩⟩⟩ rfl (by intro h; cases h) rfl (by intro h; first | (cases h; done) | exact⟨_,_,⟨rfl,rfl⟩,by simp,by simp⟩) ?_
  rintro _ _ ⟨rfl,rfl⟩
  refine Af fun B=>?_
  refine Ad (Bb _ _ []) 256 272 B rfl rfl ?_
  refine Bl rfl rfl (O7 (z:=1) (by decide)) rfl rfl ?_
  refine Aj ?_
  refine Af fun B=>?_
  refine Z5 ?_
  refine A4 272 280 B ?_
  refine Aj ?_
  refine Af fun B=>?_
  refine Ah ?_
  refine I7 rfl (fun h=>?_) (fun h=>?_)
  ·refine Ap ?_
   repeat first | refine Dc ?_ | refine De ?_
   refine Ah ?_
   refine Av ?_
   refine A4 280 296 B ?_
   refine Bl rfl rfl (.indexA (j:=1) Ra pW rfl rfl rfl) rfl rfl ?_
   refine Aj ?_
   refine Af fun B=>?_
   refine Ad (Bb _ _ []) 296 312 B rfl rfl ?_
   refine Aj ?_
   obtain⟨y_7,hy_7,D⟩:=Ac D
   refine Jw (rd:=[104,24,72]) (ps:=[104,72,24]) (gs:=[]) false rfl rfl (Oa _ _ _ hy_7) rfl rfl (.cons (.ptr rfl) (.cons (.ptr rfl) .nil)) ⟨_,_,_,rfl,.head _,⟨_,rfl,(by repeat' (first | exact G7.nil | apply G7.cons | exact Ag.val | exact Ag.sl | exact Ag.nils | exact Ag.ptr rfl | exact Ag.rowK rfl))⟩,⟨_,_,_,rfl,.tail _ (.tail _ (.head _)),⟨_,rfl,(by repeat' (first | exact G7.nil | apply G7.cons | exact Ag.val | exact Ag.sl | exact Ag.nils | exact Ag.ptr rfl | exact Ag.rowK rfl))⟩,⟨_,_,_,rfl,.tail _ (.head _),⟨_,rfl,(by repeat' (first | exact G7.nil | apply G7.cons | exact Ag.val | exact Ag.sl | exact Ag.nils | exact Ag.ptr rfl | exact Ag.rowK rfl))⟩,rfl⟩⟩⟩ rfl (by intro h; cases h) rfl (by intro h; first | (cases h; done) | exact⟨_,_,⟨rfl,rfl⟩,by simp,by simp⟩) ?_
   rintro _ _ ⟨rfl,rfl⟩
   refine Af fun B=>?_
   refine Ad (Bb _ _ []) 312 328 B rfl rfl ?_
   refine Bl rfl rfl (O7 (z:=2) (by decide)) rfl rfl ?_
   refine Aj ?_
   refine Af fun B=>?_
   refine Z5 ?_
   refine A4 328 336 B ?_
   refine Aj ?_
   refine Af fun B=>?_
   refine Ah ?_
   refine I7 rfl (fun h=>?_) (fun h=>?_)
   ·refine Ap ?_
    repeat first | refine Dc ?_ | refine De ?_
    refine Ah ?_
    refine Av ?_
    refine A4 336 352 B ?_
    refine Bl rfl rfl (.indexA (j:=2) Ra pW rfl rfl rfl) rfl rfl ?_
    refine Aj ?_
    refine Af fun B=>?_
    refine Ad (Bb _ _ []) 352 368 B rfl rfl ?_
    refine Aj ?_
    obtain⟨y_8,hy_8,D⟩:=Ac D
    refine Jw (rd:=[104,24,72]) (ps:=[104,72,24]) (gs:=[]) false rfl rfl (N1 _ _ _ hy_8) rfl rfl (.cons (.ptr rfl) (.cons (.ptr rfl) .nil)) ⟨_,_,_,rfl,.head _,⟨_,rfl,(by repeat' (first | exact G7.nil | apply G7.cons | exact Ag.val | exact Ag.sl | exact Ag.nils | exact Ag.ptr rfl | exact Ag.rowK rfl))⟩,⟨_,_,_,rfl,.tail _ (.tail _ (.head _)),⟨_,rfl,(by repeat' (first | exact G7.nil | apply G7.cons | exact Ag.val | exact Ag.sl | exact Ag.nils | exact Ag.ptr rfl | exact Ag.rowK rfl))⟩,⟨_,_,_,rfl,.tail _ (.head _),⟨_,rfl,(by repeat' (first | exact G7.nil | apply G7.cons | exact Ag.val | exact Ag.sl | exact Ag.nils | exact Ag.ptr rfl | exact Ag.rowK rfl))⟩,rfl⟩⟩⟩ rfl (by intro h; cases h) rfl (by intro h; first | (cases h; done) | exact⟨_,_,⟨rfl,rfl⟩,by simp,by simp⟩) ?_
    rintro _ _ ⟨rfl,rfl⟩
    refine Af fun B=>?_
    refine Ad (Bb _ _ []) 368 384 B rfl rfl ?_
    refine Bl rfl rfl (O7 (z:=3) (by decide)) rfl rfl ?_
    refine Aj ?_
    refine Af fun B=>?_
    refine Z5 ?_
    refine A4 384 392 B ?_
    refine Aj ?_
    refine Af fun B=>?_
    refine Ah ?_
    refine I7 rfl (fun h=>?_) (fun h=>?_)
    ·refine Ap ?_
     repeat first | refine Dc ?_ | refine De ?_
     refine Ah ?_
     refine Av ?_
     refine A4 392 408 B ?_
     refine Bl rfl rfl (.indexA (j:=3) Ra pW rfl rfl rfl) rfl rfl ?_
     refine Aj ?_
     refine Af fun B=>?_
     refine Ad (Bb _ _ []) 408 424 B rfl rfl ?_
     refine Aj ?_
     obtain⟨y_9,hy_9,D⟩:=Ac D
     refine Jw (rd:=[104,24,72]) (ps:=[104,72,24]) (gs:=[]) false rfl rfl (N3 _ _ _ hy_9) rfl rfl (.cons (.ptr rfl) (.cons (.ptr rfl) .nil)) ⟨_,_,_,rfl,.head _,⟨_,rfl,(by repeat' (first | exact G7.nil | apply G7.cons | exact Ag.val | exact Ag.sl | exact Ag.nils | exact Ag.ptr rfl | exact Ag.rowK rfl))⟩,⟨_,_,_,rfl,.tail _ (.tail _ (.head _)),⟨_,rfl,(by repeat' (first | exact G7.nil | apply G7.cons | exact Ag.val | exact Ag.sl | exact Ag.nils | exact Ag.ptr rfl | exact Ag.rowK rfl))⟩,⟨_,_,_,rfl,.tail _ (.head _),⟨_,rfl,(by repeat' (first | exact G7.nil | apply G7.cons | exact Ag.val | exact Ag.sl | exact Ag.nils | exact Ag.ptr rfl | exact Ag.rowK rfl))⟩,rfl⟩⟩⟩ rfl (by intro h; cases h) rfl (by intro h; first | (cases h; done) | exact⟨_,_,⟨rfl,rfl⟩,by simp,by simp⟩) ?_
     rintro _ _ ⟨rfl,rfl⟩
     refine Af fun B=>?_
     refine Ad (Bb _ _ []) 424 440 B rfl rfl ?_
     refine Bl rfl rfl (O7 (z:=4) (by decide)) rfl rfl ?_
     refine Aj ?_
     refine Af fun B=>?_
     refine Z5 ?_
     refine A4 440 448 B ?_
     refine Aj ?_
     refine Af fun B=>?_
     refine Ah ?_
     refine I7 rfl (fun h=>?_) (fun h=>?_)
     ·refine Ap ?_
      repeat first | refine Dc ?_ | refine De ?_
      refine Ah ?_
      refine Av ?_
      refine A4 448 464 B ?_
      refine Bl rfl rfl (.indexA (j:=4) Ra pW rfl rfl rfl) rfl rfl ?_
      refine Aj ?_
      refine Af fun B=>?_
      refine Ad (Bb _ _ []) 464 480 B rfl rfl ?_
      refine Aj ?_
      obtain⟨y_10,hy_10,D⟩:=Ac D
      refine Jw (rd:=[104,24,72]) (ps:=[104,72,24]) (gs:=[]) false rfl rfl (N8 _ _ _ hy_10) rfl rfl (.cons (.ptr rfl) (.cons (.ptr rfl) .nil)) ⟨_,_,_,rfl,.head _,⟨_,rfl,(by repeat' (first | exact G7.nil | apply G7.cons | exact Ag.val | exact Ag.sl | exact Ag.nils | exact Ag.ptr rfl | exact Ag.rowK rfl))⟩,⟨_,_,_,rfl,.tail _ (.tail _ (.head _)),⟨_,rfl,(by repeat' (first | exact G7.nil | apply G7.cons | exact Ag.val | exact Ag.sl | exact Ag.nils | exact Ag.ptr rfl | exact Ag.rowK rfl))⟩,⟨_,_,_,rfl,.tail _ (.head _),⟨_,rfl,(by repeat' (first | exact G7.nil | apply G7.cons | exact Ag.val | exact Ag.sl | exact Ag.nils | exact Ag.ptr rfl | exact Ag.rowK rfl))⟩,rfl⟩⟩⟩ rfl (by intro h; cases h) rfl (by intro h; first | (cases h; done) | exact⟨_,_,⟨rfl,rfl⟩,by simp,by simp⟩) ?_
      rintro _ _ ⟨rfl,rfl⟩
      refine Af fun B=>?_
      refine Ad (Bb _ _ []) 480 496 B rfl rfl ?_
      refine Bl rfl rfl (O7 (z:=5) (by decide)) rfl rfl ?_
      refine Aj ?_
      refine Af fun B=>?_
      refine Z5 ?_
      refine A4 496 504 B ?_
      refine Aj ?_
      refine Af fun B=>?_
      refine Ah ?_
      refine I7 rfl (fun h=>?_) (fun h=>?_)
      ·refine Ap ?_
       repeat first | refine Dc ?_ | refine De ?_
       refine Ah ?_
       refine Av ?_
       refine A4 504 520 B ?_
       refine Bl rfl rfl (.indexA (j:=5) Ra pW rfl rfl rfl) rfl rfl ?_
       refine Aj ?_
       refine Af fun B=>?_
       refine Ad (Bb _ _ []) 520 536 B rfl rfl ?_
       refine Aj ?_
       obtain⟨y_11,hy_11,D⟩:=Ac D
       refine Jw (rd:=[104,24,72]) (ps:=[104,72,24]) (gs:=[]) false rfl rfl (Od _ _ _ hy_11) rfl rfl (.cons (.ptr rfl) (.cons (.ptr rfl) .nil)) ⟨_,_,_,rfl,.head _,⟨_,rfl,(by repeat' (first | exact G7.nil | apply G7.cons | exact Ag.val | exact Ag.sl | exact Ag.nils | exact Ag.ptr rfl | exact Ag.rowK rfl))⟩,⟨_,_,_,rfl,.tail _ (.tail _ (.head _)),⟨_,rfl,(by repeat' (first | exact G7.nil | apply G7.cons | exact Ag.val | exact Ag.sl | exact Ag.nils | exact Ag.ptr rfl | exact Ag.rowK rfl))⟩,⟨_,_,_,rfl,.tail _ (.head _),⟨_,rfl,(by repeat' (first | exact G7.nil | apply G7.cons | exact Ag.val | exact Ag.sl | exact Ag.nils | exact Ag.ptr rfl | exact Ag.rowK rfl))⟩,rfl⟩⟩⟩ rfl (by intro h; cases h) rfl (by intro h; first | (cases h; done) | exact⟨_,_,⟨rfl,rfl⟩,by simp,by simp⟩) ?_
       rintro _ _ ⟨rfl,rfl⟩
       refine Af fun B=>?_
       refine Ad (Bb _ _ []) 536 552 B rfl rfl ?_
       refine Bl rfl rfl (O7 (z:=6) (by decide)) rfl rfl ?_
       refine Aj ?_
       refine Af fun B=>?_
       refine Z5 ?_
       refine A4 552 560 B ?_
       refine Aj ?_
       refine Af fun B=>?_
       refine Ah ?_
       refine I7 rfl (fun h=>?_) (fun h=>?_)
       ·refine Ap ?_
        repeat first | refine Dc ?_ | refine De ?_
        refine Ah ?_
        refine Av ?_
        refine A4 560 576 B ?_
        refine Bl rfl rfl (.indexA (j:=6) Ra pW rfl rfl rfl) rfl rfl ?_
        refine Aj ?_
        refine Af fun B=>?_
        refine Ad (Bb _ _ []) 576 592 B rfl rfl ?_
        refine Aj ?_
        obtain⟨y_12,hy_12,D⟩:=Ac D
        refine Jw (rd:=[104,24,72]) (ps:=[104,72,24]) (gs:=[]) false rfl rfl (N6 _ _ _ hy_12) rfl rfl (.cons (.ptr rfl) (.cons (.ptr rfl) .nil)) ⟨_,_,_,rfl,.head _,⟨_,rfl,(by repeat' (first | exact G7.nil | apply G7.cons | exact Ag.val | exact Ag.sl | exact Ag.nils | exact Ag.ptr rfl | exact Ag.rowK rfl))⟩,⟨_,_,_,rfl,.tail _ (.tail _ (.head _)),⟨_,rfl,(by repeat' (first | exact G7.nil | apply G7.cons | exact Ag.val | exact Ag.sl | exact Ag.nils | exact Ag.ptr rfl | exact Ag.rowK rfl))⟩,⟨_,_,_,rfl,.tail _ (.head _),⟨_,rfl,(by repeat' (first | exact G7.nil | apply G7.cons | exact Ag.val | exact Ag.sl | exact Ag.nils | exact Ag.ptr rfl | exact Ag.rowK rfl))⟩,rfl⟩⟩⟩ rfl (by intro h; cases h) rfl (by intro h; first | (cases h; done) | exact⟨_,_,⟨rfl,rfl⟩,by simp,by simp⟩) ?_
        rintro _ _ ⟨rfl,rfl⟩
        refine Af fun B=>?_
        refine Ad (Bb _ _ []) 592 608 B rfl rfl ?_
        refine Bl rfl rfl (O7 (z:=7) (by decide)) rfl rfl ?_
        refine Aj ?_
        refine Af fun B=>?_
        refine Z5 ?_
        refine A4 608 616 B ?_
        refine Aj ?_
        refine Af fun B=>?_
        refine Ah ?_
        refine I7 rfl (fun h=>?_) (fun h=>?_)
        ·refine Ap ?_
         repeat first | refine Dc ?_ | refine De ?_
         refine Ah ?_
         refine Av ?_
         refine A4 616 632 B ?_
         refine Bl rfl rfl (.indexA (j:=7) Ra pW rfl rfl rfl) rfl rfl ?_
         refine Aj ?_
         refine Af fun B=>?_
         refine Ad (Bb _ _ []) 632 648 B rfl rfl ?_
         refine Aj ?_
         obtain⟨y_13,hy_13,D⟩:=Ac D
         refine Jw (rd:=[112,24,96]) (ps:=[112,96,24]) (gs:=[]) false rfl rfl (Nr _ _ _ hy_13) rfl rfl (.cons (.ptr rfl) (.cons (.ptr rfl) .nil)) ⟨_,_,_,rfl,.head _,⟨_,rfl,(by repeat' (first | exact G7.nil | apply G7.cons | exact Ag.val | exact Ag.sl | exact Ag.nils | exact Ag.ptr rfl | exact Ag.rowK rfl))⟩,⟨_,_,_,rfl,.tail _ (.tail _ (.head _)),⟨_,rfl,(by repeat' (first | exact G7.nil | apply G7.cons | exact Ag.val | exact Ag.sl | exact Ag.nils | exact Ag.ptr rfl | exact Ag.rowK rfl))⟩,⟨_,_,_,rfl,.tail _ (.head _),⟨_,rfl,(by repeat' (first | exact G7.nil | apply G7.cons | exact Ag.val | exact Ag.sl | exact Ag.nils | exact Ag.ptr rfl | exact Ag.rowK rfl))⟩,rfl⟩⟩⟩ rfl (by intro h; cases h) rfl (by intro h; first | (cases h; done) | exact⟨_,_,⟨rfl,rfl⟩,by simp,by simp⟩) ?_
         rintro _ _ ⟨rfl,rfl⟩
         refine Af fun B=>?_
         refine Ad (Bb _ _ []) 648 664 B rfl rfl ?_
         refine Bl rfl rfl (O7 (z:=8) (by decide)) rfl rfl ?_
         refine Aj ?_
         refine Af fun B=>?_
         refine Z5 ?_
         refine A4 664 672 B ?_
         refine Aj ?_
         refine Af fun B=>?_
         refine Ah ?_
         refine I7 rfl (fun h=>?_) (fun h=>?_)
         ·exact absurd h (by first | decide | exact fun h=>nomatch (show false=true from h) | exact fun h=>nomatch (show true=false from h))
         ·refine Cm ?_
          repeat first | refine Dc ?_ | refine De ?_
          refine Ah ?_
          refine Bp (ι:=Bool) (fun (x48_1:Bool)=>mk [(2,.ptr 0 0),(4,.ptr 1 0),(48,.val (.bool x48_1))] [(0,.box [.val (.int .i64 0),.val (.string (⟨#[]⟩:ByteArray)),.val (.string (⟨#[]⟩:ByteArray)),.val (.int .i64 0),.val (.int .i64 0),.val (.int .i64 0),.val (.int .i64 0),.val (.int .i64 0),.val (.int .i64 0),.val (.int .i64 0),.val (.bool false),.val (.int .i64 0),.val (.slice none 0 0),.val (.int .i64 0),.val (.int .i64 0)] 38),(1,.box (Ab.dv y_13.2) 38)] 2) (fun (x48_1:Bool)=>Cc.j1 y_13 x48_1=some r) ?_ ?_
          ·refine Ad (Bb _ _ []) 672 800 B rfl rfl ?_
           refine Aj ?_
           rcases Dx D with ⟨h39,D⟩ | ⟨h39,D⟩
           ·refine Aj ?_
            refine Af fun B=>?_
            exact⟨true,D,Ay [(0,8),(1,24)]⟩
           ·refine Aj ?_
            rcases Dx D with ⟨h41,D⟩ | ⟨h41,D⟩
            ·refine Aj ?_
             refine Af fun B=>?_
             exact⟨true,D,Ay [(0,8),(1,24)]⟩
            ·refine Aj ?_
             refine Af fun B=>?_
             exact⟨y_13.1.Failed,D,Ay [(0,8),(1,24)]⟩
          ·rintro x48_1 D
           replace D:Cc.j1 y_13 x48_1=some r:=D
           show B9 _ _ _ _ (mk _ _ _)
           unfold Cc.j1 at D
           refine Dg rfl D (fun h44 D=>?_) fun h44 D=>?_
           ·refine Ah ?_
            refine Ad (Bb _ _ []) 2 26 Az rfl rfl ?_
            refine Bl rfl rfl (.build (r:=[.val (.int .i64 0),.val (.string (⟨#[]⟩:ByteArray)),.val (.string (⟨#[]⟩:ByteArray)),.val (.int .i64 0),.val (.int .i64 0),.val (.int .i64 0),.val (.int .i64 0),.val (.int .i64 0),.val (.int .i64 0),.val (.int .i64 0),.val (.bool false),.val (.int .i64 0),.val (.slice none 0 0),.val (.int .i64 0),.val (.int .i64 0)]) H4 Ui iN (by kernel_rfl) rfl) rfl rfl ?_
            refine Aj ?_
            refine Af fun B=>?_
            refine A1 ?_
            obtain rfl:=oi_ D
            exact Ax [] ⟨rfl,rfl⟩
           ·refine Ap ?_
            repeat first | refine Dc ?_ | refine De ?_
            refine A4 2 26 Az ?_
            refine Aj ?_
            refine Af fun B=>?_
            refine A1 ?_
            obtain rfl:=oi_ D
            exact Ax [] ⟨rfl,rfl⟩
        ·exact absurd h (by first | decide | exact fun h=>nomatch (show false=true from h) | exact fun h=>nomatch (show true=false from h))
       ·exact absurd h (by first | decide | exact fun h=>nomatch (show false=true from h) | exact fun h=>nomatch (show true=false from h))
      ·exact absurd h (by first | decide | exact fun h=>nomatch (show false=true from h) | exact fun h=>nomatch (show true=false from h))
     ·exact absurd h (by first | decide | exact fun h=>nomatch (show false=true from h) | exact fun h=>nomatch (show true=false from h))
    ·exact absurd h (by first | decide | exact fun h=>nomatch (show false=true from h) | exact fun h=>nomatch (show true=false from h))
   ·exact absurd h (by first | decide | exact fun h=>nomatch (show false=true from h) | exact fun h=>nomatch (show true=false from h))
  ·exact absurd h (by first | decide | exact fun h=>nomatch (show false=true from h) | exact fun h=>nomatch (show true=false from h))
 ·exact absurd h (by first | decide | exact fun h=>nomatch (show false=true from h) | exact fun h=>nomatch (show true=false from h))
theorem Kq (b:(List UInt8)) (r:Ab×Int) (D:E2 b=some r):Fn Tryz.prog 16 0 [.sl 1 (Al e8 b)] [] (fun d' b'=>d'=.tup [.agg (Ab.dv r.1),vj r.2]/\b'=[]):=by
 unfold E2 at D
 refine Fn.of Tryz.func16 rfl rfl rfl fun w0 I ρ0=>?_
 show B9 _ ⟨w0,I,ρ0,0,0,32⟩ _ _ _
 refine A4 0 16 Az ?_
 refine Aj ?_
 refine Af fun B=>?_
 refine A4 16 80 B ?_
 refine Aj ?_
 obtain⟨y,hy,D⟩:=Ac D
 refine Dy (Zn _ _ hy) ?_
 refine Aj ?_
 refine Af fun B=>?_
 refine Ah ?_
 refine A4 80 96 B ?_
 refine Aj ?_
 refine Af fun B=>?_
 refine Dg rfl D (fun h4 D=>?_) fun h4 D=>?_
 ·refine Ah ?_
  refine Ad (Bb _ _ []) 96 128 B rfl rfl ?_
  refine Bl rfl rfl (.build (r:=[.val (.int .i64 0),.val (.string (⟨#[]⟩:ByteArray)),.val (.string (⟨#[]⟩:ByteArray)),.val (.int .i64 0),.val (.int .i64 0),.val (.int .i64 0),.val (.int .i64 0),.val (.int .i64 0),.val (.int .i64 0),.val (.int .i64 0),.val (.bool false),.val (.int .i64 0),.val (.slice none 0 0),.val (.int .i64 0),.val (.int .i64 0)]) H4 Ui iN (by kernel_rfl) rfl) rfl rfl ?_
  refine Aj ?_
  refine Af fun B=>?_
  refine A1 ?_
  obtain rfl:=oi_ D
  exact Ax [] ⟨rfl,rfl⟩
 ·refine Ap ?_
  repeat first | refine Dc ?_ | refine De ?_
  refine A4 96 160 B ?_
  refine Aj ?_
  obtain⟨y_2,hy_2,D⟩:=Ac D
  refine Dy (P8 _ _ hy_2) ?_
  refine Aj ?_
  refine Af fun B=>?_
  refine Ah ?_
  refine Av ?_
  refine A4 160 184 B ?_
  refine Aj ?_
  refine Af fun B=>?_
  refine Dg rfl D (fun h8 D=>?_) fun h8 D=>?_
  ·refine Ah ?_
   refine Ad (Bb _ _ []) 184 208 B rfl rfl ?_
   refine Bl rfl rfl (.build (r:=[.val (.int .i64 0),.val (.string (⟨#[]⟩:ByteArray)),.val (.string (⟨#[]⟩:ByteArray)),.val (.int .i64 0),.val (.int .i64 0),.val (.int .i64 0),.val (.int .i64 0),.val (.int .i64 0),.val (.int .i64 0),.val (.int .i64 0),.val (.bool false),.val (.int .i64 0),.val (.slice none 0 0),.val (.int .i64 0),.val (.int .i64 0)]) H4 Ui iN (by kernel_rfl) rfl) rfl rfl ?_
   refine Aj ?_
   refine Af fun B=>?_
   refine A1 ?_
   obtain rfl:=oi_ D
   exact Ax [] ⟨rfl,rfl⟩
  ·refine Ah ?_
   refine Ad (Bb _ _ []) 184 216 B rfl rfl ?_
   refine Aj ?_
   obtain⟨y_3,hy_3,D⟩:=Ac D
   refine Dy (I1 _ _ hy_3) ?_
   refine Aj ?_
   refine Af fun B=>?_
   refine Dg rfl D (fun h11 D=>?_) fun h11 D=>?_
   ·refine Ah ?_
    refine Ad (Bb _ _ []) 216 240 B rfl rfl ?_
    refine Bl rfl rfl (.build (r:=[.val (.int .i64 0),.val (.string (⟨#[]⟩:ByteArray)),.val (.string (⟨#[]⟩:ByteArray)),.val (.int .i64 0),.val (.int .i64 0),.val (.int .i64 0),.val (.int .i64 0),.val (.int .i64 0),.val (.int .i64 0),.val (.int .i64 0),.val (.bool false),.val (.int .i64 0),.val (.slice none 0 0),.val (.int .i64 0),.val (.int .i64 0)]) H4 Ui iN (by kernel_rfl) rfl) rfl rfl ?_
    refine Aj ?_
    refine Af fun B=>?_
    refine A1 ?_
    obtain rfl:=oi_ D
    exact Ax [] ⟨rfl,rfl⟩
   ·refine Ap ?_
    repeat first | refine Dc ?_ | refine De ?_
    refine A4 216 240 B ?_
    refine Aj ?_
    refine Af fun B=>?_
    refine A1 ?_
    obtain rfl:=oi_ D
    exact Ax [] ⟨rfl,rfl⟩
theorem Ks (c:Ab) (key:Int) (r:Bool) (D:E0 c key=some r):Fn Tryz.prog 21 0 [.agg (Ab.dv c),vj key] [] (fun d' b'=>d'=.val (.bool r)/\b'=[]):=by
 unfold E0 at D
 refine Fn.of Tryz.func21 rfl rfl rfl fun w0 I ρ0=>?_
 show B9 _ ⟨w0,I,ρ0,0,0,23⟩ _ _ _
 refine A4 0 16 Az ?_
 refine Aj ?_
 refine Af fun B=>?_
 refine A4 16 72 B ?_
 refine Aj ?_
 obtain⟨y,hy,D⟩:=Ac D
 refine Dy (K5 _ _ hy) ?_
 refine Aj ?_
 refine Af fun B=>?_
 refine Ah ?_
 refine C5 (Bb _ _ []) (by kernel_rfl) [0,1,3,7,15,7,7,71,231,511,1023,2047] 72 168 B rfl rfl (by kernel_rfl) ?_
 refine Aj ?_
 rcases Dx D with ⟨h3,D⟩ | ⟨h3,D⟩
 ·refine Aj ?_
  obtain⟨y_2,hy_2,D⟩:=Ac D
  refine Dy (Ju _ _ hy_2) ?_
  refine Bl (Ef rfl rfl h3) rfl (.build (r:=[vj key,vj y_2]) Qh cW pF (by kernel_rfl) rfl) rfl rfl ?_
  refine Bl (Ef rfl rfl h3) rfl (Qp c.Seal (Bv.mk key y_2)) rfl rfl ?_
  refine Aj ?_
  refine Af fun B=>?_
  refine A1 ?_
  obtain rfl:=oi_ D
  exact Ax [] ⟨rfl,rfl⟩
 ·refine Aj ?_
  refine Af fun B=>?_
  refine A1 ?_
  obtain rfl:=oi_ D
  exact Ax [] ⟨rfl,rfl⟩
theorem Oz (s1:(List ByteArray)) (s2:(List ByteArray)) (r:Bool) (D:C0 s1 s2=some r):Fn Tryz.prog 45 0 [.sl 1 (Al eS s1),.sl 1 (Al eS s2)] [] (fun d' b'=>d'=.val (.bool r)/\b'=[]):=by
 unfold C0 at D
 refine Fn.of Tryz.func45 rfl rfl rfl fun w0 I ρ0=>?_
 show B9 _ ⟨w0,I,ρ0,0,0,26⟩ _ _ _
 refine A4 0 8 Az ?_
 refine Aj ?_
 refine Af fun B=>?_
 refine Ah ?_
 refine A4 8 48 B ?_
 refine Aj ?_
 refine Af fun B=>?_
 refine Dg rfl D (fun h3 D=>?_) fun h3 D=>?_
 ·refine Ah ?_
  refine Ad (Bb _ _ []) 48 56 B rfl rfl ?_
  refine Aj ?_
  refine Af fun B=>?_
  refine A1 ?_
  obtain rfl:=oi_ D
  exact Ax [] ⟨rfl,rfl⟩
 ·refine Ap ?_
  repeat first | refine Dc ?_ | refine De ?_
  refine Ah ?_
  refine A4 48 72 B ?_
  refine Aj ?_
  refine Af fun B=>?_
  refine Av ?_
  refine Nu (fun (x13_1:Int)=>mk [(0,.sl 1 (Al eS s1)),(1,.sl 1 (Al eS s2)),(12,.val (.int .i64 (s1.length:Int))),(13,vj x13_1)] [] 0) D (Ay []) ?_
  rintro x13_1 m1 o1 D hn1
  replace D:C0.l1 s1 s2 x13_1=some o1:=D
  show B9 _ _ _ _ (mk _ _ _)
  unfold C0.l1 at D
  refine A4 0 8 Az ?_
  refine Aj ?_
  refine Af fun B=>?_
  refine Ah ?_
  refine Dg rfl D (fun h7 D=>?_) fun h7 D=>?_
  ·refine Ap ?_
   repeat first | refine Dc ?_ | refine De ?_
   refine Ah ?_
   refine Av ?_
   refine A4 8 24 B ?_
   refine Aj ?_
   refine Af fun B=>?_
   refine Ah ?_
   refine C5 (Bb _ _ []) (by kernel_rfl) [0,0,3,7,0,0,48,112,255] 24 96 B rfl rfl (by kernel_rfl) ?_
   refine Aj ?_
   obtain⟨e,he,D⟩:=Ac D
   refine Aj ?_
   refine Bl rfl rfl (Bq jX (A9 Hs (Aw he) (o:=0) (c:=.str e) rfl rfl)) rfl rfl ?_
   refine Aj ?_
   obtain⟨e_2,he_2,D⟩:=Ac D
   refine Aj ?_
   refine Bl rfl rfl (Bq jX (A9 Hs (Aw he_2) (o:=0) (c:=.str e_2) rfl rfl)) rfl rfl ?_
   refine Aj ?_
   refine Af fun B=>?_
   refine Dg rfl D (fun h10 D=>?_) fun h10 D=>?_
   ·refine Ah ?_
    refine Ad (Bb _ _ []) 96 104 B rfl rfl ?_
    refine Aj ?_
    refine Af fun B=>?_
    refine A1 ?_
    replace D:=Dr D hn1
    obtain rfl:=oi_ D
    exact Ax [] ⟨rfl,rfl⟩
   ·refine Ap ?_
    repeat first | refine Dc ?_ | refine De ?_
    refine Ad (Bb _ _ []) 96 112 B rfl rfl ?_
    refine Aj ?_
    refine Af fun B=>?_
    obtain rfl:=oi_ D
    exact⟨(W (x13_1 + 1),m1),Nat.lt_succ_self _,hn1,Ay []⟩
  ·refine Cm ?_
   repeat first | refine Dc ?_ | refine De ?_
   replace D:=Dr D hn1
   refine A4 8 16 B ?_
   refine Aj ?_
   refine Af fun B=>?_
   refine A1 ?_
   obtain rfl:=oi_ D
   exact Ax [] ⟨rfl,rfl⟩
theorem Qq (a:Ab) (b:Ab) (r:Bool) (D:Bh a b=some r):Fn Tryz.prog 22 0 [.agg (Ab.dv a),.agg (Ab.dv b)] [] (fun d' b'=>d'=.val (.bool r)/\b'=[]):=by
 unfold Bh at D
 refine Fn.of Tryz.func22 rfl rfl rfl fun w0 I ρ0=>?_
 show B9 _ ⟨w0,I,ρ0,0,0,91⟩ _ _ _
 refine A4 0 24 Az ?_
 refine Aj ?_
 refine Af fun B=>?_
 refine Bp (ι:=Bool) (fun (named_1:Bool)=>mk [(2,.ptr 0 0),(3,.ptr 1 0),(5,.val (.bool named_1))] [(0,.box (Ab.dv a) 38),(1,.box (Ab.dv b) 38)] 2) (fun (named_1:Bool)=>Bh.j1 a b named_1=some r) ?_ ?_
 ·refine Ad (Bb _ _ []) 24 240 B rfl rfl ?_
  refine Aj ?_
  rcases Dx D with ⟨h2,D⟩ | ⟨h2,D⟩
  ·refine Aj ?_
   rcases Dx D with ⟨h3,D⟩ | ⟨h3,D⟩
   ·refine Aj ?_
    rcases Dx D with ⟨h4,D⟩ | ⟨h4,D⟩
    ·refine Aj ?_
     obtain⟨y,hy,D⟩:=Ac D
     refine Dy (Oz _ _ _ hy) ?_
     refine Aj ?_
     refine Af fun B=>?_
     exact⟨y,D,Ay [(0,0),(1,8)]⟩
    ·refine Aj ?_
     refine Af fun B=>?_
     exact⟨false,D,Ay [(0,0),(1,8)]⟩
   ·refine Aj ?_
    refine Af fun B=>?_
    exact⟨false,D,Ay [(0,0),(1,8)]⟩
  ·refine Aj ?_
   refine Af fun B=>?_
   exact⟨false,D,Ay [(0,0),(1,8)]⟩
 ·rintro named_1 D
  replace D:Bh.j1 a b named_1=some r:=D
  show B9 _ _ _ _ (mk _ _ _)
  unfold Bh.j1 at D
  refine Bp (ι:=Bool) (fun (keys_2:Bool)=>mk [(2,.ptr 0 0),(3,.ptr 1 0),(5,.val (.bool named_1)),(6,.val (.bool keys_2))] [(0,.box (Ab.dv a) 38),(1,.box (Ab.dv b) 38)] 2) (fun (keys_2:Bool)=>Bh.j2 a b named_1 keys_2=some r) ?_ ?_
  ·refine Ad (Bb _ _ []) 2 218 Az rfl rfl ?_
   refine Aj ?_
   refine Bl rfl rfl (N2 a.Key b.Key) rfl rfl ?_
   refine Aj ?_
   rcases Dx D with ⟨h9,D⟩ | ⟨h9,D⟩
   ·refine Aj ?_
    rcases Dx D with ⟨h10,D⟩ | ⟨h10,D⟩
    ·refine Aj ?_
     refine Bl (Ef rfl rfl h10) rfl (N2 a.Hash b.Hash) rfl rfl ?_
     refine Aj ?_
     rcases Dx D with ⟨h11,D⟩ | ⟨h11,D⟩
     ·refine Aj ?_
      refine Bl (Ef rfl rfl h11) rfl (Qp a.Seal b.Seal) rfl rfl ?_
      refine Aj ?_
      refine Af fun B=>?_
      exact⟨decide (a.Seal=b.Seal),D,Ay [(0,0),(1,1)]⟩
     ·refine Aj ?_
      refine Af fun B=>?_
      exact⟨false,D,Ay [(0,0),(1,1)]⟩
    ·refine Aj ?_
     refine Af fun B=>?_
     exact⟨false,D,Ay [(0,0),(1,1)]⟩
   ·refine Aj ?_
    refine Af fun B=>?_
    exact⟨false,D,Ay [(0,0),(1,1)]⟩
  ·rintro keys_2 D
   replace D:Bh.j2 a b named_1 keys_2=some r:=D
   show B9 _ _ _ _ (mk _ _ _)
   unfold Bh.j2 at D
   refine A4 2 266 Az ?_
   refine Aj ?_
   rcases Dx D with ⟨h16,D⟩ | ⟨h16,D⟩
   ·refine Aj ?_
    rcases Dx D with ⟨h17,D⟩ | ⟨h17,D⟩
    ·refine Aj ?_
     rcases Dx D with ⟨h18,D⟩ | ⟨h18,D⟩
     ·refine Aj ?_
      rcases Dx D with ⟨h19,D⟩ | ⟨h19,D⟩
      ·refine Aj ?_
       refine Bl (Ef rfl rfl h19) rfl (lP rM) rfl rfl ?_
       refine Aj ?_
       rcases Dx D with ⟨h20,D⟩ | ⟨h20,D⟩
       ·refine Aj ?_
        refine Af fun B=>?_
        refine A1 ?_
        obtain rfl:=oi_ D
        exact Ax [] ⟨rfl,rfl⟩
       ·refine Aj ?_
        refine Af fun B=>?_
        refine A1 ?_
        obtain rfl:=oi_ D
        exact Ax [] ⟨rfl,rfl⟩
      ·refine Aj ?_
       refine Af fun B=>?_
       refine A1 ?_
       obtain rfl:=oi_ D
       exact Ax [] ⟨rfl,rfl⟩
     ·refine Aj ?_
      refine Af fun B=>?_
      refine A1 ?_
      obtain rfl:=oi_ D
      exact Ax [] ⟨rfl,rfl⟩
    ·refine Aj ?_
     refine Af fun B=>?_
     refine A1 ?_
     obtain rfl:=oi_ D
     exact Ax [] ⟨rfl,rfl⟩
   ·refine Aj ?_
    refine Af fun B=>?_
    refine A1 ?_
    obtain rfl:=oi_ D
    exact Ax [] ⟨rfl,rfl⟩
theorem Qi  (r:Bool) (D:G5=some r):Fn Tryz.prog 5 0 [] [] (fun d' b'=>d'=.val (.bool r)/\b'=[]):=by
 unfold G5 at D
 refine Fn.of Tryz.func5 rfl rfl rfl fun w0 I ρ0=>?_
 show B9 _ ⟨w0,I,ρ0,0,0,56⟩ _ _ _
 refine A4 0 8 Az ?_
 refine Aj ?_
 refine Af fun B=>?_
 refine A4 8 56 B ?_
 refine Bl rfl rfl (.build (r:=[.val (.int .i64 5),.val (.int .i64 2048)]) Qg bE rL (by kernel_rfl) rfl) rfl rfl ?_
 refine Bl rfl rfl (.build (r:=[.val (.int .i64 3),.val (.int .i64 0)]) Qg bE rL (by kernel_rfl) rfl) rfl rfl ?_
 refine Bl rfl rfl (Ao Mz z9 (by decide) rfl rfl rfl rfl dL (cs:=[.str (⟨#[119,101,98]⟩:ByteArray)]) (.cons .str .nil) rfl (l:=([(⟨#[119,101,98]⟩:ByteArray)]:List ByteArray)) (f:=eS) rfl) rfl rfl ?_
 refine Bl rfl rfl (.build (r:=[.val (.int .i64 0),.val (.string (⟨#[99,97]⟩:ByteArray)),.val (.string (⟨#[119,101,98]⟩:ByteArray)),.val (.int .i64 5),.val (.int .i64 2048),.val (.int .i64 7),.val (.int .i64 3),.val (.int .i64 0),.val (.int .i64 0),.val (.int .i64 9),.val (.bool false),.val (.int .i64 0),.row 24,.val (.int .i64 0),.val (.int .i64 0)]) H4 Ui iN (by kernel_rfl) rfl) rfl rfl ?_
 refine Aj ?_
 refine Af fun B=>?_
 refine Ah ?_
 refine Je (σ':=mk [(1,.ptr 0 0)] [(0,.box [.val (.int .i64 0),.val (.string (⟨#[99,97]⟩:ByteArray)),.val (.string (⟨#[119,101,98]⟩:ByteArray)),.val (.int .i64 5),.val (.int .i64 2048),.val (.int .i64 7),.val (.int .i64 3),.val (.int .i64 0),.val (.int .i64 0),.val (.int .i64 9),.val (.bool false),.val (.int .i64 0),.sl 1 (Al eS ([(⟨#[119,101,98]⟩:ByteArray)]:List ByteArray)),.val (.int .i64 0),.val (.int .i64 0)] 38)] 1) (Ay [(0,40)]) ?_
 refine Ad (Bb _ _ []) 1 65 Az rfl rfl ?_
 refine Aj ?_
 obtain⟨y,hy,D⟩:=Ac D
 refine Dy (Q6 _ _ _ hy) ?_
 refine Aj ?_
 refine Af fun B=>?_
 refine A4 65 121 B ?_
 refine Aj ?_
 obtain⟨y_2,hy_2,D⟩:=Ac D
 refine Dy (O0 _ _ hy_2) ?_
 refine Aj ?_
 refine Af fun B=>?_
 refine A4 121 185 B ?_
 refine Aj ?_
 obtain⟨y_3,hy_3,D⟩:=Ac D
 refine Dy (Kq _ _ hy_3) ?_
 refine Aj ?_
 refine Af fun B=>?_
 refine A4 185 425 B ?_
 refine Aj ?_
 rcases Dx D with ⟨h6,D⟩ | ⟨h6,D⟩
 ·refine Aj ?_
  rcases Dx D with ⟨h7,D⟩ | ⟨h7,D⟩
  ·refine Aj ?_
   rcases Dx D with ⟨h8,D⟩ | ⟨h8,D⟩
   ·refine Aj ?_
    obtain⟨y_4,hy_4,D⟩:=Ac D
    refine Dy (Ks _ _ _ hy_4) ?_
    refine Aj ?_
    rcases Dx D with ⟨h9,D⟩ | ⟨h9,D⟩
    ·refine Aj ?_
     obtain⟨y_5,hy_5,D⟩:=Ac D
     refine Dy (Ks _ _ _ hy_5) ?_
     refine Aj ?_
     rcases Dx D with ⟨h10,D⟩ | ⟨h10,D⟩
     ·refine Aj ?_
      obtain⟨y_6,hy_6,D⟩:=Ac D
      refine Dy (Qq _ _ _ hy_6) ?_
      refine Aj ?_
      rcases Dx D with ⟨h11,D⟩ | ⟨h11,D⟩
      ·refine Bl (Ef rfl rfl h11) rfl (Ao F5 z5 (by decide) rfl rfl rfl rfl Xn (cs:=[.int .u8 97]) (.cons .int .nil) rfl (l:=([(97:UInt8)]:List UInt8)) (f:=e8) rfl) rfl rfl ?_
       obtain⟨y_7,hy_7,D⟩:=Ac D
       refine F3 [385] [] [] true (Ju _ _ hy_7) ?_
       refine Aj ?_
       refine Af fun B=>?_
       refine A1 ?_
       obtain rfl:=oi_ D
       exact Ax [] ⟨rfl,rfl⟩
      ·refine Aj ?_
       refine Af fun B=>?_
       refine A1 ?_
       obtain rfl:=oi_ D
       exact Ax [] ⟨rfl,rfl⟩
     ·refine Aj ?_
      refine Af fun B=>?_
      refine A1 ?_
      obtain rfl:=oi_ D
      exact Ax [] ⟨rfl,rfl⟩
    ·refine Aj ?_
     refine Af fun B=>?_
     refine A1 ?_
     obtain rfl:=oi_ D
     exact Ax [] ⟨rfl,rfl⟩
   ·refine Aj ?_
    refine Af fun B=>?_
    refine A1 ?_
    obtain rfl:=oi_ D
    exact Ax [] ⟨rfl,rfl⟩
  ·refine Aj ?_
   refine Af fun B=>?_
   refine A1 ?_
   obtain rfl:=oi_ D
   exact Ax [] ⟨rfl,rfl⟩
 ·refine Aj ?_
  refine Af fun B=>?_
  refine A1 ?_
  obtain rfl:=oi_ D
  exact Ax [] ⟨rfl,rfl⟩
theorem bC (l:(List Int)) (r:Ak) (D:Mu l=some r):Fn Tryz.prog 6 0 [.sl 1 (Al eI l)] [] (fun d' b'=>d'=.ptr 0 0/\b'=[.box [.sl 1 (Al eI r.L),vj r.At] 59]):=by
 unfold Mu at D
 refine Fn.of Tryz.func6 rfl rfl rfl fun w0 I ρ0=>?_
 show B9 _ ⟨w0,I,ρ0,0,0,6⟩ _ _ _
 refine A4 0 8 Az ?_
 refine Aj ?_
 refine Af fun B=>?_
 refine A4 8 40 B ?_
 refine Aj ?_
 refine Bl rfl rfl (.build (r:=[.sl 1 (Al eI l),.val (.int .i64 0)]) nL aAa z59 (by kernel_rfl) rfl) rfl rfl ?_
 refine Aj ?_
 refine Af fun B=>?_
 refine A1 ?_
 obtain rfl:=oi_ D
 exact Ax [(0,24)] ⟨rfl,rfl⟩
theorem dU (n:Int) (k:Int) (r:Int) (D:L1 n k=some r):Fn Tryz.prog 28 0 [vj n,vj k] [] (fun d' b'=>d'=vj r/\b'=[]):=by
 unfold L1 at D
 refine Fn.of Tryz.func28 rfl rfl rfl fun w0 I ρ0=>?_
 show B9 _ ⟨w0,I,ρ0,0,0,14⟩ _ _ _
 refine A4 0 8 Az ?_
 refine Aj ?_
 refine Af fun B=>?_
 refine Ah ?_
 refine A4 8 24 B ?_
 refine Aj ?_
 refine Af fun B=>?_
 refine Dg rfl D (fun h3 D=>?_) fun h3 D=>?_
 ·refine Ah ?_
  refine Ad (Bb _ _ []) 24 32 B rfl rfl ?_
  refine Aj ?_
  refine Af fun B=>?_
  refine A1 ?_
  obtain rfl:=oi_ D
  exact Ax [] ⟨rfl,rfl⟩
 ·refine Ap ?_
  repeat first | refine Dc ?_ | refine De ?_
  refine A4 24 88 B ?_
  refine Aj ?_
  obtain⟨q,hq,D⟩:=Ac D
  refine Bl rfl rfl (Y0 hq) rfl rfl ?_
  refine Aj ?_
  obtain⟨q_2,hq_2,D⟩:=Ac D
  refine Bl rfl rfl (Y0 hq_2) rfl rfl ?_
  refine Aj ?_
  refine Af fun B=>?_
  refine A1 ?_
  obtain rfl:=oi_ D
  exact Ax [] ⟨rfl,rfl⟩
theorem Dm (d:Ak) (n:Int) (r:Int×Ak) (D:Cs d n=some r):Fn Tryz.prog 9 1 [.ptr 0 0,vj n] [.box [.sl 1 (Al eI d.L),vj d.At] 59] (fun d' b'=>d'=vj r.1/\b'=[.box [.sl 1 (Al eI r.2.L),vj r.2.At] 59]):=by
 unfold Cs at D
 refine Fn.of Tryz.func9 rfl rfl rfl fun w0 I ρ0=>?_
 show B9 _ ⟨w0,I,ρ0,1,1,35⟩ _ _ _
 refine A4 1 9 Az ?_
 refine Aj ?_
 refine Af fun B=>?_
 refine Ah ?_
 refine Ah ?_
 refine C5 (Bb _ _ []) (by kernel_rfl) [0,1,3,7,0,16,48,112,240,511] 9 89 B rfl rfl (by kernel_rfl) ?_
 refine Aj ?_
 refine Af fun B=>?_
 refine Dg rfl D (fun h3 D=>?_) fun h3 D=>?_
 ·refine Ah ?_
  refine Ad (Bb _ _ []) 89 97 B rfl rfl ?_
  refine Aj ?_
  refine Af fun B=>?_
  refine A1 ?_
  obtain rfl:=oi_ D
  exact Ax [(0,0)] ⟨rfl,rfl⟩
 ·refine Ap ?_
  repeat first | refine Dc ?_ | refine De ?_
  refine A4 89 153 B ?_
  refine Aj ?_
  refine Af fun B=>?_
  refine Ah ?_
  refine C5 (Bb _ _ []) (by kernel_rfl) [0,1,3,7,0,16,48,112,240,511,1023,0,4095,8191] 153 265 B rfl rfl (by kernel_rfl) ?_
  refine Aj ?_
  obtain⟨e,he,D⟩:=Ac D
  refine Aj ?_
  refine Bl rfl rfl (Bq jY (A9 M2 (Aw he) (o:=0) (c:=.int .i64 e) rfl rfl)) rfl rfl ?_
  refine Aj ?_
  obtain⟨y,hy,D⟩:=Ac D
  refine Dy (dU _ _ _ hy) ?_
  refine Aj ?_
  refine Af fun B=>?_
  refine A1 ?_
  obtain rfl:=oi_ D
  exact Ax [(0,0)] ⟨rfl,rfl⟩
theorem Hm (d:Ak) (l:(List ByteArray)) (r:ByteArray×Ak) (D:En d l=some r):Fn Tryz.prog 12 1 [.ptr 0 0,.sl 1 (Al eS l)] [.box [.sl 1 (Al eI d.L),vj d.At] 59] (fun d' b'=>d'=vk r.1/\b'=[.box [.sl 1 (Al eI r.2.L),vj r.2.At] 59]):=by
 unfold En at D
 refine Fn.of Tryz.func12 rfl rfl rfl fun w0 I ρ0=>?_
 show B9 _ ⟨w0,I,ρ0,1,1,12⟩ _ _ _
 refine A4 1 9 Az ?_
 refine Aj ?_
 refine Af fun B=>?_
 refine A4 9 73 B ?_
 refine Aj ?_
 obtain⟨y,hy,D⟩:=Ac D
 refine F3 [0] [0] [] false (Dm _ _ _ hy) ?_
 obtain⟨e,he,D⟩:=Ac D
 refine Aj ?_
 refine Bl rfl rfl (Bq jX (A9 Hs (Aw he) (o:=0) (c:=.str e) rfl rfl)) rfl rfl ?_
 refine Aj ?_
 refine Af fun B=>?_
 refine A1 ?_
 obtain rfl:=oi_ D
 exact Ax [(0,0)] ⟨rfl,rfl⟩
theorem B3 (d:Ak) (l:(List Int)) (r:Int×Ak) (D:Bo d l=some r):Fn Tryz.prog 13 1 [.ptr 0 0,.sl 1 (Al eI l)] [.box [.sl 1 (Al eI d.L),vj d.At] 59] (fun d' b'=>d'=vj r.1/\b'=[.box [.sl 1 (Al eI r.2.L),vj r.2.At] 59]):=by
 unfold Bo at D
 refine Fn.of Tryz.func13 rfl rfl rfl fun w0 I ρ0=>?_
 show B9 _ ⟨w0,I,ρ0,1,1,12⟩ _ _ _
 refine A4 1 9 Az ?_
 refine Aj ?_
 refine Af fun B=>?_
 refine A4 9 73 B ?_
 refine Aj ?_
 obtain⟨y,hy,D⟩:=Ac D
 refine F3 [0] [0] [] false (Dm _ _ _ hy) ?_
 obtain⟨e,he,D⟩:=Ac D
 refine Aj ?_
 refine Bl rfl rfl (Bq jY (A9 M2 (Aw he) (o:=0) (c:=.int .i64 e) rfl rfl)) rfl rfl ?_
 refine Aj ?_
 refine Af fun B=>?_
 refine A1 ?_
 obtain rfl:=oi_ D
 exact Ax [(0,0)] ⟨rfl,rfl⟩
end Go.Proofs.YtlfeokjhphpjeaaGreat
