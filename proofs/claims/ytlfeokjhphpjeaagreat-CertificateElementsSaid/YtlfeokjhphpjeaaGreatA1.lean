import Derived.Test.YtlfeokjhphpjeaaGreatT1
set_option linter.unusedVariables false
set_option linter.unusedSimpArgs false
set_option maxRecDepth 100000
set_option maxHeartbeats 1600000
namespace Go.Proofs.YtlfeokjhphpjeaaGreat
open Go.RowKit
theorem Zi (l:(List Int)) (r:Bool) (D:Lh l=some r):Fn Tryz.prog 4 0 [.sl 1 (Al eI l)] [] (fun d' b'=>d'=.val (.bool r)/\b'=[]):=by
 unfold Lh at D
 refine Fn.of Tryz.func4 rfl rfl rfl fun w0 I ρ0=>?_
 show B9 _ ⟨w0,I,ρ0,0,0,6⟩ _ _ _
 refine A4 0 8 Az ?_
 refine Aj ?_
 refine Af fun B=>?_
 refine A4 8 40 B ?_
 refine Aj ?_
 refine Af fun B=>?_
 refine A1 ?_
 obtain rfl:=oi_ D
 exact Ax [] ⟨rfl,rfl⟩
theorem Oy (s:(List ByteArray)) (r:(List ByteArray)) (D:Cl s=some r):Fn Tryz.prog 40 0 [.sl 1 (Al eS s)] [] (fun d' b'=>d'=.sl 1 (Al eS r)/\b'=[]):=by
 unfold Cl at D
 refine Fn.of Tryz.func40 rfl rfl rfl fun w0 I ρ0=>?_
 show B9 _ ⟨w0,I,ρ0,0,0,8⟩ _ _ _
 refine A4 0 8 Az ?_
 refine Aj ?_
 refine Af fun B=>?_
 refine Ah ?_
 refine Bp (ι:=Bool) (fun (x4_1:Bool)=>mk [(0,.sl 1 (Al eS s)),(4,.val (.bool x4_1))] [] 0) (fun (x4_1:Bool)=>Cl.j1 s x4_1=some r) ?_ ?_
 ·refine Ad (Bb _ _ []) 8 24 B rfl rfl ?_
  refine Aj ?_
  refine gG rfl rfl ⟨_,yN⟩ rfl ?_
  intro bz hz2
  rcases bz with _ | _
  ·replace D:=nR D
   refine Af fun B=>?_
   exact⟨false,D,Ay []⟩
  ·replace D:=mG ((Wk Hs (by decide) (hz2 rfl))) D
   refine Af fun B=>?_
   exact⟨true,D,Ay []⟩
 ·rintro x4_1 D
  replace D:Cl.j1 s x4_1=some r:=D
  show B9 _ _ _ _ (mk _ _ _)
  unfold Cl.j1 at D
  refine Dg rfl D (fun h5 D=>?_) fun h5 D=>?_
  ·refine Ah ?_
   refine Ad (Bb _ _ []) 0 8 Az rfl rfl ?_
   refine Aj ?_
   refine Af fun B=>?_
   refine A1 ?_
   obtain rfl:=oi_ D
   exact Ax [] ⟨rfl,rfl⟩
  ·refine Ap ?_
   repeat first | refine Dc ?_ | refine De ?_
   refine A4 0 32 Az ?_
   refine Bl rfl rfl (Ao Mz z9 (by decide) rfl rfl rfl rfl dL (cs:=[]) .nil rfl (l:=([]:List ByteArray)) (f:=eS) rfl) rfl rfl ?_
   refine Aj ?_
   obtain⟨l,hl,D⟩:=Ac D
   refine Fe (rd:=[0]) rfl rfl (Dj Mz Hs .row rfl .sl rfl hl rfl) rfl rfl ?_
   refine Aj ?_
   refine Af fun B=>?_
   refine A1 ?_
   obtain rfl:=oi_ D
   exact Ax [] ⟨rfl,rfl⟩
theorem K2 (s:ByteArray) (r:Bool) (D:Bw s=some r):Fn Tryz.prog 69 0 [vk s] [] (fun d' b'=>d'=.val (.bool r)/\b'=[]):=by
 unfold Bw at D
 refine Fn.of Tryz.func69 rfl rfl rfl fun w0 I ρ0=>?_
 show B9 _ ⟨w0,I,ρ0,0,0,27⟩ _ _ _
 refine A4 0 8 Az ?_
 refine Aj ?_
 refine Af fun B=>?_
 refine Ah ?_
 refine A4 8 40 B ?_
 refine Aj ?_
 refine Bl rfl rfl (Zy P9 Qf Ia) rfl rfl ?_
 refine Aj ?_
 refine Af fun B=>?_
 refine Av ?_
 refine Nu (fun (x8_1:Int)=>mk [(0,vk s),(6,.sl 1 (Al e8 (Ln s))),(7,.val (.int .i64 ((Ln s).length:Int))),(8,vj x8_1)] [] 0) D (Ay []) ?_
 rintro x8_1 m1 o1 D hn1
 replace D:Bw.l1 s x8_1=some o1:=D
 show B9 _ _ _ _ (mk _ _ _)
 unfold Bw.l1 at D
 refine A4 0 8 Az ?_
 refine Aj ?_
 refine Af fun B=>?_
 refine Ah ?_
 refine Dg rfl D (fun h4 D=>?_) fun h4 D=>?_
 ·refine Ap ?_
  repeat first | refine Dc ?_ | refine De ?_
  refine Ah ?_
  refine Av ?_
  refine A4 8 32 B ?_
  obtain⟨e,he,D⟩:=Ac D
  refine Aj ?_
  refine Bl rfl rfl (Bq Na (A9 B7 (Aw he) (o:=0) (c:=.int .u8 (e.toNat:Int)) rfl rfl)) rfl rfl ?_
  refine Aj ?_
  refine Af fun B=>?_
  refine Bp (ι:=Bool) (fun (x17_2:Bool)=>mk [(0,vk s),(6,.sl 1 (Al e8 (Ln s))),(7,.val (.int .i64 ((Ln s).length:Int))),(8,vj x8_1),(17,.val (.bool x17_2))] [] 0) (fun (x17_2:Bool)=>Bw.j2 x8_1 x17_2=some o1) ?_ ?_
  ·refine Ad (Bb _ _ []) 32 80 B rfl rfl ?_
   refine Aj ?_
   rcases Dx D with ⟨h6,D⟩ | ⟨h6,D⟩
   ·refine Aj ?_
    refine Af fun B=>?_
    exact⟨true,D,Ay []⟩
   ·refine Aj ?_
    refine Af fun B=>?_
    exact⟨decide (126 < (e.toNat:Int)),D,Ay []⟩
  ·rintro x17_2 D
   replace D:Bw.j2 x8_1 x17_2=some o1:=D
   show B9 _ _ _ _ (mk _ _ _)
   unfold Bw.j2 at D
   refine Dg rfl D (fun h9 D=>?_) fun h9 D=>?_
   ·refine Ah ?_
    refine Ad (Bb _ _ []) 0 8 Az rfl rfl ?_
    refine Aj ?_
    refine Af fun B=>?_
    refine A1 ?_
    replace D:=Dr D hn1
    obtain rfl:=oi_ D
    exact Ax [] ⟨rfl,rfl⟩
   ·refine Ap ?_
    repeat first | refine Dc ?_ | refine De ?_
    refine Ad (Bb _ _ []) 0 16 Az rfl rfl ?_
    refine Aj ?_
    refine Af fun B=>?_
    obtain rfl:=oi_ D
    exact⟨(W (x8_1 + 1),m1),Nat.lt_succ_self _,hn1,Ay []⟩
 ·refine Cm ?_
  repeat first | refine Dc ?_ | refine De ?_
  replace D:=Dr D hn1
  refine A4 8 80 B ?_
  refine Aj ?_
  refine Bl rfl rfl (Xi P9) rfl rfl ?_
  refine Aj ?_
  rcases Dx D with ⟨h12,D⟩ | ⟨h12,D⟩
  ·refine Aj ?_
   refine Bl (Ef rfl rfl h12) rfl (Xi P9) rfl rfl ?_
   refine Aj ?_
   refine Af fun B=>?_
   refine A1 ?_
   obtain rfl:=oi_ D
   exact Ax [] ⟨rfl,rfl⟩
  ·refine Aj ?_
   refine Af fun B=>?_
   refine A1 ?_
   obtain rfl:=oi_ D
   exact Ax [] ⟨rfl,rfl⟩
theorem Qd (l:(List ByteArray)) (r:Bool) (D:Be l=some r):Fn Tryz.prog 70 0 [.sl 1 (Al eS l)] [] (fun d' b'=>d'=.val (.bool r)/\b'=[]):=by
 unfold Be at D
 refine Fn.of Tryz.func70 rfl rfl rfl fun w0 I ρ0=>?_
 show B9 _ ⟨w0,I,ρ0,0,0,32⟩ _ _ _
 refine A4 0 8 Az ?_
 refine Aj ?_
 refine Af fun B=>?_
 refine Ah ?_
 refine A4 8 32 B ?_
 refine Aj ?_
 refine Af fun B=>?_
 refine Av ?_
 refine Nu (fun (x7_1:Int)=>mk [(0,.sl 1 (Al eS l)),(5,.sl 1 (Al eS l)),(6,.val (.int .i64 (l.length:Int))),(7,vj x7_1)] [] 0) D (Ay []) ?_
 rintro x7_1 m1 o1 D hn1
 replace D:Be.l1 l x7_1=some o1:=D
 show B9 _ _ _ _ (mk _ _ _)
 unfold Be.l1 at D
 refine A4 0 8 Az ?_
 refine Aj ?_
 refine Af fun B=>?_
 refine Ah ?_
 refine Dg rfl D (fun h4 D=>?_) fun h4 D=>?_
 ·refine Ap ?_
  repeat first | refine Dc ?_ | refine De ?_
  refine Ah ?_
  refine Av ?_
  refine A4 8 48 B ?_
  refine Aj ?_
  obtain⟨e,he,D⟩:=Ac D
  refine Aj ?_
  refine Bl rfl rfl (Bq jX (A9 Hs (Aw he) (o:=0) (c:=.str e) rfl rfl)) rfl rfl ?_
  refine Aj ?_
  refine Af fun B=>?_
  refine Bp (ι:=Bool) (fun (x27_2:Bool)=>mk [(0,.sl 1 (Al eS l)),(5,.sl 1 (Al eS l)),(6,.val (.int .i64 (l.length:Int))),(7,vj x7_1),(27,.val (.bool x27_2))] [] 0) (fun (x27_2:Bool)=>Be.j2 x7_1 x27_2=some o1) ?_ ?_
  ·refine Ad (Bb _ _ []) 48 176 B rfl rfl ?_
   refine Aj ?_
   obtain⟨y,hy,D⟩:=Ac D
   refine Dy (K2 _ _ hy) ?_
   refine Aj ?_
   rcases Dx D with ⟨h6,D⟩ | ⟨h6,D⟩
   ·refine Aj ?_
    refine Af fun B=>?_
    exact⟨true,D,Ay []⟩
   ·refine Aj ?_
    rcases Dx D with ⟨h8,D⟩ | ⟨h8,D⟩
    ·refine Aj ?_
     obtain⟨e_2,he_2,D⟩:=Ac D
     refine Aj ?_
     refine Bl (Ef rfl rfl h8) rfl (Bq jX (A9 Hs (Aw he_2) (o:=0) (c:=.str e_2) rfl rfl)) rfl rfl ?_
     refine Aj ?_
     refine Bl (Ef rfl rfl h8) rfl mW rfl rfl ?_
     refine Aj ?_
     refine Af fun B=>?_
     exact⟨!kJ (Ln e_2) (Ln e),D,Ay []⟩
    ·refine Aj ?_
     refine Af fun B=>?_
     exact⟨false,D,Ay []⟩
  ·rintro x27_2 D
   replace D:Be.j2 x7_1 x27_2=some o1:=D
   show B9 _ _ _ _ (mk _ _ _)
   unfold Be.j2 at D
   refine Dg rfl D (fun h11 D=>?_) fun h11 D=>?_
   ·refine Ah ?_
    refine Ad (Bb _ _ []) 0 8 Az rfl rfl ?_
    refine Aj ?_
    refine Af fun B=>?_
    refine A1 ?_
    replace D:=Dr D hn1
    obtain rfl:=oi_ D
    exact Ax [] ⟨rfl,rfl⟩
   ·refine Ap ?_
    repeat first | refine Dc ?_ | refine De ?_
    refine Ad (Bb _ _ []) 0 16 Az rfl rfl ?_
    refine Aj ?_
    refine Af fun B=>?_
    obtain rfl:=oi_ D
    exact⟨(W (x7_1 + 1),m1),Nat.lt_succ_self _,hn1,Ay []⟩
 ·refine Cm ?_
  repeat first | refine Dc ?_ | refine De ?_
  replace D:=Dr D hn1
  refine A4 8 40 B ?_
  refine Aj ?_
  refine Af fun B=>?_
  refine A1 ?_
  obtain rfl:=oi_ D
  exact Ax [] ⟨rfl,rfl⟩
theorem Xd  (r:(List Bg)) (D:L8=some r):Fn Tryz.prog 135 0 [] [] (fun d' b'=>d'=.agg [.val (.string ((r[0]!).name)),.val (.int .i64 ((r[0]!).kind)),.val (.int .i64 ((r[0]!).way)),.sl 1 (Al eI ((r[0]!).sizes)),.sl 1 (Al eI ((r[0]!).strengths)),.val (.string ((r[1]!).name)),.val (.int .i64 ((r[1]!).kind)),.val (.int .i64 ((r[1]!).way)),.sl 1 (Al eI ((r[1]!).sizes)),.sl 1 (Al eI ((r[1]!).strengths)),.val (.string ((r[2]!).name)),.val (.int .i64 ((r[2]!).kind)),.val (.int .i64 ((r[2]!).way)),.sl 1 (Al eI ((r[2]!).sizes)),.sl 1 (Al eI ((r[2]!).strengths)),.val (.string ((r[3]!).name)),.val (.int .i64 ((r[3]!).kind)),.val (.int .i64 ((r[3]!).way)),.sl 1 (Al eI ((r[3]!).sizes)),.sl 1 (Al eI ((r[3]!).strengths)),.val (.string ((r[4]!).name)),.val (.int .i64 ((r[4]!).kind)),.val (.int .i64 ((r[4]!).way)),.sl 1 (Al eI ((r[4]!).sizes)),.sl 1 (Al eI ((r[4]!).strengths)),.val (.string ((r[5]!).name)),.val (.int .i64 ((r[5]!).kind)),.val (.int .i64 ((r[5]!).way)),.sl 1 (Al eI ((r[5]!).sizes)),.sl 1 (Al eI ((r[5]!).strengths)),.val (.string ((r[6]!).name)),.val (.int .i64 ((r[6]!).kind)),.val (.int .i64 ((r[6]!).way)),.sl 1 (Al eI ((r[6]!).sizes)),.sl 1 (Al eI ((r[6]!).strengths)),.val (.string ((r[7]!).name)),.val (.int .i64 ((r[7]!).kind)),.val (.int .i64 ((r[7]!).way)),.sl 1 (Al eI ((r[7]!).sizes)),.sl 1 (Al eI ((r[7]!).strengths)),.val (.string ((r[8]!).name)),.val (.int .i64 ((r[8]!).kind)),.val (.int .i64 ((r[8]!).way)),.sl 1 (Al eI ((r[8]!).sizes)),.sl 1 (Al eI ((r[8]!).strengths)),.val (.string ((r[9]!).name)),.val (.int .i64 ((r[9]!).kind)),.val (.int .i64 ((r[9]!).way)),.sl 1 (Al eI ((r[9]!).sizes)),.sl 1 (Al eI ((r[9]!).strengths)),.val (.string ((r[10]!).name)),.val (.int .i64 ((r[10]!).kind)),.val (.int .i64 ((r[10]!).way)),.sl 1 (Al eI ((r[10]!).sizes)),.sl 1 (Al eI ((r[10]!).strengths)),.val (.string ((r[11]!).name)),.val (.int .i64 ((r[11]!).kind)),.val (.int .i64 ((r[11]!).way)),.sl 1 (Al eI ((r[11]!).sizes)),.sl 1 (Al eI ((r[11]!).strengths)),.val (.string ((r[12]!).name)),.val (.int .i64 ((r[12]!).kind)),.val (.int .i64 ((r[12]!).way)),.sl 1 (Al eI ((r[12]!).sizes)),.sl 1 (Al eI ((r[12]!).strengths)),.val (.string ((r[13]!).name)),.val (.int .i64 ((r[13]!).kind)),.val (.int .i64 ((r[13]!).way)),.sl 1 (Al eI ((r[13]!).sizes)),.sl 1 (Al eI ((r[13]!).strengths)),.val (.string ((r[14]!).name)),.val (.int .i64 ((r[14]!).kind)),.val (.int .i64 ((r[14]!).way)),.sl 1 (Al eI ((r[14]!).sizes)),.sl 1 (Al eI ((r[14]!).strengths)),.val (.string ((r[15]!).name)),.val (.int .i64 ((r[15]!).kind)),.val (.int .i64 ((r[15]!).way)),.sl 1 (Al eI ((r[15]!).sizes)),.sl 1 (Al eI ((r[15]!).strengths)),.val (.string ((r[16]!).name)),.val (.int .i64 ((r[16]!).kind)),.val (.int .i64 ((r[16]!).way)),.sl 1 (Al eI ((r[16]!).sizes)),.sl 1 (Al eI ((r[16]!).strengths)),.val (.string ((r[17]!).name)),.val (.int .i64 ((r[17]!).kind)),.val (.int .i64 ((r[17]!).way)),.sl 1 (Al eI ((r[17]!).sizes)),.sl 1 (Al eI ((r[17]!).strengths)),.val (.string ((r[18]!).name)),.val (.int .i64 ((r[18]!).kind)),.val (.int .i64 ((r[18]!).way)),.sl 1 (Al eI ((r[18]!).sizes)),.sl 1 (Al eI ((r[18]!).strengths)),.val (.string ((r[19]!).name)),.val (.int .i64 ((r[19]!).kind)),.val (.int .i64 ((r[19]!).way)),.sl 1 (Al eI ((r[19]!).sizes)),.sl 1 (Al eI ((r[19]!).strengths)),.val (.string ((r[20]!).name)),.val (.int .i64 ((r[20]!).kind)),.val (.int .i64 ((r[20]!).way)),.sl 1 (Al eI ((r[20]!).sizes)),.sl 1 (Al eI ((r[20]!).strengths)),.val (.string ((r[21]!).name)),.val (.int .i64 ((r[21]!).kind)),.val (.int .i64 ((r[21]!).way)),.sl 1 (Al eI ((r[21]!).sizes)),.sl 1 (Al eI ((r[21]!).strengths)),.val (.string ((r[22]!).name)),.val (.int .i64 ((r[22]!).kind)),.val (.int .i64 ((r[22]!).way)),.sl 1 (Al eI ((r[22]!).sizes)),.sl 1 (Al eI ((r[22]!).strengths))]/\b'=[]):=by
 unfold L8 at D
 refine Fn.of Tryz.func135 rfl rfl rfl fun w0 I ρ0=>?_
 show B9 _ ⟨w0,I,ρ0,0,0,46⟩ _ _ _
 refine A4 0 8 Az ?_
 refine Aj ?_
 refine Af fun B=>?_
 refine A4 8 376 B ?_
 refine Bl rfl rfl (Ao E8 z3 (by decide) rfl rfl rfl rfl J7 (cs:=[.int .i64 18]) (.cons .int .nil) rfl (l:=([18]:List Int)) (f:=eI) rfl) rfl rfl ?_
 refine Bl rfl rfl (.build (r:=[.val (.string (⟨#[109,100,53]⟩:ByteArray)),.val (.int .i64 1),.val (.int .i64 0),.val (.slice none 0 0),.row 8]) Fl Ie Lb (by kernel_rfl) rfl) rfl rfl ?_
 refine Bl rfl rfl (Ao E8 z3 (by decide) rfl rfl rfl rfl J7 (cs:=[.int .i64 60]) (.cons .int .nil) rfl (l:=([60]:List Int)) (f:=eI) rfl) rfl rfl ?_
 refine Bl rfl rfl (.build (r:=[.val (.string (⟨#[115,104,97,49]⟩:ByteArray)),.val (.int .i64 1),.val (.int .i64 0),.val (.slice none 0 0),.row 24]) Fl Ie Lb (by kernel_rfl) rfl) rfl rfl ?_
 refine Bl rfl rfl (Ao E8 z3 (by decide) rfl rfl rfl rfl J7 (cs:=[.int .i64 128]) (.cons .int .nil) rfl (l:=([128]:List Int)) (f:=eI) rfl) rfl rfl ?_
 refine Bl rfl rfl (.build (r:=[.val (.string (⟨#[115,104,97,50,53,54]⟩:ByteArray)),.val (.int .i64 1),.val (.int .i64 0),.val (.slice none 0 0),.row 40]) Fl Ie Lb (by kernel_rfl) rfl) rfl rfl ?_
 refine Bl rfl rfl (Ao E8 z3 (by decide) rfl rfl rfl rfl J7 (cs:=[.int .i64 192]) (.cons .int .nil) rfl (l:=([192]:List Int)) (f:=eI) rfl) rfl rfl ?_
 refine Bl rfl rfl (.build (r:=[.val (.string (⟨#[115,104,97,51,56,52]⟩:ByteArray)),.val (.int .i64 1),.val (.int .i64 0),.val (.slice none 0 0),.row 56]) Fl Ie Lb (by kernel_rfl) rfl) rfl rfl ?_
 refine Bl rfl rfl (.build (r:=[.val (.string (⟨#[114,115,97]⟩:ByteArray)),.val (.int .i64 2),.val (.int .i64 1),.val (.slice none 0 0),.val (.slice none 0 0)]) Fl Ie Lb (by kernel_rfl) rfl) rfl rfl ?_
 refine Bl rfl rfl (.build (r:=[.val (.string (⟨#[100,115,97]⟩:ByteArray)),.val (.int .i64 2),.val (.int .i64 1),.val (.slice none 0 0),.val (.slice none 0 0)]) Fl Ie Lb (by kernel_rfl) rfl) rfl rfl ?_
 refine Bl rfl rfl (.build (r:=[.val (.string (⟨#[101,99,100,115,97]⟩:ByteArray)),.val (.int .i64 2),.val (.int .i64 2),.val (.slice none 0 0),.val (.slice none 0 0)]) Fl Ie Lb (by kernel_rfl) rfl) rfl rfl ?_
 refine Bl rfl rfl (Ao E8 z3 (by decide) rfl rfl rfl rfl J7 (cs:=[.int .i64 128]) (.cons .int .nil) rfl (l:=([128]:List Int)) (f:=eI) rfl) rfl rfl ?_
 refine Bl rfl rfl (.build (r:=[.val (.string (⟨#[101,100,50,53,53,49,57]⟩:ByteArray)),.val (.int .i64 2),.val (.int .i64 0),.val (.slice none 0 0),.row 96]) Fl Ie Lb (by kernel_rfl) rfl) rfl rfl ?_
 refine Bl rfl rfl (Ao E8 z3 (by decide) rfl rfl rfl rfl J7 (cs:=[.int .i64 44,.int .i64 65,.int .i64 87]) (.cons .int (.cons .int (.cons .int .nil))) rfl (l:=([44,65,87]:List Int)) (f:=eI) rfl) rfl rfl ?_
 refine Bl rfl rfl (Ao E8 z3 (by decide) rfl rfl rfl rfl J7 (cs:=[.int .i64 128,.int .i64 192,.int .i64 256]) (.cons .int (.cons .int (.cons .int .nil))) rfl (l:=([128,192,256]:List Int)) (f:=eI) rfl) rfl rfl ?_
 refine Bl rfl rfl (.build (r:=[.val (.string (⟨#[109,108,100,115,97]⟩:ByteArray)),.val (.int .i64 2),.val (.int .i64 3),.row 112,.row 120]) Fl Ie Lb (by kernel_rfl) rfl) rfl rfl ?_
 refine Bl rfl rfl (.build (r:=[.val (.string (⟨#[114,115,97,107,120]⟩:ByteArray)),.val (.int .i64 3),.val (.int .i64 1),.val (.slice none 0 0),.val (.slice none 0 0)]) Fl Ie Lb (by kernel_rfl) rfl) rfl rfl ?_
 refine Bl rfl rfl (.build (r:=[.val (.string (⟨#[100,104,101]⟩:ByteArray)),.val (.int .i64 3),.val (.int .i64 1),.val (.slice none 0 0),.val (.slice none 0 0)]) Fl Ie Lb (by kernel_rfl) rfl) rfl rfl ?_
 refine Bl rfl rfl (.build (r:=[.val (.string (⟨#[101,99,100,104,101]⟩:ByteArray)),.val (.int .i64 3),.val (.int .i64 2),.val (.slice none 0 0),.val (.slice none 0 0)]) Fl Ie Lb (by kernel_rfl) rfl) rfl rfl ?_
 refine Bl rfl rfl (Ao E8 z3 (by decide) rfl rfl rfl rfl J7 (cs:=[.int .i64 512,.int .i64 768,.int .i64 1024]) (.cons .int (.cons .int (.cons .int .nil))) rfl (l:=([512,768,1024]:List Int)) (f:=eI) rfl) rfl rfl ?_
 refine Bl rfl rfl (Ao E8 z3 (by decide) rfl rfl rfl rfl J7 (cs:=[.int .i64 128,.int .i64 192,.int .i64 256]) (.cons .int (.cons .int (.cons .int .nil))) rfl (l:=([128,192,256]:List Int)) (f:=eI) rfl) rfl rfl ?_
 refine Bl rfl rfl (.build (r:=[.val (.string (⟨#[109,108,107,101,109]⟩:ByteArray)),.val (.int .i64 3),.val (.int .i64 3),.row 160,.row 168]) Fl Ie Lb (by kernel_rfl) rfl) rfl rfl ?_
 refine Bl rfl rfl (Ao E8 z3 (by decide) rfl rfl rfl rfl J7 (cs:=[.int .i64 40,.int .i64 128]) (.cons .int (.cons .int .nil)) rfl (l:=([40,128]:List Int)) (f:=eI) rfl) rfl rfl ?_
 refine Bl rfl rfl (Ao E8 z3 (by decide) rfl rfl rfl rfl J7 (cs:=[.int .i64 40,.int .i64 60]) (.cons .int (.cons .int .nil)) rfl (l:=([40,60]:List Int)) (f:=eI) rfl) rfl rfl ?_
 refine Bl rfl rfl (.build (r:=[.val (.string (⟨#[114,99,52]⟩:ByteArray)),.val (.int .i64 4),.val (.int .i64 3),.row 184,.row 192]) Fl Ie Lb (by kernel_rfl) rfl) rfl rfl ?_
 refine Bl rfl rfl (Ao E8 z3 (by decide) rfl rfl rfl rfl J7 (cs:=[.int .i64 112,.int .i64 168]) (.cons .int (.cons .int .nil)) rfl (l:=([112,168]:List Int)) (f:=eI) rfl) rfl rfl ?_
 refine Bl rfl rfl (Ao E8 z3 (by decide) rfl rfl rfl rfl J7 (cs:=[.int .i64 80,.int .i64 112]) (.cons .int (.cons .int .nil)) rfl (l:=([80,112]:List Int)) (f:=eI) rfl) rfl rfl ?_
 refine Bl rfl rfl (.build (r:=[.val (.string (⟨#[100,101,115,51]⟩:ByteArray)),.val (.int .i64 4),.val (.int .i64 3),.row 208,.row 216]) Fl Ie Lb (by kernel_rfl) rfl) rfl rfl ?_
 refine Bl rfl rfl (Ao E8 z3 (by decide) rfl rfl rfl rfl J7 (cs:=[.int .i64 128,.int .i64 256]) (.cons .int (.cons .int .nil)) rfl (l:=([128,256]:List Int)) (f:=eI) rfl) rfl rfl ?_
 refine Bl rfl rfl (Ao E8 z3 (by decide) rfl rfl rfl rfl J7 (cs:=[.int .i64 128,.int .i64 256]) (.cons .int (.cons .int .nil)) rfl (l:=([128,256]:List Int)) (f:=eI) rfl) rfl rfl ?_
 refine Bl rfl rfl (.build (r:=[.val (.string (⟨#[97,101,115,99,98,99]⟩:ByteArray)),.val (.int .i64 4),.val (.int .i64 3),.row 232,.row 240]) Fl Ie Lb (by kernel_rfl) rfl) rfl rfl ?_
 refine Bl rfl rfl (Ao E8 z3 (by decide) rfl rfl rfl rfl J7 (cs:=[.int .i64 128,.int .i64 256]) (.cons .int (.cons .int .nil)) rfl (l:=([128,256]:List Int)) (f:=eI) rfl) rfl rfl ?_
 refine Bl rfl rfl (Ao E8 z3 (by decide) rfl rfl rfl rfl J7 (cs:=[.int .i64 128,.int .i64 256]) (.cons .int (.cons .int .nil)) rfl (l:=([128,256]:List Int)) (f:=eI) rfl) rfl rfl ?_
 refine Bl rfl rfl (.build (r:=[.val (.string (⟨#[97,101,115,103,99,109]⟩:ByteArray)),.val (.int .i64 4),.val (.int .i64 3),.row 256,.row 264]) Fl Ie Lb (by kernel_rfl) rfl) rfl rfl ?_
 refine Bl rfl rfl (Ao E8 z3 (by decide) rfl rfl rfl rfl J7 (cs:=[.int .i64 256]) (.cons .int .nil) rfl (l:=([256]:List Int)) (f:=eI) rfl) rfl rfl ?_
 refine Bl rfl rfl (.build (r:=[.val (.string (⟨#[99,104,97,99,104,97]⟩:ByteArray)),.val (.int .i64 4),.val (.int .i64 0),.val (.slice none 0 0),.row 280]) Fl Ie Lb (by kernel_rfl) rfl) rfl rfl ?_
 refine Bl rfl rfl (Ao E8 z3 (by decide) rfl rfl rfl rfl J7 (cs:=[.int .i64 64]) (.cons .int .nil) rfl (l:=([64]:List Int)) (f:=eI) rfl) rfl rfl ?_
 refine Bl rfl rfl (.build (r:=[.val (.string (⟨#[104,109,97,99,109,100,53]⟩:ByteArray)),.val (.int .i64 5),.val (.int .i64 0),.val (.slice none 0 0),.row 296]) Fl Ie Lb (by kernel_rfl) rfl) rfl rfl ?_
 refine Bl rfl rfl (Ao E8 z3 (by decide) rfl rfl rfl rfl J7 (cs:=[.int .i64 80]) (.cons .int .nil) rfl (l:=([80]:List Int)) (f:=eI) rfl) rfl rfl ?_
 refine Bl rfl rfl (.build (r:=[.val (.string (⟨#[104,109,97,99,115,104,97,49]⟩:ByteArray)),.val (.int .i64 5),.val (.int .i64 0),.val (.slice none 0 0),.row 312]) Fl Ie Lb (by kernel_rfl) rfl) rfl rfl ?_
 refine Bl rfl rfl (Ao E8 z3 (by decide) rfl rfl rfl rfl J7 (cs:=[.int .i64 128]) (.cons .int .nil) rfl (l:=([128]:List Int)) (f:=eI) rfl) rfl rfl ?_
 refine Bl rfl rfl (.build (r:=[.val (.string (⟨#[104,109,97,99,115,104,97,50,53,54]⟩:ByteArray)),.val (.int .i64 5),.val (.int .i64 0),.val (.slice none 0 0),.row 328]) Fl Ie Lb (by kernel_rfl) rfl) rfl rfl ?_
 refine Bl rfl rfl (Ao E8 z3 (by decide) rfl rfl rfl rfl J7 (cs:=[.int .i64 256]) (.cons .int .nil) rfl (l:=([256]:List Int)) (f:=eI) rfl) rfl rfl ?_
 refine Bl rfl rfl (.build (r:=[.val (.string (⟨#[97,101,97,100]⟩:ByteArray)),.val (.int .i64 5),.val (.int .i64 0),.val (.slice none 0 0),.row 344]) Fl Ie Lb (by kernel_rfl) rfl) rfl rfl ?_
 refine Bl rfl rfl (.buildArr (sz:=5) (r:=[.val (.string (⟨#[]⟩:ByteArray)),.val (.int .i64 0),.val (.int .i64 0),.val (.slice none 0 0),.val (.slice none 0 0),.val (.string (⟨#[109,100,53]⟩:ByteArray)),.val (.int .i64 1),.val (.int .i64 0),.val (.slice none 0 0),.row 8,.val (.string (⟨#[115,104,97,49]⟩:ByteArray)),.val (.int .i64 1),.val (.int .i64 0),.val (.slice none 0 0),.row 24,.val (.string (⟨#[115,104,97,50,53,54]⟩:ByteArray)),.val (.int .i64 1),.val (.int .i64 0),.val (.slice none 0 0),.row 40,.val (.string (⟨#[115,104,97,51,56,52]⟩:ByteArray)),.val (.int .i64 1),.val (.int .i64 0),.val (.slice none 0 0),.row 56,.val (.string (⟨#[114,115,97]⟩:ByteArray)),.val (.int .i64 2),.val (.int .i64 1),.val (.slice none 0 0),.val (.slice none 0 0),.val (.string (⟨#[100,115,97]⟩:ByteArray)),.val (.int .i64 2),.val (.int .i64 1),.val (.slice none 0 0),.val (.slice none 0 0),.val (.string (⟨#[101,99,100,115,97]⟩:ByteArray)),.val (.int .i64 2),.val (.int .i64 2),.val (.slice none 0 0),.val (.slice none 0 0),.val (.string (⟨#[101,100,50,53,53,49,57]⟩:ByteArray)),.val (.int .i64 2),.val (.int .i64 0),.val (.slice none 0 0),.row 96,.val (.string (⟨#[109,108,100,115,97]⟩:ByteArray)),.val (.int .i64 2),.val (.int .i64 3),.row 112,.row 120,.val (.string (⟨#[114,115,97,107,120]⟩:ByteArray)),.val (.int .i64 3),.val (.int .i64 1),.val (.slice none 0 0),.val (.slice none 0 0),.val (.string (⟨#[100,104,101]⟩:ByteArray)),.val (.int .i64 3),.val (.int .i64 1),.val (.slice none 0 0),.val (.slice none 0 0),.val (.string (⟨#[101,99,100,104,101]⟩:ByteArray)),.val (.int .i64 3),.val (.int .i64 2),.val (.slice none 0 0),.val (.slice none 0 0),.val (.string (⟨#[109,108,107,101,109]⟩:ByteArray)),.val (.int .i64 3),.val (.int .i64 3),.row 160,.row 168,.val (.string (⟨#[114,99,52]⟩:ByteArray)),.val (.int .i64 4),.val (.int .i64 3),.row 184,.row 192,.val (.string (⟨#[100,101,115,51]⟩:ByteArray)),.val (.int .i64 4),.val (.int .i64 3),.row 208,.row 216,.val (.string (⟨#[97,101,115,99,98,99]⟩:ByteArray)),.val (.int .i64 4),.val (.int .i64 3),.row 232,.row 240,.val (.string (⟨#[97,101,115,103,99,109]⟩:ByteArray)),.val (.int .i64 4),.val (.int .i64 3),.row 256,.row 264,.val (.string (⟨#[99,104,97,99,104,97]⟩:ByteArray)),.val (.int .i64 4),.val (.int .i64 0),.val (.slice none 0 0),.row 280,.val (.string (⟨#[104,109,97,99,109,100,53]⟩:ByteArray)),.val (.int .i64 5),.val (.int .i64 0),.val (.slice none 0 0),.row 296,.val (.string (⟨#[104,109,97,99,115,104,97,49]⟩:ByteArray)),.val (.int .i64 5),.val (.int .i64 0),.val (.slice none 0 0),.row 312,.val (.string (⟨#[104,109,97,99,115,104,97,50,53,54]⟩:ByteArray)),.val (.int .i64 5),.val (.int .i64 0),.val (.slice none 0 0),.row 328,.val (.string (⟨#[97,101,97,100]⟩:ByteArray)),.val (.int .i64 5),.val (.int .i64 0),.val (.slice none 0 0),.row 344]) lI (by kernel_rfl) xA (by kernel_rfl) rfl) rfl rfl ?_
 refine Aj ?_
 refine Af fun B=>?_
 refine A1 ?_
 obtain rfl:=oi_ D
 exact Ax [] ⟨rfl,rfl⟩
theorem Sa (alg:Int) (r:Bg×Bool) (D:Ds alg=some r):Fn Tryz.prog 126 0 [vj alg] [] (fun d' b'=>d'=.tup [.agg (Bg.dv r.1),.val (.bool r.2)]/\b'=[]):=by
 unfold Ds at D
 refine Fn.of Tryz.func126 rfl rfl rfl fun w0 I ρ0=>?_
 show B9 _ ⟨w0,I,ρ0,0,0,14⟩ _ _ _
 refine A4 0 16 Az ?_
 refine Aj ?_
 refine Af fun B=>?_
 refine Ah ?_
 refine Bp (ι:=Bool) (fun (x9_1:Bool)=>mk [(0,vj alg),(2,.ptr 0 0),(9,.val (.bool x9_1))] [(0,.box [.val (.string (⟨#[]⟩:ByteArray)),.val (.int .i64 0),.val (.int .i64 0),.val (.slice none 0 0),.val (.slice none 0 0)] 136)] 1) (fun (x9_1:Bool)=>Ds.j1 alg x9_1=some r) ?_ ?_
 ·refine Ad (Bb _ _ []) 16 64 B rfl rfl ?_
  refine Aj ?_
  rcases Dx D with ⟨h2,D⟩ | ⟨h2,D⟩
  ·refine Aj ?_
   refine Af fun B=>?_
   exact⟨true,D,Ay [(0,0)]⟩
  ·refine Aj ?_
   refine Af fun B=>?_
   exact⟨decide (22 < alg),D,Ay [(0,0)]⟩
 ·rintro x9_1 D
  replace D:Ds.j1 alg x9_1=some r:=D
  show B9 _ _ _ _ (mk _ _ _)
  unfold Ds.j1 at D
  refine Dg rfl D (fun h5 D=>?_) fun h5 D=>?_
  ·refine Ah ?_
   refine Ad (Bb _ _ []) 1 25 Az rfl rfl ?_
   refine Bl rfl rfl (.build (r:=[.val (.string (⟨#[]⟩:ByteArray)),.val (.int .i64 0),.val (.int .i64 0),.val (.slice none 0 0),.val (.slice none 0 0)]) Fl Ie Lb (by kernel_rfl) rfl) rfl rfl ?_
   refine Aj ?_
   refine Af fun B=>?_
   refine A1 ?_
   obtain rfl:=oi_ D
   exact Ax [] ⟨rfl,rfl⟩
  ·refine Ap ?_
   repeat first | refine Dc ?_ | refine De ?_
   refine A4 1 41 Az ?_
   obtain⟨y,hy,D⟩:=Ac D
   refine Dy (Xd _ hy) ?_
   refine Aj ?_
   obtain⟨e,he,D⟩:=Ac D
   refine Bl rfl rfl (Yi (f:=Bg.enc) (L:=(xJ 23 y)) lI sH Bg.enc_len rfl rfl he (d2:=[vk e.name,vj e.kind,vj e.way,.sl 1 (Al eI e.sizes),.sl 1 (Al eI e.strengths)]) rfl) rfl rfl ?_
   refine Aj ?_
   refine Af fun B=>?_
   refine A1 ?_
   obtain rfl:=oi_ D
   exact Ax [] ⟨rfl,rfl⟩
theorem Sc (bits:Int) (r:Int) (D:Cp bits=some r):Fn Tryz.prog 132 0 [vj bits] [] (fun d' b'=>d'=vj r/\b'=[]):=by
 unfold Cp at D
 refine Fn.of Tryz.func132 rfl rfl rfl fun w0 I ρ0=>?_
 show B9 _ ⟨w0,I,ρ0,0,0,21⟩ _ _ _
 refine A4 0 8 Az ?_
 refine Aj ?_
 refine Af fun B=>?_
 refine Ah ?_
 refine A4 8 64 B ?_
 refine Bl rfl rfl (.buildArr (sz:=1) (r:=[.val (.int .i64 1024),.val (.int .i64 56)]) Qx (by kernel_rfl) iI (by kernel_rfl) rfl) rfl rfl ?_
 refine Bl rfl rfl (.buildArr (sz:=1) (r:=[.val (.int .i64 2048),.val (.int .i64 80)]) Qx (by kernel_rfl) iI (by kernel_rfl) rfl) rfl rfl ?_
 refine Bl rfl rfl (.buildArr (sz:=1) (r:=[.val (.int .i64 3072),.val (.int .i64 112)]) Qx (by kernel_rfl) iI (by kernel_rfl) rfl) rfl rfl ?_
 refine Bl rfl rfl (.buildArr (sz:=1) (r:=[.val (.int .i64 7680),.val (.int .i64 128)]) Qx (by kernel_rfl) iI (by kernel_rfl) rfl) rfl rfl ?_
 refine Bl rfl rfl (.buildArr (sz:=1) (r:=[.val (.int .i64 15360),.val (.int .i64 192)]) Qx (by kernel_rfl) iI (by kernel_rfl) rfl) rfl rfl ?_
 refine Bl rfl rfl (.buildArr (sz:=2) (r:=[.val (.int .i64 1024),.val (.int .i64 56),.val (.int .i64 2048),.val (.int .i64 80),.val (.int .i64 3072),.val (.int .i64 112),.val (.int .i64 7680),.val (.int .i64 128),.val (.int .i64 15360),.val (.int .i64 192)]) lB (by kernel_rfl) xK (by kernel_rfl) rfl) rfl rfl ?_
 refine Aj ?_
 refine Af fun B=>?_
 refine Av ?_
 refine Nu (fun (x11_1:Int)=>mk [(0,vj bits),(10,.agg [.val (.int .i64 1024),.val (.int .i64 56),.val (.int .i64 2048),.val (.int .i64 80),.val (.int .i64 3072),.val (.int .i64 112),.val (.int .i64 7680),.val (.int .i64 128),.val (.int .i64 15360),.val (.int .i64 192)]),(11,vj x11_1)] [] 0) D (Ay []) ?_
 rintro x11_1 m1 o1 D hn1
 replace D:Cp.l1 bits x11_1=some o1:=D
 show B9 _ _ _ _ (mk _ _ _)
 unfold Cp.l1 at D
 refine A4 0 8 Az ?_
 refine Aj ?_
 refine Af fun B=>?_
 refine Ah ?_
 refine Dg rfl D (fun h4 D=>?_) fun h4 D=>?_
 ·refine Ap ?_
  repeat first | refine Dc ?_ | refine De ?_
  refine Ah ?_
  refine Av ?_
  refine A4 8 32 B ?_
  obtain⟨e,he,D⟩:=Ac D
  refine Bl rfl rfl (Yi (f:=(eA 2 eI)) (L:=([([1024,56]:List Int),([2048,80]:List Int),([3072,112]:List Int),([7680,128]:List Int),([15360,192]:List Int)]:List (List Int))) lB sK (tU M2) rfl rfl he (d2:=[.val (.int .i64 (e[0]!)),.val (.int .i64 (e[1]!))]) rfl) rfl rfl ?_
  refine Aj ?_
  refine Af fun B=>?_
  refine A4 32 64 B ?_
  refine Aj ?_
  refine Fe (rd:=[16]) rfl rfl (.idxA (j:=0) Qx jY rfl (by decide)) rfl rfl ?_
  refine Aj ?_
  refine Af fun B=>?_
  refine Dg rfl D (fun h7 D=>?_) fun h7 D=>?_
  ·refine Ah ?_
   refine Ad (Bb _ _ []) 64 88 B rfl rfl ?_
   refine Fe (rd:=[16]) rfl rfl (.idxA (j:=1) Qx jY rfl (by decide)) rfl rfl ?_
   refine Aj ?_
   refine Af fun B=>?_
   refine A1 ?_
   replace D:=Dr D hn1
   obtain rfl:=oi_ D
   exact Ax [] ⟨rfl,rfl⟩
  ·refine Ap ?_
   repeat first | refine Dc ?_ | refine De ?_
   refine Ad (Bb _ _ []) 64 80 B rfl rfl ?_
   refine Aj ?_
   refine Af fun B=>?_
   obtain rfl:=oi_ D
   exact⟨(W (x11_1 + 1),m1),Nat.lt_succ_self _,hn1,Ay []⟩
 ·refine Cm ?_
  repeat first | refine Dc ?_ | refine De ?_
  replace D:=Dr D hn1
  refine A4 8 16 B ?_
  refine Aj ?_
  refine Af fun B=>?_
  refine A1 ?_
  obtain rfl:=oi_ D
  exact Ax [] ⟨rfl,rfl⟩
theorem L6 (s:(List Int)) (v:Int) (r:Int) (D:Bm s v=some r):Fn Tryz.prog 134 0 [.sl 1 (Al eI s),vj v] [] (fun d' b'=>d'=vj r/\b'=[]):=by
 unfold Bm at D
 refine Fn.of Tryz.func134 rfl rfl rfl fun w0 I ρ0=>?_
 show B9 _ ⟨w0,I,ρ0,0,0,19⟩ _ _ _
 refine A4 0 8 Az ?_
 refine Aj ?_
 refine Af fun B=>?_
 refine Ah ?_
 refine A4 8 32 B ?_
 refine Aj ?_
 refine Af fun B=>?_
 refine Av ?_
 refine Nu (fun (x8_1:Int)=>mk [(0,.sl 1 (Al eI s)),(1,vj v),(7,.val (.int .i64 (s.length:Int))),(8,vj x8_1)] [] 0) D (Ay []) ?_
 rintro x8_1 m1 o1 D hn1
 replace D:Bm.l1 s v x8_1=some o1:=D
 show B9 _ _ _ _ (mk _ _ _)
 unfold Bm.l1 at D
 refine A4 0 8 Az ?_
 refine Aj ?_
 refine Af fun B=>?_
 refine Ah ?_
 refine Dg rfl D (fun h4 D=>?_) fun h4 D=>?_
 ·refine Ap ?_
  repeat first | refine Dc ?_ | refine De ?_
  refine Ah ?_
  refine Av ?_
  refine A4 8 24 B ?_
  refine Aj ?_
  refine Af fun B=>?_
  refine A4 24 72 B ?_
  refine Aj ?_
  obtain⟨e,he,D⟩:=Ac D
  refine Aj ?_
  refine Bl rfl rfl (Bq jY (A9 M2 (Aw he) (o:=0) (c:=.int .i64 e) rfl rfl)) rfl rfl ?_
  refine Aj ?_
  refine Af fun B=>?_
  refine Dg rfl D (fun h7 D=>?_) fun h7 D=>?_
  ·refine Ah ?_
   refine Ad (Bb _ _ []) 72 88 B rfl rfl ?_
   refine Aj ?_
   refine Af fun B=>?_
   refine A1 ?_
   replace D:=Dr D hn1
   obtain rfl:=oi_ D
   exact Ax [] ⟨rfl,rfl⟩
  ·refine Ap ?_
   repeat first | refine Dc ?_ | refine De ?_
   refine Ad (Bb _ _ []) 72 88 B rfl rfl ?_
   refine Aj ?_
   refine Af fun B=>?_
   obtain rfl:=oi_ D
   exact⟨(W (x8_1 + 1),m1),Nat.lt_succ_self _,hn1,Ay []⟩
 ·refine Cm ?_
  repeat first | refine Dc ?_ | refine De ?_
  replace D:=Dr D hn1
  refine A4 8 16 B ?_
  refine Aj ?_
  refine Af fun B=>?_
  refine A1 ?_
  obtain rfl:=oi_ D
  exact Ax [] ⟨rfl,rfl⟩
theorem Ow (s:(List Int)) (v:Int) (r:Bool) (D:Eb s v=some r):Fn Tryz.prog 133 0 [.sl 1 (Al eI s),vj v] [] (fun d' b'=>d'=.val (.bool r)/\b'=[]):=by
 unfold Eb at D
 refine Fn.of Tryz.func133 rfl rfl rfl fun w0 I ρ0=>?_
 show B9 _ ⟨w0,I,ρ0,0,0,9⟩ _ _ _
 refine A4 0 8 Az ?_
 refine Aj ?_
 refine Af fun B=>?_
 refine A4 8 48 B ?_
 refine Aj ?_
 obtain⟨y,hy,D⟩:=Ac D
 refine Dy (L6 _ _ _ hy) ?_
 refine Aj ?_
 refine Af fun B=>?_
 refine A1 ?_
 obtain rfl:=oi_ D
 exact Ax [] ⟨rfl,rfl⟩
theorem Qz (u:A3) (r:Int) (D:As u=some r):Fn Tryz.prog 125 0 [.agg [vj u.Alg,vj u.Bits]] [] (fun d' b'=>d'=vj r/\b'=[]):=by
 unfold As at D
 refine Fn.of Tryz.func125 rfl rfl rfl fun w0 I ρ0=>?_
 show B9 _ ⟨w0,I,ρ0,0,0,61⟩ _ _ _
 refine A4 0 16 Az ?_
 refine Aj ?_
 refine Af fun B=>?_
 refine A4 16 88 B ?_
 refine Aj ?_
 obtain⟨y,hy,D⟩:=Ac D
 refine Dy (Sa _ _ hy) ?_
 refine Aj ?_
 refine Af fun B=>?_
 refine Ah ?_
 refine A4 88 104 B ?_
 refine Aj ?_
 refine Af fun B=>?_
 refine Dg rfl D (fun h4 D=>?_) fun h4 D=>?_
 ·refine Ah ?_
  refine Ad (Bb _ _ []) 104 112 B rfl rfl ?_
  refine Aj ?_
  refine Af fun B=>?_
  refine A1 ?_
  obtain rfl:=oi_ D
  exact Ax [] ⟨rfl,rfl⟩
 ·refine Ap ?_
  repeat first | refine Dc ?_ | refine De ?_
  refine Ah ?_
  refine A4 104 120 B ?_
  refine Aj ?_
  refine Af fun B=>?_
  refine Av ?_
  refine A4 120 136 B ?_
  refine Aj ?_
  refine Af fun B=>?_
  refine Dg rfl D (fun h8 D=>?_) fun h8 D=>?_
  ·refine Ah ?_
   refine Ad (Bb _ _ []) 136 160 B rfl rfl ?_
   refine Aj ?_
   refine Af fun B=>?_
   refine Dg rfl D (fun h10 D=>?_) fun h10 D=>?_
   ·refine Ah ?_
    refine Ad (Bb _ _ []) 160 200 B rfl rfl ?_
    refine Aj ?_
    obtain⟨e,he,D⟩:=Ac D
    refine Aj ?_
    refine Bl rfl rfl (Bq jY (A9 M2 (Aw he) (o:=0) (c:=.int .i64 e) rfl rfl)) rfl rfl ?_
    refine Aj ?_
    refine Af fun B=>?_
    refine A1 ?_
    obtain rfl:=oi_ D
    exact Ax [] ⟨rfl,rfl⟩
   ·refine Ap ?_
    repeat first | refine Dc ?_ | refine De ?_
    refine A4 160 168 B ?_
    refine Aj ?_
    refine Af fun B=>?_
    refine A1 ?_
    obtain rfl:=oi_ D
    exact Ax [] ⟨rfl,rfl⟩
  ·refine Ah ?_
   refine Ad (Bb _ _ []) 136 152 B rfl rfl ?_
   refine Aj ?_
   refine Af fun B=>?_
   refine Dg rfl D (fun h13 D=>?_) fun h13 D=>?_
   ·refine Bp (ι:=Bool) (fun (x34_1:Bool)=>mk [(1,.ptr 0 0),(34,.val (.bool x34_1))] [(0,.box [vj u.Alg,vj u.Bits] 33)] 1) (fun (x34_1:Bool)=>As.j1 u x34_1=some r) ?_ ?_
    ·refine Ad (Bb _ _ []) 152 216 B rfl rfl ?_
     refine Aj ?_
     rcases Dx D with ⟨h14,D⟩ | ⟨h14,D⟩
     ·refine Aj ?_
      refine Af fun B=>?_
      exact⟨decide (u.Bits<=16384),D,Ay [(0,0)]⟩
     ·refine Aj ?_
      refine Af fun B=>?_
      exact⟨false,D,Ay [(0,0)]⟩
    ·rintro x34_1 D
     replace D:As.j1 u x34_1=some r:=D
     show B9 _ _ _ _ (mk _ _ _)
     unfold As.j1 at D
     refine Dg rfl D (fun h17 D=>?_) fun h17 D=>?_
     ·refine Ah ?_
      refine Ad (Bb _ _ []) 1 33 Az rfl rfl ?_
      refine Aj ?_
      obtain⟨y_2,hy_2,D⟩:=Ac D
      refine Dy (Sc _ _ hy_2) ?_
      refine Aj ?_
      refine Af fun B=>?_
      refine A1 ?_
      obtain rfl:=oi_ D
      exact Ax [] ⟨rfl,rfl⟩
     ·refine Ap ?_
      repeat first | refine Dc ?_ | refine De ?_
      refine A4 1 9 Az ?_
      refine Aj ?_
      refine Af fun B=>?_
      refine A1 ?_
      obtain rfl:=oi_ D
      exact Ax [] ⟨rfl,rfl⟩
   ·refine Ah ?_
    refine Ad (Bb _ _ []) 152 168 B rfl rfl ?_
    refine Aj ?_
    refine Af fun B=>?_
    refine Dg rfl D (fun h20 D=>?_) fun h20 D=>?_
    ·refine Ah ?_
     refine Ad (Bb _ _ []) 168 200 B rfl rfl ?_
     refine Bl rfl rfl (Ao E8 z3 (by decide) rfl rfl rfl rfl J7 (cs:=[.int .i64 160,.int .i64 224,.int .i64 256,.int .i64 384,.int .i64 521]) (.cons .int (.cons .int (.cons .int (.cons .int (.cons .int .nil))))) rfl (l:=([160,224,256,384,521]:List Int)) (f:=eI) rfl) rfl rfl ?_
     refine Aj ?_
     obtain⟨y_3,hy_3,D⟩:=Ac D
     refine F3 [168] [] [] true (Ow _ _ _ hy_3) ?_
     refine Af fun B=>?_
     refine Dg rfl D (fun h22 D=>?_) fun h22 D=>?_
     ·refine Ah ?_
      refine Ad (Bb _ _ []) 200 232 B rfl rfl ?_
      refine Aj ?_
      obtain⟨q,hq,D⟩:=Ac D
      refine Bl rfl rfl (bA hq) rfl rfl ?_
      refine Aj ?_
      refine Af fun B=>?_
      refine A1 ?_
      obtain rfl:=oi_ D
      exact Ax [] ⟨rfl,rfl⟩
     ·refine Ap ?_
      repeat first | refine Dc ?_ | refine De ?_
      refine A4 200 208 B ?_
      refine Aj ?_
      refine Af fun B=>?_
      refine A1 ?_
      obtain rfl:=oi_ D
      exact Ax [] ⟨rfl,rfl⟩
    ·refine Ah ?_
     refine Ad (Bb _ _ []) 168 184 B rfl rfl ?_
     refine Aj ?_
     refine Af fun B=>?_
     refine Dg rfl D (fun h25 D=>?_) fun h25 D=>?_
     ·refine Ah ?_
      refine Ad (Bb _ _ []) 184 232 B rfl rfl ?_
      refine Aj ?_
      obtain⟨y_4,hy_4,D⟩:=Ac D
      refine Dy (L6 _ _ _ hy_4) ?_
      refine Aj ?_
      refine Af fun B=>?_
      refine A4 232 248 B ?_
      refine Aj ?_
      refine Af fun B=>?_
      refine Dg rfl D (fun h28 D=>?_) fun h28 D=>?_
      ·refine Ah ?_
       refine Ad (Bb _ _ []) 248 296 B rfl rfl ?_
       refine Aj ?_
       obtain⟨e_2,he_2,D⟩:=Ac D
       refine Aj ?_
       refine Bl rfl rfl (Bq jY (A9 M2 (Aw he_2) (o:=0) (c:=.int .i64 e_2) rfl rfl)) rfl rfl ?_
       refine Aj ?_
       refine Af fun B=>?_
       refine A1 ?_
       obtain rfl:=oi_ D
       exact Ax [] ⟨rfl,rfl⟩
      ·refine Ap ?_
       repeat first | refine Dc ?_ | refine De ?_
       refine A4 248 256 B ?_
       refine Aj ?_
       refine Af fun B=>?_
       refine A1 ?_
       obtain rfl:=oi_ D
       exact Ax [] ⟨rfl,rfl⟩
     ·refine Ap ?_
      repeat first | refine Dc ?_ | refine De ?_
      refine A4 184 192 B ?_
      refine Aj ?_
      refine Af fun B=>?_
      refine A1 ?_
      obtain rfl:=oi_ D
      exact Ax [] ⟨rfl,rfl⟩
theorem Uu (u:A3) (r:Bool) (D:Hv u=some r):Fn Tryz.prog 102 0 [.agg [vj u.Alg,vj u.Bits]] [] (fun d' b'=>d'=.val (.bool r)/\b'=[]):=by
 unfold Hv at D
 refine Fn.of Tryz.func102 rfl rfl rfl fun w0 I ρ0=>?_
 show B9 _ ⟨w0,I,ρ0,0,0,6⟩ _ _ _
 refine A4 0 16 Az ?_
 refine Aj ?_
 refine Af fun B=>?_
 refine A4 16 48 B ?_
 refine Aj ?_
 obtain⟨y,hy,D⟩:=Ac D
 refine Dy (Qz _ _ hy) ?_
 refine Aj ?_
 refine Af fun B=>?_
 refine A1 ?_
 obtain rfl:=oi_ D
 exact Ax [] ⟨rfl,rfl⟩
theorem Vi (alg:Int) (r:Int) (D:Il alg=some r):Fn Tryz.prog 103 0 [vj alg] [] (fun d' b'=>d'=vj r/\b'=[]):=by
 unfold Il at D
 refine Fn.of Tryz.func103 rfl rfl rfl fun w0 I ρ0=>?_
 show B9 _ ⟨w0,I,ρ0,0,0,12⟩ _ _ _
 refine A4 0 8 Az ?_
 refine Aj ?_
 refine Af fun B=>?_
 refine A4 8 72 B ?_
 refine Aj ?_
 obtain⟨y,hy,D⟩:=Ac D
 refine Dy (Sa _ _ hy) ?_
 refine Aj ?_
 refine Af fun B=>?_
 refine A4 72 96 B ?_
 refine Aj ?_
 refine Af fun B=>?_
 refine A1 ?_
 obtain rfl:=oi_ D
 exact Ax [] ⟨rfl,rfl⟩
theorem Nn (u:A3) (kind:Int) (r:Bool) (D:Gj u kind=some r):Fn Tryz.prog 71 0 [.agg [vj u.Alg,vj u.Bits],vj kind] [] (fun d' b'=>d'=.val (.bool r)/\b'=[]):=by
 unfold Gj at D
 refine Fn.of Tryz.func71 rfl rfl rfl fun w0 I ρ0=>?_
 show B9 _ ⟨w0,I,ρ0,0,0,14⟩ _ _ _
 refine A4 0 16 Az ?_
 refine Aj ?_
 refine Af fun B=>?_
 refine A4 16 96 B ?_
 refine Aj ?_
 obtain⟨y,hy,D⟩:=Ac D
 refine Dy (Uu _ _ hy) ?_
 refine Aj ?_
 rcases Dx D with ⟨h2,D⟩ | ⟨h2,D⟩
 ·refine Aj ?_
  obtain⟨y_2,hy_2,D⟩:=Ac D
  refine Dy (Vi _ _ hy_2) ?_
  refine Aj ?_
  refine Af fun B=>?_
  refine A1 ?_
  obtain rfl:=oi_ D
  exact Ax [] ⟨rfl,rfl⟩
 ·refine Aj ?_
  refine Af fun B=>?_
  refine A1 ?_
  obtain rfl:=oi_ D
  exact Ax [] ⟨rfl,rfl⟩
theorem J6 (n:Int) (r:Bool) (D:E9 n=some r):Fn Tryz.prog 42 0 [vj n] [] (fun d' b'=>d'=.val (.bool r)/\b'=[]):=by
 unfold E9 at D
 refine Fn.of Tryz.func42 rfl rfl rfl fun w0 I ρ0=>?_
 show B9 _ ⟨w0,I,ρ0,0,0,9⟩ _ _ _
 refine A4 0 8 Az ?_
 refine Aj ?_
 refine Af fun B=>?_
 refine A4 8 64 B ?_
 refine Aj ?_
 rcases Dx D with ⟨h2,D⟩ | ⟨h2,D⟩
 ·refine Aj ?_
  refine Af fun B=>?_
  refine A1 ?_
  obtain rfl:=oi_ D
  exact Ax [] ⟨rfl,rfl⟩
 ·refine Aj ?_
  refine Af fun B=>?_
  refine A1 ?_
  obtain rfl:=oi_ D
  exact Ax [] ⟨rfl,rfl⟩
theorem Sd (n:Int) (r:Bool) (D:Gy n=some r):Fn Tryz.prog 72 0 [vj n] [] (fun d' b'=>d'=.val (.bool r)/\b'=[]):=by
 unfold Gy at D
 refine Fn.of Tryz.func72 rfl rfl rfl fun w0 I ρ0=>?_
 show B9 _ ⟨w0,I,ρ0,0,0,9⟩ _ _ _
 refine A4 0 8 Az ?_
 refine Aj ?_
 refine Af fun B=>?_
 refine A4 8 64 B ?_
 refine Aj ?_
 rcases Dx D with ⟨h2,D⟩ | ⟨h2,D⟩
 ·refine Aj ?_
  refine Af fun B=>?_
  refine A1 ?_
  obtain rfl:=oi_ D
  exact Ax [] ⟨rfl,rfl⟩
 ·refine Aj ?_
  refine Af fun B=>?_
  refine A1 ?_
  obtain rfl:=oi_ D
  exact Ax [] ⟨rfl,rfl⟩
theorem I1 (c:Ab) (r:Bool) (D:Au c=some r):Fn Tryz.prog 35 0 [.agg (Ab.dv c)] [] (fun d' b'=>d'=.val (.bool r)/\b'=[]):=by
 unfold Au at D
 refine Fn.of Tryz.func35 rfl rfl rfl fun w0 I ρ0=>?_
 show B9 _ ⟨w0,I,ρ0,0,0,91⟩ _ _ _
 refine A4 0 16 Az ?_
 refine Aj ?_
 refine Af fun B=>?_
 refine Ah ?_
 refine Bp (ι:=Bool) (fun (x28_1:Bool)=>mk [(1,.ptr 0 0),(28,.val (.bool x28_1))] [(0,.box (Ab.dv c) 38)] 1) (fun (x28_1:Bool)=>Au.j1 c x28_1=some r) ?_ ?_
 ·refine Ad (Bb _ _ []) 16 224 B rfl rfl ?_
  refine Aj ?_
  rcases Dx D with ⟨h2,D⟩ | ⟨h2,D⟩
  ·refine Aj ?_
   refine Af fun B=>?_
   exact⟨true,D,Ay [(0,0)]⟩
  ·refine Aj ?_
   rcases Dx D with ⟨h4,D⟩ | ⟨h4,D⟩
   ·refine Aj ?_
    refine Af fun B=>?_
    exact⟨true,D,Ay [(0,0)]⟩
   ·refine Aj ?_
    obtain⟨y,hy,D⟩:=Ac D
    refine Dy (K2 _ _ hy) ?_
    refine Aj ?_
    rcases Dx D with ⟨h6,D⟩ | ⟨h6,D⟩
    ·refine Aj ?_
     refine Af fun B=>?_
     exact⟨true,D,Ay [(0,0)]⟩
    ·refine Aj ?_
     obtain⟨y_2,hy_2,D⟩:=Ac D
     refine Dy (K2 _ _ hy_2) ?_
     refine Aj ?_
     rcases Dx D with ⟨h8,D⟩ | ⟨h8,D⟩
     ·refine Aj ?_
      refine Af fun B=>?_
      exact⟨true,D,Ay [(0,0)]⟩
     ·refine Aj ?_
      obtain⟨y_3,hy_3,D⟩:=Ac D
      refine Dy (Qd _ _ hy_3) ?_
      refine Aj ?_
      refine Af fun B=>?_
      exact⟨!y_3,D,Ay [(0,0)]⟩
 ·rintro x28_1 D
  replace D:Au.j1 c x28_1=some r:=D
  show B9 _ _ _ _ (mk _ _ _)
  unfold Au.j1 at D
  refine Dg rfl D (fun h11 D=>?_) fun h11 D=>?_
  ·refine Ah ?_
   refine Ad (Bb _ _ []) 1 9 Az rfl rfl ?_
   refine Aj ?_
   refine Af fun B=>?_
   refine A1 ?_
   obtain rfl:=oi_ D
   exact Ax [] ⟨rfl,rfl⟩
  ·refine Ap ?_
   repeat first | refine Dc ?_ | refine De ?_
   refine Ah ?_
   refine Bp (ι:=Bool) (fun (x58_2:Bool)=>mk [(1,.ptr 0 0),(58,.val (.bool x58_2))] [(0,.box (Ab.dv c) 38)] 1) (fun (x58_2:Bool)=>Au.j2 c x58_2=some r) ?_ ?_
   ·refine Ad (Bb _ _ []) 1 241 Az rfl rfl ?_
    refine Aj ?_
    obtain⟨y_4,hy_4,D⟩:=Ac D
    refine Dy (Nn _ _ _ hy_4) ?_
    refine Aj ?_
    rcases Dx D with ⟨h13,D⟩ | ⟨h13,D⟩
    ·refine Aj ?_
     refine Af fun B=>?_
     exact⟨true,D,Ay [(0,0)]⟩
    ·refine Aj ?_
     obtain⟨y_5,hy_5,D⟩:=Ac D
     refine Dy (J6 _ _ hy_5) ?_
     refine Aj ?_
     rcases Dx D with ⟨h15,D⟩ | ⟨h15,D⟩
     ·refine Aj ?_
      refine Af fun B=>?_
      exact⟨true,D,Ay [(0,0)]⟩
     ·refine Aj ?_
      obtain⟨y_6,hy_6,D⟩:=Ac D
      refine Dy (Nn _ _ _ hy_6) ?_
      refine Aj ?_
      rcases Dx D with ⟨h17,D⟩ | ⟨h17,D⟩
      ·refine Aj ?_
       refine Af fun B=>?_
       exact⟨true,D,Ay [(0,0)]⟩
      ·refine Aj ?_
       obtain⟨y_7,hy_7,D⟩:=Ac D
       refine Dy (J6 _ _ hy_7) ?_
       refine Aj ?_
       rcases Dx D with ⟨h19,D⟩ | ⟨h19,D⟩
       ·refine Aj ?_
        refine Af fun B=>?_
        exact⟨true,D,Ay [(0,0)]⟩
       ·refine Aj ?_
        obtain⟨y_8,hy_8,D⟩:=Ac D
        refine Dy (Sd _ _ hy_8) ?_
        refine Aj ?_
        refine Af fun B=>?_
        exact⟨!y_8,D,Ay [(0,0)]⟩
   ·rintro x58_2 D
    replace D:Au.j2 c x58_2=some r:=D
    show B9 _ _ _ _ (mk _ _ _)
    unfold Au.j2 at D
    refine Dg rfl D (fun h22 D=>?_) fun h22 D=>?_
    ·refine Ah ?_
     refine Ad (Bb _ _ []) 1 9 Az rfl rfl ?_
     refine Aj ?_
     refine Af fun B=>?_
     refine A1 ?_
     obtain rfl:=oi_ D
     exact Ax [] ⟨rfl,rfl⟩
    ·refine Ap ?_
     repeat first | refine Dc ?_ | refine De ?_
     refine Ah ?_
     refine Bp (ι:=Bool) (fun (x73_3:Bool)=>mk [(1,.ptr 0 0),(73,.val (.bool x73_3))] [(0,.box (Ab.dv c) 38)] 1) (fun (x73_3:Bool)=>Au.j3 c x73_3=some r) ?_ ?_
     ·refine Ad (Bb _ _ []) 1 121 Az rfl rfl ?_
      refine Aj ?_
      rcases Dx D with ⟨h24,D⟩ | ⟨h24,D⟩
      ·refine Aj ?_
       refine Af fun B=>?_
       exact⟨true,D,Ay [(0,0)]⟩
      ·refine Aj ?_
       rcases Dx D with ⟨h26,D⟩ | ⟨h26,D⟩
       ·refine Aj ?_
        refine Af fun B=>?_
        exact⟨true,D,Ay [(0,0)]⟩
       ·refine Aj ?_
        refine Af fun B=>?_
        exact⟨decide (40000 < c.To),D,Ay [(0,0)]⟩
     ·rintro x73_3 D
      replace D:Au.j3 c x73_3=some r:=D
      show B9 _ _ _ _ (mk _ _ _)
      unfold Au.j3 at D
      refine Dg rfl D (fun h29 D=>?_) fun h29 D=>?_
      ·refine Ah ?_
       refine Ad (Bb _ _ []) 1 9 Az rfl rfl ?_
       refine Aj ?_
       refine Af fun B=>?_
       refine A1 ?_
       obtain rfl:=oi_ D
       exact Ax [] ⟨rfl,rfl⟩
      ·refine Ap ?_
       repeat first | refine Dc ?_ | refine De ?_
       refine A4 1 145 Az ?_
       refine Aj ?_
       rcases Dx D with ⟨h31,D⟩ | ⟨h31,D⟩
       ·refine Aj ?_
        rcases Dx D with ⟨h32,D⟩ | ⟨h32,D⟩
        ·refine Aj ?_
         rcases Dx D with ⟨h33,D⟩ | ⟨h33,D⟩
         ·refine Aj ?_
          refine Af fun B=>?_
          refine A1 ?_
          obtain rfl:=oi_ D
          exact Ax [] ⟨rfl,rfl⟩
         ·refine Aj ?_
          refine Af fun B=>?_
          refine A1 ?_
          obtain rfl:=oi_ D
          exact Ax [] ⟨rfl,rfl⟩
        ·refine Aj ?_
         refine Af fun B=>?_
         refine A1 ?_
         obtain rfl:=oi_ D
         exact Ax [] ⟨rfl,rfl⟩
       ·refine Aj ?_
        refine Af fun B=>?_
        refine A1 ?_
        obtain rfl:=oi_ D
        exact Ax [] ⟨rfl,rfl⟩
theorem Qs (s:ByteArray) (r:Aa) (D:Jk s=some r):Fn Tryz.prog 112 0 [vk s] [] (fun d' b'=>d'=.agg (Aa.dv r)/\b'=[]):=by
 unfold Jk at D
 refine Fn.of Tryz.func112 rfl rfl rfl fun w0 I ρ0=>?_
 show B9 _ ⟨w0,I,ρ0,0,0,6⟩ _ _ _
 refine A4 0 8 Az ?_
 refine Aj ?_
 refine Af fun B=>?_
 refine A4 8 40 B ?_
 refine Aj ?_
 refine Bl rfl rfl (Zy P9 Qf Ia) rfl rfl ?_
 refine Bl rfl rfl (.build (r:=[.val (.int .i64 12),.sl 1 (Al e8 (Ln s)),.val (.bool false),.val (.slice none 0 0)]) Hh Me No (by kernel_rfl) rfl) rfl rfl ?_
 refine Aj ?_
 refine Af fun B=>?_
 refine A1 ?_
 obtain rfl:=oi_ D
 exact Ax [] ⟨rfl,rfl⟩
theorem Hz (n:Int) (r:Aa) (D:Bz n=some r):Fn Tryz.prog 89 0 [vj n] [] (fun d' b'=>d'=.agg (Aa.dv r)/\b'=[]):=by
 unfold Bz at D
 refine Fn.of Tryz.func89 rfl rfl rfl fun w0 I ρ0=>?_
 show B9 _ ⟨w0,I,ρ0,0,0,48⟩ _ _ _
 refine A4 0 8 Az ?_
 refine Aj ?_
 refine Af fun B=>?_
 refine A4 8 16 B ?_
 refine Aj ?_
 refine Af fun B=>?_
 refine Ah ?_
 refine A4 16 24 B ?_
 refine Aj ?_
 refine Af fun B=>?_
 refine Av ?_
 refine Nu (fun ((i_1,b_1):Int×List UInt8)=>mk [(0,vj n),(2,.ptr 0 0),(3,.row 1),(4,vj i_1)] [(0,.box [.val (.int .i64 0),.val (.slice none 0 0),.val (.bool false),.val (.slice none 0 0)] 30),(1,.row 5 1 (Al e8 b_1))] 2) D (Ay [(0,0)]) ?_
 rintro⟨i_1,b_1⟩ m1 o1 D hn1
 replace D:Bz.l1 n i_1 b_1=some o1:=D
 show B9 _ _ _ _ (mk _ _ _)
 unfold Bz.l1 at D
 refine Ah ?_
 refine A4 2 18 Az ?_
 refine Aj ?_
 refine Af fun B=>?_
 refine Dg rfl D (fun h5 D=>?_) fun h5 D=>?_
 ·refine Ap ?_
  repeat first | refine Dc ?_ | refine De ?_
  refine Ah ?_
  refine Av ?_
  refine Ad (Bb _ _ []) 18 90 B rfl rfl ?_
  refine Aj ?_
  refine Bl rfl rfl (U3 Kl Xj) rfl rfl ?_
  refine Aj ?_
  obtain⟨q,hq,D⟩:=Ac D
  refine Bl rfl rfl (Wj hq) rfl rfl ?_
  refine Bl rfl rfl (Gw Xj Ia) rfl rfl ?_
  refine Bl rfl rfl (Ao F5 z5 (by decide) rfl rfl rfl rfl Xn (cs:=[.int .u8 ((u8 q).toNat:Int)]) (.cons .int .nil) rfl (l:=([(u8 q)]:List UInt8)) (f:=e8) rfl) rfl rfl ?_
  obtain⟨l,hl,D⟩:=Ac D
  refine Fe (rd:=[1,66]) rfl rfl (Dj F5 B7 .row rfl .row rfl hl rfl) rfl rfl ?_
  refine Aj ?_
  refine Af fun B=>?_
  refine Ad (Bb _ _ []) 90 114 B rfl rfl ?_
  refine Aj ?_
  refine Af fun B=>?_
  obtain rfl:=oi_ D
  exact⟨((W (i_1 - 8),l),m1),Nat.lt_succ_self _,hn1,Ay [(0,0),(1,74)]⟩
 ·refine Cm ?_
  repeat first | refine Dc ?_ | refine De ?_
  replace D:=Dr D hn1
  refine Ah ?_
  refine Av ?_
  refine Nu (fun (b_2:List UInt8)=>mk [(2,.ptr 0 0),(3,.sl 1 (Al e8 b_2))] [(0,.box [.val (.int .i64 0),.val (.slice none 0 0),.val (.bool false),.val (.slice none 0 0)] 30)] 1) D (Ay [(0,0)]) ?_
  rintro b_2 m2 o2 D hn2
  replace D:Bz.l2 b_2=some o2:=D
  show B9 _ _ _ _ (mk _ _ _)
  unfold Bz.l2 at D
  refine Ah ?_
  refine Bp (ι:=Bool) (fun (x43_3:Bool)=>mk [(2,.ptr 0 0),(3,.sl 1 (Al e8 b_2)),(43,.val (.bool x43_3))] [(0,.box [.val (.int .i64 0),.val (.slice none 0 0),.val (.bool false),.val (.slice none 0 0)] 30)] 1) (fun (x43_3:Bool)=>Bz.j3 b_2 x43_3=some o2) ?_ ?_
  ·refine Ad (Bb _ _ []) 1 217 Az rfl rfl ?_
   refine Aj ?_
   rcases Dx D with ⟨h8,D⟩ | ⟨h8,D⟩
   ·refine Aj ?_
    obtain⟨e,he,D⟩:=Ac D
    refine Aj ?_
    refine Bl (Ef rfl rfl h8) rfl (Bq Na (A9 B7 (Aw he) (o:=0) (c:=.int .u8 (e.toNat:Int)) rfl rfl)) rfl rfl ?_
    refine Aj ?_
    rcases Dx D with ⟨h9,D⟩ | ⟨h9,D⟩
    ·refine Aj ?_
     obtain⟨e_2,he_2,D⟩:=Ac D
     refine Aj ?_
     refine Bl (Ef rfl rfl h9) rfl (Bq Na (A9 B7 (Aw he_2) (o:=0) (c:=.int .u8 (e_2.toNat:Int)) rfl rfl)) rfl rfl ?_
     refine Aj ?_
     rcases Dx D with ⟨h10,D⟩ | ⟨h10,D⟩
     ·refine Aj ?_
      refine Af fun B=>?_
      exact⟨true,D,Ay [(0,0)]⟩
     ·refine Aj ?_
      refine Bl (Ef rfl rfl h10) rfl (Bq Na (A9 B7 (Aw he) (o:=0) (c:=.int .u8 (e.toNat:Int)) rfl rfl)) rfl rfl ?_
      refine Aj ?_
      rcases Dx D with ⟨h12,D⟩ | ⟨h12,D⟩
      ·refine Aj ?_
       refine Bl (Ef rfl rfl h12) rfl (Bq Na (A9 B7 (Aw he_2) (o:=0) (c:=.int .u8 (e_2.toNat:Int)) rfl rfl)) rfl rfl ?_
       refine Aj ?_
       refine Af fun B=>?_
       exact⟨decide (128<=(e_2.toNat:Int)),D,Ay [(0,0)]⟩
      ·refine Aj ?_
       refine Af fun B=>?_
       exact⟨false,D,Ay [(0,0)]⟩
    ·refine Aj ?_
     refine Bl (Ef rfl rfl rfl) rfl (Bq Na (A9 B7 (Aw he) (o:=0) (c:=.int .u8 (e.toNat:Int)) rfl rfl)) rfl rfl ?_
     refine Aj ?_
     rcases Dx D with ⟨h15,D⟩ | ⟨h15,D⟩
     ·refine Aj ?_
      obtain⟨e_3,he_3,D⟩:=Ac D
      refine Aj ?_
      refine Bl (Ef rfl rfl h15) rfl (Bq Na (A9 B7 (Aw he_3) (o:=0) (c:=.int .u8 (e_3.toNat:Int)) rfl rfl)) rfl rfl ?_
      refine Aj ?_
      refine Af fun B=>?_
      exact⟨decide (128<=(e_3.toNat:Int)),D,Ay [(0,0)]⟩
     ·refine Aj ?_
      refine Af fun B=>?_
      exact⟨false,D,Ay [(0,0)]⟩
   ·refine Aj ?_
    refine Af fun B=>?_
    exact⟨false,D,Ay [(0,0)]⟩
  ·rintro x43_3 D
   replace D:Bz.j3 b_2 x43_3=some o2:=D
   show B9 _ _ _ _ (mk _ _ _)
   unfold Bz.j3 at D
   refine Dg rfl D (fun h19 D=>?_) fun h19 D=>?_
   ·refine Ap ?_
    repeat first | refine Dc ?_ | refine De ?_
    refine Av ?_
    refine Ad (Bb _ _ []) 1 25 Az rfl rfl ?_
    refine Aj ?_
    obtain⟨l_2,hl_2,D⟩:=Ac D
    refine Bl rfl rfl (P6 F5 B7 hl_2) rfl rfl ?_
    refine Aj ?_
    refine Af fun B=>?_
    obtain rfl:=oi_ D
    exact⟨(l_2,m2),Nat.lt_succ_self _,hn2,Ay [(0,0)]⟩
   ·refine Cm ?_
    repeat first | refine Dc ?_ | refine De ?_
    replace D:=Dr D hn2
    refine A4 1 25 Az ?_
    refine Aj ?_
    refine Bl rfl rfl (.build (r:=[.val (.int .i64 2),.sl 1 (Al e8 b_2),.val (.bool false),.val (.slice none 0 0)]) Hh Me No (by kernel_rfl) rfl) rfl rfl ?_
    refine Aj ?_
    refine Af fun B=>?_
    refine A1 ?_
    obtain rfl:=oi_ D
    exact Ax [] ⟨rfl,rfl⟩
end Go.Proofs.YtlfeokjhphpjeaaGreat
