import Derived.Test.YtfanepojdefdpaaGreatT1
import Derived.Test.YtfanepojdefdpaaGreatA2
import Derived.Test.YtfanepojdefdpaaGreatA3
import Derived.Test.YtfanepojdefdpaaGreatA4
import Derived.Test.YtfanepojdefdpaaGreatA5
set_option linter.unusedVariables false
set_option linter.unusedSimpArgs false
set_option maxRecDepth 100000
set_option maxHeartbeats 1600000
namespace Go.Proofs.YtfanepojdefdpaaGreat
open Go.RowKit
theorem Gw (rec:Aa->Option (Bool)) (hrec:∀ (v:Aa) (r:Bool),rec v=some r->Fn Tryz.prog 75 0 [.agg (Aa.dv v)] [] (fun d' b'=>d'=.val (.bool r)/\b'=[])) (s:(List Aa)) (f:Aa->Option (Bool)) (hf_f:∀ (x0:Aa) (y:Bool),f x0=some y->Fn Tryz.prog 118 0 [.agg (Aa.dv x0)] [] (fun d' b'=>d'=.val (.bool y)/\b'=[])) (r:Bool) (D:Cq rec s f=some r):Fn Tryz.prog 117 0 [.sl 4 (Al Aa.enc s),.clo 118 0 []] [] (fun d' b'=>d'=.val (.bool r)/\b'=[]):=by
 unfold Cq at D
 refine Fn.of Tryz.func117 rfl rfl rfl fun w0 I ρ0=>?_
 show Ce _ ⟨w0,I,ρ0,0,0,9⟩ _ _ _
 refine Bd 0 8 A5 ?_
 refine Ak ?_
 refine Ai fun B=>?_
 refine Bd 8 48 B ?_
 refine Ak ?_
 obtain⟨y,hy,D⟩:=Ad D
 refine Dm (Hk rec hrec s f hf_f _ hy) ?_
 refine Ak ?_
 refine Ai fun B=>?_
 refine A4 ?_
 obtain rfl:=oi_ D
 exact A3 [] ⟨rfl,rfl⟩
theorem Ma.F (rec:Aa->Option (Bool)) (hrec:∀ (v:Aa) (r:Bool),rec v=some r->Fn Tryz.prog 75 0 [.agg (Aa.dv v)] [] (fun d' b'=>d'=.val (.bool r)/\b'=[])) (v:Aa) (r:Bool) (D:B2.F rec v=some r):Fn Tryz.prog 75 0 [.agg (Aa.dv v)] [] (fun d' b'=>d'=.val (.bool r)/\b'=[]):=by
 unfold B2.F at D
 refine Fn.of Tryz.func75 rfl rfl rfl fun w0 I ρ0=>?_
 show Ce _ ⟨w0,I,ρ0,0,0,41⟩ _ _ _
 refine Bd 0 16 A5 ?_
 refine Ak ?_
 refine Ai fun B=>?_
 refine Ah ?_
 refine B9 (ι:=Bool) (fun (x36_1:Bool)=>mk [(1,.ptr 0 0),(36,.val (.bool x36_1))] [(0,.box (Aa.dv v) 50)] 1) (fun (x36_1:Bool)=>B2.j1 rec v x36_1=some r) ?_ ?_
 ·refine Ae (Bp _ _ []) 16 288 B rfl rfl ?_
  refine Ak ?_
  obtain⟨y,hy,D⟩:=Ad D
  refine Dm (dJ _ _ hy) ?_
  refine Ak ?_
  rcases D2 D with ⟨h2,D⟩ | ⟨h2,D⟩
  ·refine Ak ?_
   refine Ai fun B=>?_
   exact⟨true,D,A1 [(0,0)]⟩
  ·refine Ak ?_
   refine Bn (Bu rfl rfl h2) rfl gX rfl rfl ?_
   refine Ak ?_
   refine Bn (Bu rfl rfl h2) rfl (Zn Xq) rfl rfl ?_
   refine Ak ?_
   rcases D2 D with ⟨h4,D⟩ | ⟨h4,D⟩
   ·refine Ak ?_
    refine Ai fun B=>?_
    exact⟨true,D,A1 [(0,0)]⟩
   ·refine Ak ?_
    rcases D2 D with ⟨h6,D⟩ | ⟨h6,D⟩
    ·refine Ak ?_
     rcases D2 D with ⟨h7,D⟩ | ⟨h7,D⟩
     ·refine Ak ?_
      refine Ai fun B=>?_
      exact⟨true,D,A1 [(0,0)]⟩
     ·refine Ak ?_
      refine Ai fun B=>?_
      exact⟨false,D,A1 [(0,0)]⟩
    ·refine Ak ?_
     refine Ai fun B=>?_
     exact⟨decide (0 < (v.Elements.length:Int)),D,A1 [(0,0)]⟩
 ·rintro x36_1 D
  replace D:B2.j1 rec v x36_1=some r:=D
  show Ce _ _ _ _ (mk _ _ _)
  unfold B2.j1 at D
  refine Df rfl D (fun h11 D=>?_) fun h11 D=>?_
  ·refine Ah ?_
   refine Ae (Bp _ _ []) 1 9 A5 rfl rfl ?_
   refine Ak ?_
   refine Ai fun B=>?_
   refine A4 ?_
   obtain rfl:=oi_ D
   exact A3 [] ⟨rfl,rfl⟩
  ·refine Ap ?_
   repeat first | refine C4 ?_ | refine C3 ?_
   refine Bd 1 41 A5 ?_
   refine Ak ?_
   obtain⟨y_2,hy_2,D⟩:=Ad D
   refine Dm (Gw rec hrec v.Elements (fun x0=>El rec x0) (fun x0 yy hh=>Sq rec hrec x0 yy hh) _ hy_2) ?_
   refine Ak ?_
   refine Ai fun B=>?_
   refine A4 ?_
   obtain rfl:=oi_ D
   exact A3 [] ⟨rfl,rfl⟩
theorem Ma (v:Aa) (r:Bool) (D:B2 v=some r):Fn Tryz.prog 75 0 [.agg (Aa.dv v)] [] (fun d' b'=>d'=.val (.bool r)/\b'=[]):=
 Je (motive:=fun (x:Aa) (r:Bool)=>Fn Tryz.prog 75 0 [.agg (Aa.dv x)] [] (fun d' b'=>d'=.val (.bool r)/\b'=[])) (fun rec hrec x r h=>Ma.F _ (fun v r h=>hrec v r h) x r h) v r D
theorem Na.F (rec:Aa->Option (Int)) (hrec:∀ (v:Aa) (r:Int),rec v=some r->Fn Tryz.prog 76 0 [.agg (Aa.dv v)] [] (fun d' b'=>d'=vj r/\b'=[])) (v:Aa) (r:Int) (D:Ct.F rec v=some r):Fn Tryz.prog 76 0 [.agg (Aa.dv v)] [] (fun d' b'=>d'=vj r/\b'=[]):=by
 unfold Ct.F at D
 refine Fn.of Tryz.func76 rfl rfl rfl fun w0 I ρ0=>?_
 show Ce _ ⟨w0,I,ρ0,0,0,20⟩ _ _ _
 refine Bd 0 16 A5 ?_
 refine Ak ?_
 refine Ai fun B=>?_
 refine Bd 16 24 B ?_
 refine Ak ?_
 refine Ai fun B=>?_
 refine Ah ?_
 refine Bd 24 56 B ?_
 refine Ak ?_
 refine Ai fun B=>?_
 refine As ?_
 refine Jk (fun ((most_1,x9_1):Int×Int)=>mk [(3,vj most_1),(7,.sl 4 (Al Aa.enc v.Elements)),(8,.val (.int .i64 (v.Elements.length:Int))),(9,vj x9_1)] [] 0) D (A1 []) ?_
 rintro⟨most_1,x9_1⟩ m1 o1 D hn1
 replace D:Ct.l1 rec v most_1 x9_1=some o1:=D
 show Ce _ _ _ _ (mk _ _ _)
 unfold Ct.l1 at D
 refine Bd 0 8 A5 ?_
 refine Ak ?_
 refine Ai fun B=>?_
 refine Ah ?_
 refine Df rfl D (fun h5 D=>?_) fun h5 D=>?_
 ·refine Ap ?_
  repeat first | refine C4 ?_ | refine C3 ?_
  refine Ah ?_
  refine As ?_
  refine Bd 8 40 B ?_
  obtain⟨e,he,D⟩:=Ad D
  refine Ak ?_
  refine Bn rfl rfl (C1 Xe (Bx Aa.enc_len (Ao he) (o:=0) (m:=4) (cs:=[.int .i64 e.Tag,.sl 1 (Al e8 e.Bytes),.bool e.Nested,.sl 4 (Al Aa.enc e.Elements)]) (by simp only [Aa.enc_eq]; rfl) (by decide) rfl) (Ba Aa.enc_len (Ao he) (o:=0) (m:=4) (by decide) rfl)) rfl rfl ?_
  refine Ak ?_
  refine Ai fun B=>?_
  refine Ae (Bp _ _ []) 40 80 B rfl rfl ?_
  refine Ak ?_
  obtain⟨y,hy,D⟩:=Ad D
  refine Dm (hrec _ _ hy) ?_
  refine Bn rfl rfl mZ rfl rfl ?_
  refine Ak ?_
  refine Ai fun B=>?_
  refine Ae (Bp _ _ []) 80 96 B rfl rfl ?_
  refine Ak ?_
  refine Ai fun B=>?_
  obtain rfl:=oi_ D
  exact⟨((max most_1 y,W (x9_1 + 1)),m1),vO _,hn1,A1 []⟩
 ·refine Bv ?_
  repeat first | refine C4 ?_ | refine C3 ?_
  replace D:=C0 D hn1
  refine Bd 8 32 B ?_
  refine Ak ?_
  refine Ai fun B=>?_
  refine A4 ?_
  obtain rfl:=oi_ D
  exact A3 [] ⟨rfl,rfl⟩
theorem Na (v:Aa) (r:Int) (D:Ct v=some r):Fn Tryz.prog 76 0 [.agg (Aa.dv v)] [] (fun d' b'=>d'=vj r/\b'=[]):=
 Je (motive:=fun (x:Aa) (r:Int)=>Fn Tryz.prog 76 0 [.agg (Aa.dv x)] [] (fun d' b'=>d'=vj r/\b'=[])) (fun rec hrec x r h=>Na.F _ (fun v r h=>hrec v r h) x r h) v r D
theorem Lj (b:List UInt8) (n:Int) (r:(List UInt8)) (D:Ch b n=some r):Fn Tryz.prog 120 0 [.row 0,vj n] [.row 5 1 (Al e8 b)] (fun d' b'=>d'=.row 0/\b'=[.row 5 1 (Al e8 r)]):=by
 unfold Ch at D
 refine Fn.of Tryz.func120 rfl rfl rfl fun w0 I ρ0=>?_
 show Ce _ ⟨w0,I,ρ0,0,1,43⟩ _ _ _
 refine Bd 1 9 A5 ?_
 refine Ak ?_
 refine Ai fun B=>?_
 refine Ah ?_
 refine Bd 9 25 B ?_
 refine Ak ?_
 refine Ai fun B=>?_
 refine Df rfl D (fun h3 D=>?_) fun h3 D=>?_
 ·refine Ah ?_
  refine Ae (Bp _ _ []) 25 73 B rfl rfl ?_
  refine Ak ?_
  refine Bn rfl rfl (Fq O6 L1) rfl rfl ?_
  refine Bn rfl rfl (An G6 z5 (by decide) rfl rfl rfl rfl Wz (cs:=[.int .u8 ((u8 n).toNat:Int)]) (.cons .int .nil) rfl (l:=([(u8 n)]:List UInt8)) (f:=e8) rfl) rfl rfl ?_
  obtain⟨l,hl,D⟩:=Ad D
  refine Ed (rd:=[0,49]) rfl rfl (Cs G6 D7 .row rfl .row rfl hl rfl) rfl rfl ?_
  refine Ak ?_
  refine Ai fun B=>?_
  refine A4 ?_
  obtain rfl:=oi_ D
  exact A3 [(0,57)] ⟨rfl,rfl⟩
 ·refine Ap ?_
  repeat first | refine C4 ?_ | refine C3 ?_
  refine Bd 25 33 B ?_
  refine Ak ?_
  refine Ai fun B=>?_
  refine Ah ?_
  refine Bd 33 49 B ?_
  refine Ak ?_
  refine Ai fun B=>?_
  refine As ?_
  refine Jk (fun ((count_1,m_1):Int×Int)=>mk [(0,.row 0),(1,vj n),(5,vj count_1),(6,vj m_1)] [(0,.row 5 1 (Al e8 b))] 1) D (A1 [(0,0)]) ?_
  rintro⟨count_1,m_1⟩ m1 o1 D hn1
  replace D:Ch.l1 b n count_1 m_1=some o1:=D
  show Ce _ _ _ _ (mk _ _ _)
  unfold Ch.l1 at D
  refine Ah ?_
  refine Bd 1 17 A5 ?_
  refine Ak ?_
  refine Ai fun B=>?_
  refine Df rfl D (fun h8 D=>?_) fun h8 D=>?_
  ·refine Ap ?_
   repeat first | refine C4 ?_ | refine C3 ?_
   refine Ah ?_
   refine As ?_
   refine Ae (Bp _ _ []) 17 41 B rfl rfl ?_
   refine Ak ?_
   refine Ai fun B=>?_
   refine Ae (Bp _ _ []) 41 65 B rfl rfl ?_
   refine Ak ?_
   obtain⟨q,hq,D⟩:=Ad D
   refine Bn rfl rfl (Nq hq) rfl rfl ?_
   refine Ak ?_
   refine Ai fun B=>?_
   obtain rfl:=oi_ D
   exact⟨((W (count_1 + 1),q),m1),vO _,hn1,A1 [(0,0)]⟩
  ·refine Bv ?_
   repeat first | refine C4 ?_ | refine C3 ?_
   replace D:=C0 D hn1
   refine Bd 17 73 B ?_
   refine Ak ?_
   refine Bn rfl rfl (Fq O6 L1) rfl rfl ?_
   refine Bn rfl rfl (An G6 z5 (by decide) rfl rfl rfl rfl Wz (cs:=[.int .u8 ((u8 (W (128 + count_1))).toNat:Int)]) (.cons .int .nil) rfl (l:=([(u8 (W (128 + count_1)))]:List UInt8)) (f:=e8) rfl) rfl rfl ?_
   obtain⟨l_2,hl_2,D⟩:=Ad D
   refine Ed (rd:=[0,49]) rfl rfl (Cs G6 D7 .row rfl .row rfl hl_2 rfl) rfl rfl ?_
   refine Ak ?_
   refine Ai fun B=>?_
   refine Ah ?_
   refine Bd 73 97 B ?_
   refine Ak ?_
   refine Ai fun B=>?_
   refine As ?_
   refine Jk (fun ((i_2,b_2):Int×List UInt8)=>mk [(0,.row 0),(1,vj n),(7,vj i_2)] [(0,.row 5 1 (Al e8 b_2))] 1) D (A1 [(0,57)]) ?_
   rintro⟨i_2,b_2⟩ m2 o2 D hn2
   replace D:Ch.l2 n i_2 b_2=some o2:=D
   show Ce _ _ _ _ (mk _ _ _)
   unfold Ch.l2 at D
   refine Ah ?_
   refine Bd 1 17 A5 ?_
   refine Ak ?_
   refine Ai fun B=>?_
   refine Df rfl D (fun h14 D=>?_) fun h14 D=>?_
   ·refine Ap ?_
    repeat first | refine C4 ?_ | refine C3 ?_
    refine Ah ?_
    refine As ?_
    refine Ae (Bp _ _ []) 17 89 B rfl rfl ?_
    refine Ak ?_
    obtain⟨q_2,hq_2,D⟩:=Ad D
    refine Bn rfl rfl (Nq hq_2) rfl rfl ?_
    refine Bn rfl rfl (Fq O6 L1) rfl rfl ?_
    refine Bn rfl rfl (An G6 z5 (by decide) rfl rfl rfl rfl Wz (cs:=[.int .u8 ((u8 q_2).toNat:Int)]) (.cons .int .nil) rfl (l:=([(u8 q_2)]:List UInt8)) (f:=e8) rfl) rfl rfl ?_
    obtain⟨l_3,hl_3,D⟩:=Ad D
    refine Ed (rd:=[0,65]) rfl rfl (Cs G6 D7 .row rfl .row rfl hl_3 rfl) rfl rfl ?_
    refine Ak ?_
    refine Ai fun B=>?_
    refine Ae (Bp _ _ []) 89 113 B rfl rfl ?_
    refine Ak ?_
    refine Ai fun B=>?_
    obtain rfl:=oi_ D
    exact⟨((W (i_2 - 1),l_3),m2),vO _,hn2,A1 [(0,73)]⟩
   ·refine Bv ?_
    repeat first | refine C4 ?_ | refine C3 ?_
    replace D:=C0 D hn2
    refine Bd 17 33 B ?_
    refine Ak ?_
    refine Ai fun B=>?_
    refine A4 ?_
    obtain rfl:=oi_ D
    exact A3 [(0,0)] ⟨rfl,rfl⟩
theorem Pm (rec:Aa->Option ((List UInt8))) (hrec:∀ (v:Aa) (r:(List UInt8)),rec v=some r->Fn Tryz.prog 119 0 [.agg (Aa.dv v)] [] (fun d' b'=>d'=.sl 1 (Al e8 r)/\b'=[])) (b:List UInt8) (v:Aa) (r:(List UInt8)) (D:Fp rec b v=some r):Fn Tryz.prog 77 0 [.row 0,.agg (Aa.dv v)] [.row 5 1 (Al e8 b)] (fun d' b'=>d'=.row 0/\b'=[.row 5 1 (Al e8 r)]):=by
 unfold Fp at D
 refine Fn.of Tryz.func77 rfl rfl rfl fun w0 I ρ0=>?_
 show Ce _ ⟨w0,I,ρ0,0,1,19⟩ _ _ _
 refine Bd 1 17 A5 ?_
 refine Ak ?_
 refine Ai fun B=>?_
 refine Bd 17 41 B ?_
 refine Ak ?_
 obtain⟨y,hy,D⟩:=Ad D
 refine Dm (hrec _ _ hy) ?_
 refine Ak ?_
 refine Ai fun B=>?_
 refine Bd 41 137 B ?_
 refine Ak ?_
 refine Bn rfl rfl (Fq O6 L1) rfl rfl ?_
 refine Bn rfl rfl (An G6 z5 (by decide) rfl rfl rfl rfl Wz (cs:=[.int .u8 ((u8 v.Tag).toNat:Int)]) (.cons .int .nil) rfl (l:=([(u8 v.Tag)]:List UInt8)) (f:=e8) rfl) rfl rfl ?_
 obtain⟨l,hl,D⟩:=Ad D
 refine Ed (rd:=[0,73]) rfl rfl (Cs G6 D7 .row rfl .row rfl hl rfl) rfl rfl ?_
 refine Ak ?_
 obtain⟨y_2,hy_2,D⟩:=Ad D
 refine Hi (rd:=[81]) (ps:=[]) (gs:=[81]) false rfl (Lj _ _ _ hy_2) rfl rfl (.cons (.rowK rfl) (.cons .val .nil)) ⟨_,_,_,rfl,.head _,rfl,rfl⟩ rfl (by intro h; cases h) rfl (by intro h; first | (cases h; done) | exact⟨_,_,⟨rfl,rfl⟩,by simp,by simp⟩) ?_
 rintro _ _ ⟨rfl,rfl⟩
 refine Ak ?_
 obtain⟨l_2,hl_2,D⟩:=Ad D
 refine Ed (rd:=[105]) rfl rfl (Cs G6 D7 .row rfl .sl rfl hl_2 rfl) rfl rfl ?_
 refine Ak ?_
 refine Ai fun B=>?_
 refine A4 ?_
 obtain rfl:=oi_ D
 exact A3 [(0,121)] ⟨rfl,rfl⟩
theorem Ki.F (rec:Aa->Option ((List UInt8))) (hrec:∀ (v:Aa) (r:(List UInt8)),rec v=some r->Fn Tryz.prog 119 0 [.agg (Aa.dv v)] [] (fun d' b'=>d'=.sl 1 (Al e8 r)/\b'=[])) (v:Aa) (r:(List UInt8)) (D:Bw.F rec v=some r):Fn Tryz.prog 119 0 [.agg (Aa.dv v)] [] (fun d' b'=>d'=.sl 1 (Al e8 r)/\b'=[]):=by
 unfold Bw.F at D
 refine Fn.of Tryz.func119 rfl rfl rfl fun w0 I ρ0=>?_
 show Ce _ ⟨w0,I,ρ0,0,0,23⟩ _ _ _
 refine Bd 0 16 A5 ?_
 refine Ak ?_
 refine Ai fun B=>?_
 refine Ah ?_
 refine Bd 16 40 B ?_
 refine Ak ?_
 refine Ai fun B=>?_
 refine Df rfl D (fun h3 D=>?_) fun h3 D=>?_
 ·refine Ah ?_
  refine Ae (Bp _ _ []) 40 64 B rfl rfl ?_
  refine Ak ?_
  refine Ai fun B=>?_
  refine A4 ?_
  obtain rfl:=oi_ D
  exact A3 [] ⟨rfl,rfl⟩
 ·refine Ap ?_
  repeat first | refine C4 ?_ | refine C3 ?_
  refine Bd 40 48 B ?_
  refine Ak ?_
  refine Ai fun B=>?_
  refine Ah ?_
  refine Bd 48 80 B ?_
  refine Ak ?_
  refine Ai fun B=>?_
  refine As ?_
  refine Jk (fun ((x14_1,out_1):Int×List UInt8)=>mk [(3,.row 0),(12,.sl 4 (Al Aa.enc v.Elements)),(13,.val (.int .i64 (v.Elements.length:Int))),(14,vj x14_1)] [(0,.row 5 1 (Al e8 out_1))] 1) D (A1 []) ?_
  rintro⟨x14_1,out_1⟩ m1 o1 D hn1
  replace D:Bw.l1 rec v x14_1 out_1=some o1:=D
  show Ce _ _ _ _ (mk _ _ _)
  unfold Bw.l1 at D
  refine Bd 1 9 A5 ?_
  refine Ak ?_
  refine Ai fun B=>?_
  refine Ah ?_
  refine Df rfl D (fun h8 D=>?_) fun h8 D=>?_
  ·refine Ap ?_
   repeat first | refine C4 ?_ | refine C3 ?_
   refine Ah ?_
   refine As ?_
   refine Bd 9 41 B ?_
   obtain⟨e,he,D⟩:=Ad D
   refine Ak ?_
   refine Bn rfl rfl (C1 Xe (Bx Aa.enc_len (Ao he) (o:=0) (m:=4) (cs:=[.int .i64 e.Tag,.sl 1 (Al e8 e.Bytes),.bool e.Nested,.sl 4 (Al Aa.enc e.Elements)]) (by simp only [Aa.enc_eq]; rfl) (by decide) rfl) (Ba Aa.enc_len (Ao he) (o:=0) (m:=4) (by decide) rfl)) rfl rfl ?_
   refine Ak ?_
   refine Ai fun B=>?_
   refine Ae (Bp _ _ []) 41 73 B rfl rfl ?_
   refine Ak ?_
   obtain⟨y,hy,D⟩:=Ad D
   refine Hi (rd:=[0]) (ps:=[]) (gs:=[0]) false rfl (Pm rec hrec _ _ _ hy) rfl rfl (.cons (.rowK rfl) (.cons (.agg (.cons .val (.cons .sl (.cons .val (.cons .sl .nil))))) .nil)) ⟨_,_,_,rfl,.head _,rfl,rfl⟩ rfl (by intro h; cases h) rfl (by intro h; first | (cases h; done) | exact⟨_,_,⟨rfl,rfl⟩,by simp,by simp⟩) ?_
   rintro _ _ ⟨rfl,rfl⟩
   refine Ak ?_
   refine Ai fun B=>?_
   refine Ae (Bp _ _ []) 73 89 B rfl rfl ?_
   refine Ak ?_
   refine Ai fun B=>?_
   obtain rfl:=oi_ D
   exact⟨((W (x14_1 + 1),y),m1),vO _,hn1,A1 [(0,57)]⟩
  ·refine Bv ?_
   repeat first | refine C4 ?_ | refine C3 ?_
   replace D:=C0 D hn1
   refine Bd 9 25 B ?_
   refine Ak ?_
   refine Ai fun B=>?_
   refine A4 ?_
   obtain rfl:=oi_ D
   exact A3 [] ⟨rfl,rfl⟩
theorem Ki (v:Aa) (r:(List UInt8)) (D:Bw v=some r):Fn Tryz.prog 119 0 [.agg (Aa.dv v)] [] (fun d' b'=>d'=.sl 1 (Al e8 r)/\b'=[]):=
 Je (motive:=fun (x:Aa) (r:(List UInt8))=>Fn Tryz.prog 119 0 [.agg (Aa.dv x)] [] (fun d' b'=>d'=.sl 1 (Al e8 r)/\b'=[])) (fun rec hrec x r h=>Ki.F _ (fun v r h=>hrec v r h) x r h) v r D
theorem Mx (v:Aa) (r:(List UInt8)) (D:Hg v=some r):Fn Tryz.prog 77 0 [.val (.slice none 0 0),.agg (Aa.dv v)] [] (fun d' b'=>d'=.row 0/\b'=[.row 5 1 (Al e8 r)]):=by
 unfold Hg at D
 refine Fn.of Tryz.func77 rfl rfl rfl fun w0 I ρ0=>?_
 show Ce _ ⟨w0,I,ρ0,0,0,19⟩ _ _ _
 refine Bd 0 16 A5 ?_
 refine Ak ?_
 refine Ai fun B=>?_
 refine Bd 16 40 B ?_
 refine Ak ?_
 obtain⟨y,hy,D⟩:=Ad D
 refine Dm (Ki _ _ hy) ?_
 refine Ak ?_
 refine Ai fun B=>?_
 refine Bd 40 136 B ?_
 refine Ak ?_
 refine Bn rfl rfl (Fq O6 L1) rfl rfl ?_
 refine Bn rfl rfl (An G6 z5 (by decide) rfl rfl rfl rfl Wz (cs:=[.int .u8 ((u8 v.Tag).toNat:Int)]) (.cons .int .nil) rfl (l:=([(u8 v.Tag)]:List UInt8)) (f:=e8) rfl) rfl rfl ?_
 obtain⟨l,hl,D⟩:=Ad D
 refine Ed (rd:=[72]) rfl rfl (Cs G6 D7 .nil rfl .row rfl hl rfl) rfl rfl ?_
 refine Ak ?_
 obtain⟨y_2,hy_2,D⟩:=Ad D
 refine Hi (rd:=[80]) (ps:=[]) (gs:=[80]) false rfl (Lj _ _ _ hy_2) rfl rfl (.cons (.rowK rfl) (.cons .val .nil)) ⟨_,_,_,rfl,.head _,rfl,rfl⟩ rfl (by intro h; cases h) rfl (by intro h; first | (cases h; done) | exact⟨_,_,⟨rfl,rfl⟩,by simp,by simp⟩) ?_
 rintro _ _ ⟨rfl,rfl⟩
 refine Ak ?_
 obtain⟨l_2,hl_2,D⟩:=Ad D
 refine Ed (rd:=[104]) rfl rfl (Cs G6 D7 .row rfl .sl rfl hl_2 rfl) rfl rfl ?_
 refine Ak ?_
 refine Ai fun B=>?_
 refine A4 ?_
 obtain rfl:=oi_ D
 exact A3 [(0,120)] ⟨rfl,rfl⟩
theorem Wf (v:Aa) (r:(List UInt8)×Int) (D:Hx v=some r):Fn Tryz.prog 31 0 [.agg (Aa.dv v)] [] (fun d' b'=>d'=.tup [.sl 1 (Al e8 r.1),vj r.2]/\b'=[]):=by
 unfold Hx at D
 refine Fn.of Tryz.func31 rfl rfl rfl fun w0 I ρ0=>?_
 show Ce _ ⟨w0,I,ρ0,0,0,17⟩ _ _ _
 refine Bd 0 24 A5 ?_
 refine Ak ?_
 refine Ai fun B=>?_
 refine Ah ?_
 refine Bd 24 48 B ?_
 refine Ak ?_
 obtain⟨y,hy,D⟩:=Ad D
 refine Dm (Ma _ _ hy) ?_
 refine Ak ?_
 refine Ai fun B=>?_
 refine Df rfl D (fun h3 D=>?_) fun h3 D=>?_
 ·refine Ah ?_
  refine Ae (Bp _ _ []) 48 64 B rfl rfl ?_
  refine Ak ?_
  refine Ai fun B=>?_
  refine A4 ?_
  obtain rfl:=oi_ D
  exact A3 [] ⟨rfl,rfl⟩
 ·refine Ap ?_
  repeat first | refine C4 ?_ | refine C3 ?_
  refine Ah ?_
  refine Bd 48 72 B ?_
  refine Ak ?_
  obtain⟨y_2,hy_2,D⟩:=Ad D
  refine Dm (Na _ _ hy_2) ?_
  refine Ak ?_
  refine Ai fun B=>?_
  refine Df rfl D (fun h6 D=>?_) fun h6 D=>?_
  ·refine Ah ?_
   refine Ae (Bp _ _ []) 72 88 B rfl rfl ?_
   refine Ak ?_
   refine Ai fun B=>?_
   refine A4 ?_
   obtain rfl:=oi_ D
   exact A3 [] ⟨rfl,rfl⟩
  ·refine Ap ?_
   repeat first | refine C4 ?_ | refine C3 ?_
   refine Bd 72 96 B ?_
   refine Ak ?_
   obtain⟨y_3,hy_3,D⟩:=Ad D
   refine Hi (rd:=[]) (ps:=[]) (gs:=[]) false rfl (Mx _ _ hy_3) rfl rfl (.cons .val (.cons (.agg (.cons .val (.cons .sl (.cons .val (.cons .sl .nil))))) .nil)) rfl rfl (by intro h; cases h) rfl (by intro h; first | (cases h; done) | exact⟨_,_,⟨rfl,rfl⟩,by simp,by simp⟩) ?_
   rintro _ _ ⟨rfl,rfl⟩
   refine Ak ?_
   refine Ai fun B=>?_
   refine Ah ?_
   refine Bd 96 120 B ?_
   refine Ak ?_
   refine Ai fun B=>?_
   refine Df rfl D (fun h10 D=>?_) fun h10 D=>?_
   ·refine Ah ?_
    refine Ae (Bp _ _ []) 120 136 B rfl rfl ?_
    refine Ak ?_
    refine Ai fun B=>?_
    refine A4 ?_
    obtain rfl:=oi_ D
    exact A3 [] ⟨rfl,rfl⟩
   ·refine Ap ?_
    repeat first | refine C4 ?_ | refine C3 ?_
    refine Bd 120 144 B ?_
    refine Ak ?_
    refine Ai fun B=>?_
    refine A4 ?_
    obtain rfl:=oi_ D
    exact A3 [] ⟨rfl,rfl⟩
theorem Pr (l:(List Ac)) (r:(List UInt8)×Int) (D:Cd l=some r):Fn Tryz.prog 9 0 [.sl 6 (Al Ac.enc l)] [] (fun d' b'=>d'=.tup [.sl 1 (Al e8 r.1),vj r.2]/\b'=[]):=by
 unfold Cd at D
 refine Fn.of Tryz.func9 rfl rfl rfl fun w0 I ρ0=>?_
 show Ce _ ⟨w0,I,ρ0,0,0,27⟩ _ _ _
 refine Bd 0 16 A5 ?_
 refine Ak ?_
 refine Ai fun B=>?_
 refine Ah ?_
 refine Bd 16 40 B ?_
 refine Ak ?_
 obtain⟨y,hy,D⟩:=Ad D
 refine Dm (Gp _ _ hy) ?_
 refine Ak ?_
 refine Ai fun B=>?_
 refine Df rfl D (fun h3 D=>?_) fun h3 D=>?_
 ·refine Ah ?_
  refine Ae (Bp _ _ []) 40 56 B rfl rfl ?_
  refine Ak ?_
  refine Ai fun B=>?_
  refine A4 ?_
  obtain rfl:=oi_ D
  exact A3 [] ⟨rfl,rfl⟩
 ·refine Ap ?_
  repeat first | refine C4 ?_ | refine C3 ?_
  refine Bd 40 48 B ?_
  refine Ak ?_
  refine Ai fun B=>?_
  refine Ah ?_
  refine Bd 48 72 B ?_
  refine Ak ?_
  refine Ai fun B=>?_
  refine As ?_
  refine Jk (fun ((x12_1,entries_1):Int×List Aa)=>mk [(4,.row 0),(10,.sl 6 (Al Ac.enc l)),(11,.val (.int .i64 (l.length:Int))),(12,vj x12_1)] [(0,.row 50 4 (Al Aa.enc entries_1))] 1) D (A1 []) ?_
  rintro⟨x12_1,entries_1⟩ m1 o1 D hn1
  replace D:Cd.l1 l x12_1 entries_1=some o1:=D
  show Ce _ _ _ _ (mk _ _ _)
  unfold Cd.l1 at D
  refine Bd 1 9 A5 ?_
  refine Ak ?_
  refine Ai fun B=>?_
  refine Ah ?_
  refine Df rfl D (fun h8 D=>?_) fun h8 D=>?_
  ·refine Ap ?_
   repeat first | refine C4 ?_ | refine C3 ?_
   refine Ah ?_
   refine As ?_
   refine Bd 9 41 B ?_
   obtain⟨e,he,D⟩:=Ad D
   refine Ak ?_
   refine Bn rfl rfl (C1 L6 (Bx Ac.enc_len (Ao he) (o:=0) (m:=6) (cs:=(Ac.ec e)) rfl (by decide) rfl) (Ba Ac.enc_len (Ao he) (o:=0) (m:=6) (by decide) rfl)) rfl rfl ?_
   refine Ak ?_
   refine Ai fun B=>?_
   refine Ae (Bp _ _ []) 41 89 B rfl rfl ?_
   refine Ak ?_
   obtain⟨y_2,hy_2,D⟩:=Ad D
   refine Dm (O3 _ _ hy_2) ?_
   refine Bn rfl rfl (An Iv O9 (by decide) rfl rfl rfl rfl Mb (cs:=[.int .i64 y_2.Tag,.sl 1 (Al e8 y_2.Bytes),.bool y_2.Nested,.sl 4 (Al Aa.enc y_2.Elements)]) (.cons .int (.cons .sl (.cons .bool (.cons .sl .nil)))) rfl (l:=([y_2]:List Aa)) (f:=Aa.enc) (by simp only [Al,wH,wN,Aa.enc_eq]; rfl)) rfl rfl ?_
   obtain⟨l_2,hl_2,D⟩:=Ad D
   refine Ed (rd:=[0,65]) rfl rfl (Cs Iv Aa.enc_len .row rfl .row rfl hl_2 rfl) rfl rfl ?_
   refine Ak ?_
   refine Ai fun B=>?_
   refine Ae (Bp _ _ []) 89 105 B rfl rfl ?_
   refine Ak ?_
   refine Ai fun B=>?_
   obtain rfl:=oi_ D
   exact⟨((W (x12_1 + 1),l_2),m1),vO _,hn1,A1 [(0,73)]⟩
  ·refine Bv ?_
   repeat first | refine C4 ?_ | refine C3 ?_
   replace D:=C0 D hn1
   refine Ah ?_
   refine Gf (σ':=mk [(4,.sl 4 (Al Aa.enc entries_1))] [] 0) (A1 []) ?_
   refine Ae (Bp _ _ []) 0 56 A5 rfl rfl ?_
   refine Ak ?_
   obtain⟨y_3,hy_3,D⟩:=Ad D
   refine Dm (O4 _ _ hy_3) ?_
   obtain⟨y_4,hy_4,D⟩:=Ad D
   refine Dm (Wf _ _ hy_4) ?_
   refine Ak ?_
   refine Ai fun B=>?_
   refine A4 ?_
   obtain rfl:=oi_ D
   exact A3 [] ⟨rfl,rfl⟩
theorem Og (key:Ax) (id:Int) (chain:(List Ab)) (r:Bool) (D:B6 key id chain=some r):Fn Tryz.prog 44 0 [.agg [vj key.Alg,vj key.Bits],vj id,.sl 15 (Al Ab.enc chain)] [] (fun d' b'=>d'=.val (.bool r)/\b'=[]):=by
 unfold B6 at D
 refine Fn.of Tryz.func44 rfl rfl rfl fun w0 I ρ0=>?_
 show Ce _ ⟨w0,I,ρ0,0,0,55⟩ _ _ _
 refine Bd 0 16 A5 ?_
 refine Ak ?_
 refine Ai fun B=>?_
 refine Ah ?_
 refine B9 (ι:=Bool) (fun (x23_1:Bool)=>mk [(1,vj id),(2,.sl 15 (Al Ab.enc chain)),(3,.ptr 0 0),(23,.val (.bool x23_1))] [(0,.box [vj key.Alg,vj key.Bits] 37)] 1) (fun (x23_1:Bool)=>B6.j1 key id chain x23_1=some r) ?_ ?_
 ·refine Ae (Bp _ _ []) 16 144 B rfl rfl ?_
  refine Ak ?_
  obtain⟨y,hy,D⟩:=Ad D
  refine Dm (K4 _ _ hy) ?_
  refine Ak ?_
  rcases D2 D with ⟨h2,D⟩ | ⟨h2,D⟩
  ·refine Ak ?_
   refine Ai fun B=>?_
   exact⟨true,D,A1 [(0,0)]⟩
  ·refine Ak ?_
   rcases D2 D with ⟨h4,D⟩ | ⟨h4,D⟩
   ·refine Ak ?_
    refine Ai fun B=>?_
    exact⟨true,D,A1 [(0,0)]⟩
   ·refine Ak ?_
    rcases D2 D with ⟨h6,D⟩ | ⟨h6,D⟩
    ·refine Ak ?_
     refine Ai fun B=>?_
     exact⟨true,D,A1 [(0,0)]⟩
    ·refine Ak ?_
     refine Ai fun B=>?_
     exact⟨decide (8 < (chain.length:Int)),D,A1 [(0,0)]⟩
 ·rintro x23_1 D
  replace D:B6.j1 key id chain x23_1=some r:=D
  show Ce _ _ _ _ (mk _ _ _)
  unfold B6.j1 at D
  refine Df rfl D (fun h9 D=>?_) fun h9 D=>?_
  ·refine Ah ?_
   refine Ae (Bp _ _ []) 1 9 A5 rfl rfl ?_
   refine Ak ?_
   refine Ai fun B=>?_
   refine A4 ?_
   obtain rfl:=oi_ D
   exact A3 [] ⟨rfl,rfl⟩
  ·refine Ap ?_
   repeat first | refine C4 ?_ | refine C3 ?_
   refine Ah ?_
   refine Bd 1 9 A5 ?_
   refine Ak ?_
   refine Ai fun B=>?_
   refine As ?_
   refine Jk (fun (i_2:Int)=>mk [(1,vj id),(2,.sl 15 (Al Ab.enc chain)),(3,.ptr 0 0),(7,vj i_2)] [(0,.box [vj key.Alg,vj key.Bits] 37)] 1) D (A1 [(0,0)]) ?_
   rintro i_2 m2 o2 D hn2
   replace D:B6.l2 key id chain i_2=some o2:=D
   show Ce _ _ _ _ (mk _ _ _)
   unfold B6.l2 at D
   refine Ah ?_
   refine Bd 1 33 A5 ?_
   refine Ak ?_
   refine Ai fun B=>?_
   refine Df rfl D (fun h13 D=>?_) fun h13 D=>?_
   ·refine Ap ?_
    repeat first | refine C4 ?_ | refine C3 ?_
    refine Ah ?_
    refine As ?_
    refine Bd 33 81 B ?_
    refine Ak ?_
    obtain⟨e,he,D⟩:=Ad D
    refine Ak ?_
    refine Bn rfl rfl (C1 Uu (Bx Ab.enc_len (Ao he) (o:=0) (m:=15) (cs:=(Ab.ec e)) rfl (by decide) rfl) (Ba Ab.enc_len (Ao he) (o:=0) (m:=15) (by decide) rfl)) rfl rfl ?_
    obtain⟨y_2,hy_2,D⟩:=Ad D
    refine Dm (K7 _ _ hy_2) ?_
    refine Ak ?_
    refine Ai fun B=>?_
    refine Df rfl D (fun h15 D=>?_) fun h15 D=>?_
    ·refine Ah ?_
     refine Ae (Bp _ _ []) 81 89 B rfl rfl ?_
     refine Ak ?_
     refine Ai fun B=>?_
     refine A4 ?_
     replace D:=C0 D hn2
     obtain rfl:=oi_ D
     exact A3 [] ⟨rfl,rfl⟩
    ·refine Ap ?_
     repeat first | refine C4 ?_ | refine C3 ?_
     refine Ae (Bp _ _ []) 81 105 B rfl rfl ?_
     refine Ak ?_
     refine Ai fun B=>?_
     obtain rfl:=oi_ D
     exact⟨(W (i_2 + 1),m2),vO _,hn2,A1 [(0,0)]⟩
   ·refine Bv ?_
    repeat first | refine C4 ?_ | refine C3 ?_
    replace D:=C0 D hn2
    refine Ah ?_
    refine Dh (Bp _ _ []) (by kernel_rfl) [0,1,3,7,15,31,63,127,15,511,1023,2047,4095,8191,16383,2047,65535,131071,262143,524287] 33 193 B rfl rfl (by kernel_rfl) ?_
    refine Ak ?_
    rcases D2 D with ⟨h18,D⟩ | ⟨h18,D⟩
    ·refine Ak ?_
     refine Ai fun B=>?_
     refine A4 ?_
     obtain rfl:=oi_ D
     exact A3 [] ⟨rfl,rfl⟩
    ·refine Ak ?_
     obtain⟨e_2,he_2,D⟩:=Ad D
     refine Ak ?_
     refine Bn (Bu rfl rfl h18) rfl (Dg Zk O5 (by decide) (D3 Ab.enc_len (Ao he_2) (o:=3) (by decide) rfl)) rfl rfl ?_
     refine Bn (Bu rfl rfl h18) rfl (C1 O5 (Bx Ab.enc_len (Ao he_2) (o:=3) (m:=2) (cs:=[.int .i64 e_2.Key.Alg,.int .i64 e_2.Key.Bits]) rfl (by decide) rfl) (Ba Ab.enc_len (Ao he_2) (o:=3) (m:=2) (by decide) rfl)) rfl rfl ?_
     refine Ak ?_
     refine Bn (Bu rfl rfl h18) rfl (Ic e_2.Key key) rfl rfl ?_
     refine Ak ?_
     rcases D2 D with ⟨h20,D⟩ | ⟨h20,D⟩
     ·refine Ak ?_
      refine Bn (Bu rfl rfl h20) rfl (Dg aA Qn (by decide) (D3 Ab.enc_len (Ao he_2) (o:=5) (by decide) rfl)) rfl rfl ?_
      refine Bn (Bu rfl rfl h20) rfl (Bt Qn (Bh Ab.enc_len (Ao he_2) (o:=5) (c:=.int .i64 e_2.KeyId) rfl rfl)) rfl rfl ?_
      refine Ak ?_
      refine Ai fun B=>?_
      refine A4 ?_
      obtain rfl:=oi_ D
      exact A3 [] ⟨rfl,rfl⟩
     ·refine Ak ?_
      refine Ai fun B=>?_
      refine A4 ?_
      obtain rfl:=oi_ D
      exact A3 [] ⟨rfl,rfl⟩
theorem I8 (l:(List Ac)) (r:Int) (D:B5 l=some r):Fn Tryz.prog 17 0 [.sl 6 (Al Ac.enc l)] [] (fun d' b'=>d'=vj r/\b'=[]):=by
 unfold B5 at D
 refine Fn.of Tryz.func17 rfl rfl rfl fun w0 I ρ0=>?_
 show Ce _ ⟨w0,I,ρ0,0,0,57⟩ _ _ _
 refine Bd 0 8 A5 ?_
 refine Ak ?_
 refine Ai fun B=>?_
 refine Ah ?_
 refine Bd 8 32 B ?_
 refine Ak ?_
 refine Ai fun B=>?_
 refine Df rfl D (fun h3 D=>?_) fun h3 D=>?_
 ·refine Ah ?_
  refine Ae (Bp _ _ []) 32 40 B rfl rfl ?_
  refine Ak ?_
  refine Ai fun B=>?_
  refine A4 ?_
  obtain rfl:=oi_ D
  exact A3 [] ⟨rfl,rfl⟩
 ·refine Ap ?_
  repeat first | refine C4 ?_ | refine C3 ?_
  refine Ah ?_
  refine Bd 32 40 B ?_
  refine Ak ?_
  refine Ai fun B=>?_
  refine As ?_
  refine Jk (fun (i_1:Int)=>mk [(0,.sl 6 (Al Ac.enc l)),(3,vj i_1)] [] 0) D (A1 []) ?_
  rintro i_1 m1 o1 D hn1
  replace D:B5.l1 l i_1=some o1:=D
  show Ce _ _ _ _ (mk _ _ _)
  unfold B5.l1 at D
  refine Ah ?_
  refine Bd 0 32 A5 ?_
  refine Ak ?_
  refine Ai fun B=>?_
  refine Df rfl D (fun h7 D=>?_) fun h7 D=>?_
  ·refine Ap ?_
   repeat first | refine C4 ?_ | refine C3 ?_
   refine Ah ?_
   refine As ?_
   refine B9 (ι:=Bool) (fun (x56_2:Bool)=>mk [(0,.sl 6 (Al Ac.enc l)),(3,vj i_1),(56,.val (.bool x56_2))] [] 0) (fun (x56_2:Bool)=>B5.j2 i_1 x56_2=some o1) ?_ ?_
   ·refine Dh (Bp _ _ []) (by kernel_rfl) [0,0,3,7,15,31,63,127,255,511,1023,2047,2047,6143,16383,32767,65535,2047,2047,395263,919551,1968127,4194303,8388607,16777215,33554431,67108863,67108863,268435455,536870911,1073741823,67108863,67108863,6509559807,15099494399,32279363583,67108863,67108863,206225539071,481103446015,1030859259903,2199023255551,4398046511103,8796093022207] 32 384 B rfl rfl (by kernel_rfl) ?_
    refine Ak ?_
    obtain⟨e,he,D⟩:=Ad D
    refine Ak ?_
    refine Bn rfl rfl (Dg Jo Me (by decide) (D3 Ac.enc_len (Ao he) (o:=0) (by decide) rfl)) rfl rfl ?_
    refine Bn rfl rfl (Bt Me (Bh Ac.enc_len (Ao he) (o:=0) (c:=.str e.Alias) rfl rfl)) rfl rfl ?_
    obtain⟨y,hy,D⟩:=Ad D
    refine Dm (J1 _ _ hy) ?_
    refine Ak ?_
    rcases D2 D with ⟨h8,D⟩ | ⟨h8,D⟩
    ·refine Ak ?_
     refine Ai fun B=>?_
     exact⟨true,D,A1 []⟩
    ·refine Ak ?_
     rcases D2 D with ⟨h10,D⟩ | ⟨h10,D⟩
     ·refine Ak ?_
      obtain⟨e_2,he_2,D⟩:=Ad D
      refine Ak ?_
      refine Bn (Bu rfl rfl h10) rfl (Dg Jo Me (by decide) (D3 Ac.enc_len (Ao he_2) (o:=0) (by decide) rfl)) rfl rfl ?_
      refine Bn (Bu rfl rfl h10) rfl (Bt Me (Bh Ac.enc_len (Ao he_2) (o:=0) (c:=.str e_2.Alias) rfl rfl)) rfl rfl ?_
      refine Ak ?_
      refine Bn (Bu rfl rfl h10) rfl (Dg Jo Me (by decide) (D3 Ac.enc_len (Ao he) (o:=0) (by decide) rfl)) rfl rfl ?_
      refine Bn (Bu rfl rfl h10) rfl (Bt Me (Bh Ac.enc_len (Ao he) (o:=0) (c:=.str e.Alias) rfl rfl)) rfl rfl ?_
      refine Bn (Bu rfl rfl h10) rfl Xn rfl rfl ?_
      refine Ak ?_
      rcases D2 D with ⟨h11,D⟩ | ⟨h11,D⟩
      ·refine Ak ?_
       refine Ai fun B=>?_
       exact⟨true,D,A1 []⟩
      ·refine Ak ?_
       refine Bn (Bu rfl rfl h11) rfl (Dg Tk O5 (by decide) (D3 Ac.enc_len (Ao he) (o:=1) (by decide) rfl)) rfl rfl ?_
       refine Bn (Bu rfl rfl h11) rfl (C1 O5 (Bx Ac.enc_len (Ao he) (o:=1) (m:=2) (cs:=[.int .i64 e.Key.Alg,.int .i64 e.Key.Bits]) rfl (by decide) rfl) (Ba Ac.enc_len (Ao he) (o:=1) (m:=2) (by decide) rfl)) rfl rfl ?_
       refine Ak ?_
       refine Bn (Bu rfl rfl h11) rfl (Dg Ua Qn (by decide) (D3 Ac.enc_len (Ao he) (o:=3) (by decide) rfl)) rfl rfl ?_
       refine Bn (Bu rfl rfl h11) rfl (Bt Qn (Bh Ac.enc_len (Ao he) (o:=3) (c:=.int .i64 e.KeyId) rfl rfl)) rfl rfl ?_
       refine Ak ?_
       refine Bn (Bu rfl rfl h11) rfl (Dg Tg Ra (by decide) (D3 Ac.enc_len (Ao he) (o:=5) (by decide) rfl)) rfl rfl ?_
       refine Bn (Bu rfl rfl h11) rfl (Bt Ra (Bh Ac.enc_len (Ao he) (o:=5) (c:=.sl 15 (Al Ab.enc e.Chain)) rfl rfl)) rfl rfl ?_
       obtain⟨y_2,hy_2,D⟩:=Ad D
       refine Dm (Og _ _ _ _ hy_2) ?_
       refine Ak ?_
       refine Ai fun B=>?_
       exact⟨!y_2,D,A1 []⟩
     ·refine Ak ?_
      refine Bn (Bu rfl rfl rfl) rfl (Dg Tk O5 (by decide) (D3 Ac.enc_len (Ao he) (o:=1) (by decide) rfl)) rfl rfl ?_
      refine Bn (Bu rfl rfl rfl) rfl (C1 O5 (Bx Ac.enc_len (Ao he) (o:=1) (m:=2) (cs:=[.int .i64 e.Key.Alg,.int .i64 e.Key.Bits]) rfl (by decide) rfl) (Ba Ac.enc_len (Ao he) (o:=1) (m:=2) (by decide) rfl)) rfl rfl ?_
      refine Ak ?_
      refine Bn (Bu rfl rfl rfl) rfl (Dg Ua Qn (by decide) (D3 Ac.enc_len (Ao he) (o:=3) (by decide) rfl)) rfl rfl ?_
      refine Bn (Bu rfl rfl rfl) rfl (Bt Qn (Bh Ac.enc_len (Ao he) (o:=3) (c:=.int .i64 e.KeyId) rfl rfl)) rfl rfl ?_
      refine Ak ?_
      refine Bn (Bu rfl rfl rfl) rfl (Dg Tg Ra (by decide) (D3 Ac.enc_len (Ao he) (o:=5) (by decide) rfl)) rfl rfl ?_
      refine Bn (Bu rfl rfl rfl) rfl (Bt Ra (Bh Ac.enc_len (Ao he) (o:=5) (c:=.sl 15 (Al Ab.enc e.Chain)) rfl rfl)) rfl rfl ?_
      obtain⟨y_3,hy_3,D⟩:=Ad D
      refine Dm (Og _ _ _ _ hy_3) ?_
      refine Ak ?_
      refine Ai fun B=>?_
      exact⟨!y_3,D,A1 []⟩
   ·rintro x56_2 D
    replace D:B5.j2 i_1 x56_2=some o1:=D
    show Ce _ _ _ _ (mk _ _ _)
    unfold B5.j2 at D
    refine Df rfl D (fun h15 D=>?_) fun h15 D=>?_
    ·refine Ah ?_
     refine Ae (Bp _ _ []) 0 8 A5 rfl rfl ?_
     refine Ak ?_
     refine Ai fun B=>?_
     refine A4 ?_
     replace D:=C0 D hn1
     obtain rfl:=oi_ D
     exact A3 [] ⟨rfl,rfl⟩
    ·refine Ap ?_
     repeat first | refine C4 ?_ | refine C3 ?_
     refine Ae (Bp _ _ []) 0 24 A5 rfl rfl ?_
     refine Ak ?_
     refine Ai fun B=>?_
     obtain rfl:=oi_ D
     exact⟨(W (i_1 + 1),m1),vO _,hn1,A1 []⟩
  ·refine Bv ?_
   repeat first | refine C4 ?_ | refine C3 ?_
   replace D:=C0 D hn1
   refine Bd 32 40 B ?_
   refine Ak ?_
   refine Ai fun B=>?_
   refine A4 ?_
   obtain rfl:=oi_ D
   exact A3 [] ⟨rfl,rfl⟩
theorem Si (c:Ab) (r:Aa) (D:G9 c=some r):Fn Tryz.prog 78 0 [.agg (Ab.dv c)] [] (fun d' b'=>d'=.agg (Aa.dv r)/\b'=[]):=by
 unfold G9 at D
 refine Fn.of Tryz.func78 rfl rfl rfl fun w0 I ρ0=>?_
 show Ce _ ⟨w0,I,ρ0,0,0,19⟩ _ _ _
 refine Bd 0 16 A5 ?_
 refine Ak ?_
 refine Ai fun B=>?_
 refine Ah ?_
 refine Dh (Bp _ _ [80]) (by kernel_rfl) [0,1,3,7,0,16,48,127,255,511,0,2047] 16 112 B rfl rfl (by kernel_rfl) ?_
 refine Ak ?_
 obtain⟨y,hy,D⟩:=Ad D
 refine Dm (E7 _ _ hy) ?_
 refine Ak ?_
 obtain⟨y_2,hy_2,D⟩:=Ad D
 refine Dm (E7 _ _ hy_2) ?_
 refine Ix (rd:=[]) rfl rfl (An Iv O9 (by decide) rfl rfl rfl rfl Mb (cs:=[.int .i64 y.Tag,.sl 1 (Al e8 y.Bytes),.bool y.Nested,.sl 4 (Al Aa.enc y.Elements),.int .i64 y_2.Tag,.sl 1 (Al e8 y_2.Bytes),.bool y_2.Nested,.sl 4 (Al Aa.enc y_2.Elements)]) (.cons .int (.cons .sl (.cons .bool (.cons .sl (.cons .int (.cons .sl (.cons .bool (.cons .sl .nil)))))))) rfl (l:=([y,y_2]:List Aa)) (f:=Aa.enc) (by simp only [Al,wH,wN,Aa.enc_eq]; rfl)) rfl rfl rfl ?_
 obtain⟨y_3,hy_3,D⟩:=Ad D
 refine Dm (Fm _ _ hy_3) ?_
 refine Ak ?_
 refine Ai fun B=>?_
 refine Ah ?_
 refine Dh (Bp _ _ [136]) (by kernel_rfl) [0,1,0,7,15,31] 112 160 B rfl rfl (by kernel_rfl) ?_
 refine Ak ?_
 obtain⟨y_4,hy_4,D⟩:=Ad D
 refine Dm (Pp _ _ hy_4) ?_
 refine Ak ?_
 refine Ix (rd:=[]) rfl rfl (An Iv O9 (by decide) rfl rfl rfl rfl Mb (cs:=[.int .i64 y_4.Tag,.sl 1 (Al e8 y_4.Bytes),.bool y_4.Nested,.sl 4 (Al Aa.enc y_4.Elements),.int .i64 y_3.Tag,.sl 1 (Al e8 y_3.Bytes),.bool y_3.Nested,.sl 4 (Al Aa.enc y_3.Elements)]) (.cons .int (.cons .sl (.cons .bool (.cons .sl (.cons .int (.cons .sl (.cons .bool (.cons .sl .nil)))))))) rfl (l:=([y_4,y_3]:List Aa)) (f:=Aa.enc) (by simp only [Al,wH,wN,Aa.enc_eq]; rfl)) rfl rfl rfl ?_
 obtain⟨y_5,hy_5,D⟩:=Ad D
 refine Dm (Fm _ _ hy_5) ?_
 refine Ak ?_
 refine Ai fun B=>?_
 refine A4 ?_
 obtain rfl:=oi_ D
 exact A3 [] ⟨rfl,rfl⟩
theorem R9 (e:Ac) (r:Aa) (D:Da e=some r):Fn Tryz.prog 33 0 [.agg (Ac.dv e)] [] (fun d' b'=>d'=.agg (Aa.dv r)/\b'=[]):=by
 unfold Da at D
 refine Fn.of Tryz.func33 rfl rfl rfl fun w0 I ρ0=>?_
 show Ce _ ⟨w0,I,ρ0,0,0,46⟩ _ _ _
 refine Bd 0 16 A5 ?_
 refine Ak ?_
 refine Ai fun B=>?_
 refine Bd 16 24 B ?_
 refine Ak ?_
 refine Ai fun B=>?_
 refine Ah ?_
 refine Bd 24 32 B ?_
 refine Ak ?_
 refine Ai fun B=>?_
 refine As ?_
 refine Jk (fun ((i_1,chain_1):Int×List Aa)=>mk [(1,.ptr 0 0),(2,.ptr 1 0),(3,.row 2),(4,vj i_1)] [(0,.box (Ac.dv e) 40),(1,.box [.val (.int .i64 0),.val (.slice none 0 0),.val (.bool false),.val (.slice none 0 0)] 50),(2,.row 50 4 (Al Aa.enc chain_1))] 3) D (A1 [(0,0),(1,8)]) ?_
 rintro⟨i_1,chain_1⟩ m1 o1 D hn1
 replace D:Da.l1 e i_1 chain_1=some o1:=D
 show Ce _ _ _ _ (mk _ _ _)
 unfold Da.l1 at D
 refine Ah ?_
 refine Bd 3 43 A5 ?_
 refine Ak ?_
 refine Ai fun B=>?_
 refine Df rfl D (fun h5 D=>?_) fun h5 D=>?_
 ·refine Ap ?_
  repeat first | refine C4 ?_ | refine C3 ?_
  refine Ah ?_
  refine As ?_
  refine Ae (Bp _ _ []) 43 123 B rfl rfl ?_
  refine Ak ?_
  obtain⟨e_2,he_2,D⟩:=Ad D
  refine Ak ?_
  refine Bn rfl rfl (C1 Uu (Bx Ab.enc_len (Ao he_2) (o:=0) (m:=15) (cs:=(Ab.ec e_2)) rfl (by decide) rfl) (Ba Ab.enc_len (Ao he_2) (o:=0) (m:=15) (by decide) rfl)) rfl rfl ?_
  obtain⟨y,hy,D⟩:=Ad D
  refine Dm (Si _ _ hy) ?_
  refine Bn rfl rfl (An Iv O9 (by decide) rfl rfl rfl rfl Mb (cs:=[.int .i64 y.Tag,.sl 1 (Al e8 y.Bytes),.bool y.Nested,.sl 4 (Al Aa.enc y.Elements)]) (.cons .int (.cons .sl (.cons .bool (.cons .sl .nil)))) rfl (l:=([y]:List Aa)) (f:=Aa.enc) (by simp only [Al,wH,wN,Aa.enc_eq]; rfl)) rfl rfl ?_
  obtain⟨l,hl,D⟩:=Ad D
  refine Ed (rd:=[2,99]) rfl rfl (Cs Iv Aa.enc_len .row rfl .row rfl hl rfl) rfl rfl ?_
  refine Ak ?_
  refine Ai fun B=>?_
  refine Ae (Bp _ _ []) 123 147 B rfl rfl ?_
  refine Ak ?_
  refine Ai fun B=>?_
  obtain rfl:=oi_ D
  exact⟨((W (i_1 + 1),l),m1),vO _,hn1,A1 [(0,0),(1,1),(2,107)]⟩
 ·refine Bv ?_
  repeat first | refine C4 ?_ | refine C3 ?_
  replace D:=C0 D hn1
  refine Ah ?_
  refine Dh (Bp _ _ [107]) (by kernel_rfl) [0,1,3,7,0,16,48,127,255,511,0,2047] 43 139 B rfl rfl (by kernel_rfl) ?_
  refine Ak ?_
  obtain⟨y_2,hy_2,D⟩:=Ad D
  refine Dm (E7 _ _ hy_2) ?_
  refine Ak ?_
  obtain⟨y_3,hy_3,D⟩:=Ad D
  refine Dm (E7 _ _ hy_3) ?_
  refine Ix (rd:=[]) rfl rfl (An Iv O9 (by decide) rfl rfl rfl rfl Mb (cs:=[.int .i64 y_2.Tag,.sl 1 (Al e8 y_2.Bytes),.bool y_2.Nested,.sl 4 (Al Aa.enc y_2.Elements),.int .i64 y_3.Tag,.sl 1 (Al e8 y_3.Bytes),.bool y_3.Nested,.sl 4 (Al Aa.enc y_3.Elements)]) (.cons .int (.cons .sl (.cons .bool (.cons .sl (.cons .int (.cons .sl (.cons .bool (.cons .sl .nil)))))))) rfl (l:=([y_2,y_3]:List Aa)) (f:=Aa.enc) (by simp only [Al,wH,wN,Aa.enc_eq]; rfl)) rfl rfl rfl ?_
  obtain⟨y_4,hy_4,D⟩:=Ad D
  refine Dm (Fm _ _ hy_4) ?_
  refine Ak ?_
  refine Ai fun B=>?_
  refine Ah ?_
  refine Gf (σ':=mk [(1,.ptr 0 0),(2,.ptr 1 0),(3,.sl 4 (Al Aa.enc chain_1)),(5,.ptr 2 0)] [(0,.box (Ac.dv e) 40),(1,.box [.val (.int .i64 0),.val (.slice none 0 0),.val (.bool false),.val (.slice none 0 0)] 50),(2,.box (Aa.dv y_4) 50)] 3) (A1 [(0,0),(1,1),(2,123)]) ?_
  refine Dh (Bp _ _ [99]) (by kernel_rfl) [0,1,3,0,0,16,55,0,128,503,0,2039,4095,8191,16383] 3 123 A5 rfl rfl (by kernel_rfl) ?_
  refine Ak ?_
  obtain⟨y_8,hy_8,D⟩:=Ad D
  refine Dm (Jz _ _ hy_8) ?_
  refine Ak ?_
  obtain⟨y_9,hy_9,D⟩:=Ad D
  refine Dm (E7 _ _ hy_9) ?_
  refine Ak ?_
  obtain⟨y_10,hy_10,D⟩:=Ad D
  refine Dm (Qf _ _ hy_10) ?_
  refine Ak ?_
  obtain⟨y_11,hy_11,D⟩:=Ad D
  refine Dm (Fm _ _ hy_11) ?_
  refine Ix (rd:=[]) rfl rfl (An Iv O9 (by decide) rfl rfl rfl rfl Mb (cs:=[.int .i64 y_8.Tag,.sl 1 (Al e8 y_8.Bytes),.bool y_8.Nested,.sl 4 (Al Aa.enc y_8.Elements),.int .i64 y_4.Tag,.sl 1 (Al e8 y_4.Bytes),.bool y_4.Nested,.sl 4 (Al Aa.enc y_4.Elements),.int .i64 y_9.Tag,.sl 1 (Al e8 y_9.Bytes),.bool y_9.Nested,.sl 4 (Al Aa.enc y_9.Elements),.int .i64 y_10.Tag,.sl 1 (Al e8 y_10.Bytes),.bool y_10.Nested,.sl 4 (Al Aa.enc y_10.Elements),.int .i64 y_11.Tag,.sl 1 (Al e8 y_11.Bytes),.bool y_11.Nested,.sl 4 (Al Aa.enc y_11.Elements)]) (.cons .int (.cons .sl (.cons .bool (.cons .sl (.cons .int (.cons .sl (.cons .bool (.cons .sl (.cons .int (.cons .sl (.cons .bool (.cons .sl (.cons .int (.cons .sl (.cons .bool (.cons .sl (.cons .int (.cons .sl (.cons .bool (.cons .sl .nil)))))))))))))))))))) rfl (l:=([y_8,y_4,y_9,y_10,y_11]:List Aa)) (f:=Aa.enc) (by simp only [Al,wH,wN,Aa.enc_eq]; rfl)) rfl rfl rfl ?_
  obtain⟨y_12,hy_12,D⟩:=Ad D
  refine Dm (Fm _ _ hy_12) ?_
  refine Ak ?_
  refine Ai fun B=>?_
  refine A4 ?_
  obtain rfl:=oi_ D
  exact A3 [] ⟨rfl,rfl⟩
theorem Ow (l:(List Ac)) (r:(List UInt8)×Int) (D:C8 l=some r):Fn Tryz.prog 10 0 [.sl 6 (Al Ac.enc l)] [] (fun d' b'=>d'=.tup [.row 0,vj r.2]/\b'=[.row 5 1 (Al e8 r.1)]):=by
 unfold C8 at D
 refine Fn.of Tryz.func10 rfl rfl rfl fun w0 I ρ0=>?_
 show Ce _ ⟨w0,I,ρ0,0,0,31⟩ _ _ _
 refine Bd 0 16 A5 ?_
 refine Ak ?_
 refine Ai fun B=>?_
 refine Ah ?_
 refine Bd 16 40 B ?_
 refine Ak ?_
 obtain⟨y,hy,D⟩:=Ad D
 refine Dm (I8 _ _ hy) ?_
 refine Ak ?_
 refine Ai fun B=>?_
 refine Bd 40 56 B ?_
 refine Ak ?_
 refine Ai fun B=>?_
 refine Df rfl D (fun h4 D=>?_) fun h4 D=>?_
 ·refine Ah ?_
  refine Ae (Bp _ _ []) 56 80 B rfl rfl ?_
  refine Ak ?_
  refine Ai fun B=>?_
  refine A4 ?_
  obtain rfl:=oi_ D
  exact A3 [] ⟨rfl,rfl⟩
 ·refine Ap ?_
  repeat first | refine C4 ?_ | refine C3 ?_
  refine Bd 56 64 B ?_
  refine Ak ?_
  refine Ai fun B=>?_
  refine Ah ?_
  refine Bd 64 72 B ?_
  refine Ak ?_
  refine Ai fun B=>?_
  refine As ?_
  refine Jk (fun ((i_1,all_1):Int×List Aa)=>mk [(0,.sl 6 (Al Ac.enc l)),(5,.row 0),(6,vj i_1)] [(0,.row 50 4 (Al Aa.enc all_1))] 1) D (A1 []) ?_
  rintro⟨i_1,all_1⟩ m1 o1 D hn1
  replace D:C8.l1 l i_1 all_1=some o1:=D
  show Ce _ _ _ _ (mk _ _ _)
  unfold C8.l1 at D
  refine Ah ?_
  refine Bd 1 33 A5 ?_
  refine Ak ?_
  refine Ai fun B=>?_
  refine Df rfl D (fun h9 D=>?_) fun h9 D=>?_
  ·refine Ap ?_
   repeat first | refine C4 ?_ | refine C3 ?_
   refine Ah ?_
   refine As ?_
   refine Ae (Bp _ _ []) 33 105 B rfl rfl ?_
   refine Ak ?_
   obtain⟨e,he,D⟩:=Ad D
   refine Ak ?_
   refine Bn rfl rfl (C1 L6 (Bx Ac.enc_len (Ao he) (o:=0) (m:=6) (cs:=(Ac.ec e)) rfl (by decide) rfl) (Ba Ac.enc_len (Ao he) (o:=0) (m:=6) (by decide) rfl)) rfl rfl ?_
   obtain⟨y_2,hy_2,D⟩:=Ad D
   refine Dm (R9 _ _ hy_2) ?_
   refine Bn rfl rfl (An Iv O9 (by decide) rfl rfl rfl rfl Mb (cs:=[.int .i64 y_2.Tag,.sl 1 (Al e8 y_2.Bytes),.bool y_2.Nested,.sl 4 (Al Aa.enc y_2.Elements)]) (.cons .int (.cons .sl (.cons .bool (.cons .sl .nil)))) rfl (l:=([y_2]:List Aa)) (f:=Aa.enc) (by simp only [Al,wH,wN,Aa.enc_eq]; rfl)) rfl rfl ?_
   obtain⟨l_2,hl_2,D⟩:=Ad D
   refine Ed (rd:=[0,81]) rfl rfl (Cs Iv Aa.enc_len .row rfl .row rfl hl_2 rfl) rfl rfl ?_
   refine Ak ?_
   refine Ai fun B=>?_
   refine Ae (Bp _ _ []) 105 129 B rfl rfl ?_
   refine Ak ?_
   refine Ai fun B=>?_
   obtain rfl:=oi_ D
   exact⟨((W (i_1 + 1),l_2),m1),vO _,hn1,A1 [(0,89)]⟩
  ·refine Bv ?_
   repeat first | refine C4 ?_ | refine C3 ?_
   replace D:=C0 D hn1
   refine Ah ?_
   refine Gf (σ':=mk [(5,.sl 4 (Al Aa.enc all_1))] [] 0) (A1 []) ?_
   refine Ae (Bp _ _ []) 0 56 A5 rfl rfl ?_
   refine Ak ?_
   obtain⟨y_3,hy_3,D⟩:=Ad D
   refine Dm (Fm _ _ hy_3) ?_
   obtain⟨y_4,hy_4,D⟩:=Ad D
   refine Hi (rd:=[]) (ps:=[]) (gs:=[]) false rfl (J9 _ _ hy_4) rfl rfl (.cons (.agg (.cons .val (.cons .sl (.cons .val (.cons .sl .nil))))) .nil) rfl rfl (by intro h; cases h) rfl (by intro h; first | (cases h; done) | exact⟨_,_,⟨rfl,rfl⟩,by simp,by simp⟩) ?_
   rintro _ _ ⟨rfl,rfl⟩
   refine Ak ?_
   refine Ai fun B=>?_
   refine A4 ?_
   obtain rfl:=oi_ D
   exact A3 [(0,16)] ⟨rfl,rfl⟩
theorem P7 (l:(List Ab)) (r:(List Ab)) (D:Cu l=some r):Fn Tryz.prog 85 0 [.sl 15 (Al Ab.enc l)] [] (fun d' b'=>d'=.sl 15 (Al Ab.enc r)/\b'=[]):=by
 unfold Cu at D
 refine Fn.of Tryz.func85 rfl rfl rfl fun w0 I ρ0=>?_
 show Ce _ ⟨w0,I,ρ0,0,0,20⟩ _ _ _
 refine Bd 0 8 A5 ?_
 refine Ak ?_
 refine Ai fun B=>?_
 refine Bd 8 16 B ?_
 refine Ak ?_
 refine Ai fun B=>?_
 refine Ah ?_
 refine Bd 16 24 B ?_
 refine Ak ?_
 refine Ai fun B=>?_
 refine As ?_
 refine Jk (fun ((i_1,out_1):Int×List Ab)=>mk [(0,.sl 15 (Al Ab.enc l)),(3,.row 0),(4,vj i_1)] [(0,.row 67 15 (Al Ab.enc out_1))] 1) D (A1 []) ?_
 rintro⟨i_1,out_1⟩ m1 o1 D hn1
 replace D:Cu.l1 l i_1 out_1=some o1:=D
 show Ce _ _ _ _ (mk _ _ _)
 unfold Cu.l1 at D
 refine Ah ?_
 refine Bd 1 33 A5 ?_
 refine Ak ?_
 refine Ai fun B=>?_
 refine Df rfl D (fun h5 D=>?_) fun h5 D=>?_
 ·refine Ap ?_
  repeat first | refine C4 ?_ | refine C3 ?_
  refine Ah ?_
  refine As ?_
  refine Ae (Bp _ _ []) 33 105 B rfl rfl ?_
  refine Ak ?_
  obtain⟨e,he,D⟩:=Ad D
  refine Ak ?_
  refine Bn rfl rfl (C1 Uu (Bx Ab.enc_len (Ao he) (o:=0) (m:=15) (cs:=(Ab.ec e)) rfl (by decide) rfl) (Ba Ab.enc_len (Ao he) (o:=0) (m:=15) (by decide) rfl)) rfl rfl ?_
  obtain⟨y,hy,D⟩:=Ad D
  refine Dm (Pb _ _ hy) ?_
  refine Bn rfl rfl (An Qu mT (by decide) rfl rfl rfl rfl fO (cs:=(Ab.ec y)) (.cons .int (.cons .str (.cons .str (.cons .int (.cons .int (.cons .int (.cons .int (.cons .int (.cons .int (.cons .int (.cons .bool (.cons .int (.cons .sl (.cons .int (.cons .int .nil))))))))))))))) rfl (l:=([y]:List Ab)) (f:=Ab.enc) rfl) rfl rfl ?_
  obtain⟨l_2,hl_2,D⟩:=Ad D
  refine Ed (rd:=[0,81]) rfl rfl (Cs Qu Ab.enc_len .row rfl .row rfl hl_2 rfl) rfl rfl ?_
  refine Ak ?_
  refine Ai fun B=>?_
  refine Ae (Bp _ _ []) 105 129 B rfl rfl ?_
  refine Ak ?_
  refine Ai fun B=>?_
  obtain rfl:=oi_ D
  exact⟨((W (i_1 + 1),l_2),m1),vO _,hn1,A1 [(0,89)]⟩
 ·refine Bv ?_
  repeat first | refine C4 ?_ | refine C3 ?_
  replace D:=C0 D hn1
  refine Bd 33 49 B ?_
  refine Ak ?_
  refine Ai fun B=>?_
  refine A4 ?_
  obtain rfl:=oi_ D
  exact A3 [] ⟨rfl,rfl⟩
theorem Km (e:Ac) (r:Ac) (D:Fx e=some r):Fn Tryz.prog 38 0 [.agg (Ac.dv e)] [] (fun d' b'=>d'=.agg (Ac.dv r)/\b'=[]):=by
 unfold Fx at D
 refine Fn.of Tryz.func38 rfl rfl rfl fun w0 I ρ0=>?_
 show Ce _ ⟨w0,I,ρ0,0,0,8⟩ _ _ _
 refine Bd 0 16 A5 ?_
 refine Ak ?_
 refine Ai fun B=>?_
 refine Bd 16 56 B ?_
 refine Ak ?_
 obtain⟨y,hy,D⟩:=Ad D
 refine Dm (P7 _ _ hy) ?_
 refine Ak ?_
 refine Ai fun B=>?_
 refine Bd 56 72 B ?_
 refine Ak ?_
 refine Ai fun B=>?_
 refine A4 ?_
 obtain rfl:=oi_ D
 exact A3 [] ⟨rfl,rfl⟩
theorem U5 (a:(List Ac)) (b:(List Ac)) (r:(List Ac)×Int) (D:Ar a b=some r):Fn Tryz.prog 12 0 [.sl 6 (Al Ac.enc a),.sl 6 (Al Ac.enc b)] [] (fun d' b'=>d'=.tup [.sl 6 (Al Ac.enc r.1),vj r.2]/\b'=[]):=by
 unfold Ar at D
 refine Fn.of Tryz.func12 rfl rfl rfl fun w0 I ρ0=>?_
 show Ce _ ⟨w0,I,ρ0,0,0,93⟩ _ _ _
 refine Bd 0 16 A5 ?_
 refine Ak ?_
 refine Ai fun B=>?_
 refine Ah ?_
 refine B9 (ι:=Bool) (fun (x16_1:Bool)=>mk [(0,.sl 6 (Al Ac.enc a)),(1,.sl 6 (Al Ac.enc b)),(16,.val (.bool x16_1))] [] 0) (fun (x16_1:Bool)=>Ar.j1 a b x16_1=some r) ?_ ?_
 ·refine Ae (Bp _ _ []) 16 80 B rfl rfl ?_
  refine Ak ?_
  obtain⟨y,hy,D⟩:=Ad D
  refine Dm (I8 _ _ hy) ?_
  refine Ak ?_
  rcases D2 D with ⟨h2,D⟩ | ⟨h2,D⟩
  ·refine Ak ?_
   refine Ai fun B=>?_
   exact⟨true,D,A1 []⟩
  ·refine Ak ?_
   obtain⟨y_2,hy_2,D⟩:=Ad D
   refine Dm (I8 _ _ hy_2) ?_
   refine Ak ?_
   refine Ai fun B=>?_
   exact⟨!decide (y_2=0),D,A1 []⟩
 ·rintro x16_1 D
  replace D:Ar.j1 a b x16_1=some r:=D
  show Ce _ _ _ _ (mk _ _ _)
  unfold Ar.j1 at D
  refine Df rfl D (fun h5 D=>?_) fun h5 D=>?_
  ·refine Ah ?_
   refine Ae (Bp _ _ []) 0 16 A5 rfl rfl ?_
   refine Ak ?_
   refine Ai fun B=>?_
   refine A4 ?_
   obtain rfl:=oi_ D
   exact A3 [] ⟨rfl,rfl⟩
  ·refine Ap ?_
   repeat first | refine C4 ?_ | refine C3 ?_
   refine Bd 0 8 A5 ?_
   refine Ak ?_
   refine Ai fun B=>?_
   refine Bd 8 24 B ?_
   refine Ak ?_
   refine Ai fun B=>?_
   refine Ah ?_
   refine As ?_
   refine Jk (fun ((i_2,k_2,out_2):Int×Int×List Ac)=>mk [(0,.sl 6 (Al Ac.enc a)),(1,.sl 6 (Al Ac.enc b)),(6,.row 0),(7,vj i_2),(8,vj k_2)] [(0,.row 40 6 (Al Ac.enc out_2))] 1) D (A1 []) ?_
   rintro⟨i_2,k_2,out_2⟩ m2 o2 D hn2
   replace D:Ar.l2 a b i_2 k_2 out_2=some o2:=D
   show Ce _ _ _ _ (mk _ _ _)
   unfold Ar.l2 at D
   refine Ah ?_
   refine B9 (ι:=Bool) (fun (x26_3:Bool)=>mk [(0,.sl 6 (Al Ac.enc a)),(1,.sl 6 (Al Ac.enc b)),(6,.row 0),(7,vj i_2),(8,vj k_2),(26,.val (.bool x26_3))] [(0,.row 40 6 (Al Ac.enc out_2))] 1) (fun (x26_3:Bool)=>Ar.j3 a b i_2 k_2 out_2 x26_3=some o2) ?_ ?_
   ·refine Ae (Bp _ _ []) 1 81 A5 rfl rfl ?_
    refine Ak ?_
    rcases D2 D with ⟨h9,D⟩ | ⟨h9,D⟩
    ·refine Ak ?_
     refine Ai fun B=>?_
     exact⟨true,D,A1 [(0,0)]⟩
    ·refine Ak ?_
     refine Ai fun B=>?_
     exact⟨decide (k_2 < (b.length:Int)),D,A1 [(0,0)]⟩
   ·rintro x26_3 D
    replace D:Ar.j3 a b i_2 k_2 out_2 x26_3=some o2:=D
    show Ce _ _ _ _ (mk _ _ _)
    unfold Ar.j3 at D
    refine Df rfl D (fun h12 D=>?_) fun h12 D=>?_
    ·refine Ap ?_
     repeat first | refine C4 ?_ | refine C3 ?_
     refine As ?_
     refine Ah ?_
     refine B9 (ι:=Bool) (fun (x49_4:Bool)=>mk [(0,.sl 6 (Al Ac.enc a)),(1,.sl 6 (Al Ac.enc b)),(6,.row 0),(7,vj i_2),(8,vj k_2),(49,.val (.bool x49_4))] [(0,.row 40 6 (Al Ac.enc out_2))] 1) (fun (x49_4:Bool)=>Ar.j4 a b i_2 k_2 out_2 x49_4=some o2) ?_ ?_
     ·refine Dh (Bp _ _ []) (by kernel_rfl) [0,0,2,7,15,31,31,95,255,511,1023,1023,4095,8191,16383,1023,1023,99327,230399,492543,1048575,2097151,4194303] 1 185 A5 rfl rfl (by kernel_rfl) ?_
      refine Ak ?_
      rcases D2 D with ⟨h13,D⟩ | ⟨h13,D⟩
      ·refine Ak ?_
       refine Ai fun B=>?_
       exact⟨true,D,A1 [(0,0)]⟩
      ·refine Ak ?_
       rcases D2 D with ⟨h15,D⟩ | ⟨h15,D⟩
       ·refine Ak ?_
        obtain⟨e,he,D⟩:=Ad D
        refine Ak ?_
        refine Bn (Bu rfl rfl h15) rfl (Dg Jo Me (by decide) (D3 Ac.enc_len (Ao he) (o:=0) (by decide) rfl)) rfl rfl ?_
        refine Bn (Bu rfl rfl h15) rfl (Bt Me (Bh Ac.enc_len (Ao he) (o:=0) (c:=.str e.Alias) rfl rfl)) rfl rfl ?_
        refine Ak ?_
        obtain⟨e_2,he_2,D⟩:=Ad D
        refine Ak ?_
        refine Bn (Bu rfl rfl h15) rfl (Dg Jo Me (by decide) (D3 Ac.enc_len (Ao he_2) (o:=0) (by decide) rfl)) rfl rfl ?_
        refine Bn (Bu rfl rfl h15) rfl (Bt Me (Bh Ac.enc_len (Ao he_2) (o:=0) (c:=.str e_2.Alias) rfl rfl)) rfl rfl ?_
        refine Bn (Bu rfl rfl h15) rfl iY rfl rfl ?_
        refine Ak ?_
        refine Ai fun B=>?_
        exact⟨Ns (Hs e.Alias) (Hs e_2.Alias),D,A1 [(0,0)]⟩
       ·refine Ak ?_
        refine Ai fun B=>?_
        exact⟨false,D,A1 [(0,0)]⟩
     ·rintro x49_4 D
      replace D:Ar.j4 a b i_2 k_2 out_2 x49_4=some o2:=D
      show Ce _ _ _ _ (mk _ _ _)
      unfold Ar.j4 at D
      refine Df rfl D (fun h18 D=>?_) fun h18 D=>?_
      ·refine Ah ?_
       refine Ae (Bp _ _ []) 1 73 A5 rfl rfl ?_
       refine Ak ?_
       obtain⟨e_3,he_3,D⟩:=Ad D
       refine Ak ?_
       refine Bn rfl rfl (C1 L6 (Bx Ac.enc_len (Ao he_3) (o:=0) (m:=6) (cs:=(Ac.ec e_3)) rfl (by decide) rfl) (Ba Ac.enc_len (Ao he_3) (o:=0) (m:=6) (by decide) rfl)) rfl rfl ?_
       obtain⟨y_3,hy_3,D⟩:=Ad D
       refine Dm (Km _ _ hy_3) ?_
       refine Bn rfl rfl (An Ke Wx (by decide) rfl rfl rfl rfl Ti (cs:=(Ac.ec y_3)) (.cons .str (.cons .int (.cons .int (.cons .int (.cons .bool (.cons .sl .nil)))))) rfl (l:=([y_3]:List Ac)) (f:=Ac.enc) rfl) rfl rfl ?_
       obtain⟨l,hl,D⟩:=Ad D
       refine Ed (rd:=[0,49]) rfl rfl (Cs Ke Ac.enc_len .row rfl .row rfl hl rfl) rfl rfl ?_
       refine Ak ?_
       refine Ai fun B=>?_
       refine Bd 73 97 B ?_
       refine Ak ?_
       refine Ai fun B=>?_
       refine Bv ?_
       repeat first | refine C4 ?_ | refine C3 ?_
       obtain rfl:=oi_ D
       exact⟨((W (i_2 + 1),k_2,l),m2),vO _,hn2,A1 [(0,57)]⟩
      ·refine Ap ?_
       repeat first | refine C4 ?_ | refine C3 ?_
       refine B9 (ι:=Int) (fun (i_6:Int)=>mk [(0,.sl 6 (Al Ac.enc a)),(1,.sl 6 (Al Ac.enc b)),(6,.row 0),(7,vj i_6),(8,vj k_2)] [(0,.row 40 6 (Al Ac.enc out_2))] 1) (fun (i_6:Int)=>Ar.j6 b k_2 out_2 i_6=some o2) ?_ ?_
       ·refine B9 (ι:=Bool) (fun (x76_5:Bool)=>mk [(0,.sl 6 (Al Ac.enc a)),(1,.sl 6 (Al Ac.enc b)),(6,.row 0),(7,vj i_2),(8,vj k_2),(76,.val (.bool x76_5))] [(0,.row 40 6 (Al Ac.enc out_2))] 1) (fun (x76_5:Bool)=>Ar.j5 b i_2 k_2 out_2 x76_5=some o2) ?_ ?_
        ·refine Dh (Bp _ _ []) (by kernel_rfl) [0,0,2,7,15,31,31,127,255,511,31,31,3103,7199,15391,32767,65535] 1 137 A5 rfl rfl (by kernel_rfl) ?_
         refine Ak ?_
         rcases D2 D with ⟨h21,D⟩ | ⟨h21,D⟩
         ·refine Ak ?_
          obtain⟨e_4,he_4,D⟩:=Ad D
          refine Ak ?_
          refine Bn (Bu rfl rfl h21) rfl (Dg Jo Me (by decide) (D3 Ac.enc_len (Ao he_4) (o:=0) (by decide) rfl)) rfl rfl ?_
          refine Bn (Bu rfl rfl h21) rfl (Bt Me (Bh Ac.enc_len (Ao he_4) (o:=0) (c:=.str e_4.Alias) rfl rfl)) rfl rfl ?_
          refine Ak ?_
          obtain⟨e_5,he_5,D⟩:=Ad D
          refine Ak ?_
          refine Bn (Bu rfl rfl h21) rfl (Dg Jo Me (by decide) (D3 Ac.enc_len (Ao he_5) (o:=0) (by decide) rfl)) rfl rfl ?_
          refine Bn (Bu rfl rfl h21) rfl (Bt Me (Bh Ac.enc_len (Ao he_5) (o:=0) (c:=.str e_5.Alias) rfl rfl)) rfl rfl ?_
          refine Ak ?_
          refine Ai fun B=>?_
          exact⟨decide (e_4.Alias=e_5.Alias),D,A1 [(0,0)]⟩
         ·refine Ak ?_
          refine Ai fun B=>?_
          exact⟨false,D,A1 [(0,0)]⟩
        ·rintro x76_5 D
         replace D:Ar.j5 b i_2 k_2 out_2 x76_5=some o2:=D
         show Ce _ _ _ _ (mk _ _ _)
         unfold Ar.j5 at D
         refine Df rfl D (fun h24 D=>?_) fun h24 D=>?_
         ·refine Ae (Bp _ _ []) 1 25 A5 rfl rfl ?_
          refine Ak ?_
          refine Ai fun B=>?_
          exact⟨W (i_2 + 1),D,A1 [(0,0)]⟩
         ·refine Ap ?_
          repeat first | refine C4 ?_ | refine C3 ?_
          exact⟨i_2,D,A1 [(0,0)]⟩
       ·rintro i_6 D
        replace D:Ar.j6 b k_2 out_2 i_6=some o2:=D
        show Ce _ _ _ _ (mk _ _ _)
        unfold Ar.j6 at D
        refine Bd 1 73 A5 ?_
        refine Ak ?_
        obtain⟨e_6,he_6,D⟩:=Ad D
        refine Ak ?_
        refine Bn rfl rfl (C1 L6 (Bx Ac.enc_len (Ao he_6) (o:=0) (m:=6) (cs:=(Ac.ec e_6)) rfl (by decide) rfl) (Ba Ac.enc_len (Ao he_6) (o:=0) (m:=6) (by decide) rfl)) rfl rfl ?_
        obtain⟨y_4,hy_4,D⟩:=Ad D
        refine Dm (Km _ _ hy_4) ?_
        refine Bn rfl rfl (An Ke Wx (by decide) rfl rfl rfl rfl Ti (cs:=(Ac.ec y_4)) (.cons .str (.cons .int (.cons .int (.cons .int (.cons .bool (.cons .sl .nil)))))) rfl (l:=([y_4]:List Ac)) (f:=Ac.enc) rfl) rfl rfl ?_
        obtain⟨l_2,hl_2,D⟩:=Ad D
        refine Ed (rd:=[0,49]) rfl rfl (Cs Ke Ac.enc_len .row rfl .row rfl hl_2 rfl) rfl rfl ?_
        refine Ak ?_
        refine Ai fun B=>?_
        refine Ae (Bp _ _ []) 73 97 B rfl rfl ?_
        refine Ak ?_
        refine Ai fun B=>?_
        obtain rfl:=oi_ D
        exact⟨((i_6,W (k_2 + 1),l_2),m2),vO _,hn2,A1 [(0,57)]⟩
    ·refine Bv ?_
     repeat first | refine C4 ?_ | refine C3 ?_
     replace D:=C0 D hn2
     refine Ah ?_
     refine Bd 1 25 A5 ?_
     refine Ak ?_
     refine Ai fun B=>?_
     refine Df rfl D (fun h29 D=>?_) fun h29 D=>?_
     ·refine Ah ?_
      refine Ae (Bp _ _ []) 25 41 B rfl rfl ?_
      refine Ak ?_
      refine Ai fun B=>?_
      refine A4 ?_
      obtain rfl:=oi_ D
      exact A3 [] ⟨rfl,rfl⟩
     ·refine Ap ?_
      repeat first | refine C4 ?_ | refine C3 ?_
      refine Bd 25 49 B ?_
      refine Ak ?_
      refine Ai fun B=>?_
      refine A4 ?_
      obtain rfl:=oi_ D
      exact A3 [] ⟨rfl,rfl⟩
end Go.Proofs.YtfanepojdefdpaaGreat
