import Derived.Test.YtfanepojdefdpaaGreatT1
import Derived.Test.YtfanepojdefdpaaGreatA2
set_option linter.unusedVariables false
set_option linter.unusedSimpArgs false
set_option maxRecDepth 100000
set_option maxHeartbeats 1600000
namespace Go.Proofs.YtfanepojdefdpaaGreat
open Go.RowKit
theorem Zz (d:Af) (r:Ax×Af) (D:Kh d=some r):Fn Tryz.prog 94 1 [.ptr 0 0] [.box [.sl 1 (Al eI d.L),vj d.At] 59] (fun d' b'=>d'=.agg [vj r.1.Alg,vj r.1.Bits]/\b'=[.box [.sl 1 (Al eI r.2.L),vj r.2.At] 59]):=by
 unfold Kh at D
 refine Fn.of Tryz.func94 rfl rfl rfl fun w0 I ρ0=>?_
 show Ce _ ⟨w0,I,ρ0,1,1,12⟩ _ _ _
 refine Bd 1 9 A5 ?_
 refine Ak ?_
 refine Ai fun B=>?_
 refine Ah ?_
 refine Ae (Bp _ _ [17]) 9 41 B rfl rfl ?_
 refine Ak ?_
 refine Ix (rd:=[]) rfl rfl (An Fj z3 (by decide) rfl rfl rfl rfl Jq (cs:=[.int .i64 5,.int .i64 7,.int .i64 5,.int .i64 6,.int .i64 8,.int .i64 9]) (.cons .int (.cons .int (.cons .int (.cons .int (.cons .int (.cons .int .nil)))))) rfl (l:=([5,7,5,6,8,9]:List Int)) (f:=eI) rfl) rfl rfl rfl ?_
 obtain⟨y,hy,D⟩:=Ad D
 refine Kn [0] [0] [] false (Dc _ _ _ hy) ?_
 refine Ak ?_
 refine Ai fun B=>?_
 refine Bd 41 89 B ?_
 refine Ak ?_
 obtain⟨y_2,hy_2,D⟩:=Ad D
 refine Kn [0] [0] [] false (Y3 _ _ _ hy_2) ?_
 refine Bn rfl rfl (.build (r:=[vj y.1,vj y_2.1]) Ul iU rE (by kernel_rfl) rfl) rfl rfl ?_
 refine Ak ?_
 refine Ai fun B=>?_
 refine A4 ?_
 obtain rfl:=oi_ D
 exact A3 [(0,0)] ⟨rfl,rfl⟩
theorem Jm (d:Af) (n:Int) (r:Bool×Af) (D:Fg d n=some r):Fn Tryz.prog 67 1 [.ptr 0 0,vj n] [.box [.sl 1 (Al eI d.L),vj d.At] 59] (fun d' b'=>d'=.val (.bool r.1)/\b'=[.box [.sl 1 (Al eI r.2.L),vj r.2.At] 59]):=by
 unfold Fg at D
 refine Fn.of Tryz.func67 rfl rfl rfl fun w0 I ρ0=>?_
 show Ce _ ⟨w0,I,ρ0,1,1,11⟩ _ _ _
 refine Bd 1 9 A5 ?_
 refine Ak ?_
 refine Ai fun B=>?_
 refine Bd 9 65 B ?_
 refine Ak ?_
 obtain⟨y,hy,D⟩:=Ad D
 refine Kn [0] [0] [] false (D9 _ _ _ hy) ?_
 refine Ak ?_
 refine Ai fun B=>?_
 refine A4 ?_
 obtain rfl:=oi_ D
 exact A3 [(0,0)] ⟨rfl,rfl⟩
theorem Pb (c:Ab) (r:Ab) (D:G0 c=some r):Fn Tryz.prog 112 0 [.agg (Ab.dv c)] [] (fun d' b'=>d'=.agg (Ab.dv r)/\b'=[]):=by
 unfold G0 at D
 refine Fn.of Tryz.func112 rfl rfl rfl fun w0 I ρ0=>?_
 show Ce _ ⟨w0,I,ρ0,0,0,9⟩ _ _ _
 refine Bd 0 16 A5 ?_
 refine Ak ?_
 refine Ai fun B=>?_
 refine Bd 16 64 B ?_
 refine Bn rfl rfl (An Sl z9 (by decide) rfl rfl rfl rfl mI (cs:=[]) .nil rfl (l:=([]:List ByteArray)) (f:=eS) rfl) rfl rfl ?_
 refine Ak ?_
 obtain⟨l,hl,D⟩:=Ad D
 refine Ed (rd:=[16]) rfl rfl (Cs Sl Gz .row rfl .sl rfl hl rfl) rfl rfl ?_
 refine Ak ?_
 refine Ai fun B=>?_
 refine Bd 64 80 B ?_
 refine Ak ?_
 refine Ai fun B=>?_
 refine A4 ?_
 obtain rfl:=oi_ D
 exact A3 [] ⟨rfl,rfl⟩
theorem J1 (s:ByteArray) (r:Bool) (D:Br s=some r):Fn Tryz.prog 43 0 [vk s] [] (fun d' b'=>d'=.val (.bool r)/\b'=[]):=by
 unfold Br at D
 refine Fn.of Tryz.func43 rfl rfl rfl fun w0 I ρ0=>?_
 show Ce _ ⟨w0,I,ρ0,0,0,28⟩ _ _ _
 refine Bd 0 8 A5 ?_
 refine Ak ?_
 refine Ai fun B=>?_
 refine Ah ?_
 refine B9 (ι:=Bool) (fun (x11_1:Bool)=>mk [(0,vk s),(11,.val (.bool x11_1))] [] 0) (fun (x11_1:Bool)=>Br.j1 s x11_1=some r) ?_ ?_
 ·refine Ae (Bp _ _ []) 8 72 B rfl rfl ?_
  refine Ak ?_
  refine Bn rfl rfl (Qt P3) rfl rfl ?_
  refine Ak ?_
  rcases D2 D with ⟨h2,D⟩ | ⟨h2,D⟩
  ·refine Ak ?_
   refine Ai fun B=>?_
   exact⟨true,D,A1 []⟩
  ·refine Ak ?_
   refine Bn (Bu rfl rfl h2) rfl (Qt P3) rfl rfl ?_
   refine Ak ?_
   refine Ai fun B=>?_
   exact⟨decide (32 < (s.size:Int)),D,A1 []⟩
 ·rintro x11_1 D
  replace D:Br.j1 s x11_1=some r:=D
  show Ce _ _ _ _ (mk _ _ _)
  unfold Br.j1 at D
  refine Df rfl D (fun h5 D=>?_) fun h5 D=>?_
  ·refine Ah ?_
   refine Ae (Bp _ _ []) 0 8 A5 rfl rfl ?_
   refine Ak ?_
   refine Ai fun B=>?_
   refine A4 ?_
   obtain rfl:=oi_ D
   exact A3 [] ⟨rfl,rfl⟩
  ·refine Ap ?_
   repeat first | refine C4 ?_ | refine C3 ?_
   refine Ah ?_
   refine Bd 0 8 A5 ?_
   refine Ak ?_
   refine Ai fun B=>?_
   refine As ?_
   refine Jk (fun (i_2:Int)=>mk [(0,vk s),(3,vj i_2)] [] 0) D (A1 []) ?_
   rintro i_2 m2 o2 D hn2
   replace D:Br.l2 s i_2=some o2:=D
   show Ce _ _ _ _ (mk _ _ _)
   unfold Br.l2 at D
   refine Ah ?_
   refine Bd 0 32 A5 ?_
   refine Ak ?_
   refine Bn rfl rfl (Qt P3) rfl rfl ?_
   refine Ak ?_
   refine Ai fun B=>?_
   refine Df rfl D (fun h9 D=>?_) fun h9 D=>?_
   ·refine Ap ?_
    repeat first | refine C4 ?_ | refine C3 ?_
    refine Ah ?_
    refine As ?_
    refine B9 (ι:=Bool) (fun (x27_3:Bool)=>mk [(0,vk s),(3,vj i_2),(27,.val (.bool x27_3))] [] 0) (fun (x27_3:Bool)=>Br.j3 i_2 x27_3=some o2) ?_ ?_
    ·refine Ae (Bp _ _ []) 32 112 B rfl rfl ?_
     refine Ak ?_
     obtain⟨c,hc,D⟩:=Ad D
     refine Bn rfl rfl (Zr P3 hc) rfl rfl ?_
     refine Ak ?_
     rcases D2 D with ⟨h10,D⟩ | ⟨h10,D⟩
     ·refine Ak ?_
      refine Ai fun B=>?_
      exact⟨true,D,A1 []⟩
     ·refine Ak ?_
      obtain⟨c_2,hc_2,D⟩:=Ad D
      refine Bn (Bu rfl rfl h10) rfl (Zr P3 hc_2) rfl rfl ?_
      refine Ak ?_
      refine Ai fun B=>?_
      exact⟨decide (126 < (c_2.toNat:Int)),D,A1 []⟩
    ·rintro x27_3 D
     replace D:Br.j3 i_2 x27_3=some o2:=D
     show Ce _ _ _ _ (mk _ _ _)
     unfold Br.j3 at D
     refine Df rfl D (fun h13 D=>?_) fun h13 D=>?_
     ·refine Ah ?_
      refine Ae (Bp _ _ []) 0 8 A5 rfl rfl ?_
      refine Ak ?_
      refine Ai fun B=>?_
      refine A4 ?_
      replace D:=C0 D hn2
      obtain rfl:=oi_ D
      exact A3 [] ⟨rfl,rfl⟩
     ·refine Ap ?_
      repeat first | refine C4 ?_ | refine C3 ?_
      refine Ae (Bp _ _ []) 0 24 A5 rfl rfl ?_
      refine Ak ?_
      refine Ai fun B=>?_
      obtain rfl:=oi_ D
      exact⟨(W (i_2 + 1),m2),vO _,hn2,A1 []⟩
   ·refine Bv ?_
    repeat first | refine C4 ?_ | refine C3 ?_
    replace D:=C0 D hn2
    refine Bd 32 40 B ?_
    refine Ak ?_
    refine Ai fun B=>?_
    refine A4 ?_
    obtain rfl:=oi_ D
    exact A3 [] ⟨rfl,rfl⟩
theorem Sr (b:Int) (r:Int) (D:Cz b=some r):Fn Tryz.prog 177 0 [vj b] [] (fun d' b'=>d'=vj r/\b'=[]):=by
 unfold Cz at D
 refine Fn.of Tryz.func177 rfl rfl rfl fun w0 I ρ0=>?_
 show Ce _ ⟨w0,I,ρ0,0,0,25⟩ _ _ _
 refine Bd 0 8 A5 ?_
 refine Ak ?_
 refine Ai fun B=>?_
 refine Ah ?_
 refine As ?_
 refine B9 (ι:=Bool) (fun (x3_1:Bool)=>mk [(0,vj b),(3,.val (.bool x3_1))] [] 0) (fun (x3_1:Bool)=>Cz.j1 b x3_1=some r) ?_ ?_
 ·refine Ae (Bp _ _ []) 8 64 B rfl rfl ?_
  refine Ak ?_
  rcases D2 D with ⟨h2,D⟩ | ⟨h2,D⟩
  ·refine Ak ?_
   refine Ai fun B=>?_
   exact⟨true,D,A1 []⟩
  ·refine Ak ?_
   refine Ai fun B=>?_
   exact⟨decide (16384 < b),D,A1 []⟩
 ·rintro x3_1 D
  replace D:Cz.j1 b x3_1=some r:=D
  show Ce _ _ _ _ (mk _ _ _)
  unfold Cz.j1 at D
  refine Df rfl D (fun h5 D=>?_) fun h5 D=>?_
  ·refine Ah ?_
   refine Ae (Bp _ _ []) 0 8 A5 rfl rfl ?_
   refine Ak ?_
   refine Ai fun B=>?_
   refine A4 ?_
   obtain rfl:=oi_ D
   exact A3 [] ⟨rfl,rfl⟩
  ·refine Ah ?_
   refine Ae (Bp _ _ []) 0 24 A5 rfl rfl ?_
   refine Ak ?_
   refine Ai fun B=>?_
   refine Df rfl D (fun h8 D=>?_) fun h8 D=>?_
   ·refine Ah ?_
    refine Ae (Bp _ _ []) 24 32 B rfl rfl ?_
    refine Ak ?_
    refine Ai fun B=>?_
    refine A4 ?_
    obtain rfl:=oi_ D
    exact A3 [] ⟨rfl,rfl⟩
   ·refine Ah ?_
    refine Ae (Bp _ _ []) 24 48 B rfl rfl ?_
    refine Ak ?_
    refine Ai fun B=>?_
    refine Df rfl D (fun h11 D=>?_) fun h11 D=>?_
    ·refine Ah ?_
     refine Ae (Bp _ _ []) 48 56 B rfl rfl ?_
     refine Ak ?_
     refine Ai fun B=>?_
     refine A4 ?_
     obtain rfl:=oi_ D
     exact A3 [] ⟨rfl,rfl⟩
    ·refine Ah ?_
     refine Ae (Bp _ _ []) 48 72 B rfl rfl ?_
     refine Ak ?_
     refine Ai fun B=>?_
     refine Df rfl D (fun h14 D=>?_) fun h14 D=>?_
     ·refine Ah ?_
      refine Ae (Bp _ _ []) 72 80 B rfl rfl ?_
      refine Ak ?_
      refine Ai fun B=>?_
      refine A4 ?_
      obtain rfl:=oi_ D
      exact A3 [] ⟨rfl,rfl⟩
     ·refine Ah ?_
      refine Ae (Bp _ _ []) 72 96 B rfl rfl ?_
      refine Ak ?_
      refine Ai fun B=>?_
      refine Df rfl D (fun h17 D=>?_) fun h17 D=>?_
      ·refine Ah ?_
       refine Ae (Bp _ _ []) 96 104 B rfl rfl ?_
       refine Ak ?_
       refine Ai fun B=>?_
       refine A4 ?_
       obtain rfl:=oi_ D
       exact A3 [] ⟨rfl,rfl⟩
      ·refine Ah ?_
       refine Ae (Bp _ _ []) 96 120 B rfl rfl ?_
       refine Ak ?_
       refine Ai fun B=>?_
       refine Df rfl D (fun h20 D=>?_) fun h20 D=>?_
       ·refine Ah ?_
        refine Ae (Bp _ _ []) 120 128 B rfl rfl ?_
        refine Ak ?_
        refine Ai fun B=>?_
        refine A4 ?_
        obtain rfl:=oi_ D
        exact A3 [] ⟨rfl,rfl⟩
       ·refine Ap ?_
        repeat first | refine C4 ?_ | refine C3 ?_
        refine Bd 120 128 B ?_
        refine Ak ?_
        refine Ai fun B=>?_
        refine A4 ?_
        obtain rfl:=oi_ D
        exact A3 [] ⟨rfl,rfl⟩
theorem Hd (b:Int) (sizes:(List Int)) (strengths:(List Int)) (r:Int) (D:Bf b sizes strengths=some r):Fn Tryz.prog 178 0 [vj b,.sl 1 (Al eI sizes),.sl 1 (Al eI strengths)] [] (fun d' b'=>d'=vj r/\b'=[]):=by
 unfold Bf at D
 refine Fn.of Tryz.func178 rfl rfl rfl fun w0 I ρ0=>?_
 show Ce _ ⟨w0,I,ρ0,0,0,24⟩ _ _ _
 refine Bd 0 8 A5 ?_
 refine Ak ?_
 refine Ai fun B=>?_
 refine Ah ?_
 refine Bd 8 16 B ?_
 refine Ak ?_
 refine Ai fun B=>?_
 refine As ?_
 refine Jk (fun (i_1:Int)=>mk [(0,vj b),(1,.sl 1 (Al eI sizes)),(2,.sl 1 (Al eI strengths)),(7,vj i_1)] [] 0) D (A1 []) ?_
 rintro i_1 m1 o1 D hn1
 replace D:Bf.l1 b sizes strengths i_1=some o1:=D
 show Ce _ _ _ _ (mk _ _ _)
 unfold Bf.l1 at D
 refine Ah ?_
 refine Bd 0 32 A5 ?_
 refine Ak ?_
 refine Ai fun B=>?_
 refine Df rfl D (fun h4 D=>?_) fun h4 D=>?_
 ·refine Ap ?_
  repeat first | refine C4 ?_ | refine C3 ?_
  refine Ah ?_
  refine As ?_
  refine Bd 32 80 B ?_
  refine Ak ?_
  obtain⟨e,he,D⟩:=Ad D
  refine Ak ?_
  refine Bn rfl rfl (Bt Qn (Bh La (Ao he) (o:=0) (c:=.int .i64 e) rfl rfl)) rfl rfl ?_
  refine Ak ?_
  refine Ai fun B=>?_
  refine Df rfl D (fun h6 D=>?_) fun h6 D=>?_
  ·refine Ah ?_
   refine Ae (Bp _ _ []) 80 120 B rfl rfl ?_
   refine Ak ?_
   obtain⟨e_2,he_2,D⟩:=Ad D
   refine Ak ?_
   refine Bn rfl rfl (Bt Qn (Bh La (Ao he_2) (o:=0) (c:=.int .i64 e_2) rfl rfl)) rfl rfl ?_
   refine Ak ?_
   refine Ai fun B=>?_
   refine A4 ?_
   replace D:=C0 D hn1
   obtain rfl:=oi_ D
   exact A3 [] ⟨rfl,rfl⟩
  ·refine Ap ?_
   repeat first | refine C4 ?_ | refine C3 ?_
   refine Ae (Bp _ _ []) 80 104 B rfl rfl ?_
   refine Ak ?_
   refine Ai fun B=>?_
   obtain rfl:=oi_ D
   exact⟨(W (i_1 + 1),m1),vO _,hn1,A1 []⟩
 ·refine Bv ?_
  repeat first | refine C4 ?_ | refine C3 ?_
  replace D:=C0 D hn1
  refine Bd 32 40 B ?_
  refine Ak ?_
  refine Ai fun B=>?_
  refine A4 ?_
  obtain rfl:=oi_ D
  exact A3 [] ⟨rfl,rfl⟩
theorem T4 (alg:Int) (r:Int) (D:Cm alg=some r):Fn Tryz.prog 179 0 [vj alg] [] (fun d' b'=>d'=vj r/\b'=[]):=by
 unfold Cm at D
 refine Fn.of Tryz.func179 rfl rfl rfl fun w0 I ρ0=>?_
 show Ce _ ⟨w0,I,ρ0,0,0,21⟩ _ _ _
 refine Bd 0 8 A5 ?_
 refine Ak ?_
 refine Ai fun B=>?_
 refine Ah ?_
 refine Bd 8 16 B ?_
 refine Ak ?_
 refine Ai fun B=>?_
 refine As ?_
 refine Bd 16 32 B ?_
 refine Ak ?_
 refine Ai fun B=>?_
 refine Df rfl D (fun h4 D=>?_) fun h4 D=>?_
 ·refine Ah ?_
  refine Ae (Bp _ _ []) 32 40 B rfl rfl ?_
  refine Ak ?_
  refine Ai fun B=>?_
  refine A4 ?_
  obtain rfl:=oi_ D
  exact A3 [] ⟨rfl,rfl⟩
 ·refine Ah ?_
  refine Ae (Bp _ _ []) 32 48 B rfl rfl ?_
  refine Ak ?_
  refine Ai fun B=>?_
  refine Df rfl D (fun h7 D=>?_) fun h7 D=>?_
  ·refine Ah ?_
   refine Ae (Bp _ _ []) 48 56 B rfl rfl ?_
   refine Ak ?_
   refine Ai fun B=>?_
   refine A4 ?_
   obtain rfl:=oi_ D
   exact A3 [] ⟨rfl,rfl⟩
  ·refine B9 (ι:=Bool) (fun (x8_1:Bool)=>mk [(3,vj alg),(8,.val (.bool x8_1))] [] 0) (fun (x8_1:Bool)=>Cm.j1 alg x8_1=some r) ?_ ?_
   ·refine Ah ?_
    refine Ae (Bp _ _ []) 48 64 B rfl rfl ?_
    refine Ak ?_
    refine Ai fun B=>?_
    refine Df rfl D (fun h10 D=>?_) fun h10 D=>?_
    ·refine Ap ?_
     repeat first | refine C4 ?_ | refine C3 ?_
     exact⟨decide (alg=3),D,A1 []⟩
    ·refine Ah ?_
     refine Ae (Bp _ _ []) 64 80 B rfl rfl ?_
     refine Ak ?_
     refine Ai fun B=>?_
     refine Df rfl D (fun h12 D=>?_) fun h12 D=>?_
     ·refine Ap ?_
      repeat first | refine C4 ?_ | refine C3 ?_
      exact⟨decide (alg=8),D,A1 []⟩
     ·refine Ae (Bp _ _ []) 80 96 B rfl rfl ?_
      refine Ak ?_
      refine Ai fun B=>?_
      exact⟨decide (alg=21),D,A1 []⟩
   ·rintro x8_1 D
    replace D:Cm.j1 alg x8_1=some r:=D
    show Ce _ _ _ _ (mk _ _ _)
    unfold Cm.j1 at D
    refine Df rfl D (fun h14 D=>?_) fun h14 D=>?_
    ·refine Ah ?_
     refine Ae (Bp _ _ []) 0 8 A5 rfl rfl ?_
     refine Ak ?_
     refine Ai fun B=>?_
     refine A4 ?_
     obtain rfl:=oi_ D
     exact A3 [] ⟨rfl,rfl⟩
    ·refine Ah ?_
     refine Ae (Bp _ _ []) 0 16 A5 rfl rfl ?_
     refine Ak ?_
     refine Ai fun B=>?_
     refine Df rfl D (fun h17 D=>?_) fun h17 D=>?_
     ·refine Ah ?_
      refine Ae (Bp _ _ []) 16 24 B rfl rfl ?_
      refine Ak ?_
      refine Ai fun B=>?_
      refine A4 ?_
      obtain rfl:=oi_ D
      exact A3 [] ⟨rfl,rfl⟩
     ·refine B9 (ι:=Bool) (fun (x14_2:Bool)=>mk [(3,vj alg),(14,.val (.bool x14_2))] [] 0) (fun (x14_2:Bool)=>Cm.j2 alg x14_2=some r) ?_ ?_
      ·refine Ah ?_
       refine Ae (Bp _ _ []) 16 32 B rfl rfl ?_
       refine Ak ?_
       refine Ai fun B=>?_
       refine Df rfl D (fun h20 D=>?_) fun h20 D=>?_
       ·refine Ap ?_
        repeat first | refine C4 ?_ | refine C3 ?_
        exact⟨decide (alg=18),D,A1 []⟩
       ·refine Ae (Bp _ _ []) 32 48 B rfl rfl ?_
        refine Ak ?_
        refine Ai fun B=>?_
        exact⟨decide (alg=22),D,A1 []⟩
      ·rintro x14_2 D
       replace D:Cm.j2 alg x14_2=some r:=D
       show Ce _ _ _ _ (mk _ _ _)
       unfold Cm.j2 at D
       refine Df rfl D (fun h22 D=>?_) fun h22 D=>?_
       ·refine Ah ?_
        refine Ae (Bp _ _ []) 0 8 A5 rfl rfl ?_
        refine Ak ?_
        refine Ai fun B=>?_
        refine A4 ?_
        obtain rfl:=oi_ D
        exact A3 [] ⟨rfl,rfl⟩
       ·refine Ah ?_
        refine Ae (Bp _ _ []) 0 16 A5 rfl rfl ?_
        refine Ak ?_
        refine Ai fun B=>?_
        refine Df rfl D (fun h25 D=>?_) fun h25 D=>?_
        ·refine Ah ?_
         refine Ae (Bp _ _ []) 16 24 B rfl rfl ?_
         refine Ak ?_
         refine Ai fun B=>?_
         refine A4 ?_
         obtain rfl:=oi_ D
         exact A3 [] ⟨rfl,rfl⟩
        ·refine Ah ?_
         refine Ae (Bp _ _ []) 16 32 B rfl rfl ?_
         refine Ak ?_
         refine Ai fun B=>?_
         refine Df rfl D (fun h28 D=>?_) fun h28 D=>?_
         ·refine Ah ?_
          refine Ae (Bp _ _ []) 32 40 B rfl rfl ?_
          refine Ak ?_
          refine Ai fun B=>?_
          refine A4 ?_
          obtain rfl:=oi_ D
          exact A3 [] ⟨rfl,rfl⟩
         ·refine Ap ?_
          repeat first | refine C4 ?_ | refine C3 ?_
          refine Bd 32 40 B ?_
          refine Ak ?_
          refine Ai fun B=>?_
          refine A4 ?_
          obtain rfl:=oi_ D
          exact A3 [] ⟨rfl,rfl⟩
theorem Rj (u:Ax) (r:Int) (D:Aq u=some r):Fn Tryz.prog 170 0 [.agg [vj u.Alg,vj u.Bits]] [] (fun d' b'=>d'=vj r/\b'=[]):=by
 unfold Aq at D
 refine Fn.of Tryz.func170 rfl rfl rfl fun w0 I ρ0=>?_
 show Ce _ ⟨w0,I,ρ0,0,0,76⟩ _ _ _
 refine Bd 0 16 A5 ?_
 refine Ak ?_
 refine Ai fun B=>?_
 refine Bd 16 40 B ?_
 refine Ak ?_
 refine Ai fun B=>?_
 refine Ah ?_
 refine Bd 40 56 B ?_
 refine Ak ?_
 refine Ai fun B=>?_
 refine As ?_
 refine B9 (ι:=Bool) (fun (x8_1:Bool)=>mk [(1,.ptr 0 0),(3,vj u.Bits),(7,vj u.Alg),(8,.val (.bool x8_1))] [(0,.box [vj u.Alg,vj u.Bits] 37)] 1) (fun (x8_1:Bool)=>Aq.j1 u x8_1=some r) ?_ ?_
 ·refine Ah ?_
  refine Ae (Bp _ _ []) 56 72 B rfl rfl ?_
  refine Ak ?_
  refine Ai fun B=>?_
  refine Df rfl D (fun h5 D=>?_) fun h5 D=>?_
  ·refine Ap ?_
   repeat first | refine C4 ?_ | refine C3 ?_
   exact⟨decide (u.Alg=5),D,A1 [(0,0)]⟩
  ·refine Ah ?_
   refine Ae (Bp _ _ []) 72 88 B rfl rfl ?_
   refine Ak ?_
   refine Ai fun B=>?_
   refine Df rfl D (fun h7 D=>?_) fun h7 D=>?_
   ·refine Ap ?_
    repeat first | refine C4 ?_ | refine C3 ?_
    exact⟨decide (u.Alg=6),D,A1 [(0,0)]⟩
   ·refine Ah ?_
    refine Ae (Bp _ _ []) 88 104 B rfl rfl ?_
    refine Ak ?_
    refine Ai fun B=>?_
    refine Df rfl D (fun h9 D=>?_) fun h9 D=>?_
    ·refine Ap ?_
     repeat first | refine C4 ?_ | refine C3 ?_
     exact⟨decide (u.Alg=10),D,A1 [(0,0)]⟩
    ·refine Ae (Bp _ _ []) 104 120 B rfl rfl ?_
     refine Ak ?_
     refine Ai fun B=>?_
     exact⟨decide (u.Alg=11),D,A1 [(0,0)]⟩
 ·rintro x8_1 D
  replace D:Aq.j1 u x8_1=some r:=D
  show Ce _ _ _ _ (mk _ _ _)
  unfold Aq.j1 at D
  refine Df rfl D (fun h11 D=>?_) fun h11 D=>?_
  ·refine Ah ?_
   refine Ae (Bp _ _ []) 1 25 A5 rfl rfl ?_
   refine Ak ?_
   obtain⟨y,hy,D⟩:=Ad D
   refine Dm (Sr _ _ hy) ?_
   refine Ak ?_
   refine Ai fun B=>?_
   refine A4 ?_
   obtain rfl:=oi_ D
   exact A3 [] ⟨rfl,rfl⟩
  ·refine B9 (ι:=Bool) (fun (x15_2:Bool)=>mk [(1,.ptr 0 0),(3,vj u.Bits),(7,vj u.Alg),(15,.val (.bool x15_2))] [(0,.box [vj u.Alg,vj u.Bits] 37)] 1) (fun (x15_2:Bool)=>Aq.j2 u x15_2=some r) ?_ ?_
   ·refine Ah ?_
    refine Ae (Bp _ _ []) 1 17 A5 rfl rfl ?_
    refine Ak ?_
    refine Ai fun B=>?_
    refine Df rfl D (fun h14 D=>?_) fun h14 D=>?_
    ·refine Ap ?_
     repeat first | refine C4 ?_ | refine C3 ?_
     exact⟨decide (u.Alg=7),D,A1 [(0,0)]⟩
    ·refine Ae (Bp _ _ []) 17 33 B rfl rfl ?_
     refine Ak ?_
     refine Ai fun B=>?_
     exact⟨decide (u.Alg=12),D,A1 [(0,0)]⟩
   ·rintro x15_2 D
    replace D:Aq.j2 u x15_2=some r:=D
    show Ce _ _ _ _ (mk _ _ _)
    unfold Aq.j2 at D
    refine Df rfl D (fun h16 D=>?_) fun h16 D=>?_
    ·refine Ah ?_
     refine B9 (ι:=Bool) (fun (x35_3:Bool)=>mk [(3,vj u.Bits),(35,.val (.bool x35_3))] [] 0) (fun (x35_3:Bool)=>Aq.j3 u x35_3=some r) ?_ ?_
     ·refine Ae (Bp _ _ []) 1 145 A5 rfl rfl ?_
      refine Ak ?_
      rcases D2 D with ⟨h17,D⟩ | ⟨h17,D⟩
      ·refine Ak ?_
       refine Ai fun B=>?_
       exact⟨true,D,A1 []⟩
      ·refine Ak ?_
       rcases D2 D with ⟨h19,D⟩ | ⟨h19,D⟩
       ·refine Ak ?_
        refine Ai fun B=>?_
        exact⟨true,D,A1 []⟩
       ·refine Ak ?_
        rcases D2 D with ⟨h21,D⟩ | ⟨h21,D⟩
        ·refine Ak ?_
         refine Ai fun B=>?_
         exact⟨true,D,A1 []⟩
        ·refine Ak ?_
         rcases D2 D with ⟨h23,D⟩ | ⟨h23,D⟩
         ·refine Ak ?_
          refine Ai fun B=>?_
          exact⟨true,D,A1 []⟩
         ·refine Ak ?_
          refine Ai fun B=>?_
          exact⟨decide (u.Bits=521),D,A1 []⟩
     ·rintro x35_3 D
      replace D:Aq.j3 u x35_3=some r:=D
      show Ce _ _ _ _ (mk _ _ _)
      unfold Aq.j3 at D
      refine Df rfl D (fun h26 D=>?_) fun h26 D=>?_
      ·refine Ah ?_
       refine Ae (Bp _ _ []) 0 24 A5 rfl rfl ?_
       refine Ak ?_
       obtain⟨q,hq,D⟩:=Ad D
       refine Bn rfl rfl (bT hq) rfl rfl ?_
       refine Ak ?_
       refine Ai fun B=>?_
       refine A4 ?_
       obtain rfl:=oi_ D
       exact A3 [] ⟨rfl,rfl⟩
      ·refine Ap ?_
       repeat first | refine C4 ?_ | refine C3 ?_
       refine Bd 0 8 A5 ?_
       refine Ak ?_
       refine Ai fun B=>?_
       refine A4 ?_
       obtain rfl:=oi_ D
       exact A3 [] ⟨rfl,rfl⟩
    ·refine Ah ?_
     refine Ae (Bp _ _ []) 1 17 A5 rfl rfl ?_
     refine Ak ?_
     refine Ai fun B=>?_
     refine Df rfl D (fun h30 D=>?_) fun h30 D=>?_
     ·refine Ah ?_
      refine Ae (Bp _ _ []) 17 57 B rfl rfl ?_
      refine Ak ?_
      refine Bn rfl rfl (An Fj z3 (by decide) rfl rfl rfl rfl Jq (cs:=[.int .i64 44,.int .i64 65,.int .i64 87]) (.cons .int (.cons .int (.cons .int .nil))) rfl (l:=([44,65,87]:List Int)) (f:=eI) rfl) rfl rfl ?_
      refine Bn rfl rfl (An Fj z3 (by decide) rfl rfl rfl rfl Jq (cs:=[.int .i64 128,.int .i64 192,.int .i64 256]) (.cons .int (.cons .int (.cons .int .nil))) rfl (l:=([128,192,256]:List Int)) (f:=eI) rfl) rfl rfl ?_
      obtain⟨y_2,hy_2,D⟩:=Ad D
      refine Kn [25,33] [] [] true (Hd _ _ _ _ hy_2) ?_
      refine Ak ?_
      refine Ai fun B=>?_
      refine A4 ?_
      obtain rfl:=oi_ D
      exact A3 [] ⟨rfl,rfl⟩
     ·refine Ah ?_
      refine Ae (Bp _ _ []) 17 33 B rfl rfl ?_
      refine Ak ?_
      refine Ai fun B=>?_
      refine Df rfl D (fun h33 D=>?_) fun h33 D=>?_
      ·refine Ah ?_
       refine Ae (Bp _ _ []) 33 73 B rfl rfl ?_
       refine Ak ?_
       refine Bn rfl rfl (An Fj z3 (by decide) rfl rfl rfl rfl Jq (cs:=[.int .i64 512,.int .i64 768,.int .i64 1024]) (.cons .int (.cons .int (.cons .int .nil))) rfl (l:=([512,768,1024]:List Int)) (f:=eI) rfl) rfl rfl ?_
       refine Bn rfl rfl (An Fj z3 (by decide) rfl rfl rfl rfl Jq (cs:=[.int .i64 128,.int .i64 192,.int .i64 256]) (.cons .int (.cons .int (.cons .int .nil))) rfl (l:=([128,192,256]:List Int)) (f:=eI) rfl) rfl rfl ?_
       obtain⟨y_3,hy_3,D⟩:=Ad D
       refine Kn [41,49] [] [] true (Hd _ _ _ _ hy_3) ?_
       refine Ak ?_
       refine Ai fun B=>?_
       refine A4 ?_
       obtain rfl:=oi_ D
       exact A3 [] ⟨rfl,rfl⟩
      ·refine Ah ?_
       refine Ae (Bp _ _ []) 33 49 B rfl rfl ?_
       refine Ak ?_
       refine Ai fun B=>?_
       refine Df rfl D (fun h36 D=>?_) fun h36 D=>?_
       ·refine Ah ?_
        refine Ae (Bp _ _ []) 49 89 B rfl rfl ?_
        refine Ak ?_
        refine Bn rfl rfl (An Fj z3 (by decide) rfl rfl rfl rfl Jq (cs:=[.int .i64 40,.int .i64 128]) (.cons .int (.cons .int .nil)) rfl (l:=([40,128]:List Int)) (f:=eI) rfl) rfl rfl ?_
        refine Bn rfl rfl (An Fj z3 (by decide) rfl rfl rfl rfl Jq (cs:=[.int .i64 40,.int .i64 60]) (.cons .int (.cons .int .nil)) rfl (l:=([40,60]:List Int)) (f:=eI) rfl) rfl rfl ?_
        obtain⟨y_4,hy_4,D⟩:=Ad D
        refine Kn [57,65] [] [] true (Hd _ _ _ _ hy_4) ?_
        refine Ak ?_
        refine Ai fun B=>?_
        refine A4 ?_
        obtain rfl:=oi_ D
        exact A3 [] ⟨rfl,rfl⟩
       ·refine Ah ?_
        refine Ae (Bp _ _ []) 49 65 B rfl rfl ?_
        refine Ak ?_
        refine Ai fun B=>?_
        refine Df rfl D (fun h39 D=>?_) fun h39 D=>?_
        ·refine Ah ?_
         refine Ae (Bp _ _ []) 65 105 B rfl rfl ?_
         refine Ak ?_
         refine Bn rfl rfl (An Fj z3 (by decide) rfl rfl rfl rfl Jq (cs:=[.int .i64 112,.int .i64 168]) (.cons .int (.cons .int .nil)) rfl (l:=([112,168]:List Int)) (f:=eI) rfl) rfl rfl ?_
         refine Bn rfl rfl (An Fj z3 (by decide) rfl rfl rfl rfl Jq (cs:=[.int .i64 80,.int .i64 112]) (.cons .int (.cons .int .nil)) rfl (l:=([80,112]:List Int)) (f:=eI) rfl) rfl rfl ?_
         obtain⟨y_5,hy_5,D⟩:=Ad D
         refine Kn [73,81] [] [] true (Hd _ _ _ _ hy_5) ?_
         refine Ak ?_
         refine Ai fun B=>?_
         refine A4 ?_
         obtain rfl:=oi_ D
         exact A3 [] ⟨rfl,rfl⟩
        ·refine B9 (ι:=Bool) (fun (x62_4:Bool)=>mk [(1,.ptr 0 0),(3,vj u.Bits),(62,.val (.bool x62_4))] [(0,.box [vj u.Alg,vj u.Bits] 37)] 1) (fun (x62_4:Bool)=>Aq.j4 u x62_4=some r) ?_ ?_
         ·refine Ah ?_
          refine Ae (Bp _ _ []) 65 81 B rfl rfl ?_
          refine Ak ?_
          refine Ai fun B=>?_
          refine Df rfl D (fun h42 D=>?_) fun h42 D=>?_
          ·refine Ap ?_
           repeat first | refine C4 ?_ | refine C3 ?_
           exact⟨decide (u.Alg=16),D,A1 [(0,0)]⟩
          ·refine Ae (Bp _ _ []) 81 97 B rfl rfl ?_
           refine Ak ?_
           refine Ai fun B=>?_
           exact⟨decide (u.Alg=17),D,A1 [(0,0)]⟩
         ·rintro x62_4 D
          replace D:Aq.j4 u x62_4=some r:=D
          show Ce _ _ _ _ (mk _ _ _)
          unfold Aq.j4 at D
          refine Df rfl D (fun h44 D=>?_) fun h44 D=>?_
          ·refine Ah ?_
           refine Ae (Bp _ _ []) 1 41 A5 rfl rfl ?_
           refine Ak ?_
           refine Bn rfl rfl (An Fj z3 (by decide) rfl rfl rfl rfl Jq (cs:=[.int .i64 128,.int .i64 256]) (.cons .int (.cons .int .nil)) rfl (l:=([128,256]:List Int)) (f:=eI) rfl) rfl rfl ?_
           refine Bn rfl rfl (An Fj z3 (by decide) rfl rfl rfl rfl Jq (cs:=[.int .i64 128,.int .i64 256]) (.cons .int (.cons .int .nil)) rfl (l:=([128,256]:List Int)) (f:=eI) rfl) rfl rfl ?_
           obtain⟨y_6,hy_6,D⟩:=Ad D
           refine Kn [9,17] [] [] true (Hd _ _ _ _ hy_6) ?_
           refine Ak ?_
           refine Ai fun B=>?_
           refine A4 ?_
           obtain rfl:=oi_ D
           exact A3 [] ⟨rfl,rfl⟩
          ·refine Ap ?_
           repeat first | refine C4 ?_ | refine C3 ?_
           refine Bd 1 65 A5 ?_
           refine Ak ?_
           refine Bn rfl rfl (An Fj z3 (by decide) rfl rfl rfl rfl Jq (cs:=[.int .i64 0]) (.cons .int .nil) rfl (l:=([0]:List Int)) (f:=eI) rfl) rfl rfl ?_
           refine Ak ?_
           obtain⟨y_7,hy_7,D⟩:=Ad D
           refine Dm (T4 _ _ hy_7) ?_
           refine Bn rfl rfl (An Fj z3 (by decide) rfl rfl rfl rfl Jq (cs:=[.int .i64 y_7]) (.cons .int .nil) rfl (l:=([y_7]:List Int)) (f:=eI) rfl) rfl rfl ?_
           obtain⟨y_8,hy_8,D⟩:=Ad D
           refine Kn [9,41] [] [] true (Hd _ _ _ _ hy_8) ?_
           refine Ak ?_
           refine Ai fun B=>?_
           refine A4 ?_
           obtain rfl:=oi_ D
           exact A3 [] ⟨rfl,rfl⟩
theorem Oh (u:Ax) (r:Bool) (D:Hb u=some r):Fn Tryz.prog 136 0 [.agg [vj u.Alg,vj u.Bits]] [] (fun d' b'=>d'=.val (.bool r)/\b'=[]):=by
 unfold Hb at D
 refine Fn.of Tryz.func136 rfl rfl rfl fun w0 I ρ0=>?_
 show Ce _ ⟨w0,I,ρ0,0,0,6⟩ _ _ _
 refine Bd 0 16 A5 ?_
 refine Ak ?_
 refine Ai fun B=>?_
 refine Bd 16 48 B ?_
 refine Ak ?_
 obtain⟨y,hy,D⟩:=Ad D
 refine Dm (Rj _ _ hy) ?_
 refine Ak ?_
 refine Ai fun B=>?_
 refine A4 ?_
 obtain rfl:=oi_ D
 exact A3 [] ⟨rfl,rfl⟩
theorem Wm  (r:(List Am)) (D:Md=some r):Fn Tryz.prog 171 0 [] [] (fun d' b'=>d'=.sl 2 (Al Am.enc r)/\b'=[]):=by
 unfold Md at D
 refine Fn.of Tryz.func171 rfl rfl rfl fun w0 I ρ0=>?_
 show Ce _ ⟨w0,I,ρ0,0,0,25⟩ _ _ _
 refine Bd 0 8 A5 ?_
 refine Ak ?_
 refine Ai fun B=>?_
 refine Bd 8 208 B ?_
 refine Bn rfl rfl (.build (r:=[.val (.string (⟨#[]⟩:ByteArray)),.val (.int .i64 0)]) Fo Hq Jh (by kernel_rfl) rfl) rfl rfl ?_
 refine Bn rfl rfl (.build (r:=[.val (.string (⟨#[109,100,53]⟩:ByteArray)),.val (.int .i64 1)]) Fo Hq Jh (by kernel_rfl) rfl) rfl rfl ?_
 refine Bn rfl rfl (.build (r:=[.val (.string (⟨#[115,104,97,49]⟩:ByteArray)),.val (.int .i64 1)]) Fo Hq Jh (by kernel_rfl) rfl) rfl rfl ?_
 refine Bn rfl rfl (.build (r:=[.val (.string (⟨#[115,104,97,50,53,54]⟩:ByteArray)),.val (.int .i64 1)]) Fo Hq Jh (by kernel_rfl) rfl) rfl rfl ?_
 refine Bn rfl rfl (.build (r:=[.val (.string (⟨#[115,104,97,51,56,52]⟩:ByteArray)),.val (.int .i64 1)]) Fo Hq Jh (by kernel_rfl) rfl) rfl rfl ?_
 refine Bn rfl rfl (.build (r:=[.val (.string (⟨#[114,115,97]⟩:ByteArray)),.val (.int .i64 2)]) Fo Hq Jh (by kernel_rfl) rfl) rfl rfl ?_
 refine Bn rfl rfl (.build (r:=[.val (.string (⟨#[100,115,97]⟩:ByteArray)),.val (.int .i64 2)]) Fo Hq Jh (by kernel_rfl) rfl) rfl rfl ?_
 refine Bn rfl rfl (.build (r:=[.val (.string (⟨#[101,99,100,115,97]⟩:ByteArray)),.val (.int .i64 2)]) Fo Hq Jh (by kernel_rfl) rfl) rfl rfl ?_
 refine Bn rfl rfl (.build (r:=[.val (.string (⟨#[101,100,50,53,53,49,57]⟩:ByteArray)),.val (.int .i64 2)]) Fo Hq Jh (by kernel_rfl) rfl) rfl rfl ?_
 refine Bn rfl rfl (.build (r:=[.val (.string (⟨#[109,108,100,115,97]⟩:ByteArray)),.val (.int .i64 2)]) Fo Hq Jh (by kernel_rfl) rfl) rfl rfl ?_
 refine Bn rfl rfl (.build (r:=[.val (.string (⟨#[114,115,97,107,120]⟩:ByteArray)),.val (.int .i64 3)]) Fo Hq Jh (by kernel_rfl) rfl) rfl rfl ?_
 refine Bn rfl rfl (.build (r:=[.val (.string (⟨#[100,104,101]⟩:ByteArray)),.val (.int .i64 3)]) Fo Hq Jh (by kernel_rfl) rfl) rfl rfl ?_
 refine Bn rfl rfl (.build (r:=[.val (.string (⟨#[101,99,100,104,101]⟩:ByteArray)),.val (.int .i64 3)]) Fo Hq Jh (by kernel_rfl) rfl) rfl rfl ?_
 refine Bn rfl rfl (.build (r:=[.val (.string (⟨#[109,108,107,101,109]⟩:ByteArray)),.val (.int .i64 3)]) Fo Hq Jh (by kernel_rfl) rfl) rfl rfl ?_
 refine Bn rfl rfl (.build (r:=[.val (.string (⟨#[114,99,52]⟩:ByteArray)),.val (.int .i64 4)]) Fo Hq Jh (by kernel_rfl) rfl) rfl rfl ?_
 refine Bn rfl rfl (.build (r:=[.val (.string (⟨#[100,101,115,51]⟩:ByteArray)),.val (.int .i64 4)]) Fo Hq Jh (by kernel_rfl) rfl) rfl rfl ?_
 refine Bn rfl rfl (.build (r:=[.val (.string (⟨#[97,101,115,99,98,99]⟩:ByteArray)),.val (.int .i64 4)]) Fo Hq Jh (by kernel_rfl) rfl) rfl rfl ?_
 refine Bn rfl rfl (.build (r:=[.val (.string (⟨#[97,101,115,103,99,109]⟩:ByteArray)),.val (.int .i64 4)]) Fo Hq Jh (by kernel_rfl) rfl) rfl rfl ?_
 refine Bn rfl rfl (.build (r:=[.val (.string (⟨#[99,104,97,99,104,97]⟩:ByteArray)),.val (.int .i64 4)]) Fo Hq Jh (by kernel_rfl) rfl) rfl rfl ?_
 refine Bn rfl rfl (.build (r:=[.val (.string (⟨#[104,109,97,99,109,100,53]⟩:ByteArray)),.val (.int .i64 5)]) Fo Hq Jh (by kernel_rfl) rfl) rfl rfl ?_
 refine Bn rfl rfl (.build (r:=[.val (.string (⟨#[104,109,97,99,115,104,97,49]⟩:ByteArray)),.val (.int .i64 5)]) Fo Hq Jh (by kernel_rfl) rfl) rfl rfl ?_
 refine Bn rfl rfl (.build (r:=[.val (.string (⟨#[104,109,97,99,115,104,97,50,53,54]⟩:ByteArray)),.val (.int .i64 5)]) Fo Hq Jh (by kernel_rfl) rfl) rfl rfl ?_
 refine Bn rfl rfl (.build (r:=[.val (.string (⟨#[97,101,97,100]⟩:ByteArray)),.val (.int .i64 5)]) Fo Hq Jh (by kernel_rfl) rfl) rfl rfl ?_
 refine Bn rfl rfl (An mU Jh (by decide) rfl rfl rfl rfl sB (cs:=[.str (⟨#[]⟩:ByteArray),.int .i64 0,.str (⟨#[109,100,53]⟩:ByteArray),.int .i64 1,.str (⟨#[115,104,97,49]⟩:ByteArray),.int .i64 1,.str (⟨#[115,104,97,50,53,54]⟩:ByteArray),.int .i64 1,.str (⟨#[115,104,97,51,56,52]⟩:ByteArray),.int .i64 1,.str (⟨#[114,115,97]⟩:ByteArray),.int .i64 2,.str (⟨#[100,115,97]⟩:ByteArray),.int .i64 2,.str (⟨#[101,99,100,115,97]⟩:ByteArray),.int .i64 2,.str (⟨#[101,100,50,53,53,49,57]⟩:ByteArray),.int .i64 2,.str (⟨#[109,108,100,115,97]⟩:ByteArray),.int .i64 2,.str (⟨#[114,115,97,107,120]⟩:ByteArray),.int .i64 3,.str (⟨#[100,104,101]⟩:ByteArray),.int .i64 3,.str (⟨#[101,99,100,104,101]⟩:ByteArray),.int .i64 3,.str (⟨#[109,108,107,101,109]⟩:ByteArray),.int .i64 3,.str (⟨#[114,99,52]⟩:ByteArray),.int .i64 4,.str (⟨#[100,101,115,51]⟩:ByteArray),.int .i64 4,.str (⟨#[97,101,115,99,98,99]⟩:ByteArray),.int .i64 4,.str (⟨#[97,101,115,103,99,109]⟩:ByteArray),.int .i64 4,.str (⟨#[99,104,97,99,104,97]⟩:ByteArray),.int .i64 4,.str (⟨#[104,109,97,99,109,100,53]⟩:ByteArray),.int .i64 5,.str (⟨#[104,109,97,99,115,104,97,49]⟩:ByteArray),.int .i64 5,.str (⟨#[104,109,97,99,115,104,97,50,53,54]⟩:ByteArray),.int .i64 5,.str (⟨#[97,101,97,100]⟩:ByteArray),.int .i64 5]) (.cons .str (.cons .int (.cons .str (.cons .int (.cons .str (.cons .int (.cons .str (.cons .int (.cons .str (.cons .int (.cons .str (.cons .int (.cons .str (.cons .int (.cons .str (.cons .int (.cons .str (.cons .int (.cons .str (.cons .int (.cons .str (.cons .int (.cons .str (.cons .int (.cons .str (.cons .int (.cons .str (.cons .int (.cons .str (.cons .int (.cons .str (.cons .int (.cons .str (.cons .int (.cons .str (.cons .int (.cons .str (.cons .int (.cons .str (.cons .int (.cons .str (.cons .int (.cons .str (.cons .int (.cons .str (.cons .int .nil)))))))))))))))))))))))))))))))))))))))))))))) rfl (l:=([(Am.mk (⟨#[]⟩:ByteArray) 0),(Am.mk (⟨#[109,100,53]⟩:ByteArray) 1),(Am.mk (⟨#[115,104,97,49]⟩:ByteArray) 1),(Am.mk (⟨#[115,104,97,50,53,54]⟩:ByteArray) 1),(Am.mk (⟨#[115,104,97,51,56,52]⟩:ByteArray) 1),(Am.mk (⟨#[114,115,97]⟩:ByteArray) 2),(Am.mk (⟨#[100,115,97]⟩:ByteArray) 2),(Am.mk (⟨#[101,99,100,115,97]⟩:ByteArray) 2),(Am.mk (⟨#[101,100,50,53,53,49,57]⟩:ByteArray) 2),(Am.mk (⟨#[109,108,100,115,97]⟩:ByteArray) 2),(Am.mk (⟨#[114,115,97,107,120]⟩:ByteArray) 3),(Am.mk (⟨#[100,104,101]⟩:ByteArray) 3),(Am.mk (⟨#[101,99,100,104,101]⟩:ByteArray) 3),(Am.mk (⟨#[109,108,107,101,109]⟩:ByteArray) 3),(Am.mk (⟨#[114,99,52]⟩:ByteArray) 4),(Am.mk (⟨#[100,101,115,51]⟩:ByteArray) 4),(Am.mk (⟨#[97,101,115,99,98,99]⟩:ByteArray) 4),(Am.mk (⟨#[97,101,115,103,99,109]⟩:ByteArray) 4),(Am.mk (⟨#[99,104,97,99,104,97]⟩:ByteArray) 4),(Am.mk (⟨#[104,109,97,99,109,100,53]⟩:ByteArray) 5),(Am.mk (⟨#[104,109,97,99,115,104,97,49]⟩:ByteArray) 5),(Am.mk (⟨#[104,109,97,99,115,104,97,50,53,54]⟩:ByteArray) 5),(Am.mk (⟨#[97,101,97,100]⟩:ByteArray) 5)]:List Am)) (f:=Am.enc) rfl) rfl rfl ?_
 refine Ak ?_
 refine Ai fun B=>?_
 refine A4 ?_
 obtain rfl:=oi_ D
 exact A3 [] ⟨rfl,rfl⟩
theorem Pi (alg:Int) (r:Int) (D:Dy alg=some r):Fn Tryz.prog 137 0 [vj alg] [] (fun d' b'=>d'=vj r/\b'=[]):=by
 unfold Dy at D
 refine Fn.of Tryz.func137 rfl rfl rfl fun w0 I ρ0=>?_
 show Ce _ ⟨w0,I,ρ0,0,0,14⟩ _ _ _
 refine Bd 0 8 A5 ?_
 refine Ak ?_
 refine Ai fun B=>?_
 refine Ah ?_
 refine B9 (ι:=Bool) (fun (x8_1:Bool)=>mk [(0,vj alg),(8,.val (.bool x8_1))] [] 0) (fun (x8_1:Bool)=>Dy.j1 alg x8_1=some r) ?_ ?_
 ·refine Ae (Bp _ _ []) 8 56 B rfl rfl ?_
  refine Ak ?_
  rcases D2 D with ⟨h2,D⟩ | ⟨h2,D⟩
  ·refine Ak ?_
   refine Ai fun B=>?_
   exact⟨true,D,A1 []⟩
  ·refine Ak ?_
   refine Ai fun B=>?_
   exact⟨decide (22 < alg),D,A1 []⟩
 ·rintro x8_1 D
  replace D:Dy.j1 alg x8_1=some r:=D
  show Ce _ _ _ _ (mk _ _ _)
  unfold Dy.j1 at D
  refine Df rfl D (fun h5 D=>?_) fun h5 D=>?_
  ·refine Ah ?_
   refine Ae (Bp _ _ []) 0 8 A5 rfl rfl ?_
   refine Ak ?_
   refine Ai fun B=>?_
   refine A4 ?_
   obtain rfl:=oi_ D
   exact A3 [] ⟨rfl,rfl⟩
  ·refine Ap ?_
   repeat first | refine C4 ?_ | refine C3 ?_
   refine Bd 0 48 A5 ?_
   obtain⟨y,hy,D⟩:=Ad D
   refine Dm (Wm _ hy) ?_
   refine Ak ?_
   obtain⟨e,he,D⟩:=Ad D
   refine Ak ?_
   refine Bn rfl rfl (Dg cG Qn (by decide) (D3 Am.enc_len (Ao he) (o:=1) (by decide) rfl)) rfl rfl ?_
   refine Bn rfl rfl (Bt Qn (Bh Am.enc_len (Ao he) (o:=1) (c:=.int .i64 e.kind) rfl rfl)) rfl rfl ?_
   refine Ak ?_
   refine Ai fun B=>?_
   refine A4 ?_
   obtain rfl:=oi_ D
   exact A3 [] ⟨rfl,rfl⟩
theorem K4 (u:Ax) (r:Bool) (D:Ff u=some r):Fn Tryz.prog 90 0 [.agg [vj u.Alg,vj u.Bits]] [] (fun d' b'=>d'=.val (.bool r)/\b'=[]):=by
 unfold Ff at D
 refine Fn.of Tryz.func90 rfl rfl rfl fun w0 I ρ0=>?_
 show Ce _ ⟨w0,I,ρ0,0,0,11⟩ _ _ _
 refine Bd 0 16 A5 ?_
 refine Ak ?_
 refine Ai fun B=>?_
 refine Bd 16 88 B ?_
 refine Ak ?_
 obtain⟨y,hy,D⟩:=Ad D
 refine Dm (Oh _ _ hy) ?_
 refine Ak ?_
 rcases D2 D with ⟨h2,D⟩ | ⟨h2,D⟩
 ·refine Ak ?_
  obtain⟨y_2,hy_2,D⟩:=Ad D
  refine Dm (Pi _ _ hy_2) ?_
  refine Ak ?_
  refine Ai fun B=>?_
  refine A4 ?_
  obtain rfl:=oi_ D
  exact A3 [] ⟨rfl,rfl⟩
 ·refine Ak ?_
  refine Ai fun B=>?_
  refine A4 ?_
  obtain rfl:=oi_ D
  exact A3 [] ⟨rfl,rfl⟩
theorem K7 (c:Ab) (r:Int) (D:Au c=some r):Fn Tryz.prog 91 0 [.agg (Ab.dv c)] [] (fun d' b'=>d'=vj r/\b'=[]):=by
 unfold Au at D
 refine Fn.of Tryz.func91 rfl rfl rfl fun w0 I ρ0=>?_
 show Ce _ ⟨w0,I,ρ0,0,0,146⟩ _ _ _
 refine Bd 0 16 A5 ?_
 refine Ak ?_
 refine Ai fun B=>?_
 refine Ah ?_
 refine B9 (ι:=Bool) (fun (x39_1:Bool)=>mk [(1,.ptr 0 0),(39,.val (.bool x39_1))] [(0,.box (Ab.dv c) 67)] 1) (fun (x39_1:Bool)=>Au.j1 c x39_1=some r) ?_ ?_
 ·refine Ae (Bp _ _ []) 16 304 B rfl rfl ?_
  refine Ak ?_
  rcases D2 D with ⟨h2,D⟩ | ⟨h2,D⟩
  ·refine Ak ?_
   refine Ai fun B=>?_
   exact⟨true,D,A1 [(0,0)]⟩
  ·refine Ak ?_
   rcases D2 D with ⟨h4,D⟩ | ⟨h4,D⟩
   ·refine Ak ?_
    refine Ai fun B=>?_
    exact⟨true,D,A1 [(0,0)]⟩
   ·refine Ak ?_
    obtain⟨y,hy,D⟩:=Ad D
    refine Dm (J1 _ _ hy) ?_
    refine Ak ?_
    rcases D2 D with ⟨h6,D⟩ | ⟨h6,D⟩
    ·refine Ak ?_
     refine Ai fun B=>?_
     exact⟨true,D,A1 [(0,0)]⟩
    ·refine Ak ?_
     obtain⟨y_2,hy_2,D⟩:=Ad D
     refine Dm (J1 _ _ hy_2) ?_
     refine Ak ?_
     rcases D2 D with ⟨h8,D⟩ | ⟨h8,D⟩
     ·refine Ak ?_
      refine Ai fun B=>?_
      exact⟨true,D,A1 [(0,0)]⟩
     ·refine Ak ?_
      obtain⟨y_3,hy_3,D⟩:=Ad D
      refine Dm (K4 _ _ hy_3) ?_
      refine Ak ?_
      rcases D2 D with ⟨h10,D⟩ | ⟨h10,D⟩
      ·refine Ak ?_
       refine Ai fun B=>?_
       exact⟨true,D,A1 [(0,0)]⟩
      ·refine Ak ?_
       rcases D2 D with ⟨h12,D⟩ | ⟨h12,D⟩
       ·refine Ak ?_
        refine Ai fun B=>?_
        exact⟨true,D,A1 [(0,0)]⟩
       ·refine Ak ?_
        refine Ai fun B=>?_
        exact⟨decide (2147483648 < c.KeyId),D,A1 [(0,0)]⟩
 ·rintro x39_1 D
  replace D:Au.j1 c x39_1=some r:=D
  show Ce _ _ _ _ (mk _ _ _)
  unfold Au.j1 at D
  refine Df rfl D (fun h15 D=>?_) fun h15 D=>?_
  ·refine Ah ?_
   refine Ae (Bp _ _ []) 1 9 A5 rfl rfl ?_
   refine Ak ?_
   refine Ai fun B=>?_
   refine A4 ?_
   obtain rfl:=oi_ D
   exact A3 [] ⟨rfl,rfl⟩
  ·refine Ap ?_
   repeat first | refine C4 ?_ | refine C3 ?_
   refine Ah ?_
   refine B9 (ι:=Bool) (fun (x67_2:Bool)=>mk [(1,.ptr 0 0),(67,.val (.bool x67_2))] [(0,.box (Ab.dv c) 67)] 1) (fun (x67_2:Bool)=>Au.j2 c x67_2=some r) ?_ ?_
   ·refine Ae (Bp _ _ []) 1 225 A5 rfl rfl ?_
    refine Ak ?_
    obtain⟨y_4,hy_4,D⟩:=Ad D
    refine Dm (Oh _ _ hy_4) ?_
    refine Ak ?_
    rcases D2 D with ⟨h17,D⟩ | ⟨h17,D⟩
    ·refine Ak ?_
     refine Ai fun B=>?_
     exact⟨true,D,A1 [(0,0)]⟩
    ·refine Ak ?_
     obtain⟨y_5,hy_5,D⟩:=Ad D
     refine Dm (Pi _ _ hy_5) ?_
     refine Ak ?_
     rcases D2 D with ⟨h19,D⟩ | ⟨h19,D⟩
     ·refine Ak ?_
      refine Ai fun B=>?_
      exact⟨true,D,A1 [(0,0)]⟩
     ·refine Ak ?_
      rcases D2 D with ⟨h21,D⟩ | ⟨h21,D⟩
      ·refine Ak ?_
       refine Ai fun B=>?_
       exact⟨true,D,A1 [(0,0)]⟩
      ·refine Ak ?_
       rcases D2 D with ⟨h23,D⟩ | ⟨h23,D⟩
       ·refine Ak ?_
        refine Ai fun B=>?_
        exact⟨true,D,A1 [(0,0)]⟩
       ·refine Ak ?_
        refine Ai fun B=>?_
        exact⟨decide (40000 < c.To),D,A1 [(0,0)]⟩
   ·rintro x67_2 D
    replace D:Au.j2 c x67_2=some r:=D
    show Ce _ _ _ _ (mk _ _ _)
    unfold Au.j2 at D
    refine Df rfl D (fun h26 D=>?_) fun h26 D=>?_
    ·refine Ah ?_
     refine Ae (Bp _ _ []) 1 9 A5 rfl rfl ?_
     refine Ak ?_
     refine Ai fun B=>?_
     refine A4 ?_
     obtain rfl:=oi_ D
     exact A3 [] ⟨rfl,rfl⟩
    ·refine Ap ?_
     repeat first | refine C4 ?_ | refine C3 ?_
     refine Ah ?_
     refine B9 (ι:=Bool) (fun (x91_3:Bool)=>mk [(1,.ptr 0 0),(91,.val (.bool x91_3))] [(0,.box (Ab.dv c) 67)] 1) (fun (x91_3:Bool)=>Au.j3 c x91_3=some r) ?_ ?_
     ·refine Ae (Bp _ _ []) 1 193 A5 rfl rfl ?_
      refine Ak ?_
      rcases D2 D with ⟨h28,D⟩ | ⟨h28,D⟩
      ·refine Ak ?_
       refine Ai fun B=>?_
       exact⟨true,D,A1 [(0,0)]⟩
      ·refine Ak ?_
       rcases D2 D with ⟨h30,D⟩ | ⟨h30,D⟩
       ·refine Ak ?_
        refine Ai fun B=>?_
        exact⟨true,D,A1 [(0,0)]⟩
       ·refine Ak ?_
        rcases D2 D with ⟨h32,D⟩ | ⟨h32,D⟩
        ·refine Ak ?_
         rcases D2 D with ⟨h33,D⟩ | ⟨h33,D⟩
         ·refine Ak ?_
          refine Ai fun B=>?_
          exact⟨true,D,A1 [(0,0)]⟩
         ·refine Ak ?_
          refine Ai fun B=>?_
          exact⟨decide (8 < (c.Names.length:Int)),D,A1 [(0,0)]⟩
        ·refine Ak ?_
         refine Ai fun B=>?_
         exact⟨decide (8 < (c.Names.length:Int)),D,A1 [(0,0)]⟩
     ·rintro x91_3 D
      replace D:Au.j3 c x91_3=some r:=D
      show Ce _ _ _ _ (mk _ _ _)
      unfold Au.j3 at D
      refine Df rfl D (fun h37 D=>?_) fun h37 D=>?_
      ·refine Ah ?_
       refine Ae (Bp _ _ []) 1 9 A5 rfl rfl ?_
       refine Ak ?_
       refine Ai fun B=>?_
       refine A4 ?_
       obtain rfl:=oi_ D
       exact A3 [] ⟨rfl,rfl⟩
      ·refine Ap ?_
       repeat first | refine C4 ?_ | refine C3 ?_
       refine Ah ?_
       refine Bd 1 9 A5 ?_
       refine Ak ?_
       refine Ai fun B=>?_
       refine As ?_
       refine Jk (fun (i_4:Int)=>mk [(1,.ptr 0 0),(3,vj i_4)] [(0,.box (Ab.dv c) 67)] 1) D (A1 [(0,0)]) ?_
       rintro i_4 m4 o4 D hn4
       replace D:Au.l4 c i_4=some o4:=D
       show Ce _ _ _ _ (mk _ _ _)
       unfold Au.l4 at D
       refine Ah ?_
       refine Bd 1 41 A5 ?_
       refine Ak ?_
       refine Ai fun B=>?_
       refine Df rfl D (fun h41 D=>?_) fun h41 D=>?_
       ·refine Ap ?_
        repeat first | refine C4 ?_ | refine C3 ?_
        refine Ah ?_
        refine As ?_
        refine B9 (ι:=Bool) (fun (x123_5:Bool)=>mk [(1,.ptr 0 0),(3,vj i_4),(123,.val (.bool x123_5))] [(0,.box (Ab.dv c) 67)] 1) (fun (x123_5:Bool)=>Au.j5 i_4 x123_5=some o4) ?_ ?_
        ·refine Dh (Bp _ _ []) (by kernel_rfl) [0,1,0,7,15,31,63,127,255,511,1023,2047,4095,2047,10239,32767,65535,2047,133119,2047,919551,1968127,4194303,8388607,16777215] 41 241 B rfl rfl (by kernel_rfl) ?_
         refine Ak ?_
         obtain⟨e,he,D⟩:=Ad D
         refine Ak ?_
         refine Bn rfl rfl (Bt Me (Bh Gz (Ao he) (o:=0) (c:=.str e) rfl rfl)) rfl rfl ?_
         obtain⟨y_6,hy_6,D⟩:=Ad D
         refine Dm (J1 _ _ hy_6) ?_
         refine Ak ?_
         rcases D2 D with ⟨h42,D⟩ | ⟨h42,D⟩
         ·refine Ak ?_
          refine Ai fun B=>?_
          exact⟨true,D,A1 [(0,0)]⟩
         ·refine Ak ?_
          rcases D2 D with ⟨h44,D⟩ | ⟨h44,D⟩
          ·refine Ak ?_
           obtain⟨e_2,he_2,D⟩:=Ad D
           refine Ak ?_
           refine Bn (Bu rfl rfl h44) rfl (Bt Me (Bh Gz (Ao he_2) (o:=0) (c:=.str e_2) rfl rfl)) rfl rfl ?_
           refine Ak ?_
           refine Bn (Bu rfl rfl h44) rfl (Bt Me (Bh Gz (Ao he) (o:=0) (c:=.str e) rfl rfl)) rfl rfl ?_
           refine Bn (Bu rfl rfl h44) rfl Xn rfl rfl ?_
           refine Ak ?_
           refine Ai fun B=>?_
           exact⟨!Ns (Hs e_2) (Hs e),D,A1 [(0,0)]⟩
          ·refine Ak ?_
           refine Ai fun B=>?_
           exact⟨false,D,A1 [(0,0)]⟩
        ·rintro x123_5 D
         replace D:Au.j5 i_4 x123_5=some o4:=D
         show Ce _ _ _ _ (mk _ _ _)
         unfold Au.j5 at D
         refine Df rfl D (fun h47 D=>?_) fun h47 D=>?_
         ·refine Ah ?_
          refine Ae (Bp _ _ []) 1 9 A5 rfl rfl ?_
          refine Ak ?_
          refine Ai fun B=>?_
          refine A4 ?_
          replace D:=C0 D hn4
          obtain rfl:=oi_ D
          exact A3 [] ⟨rfl,rfl⟩
         ·refine Ap ?_
          repeat first | refine C4 ?_ | refine C3 ?_
          refine Ae (Bp _ _ []) 1 25 A5 rfl rfl ?_
          refine Ak ?_
          refine Ai fun B=>?_
          obtain rfl:=oi_ D
          exact⟨(W (i_4 + 1),m4),vO _,hn4,A1 [(0,0)]⟩
       ·refine Bv ?_
        repeat first | refine C4 ?_ | refine C3 ?_
        replace D:=C0 D hn4
        refine Ah ?_
        refine B9 (ι:=Bool) (fun (x145_6:Bool)=>mk [(145,.val (.bool x145_6))] [] 0) (fun (x145_6:Bool)=>Au.j6 x145_6=some r) ?_ ?_
        ·refine Ae (Bp _ _ []) 41 217 B rfl rfl ?_
         refine Ak ?_
         rcases D2 D with ⟨h50,D⟩ | ⟨h50,D⟩
         ·refine Ak ?_
          refine Ai fun B=>?_
          exact⟨true,D,A1 []⟩
         ·refine Ak ?_
          rcases D2 D with ⟨h52,D⟩ | ⟨h52,D⟩
          ·refine Ak ?_
           refine Ai fun B=>?_
           exact⟨true,D,A1 []⟩
          ·refine Ak ?_
           rcases D2 D with ⟨h54,D⟩ | ⟨h54,D⟩
           ·refine Ak ?_
            refine Ai fun B=>?_
            exact⟨true,D,A1 []⟩
           ·refine Ak ?_
            refine Ai fun B=>?_
            exact⟨decide (4294967296<=c.Seal.Sum),D,A1 []⟩
        ·rintro x145_6 D
         replace D:Au.j6 x145_6=some r:=D
         show Ce _ _ _ _ (mk _ _ _)
         unfold Au.j6 at D
         refine Df rfl D (fun h57 D=>?_) fun h57 D=>?_
         ·refine Ah ?_
          refine Ae (Bp _ _ []) 0 8 A5 rfl rfl ?_
          refine Ak ?_
          refine Ai fun B=>?_
          refine A4 ?_
          obtain rfl:=oi_ D
          exact A3 [] ⟨rfl,rfl⟩
         ·refine Ap ?_
          repeat first | refine C4 ?_ | refine C3 ?_
          refine Bd 0 8 A5 ?_
          refine Ak ?_
          refine Ai fun B=>?_
          refine A4 ?_
          obtain rfl:=oi_ D
          exact A3 [] ⟨rfl,rfl⟩
end Go.Proofs.YtfanepojdefdpaaGreat
