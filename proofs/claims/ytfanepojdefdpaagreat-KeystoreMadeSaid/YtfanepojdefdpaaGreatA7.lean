import Derived.Test.YtfanepojdefdpaaGreatT1
import Derived.Test.YtfanepojdefdpaaGreatA6
set_option linter.unusedVariables false
set_option linter.unusedSimpArgs false
set_option maxRecDepth 100000
set_option maxHeartbeats 1600000
namespace Go.Proofs.YtfanepojdefdpaaGreat
open Go.RowKit
theorem Wa (l:(List Ac)) (alias:ByteArray) (r:Ac×Bool) (D:Dz l alias=some r):Fn Tryz.prog 15 0 [.sl 6 (Al Ac.enc l),vk alias] [] (fun d' b'=>d'=.tup [.agg (Ac.dv r.1),.val (.bool r.2)]/\b'=[]):=by
 unfold Dz at D
 refine Fn.of Tryz.func15 rfl rfl rfl fun w0 I ρ0=>?_
 show Ce _ ⟨w0,I,ρ0,0,0,26⟩ _ _ _
 refine Bd 0 16 A5 ?_
 refine Ak ?_
 refine Ai fun B=>?_
 refine Ah ?_
 refine Bd 16 24 B ?_
 refine Ak ?_
 refine Ai fun B=>?_
 refine As ?_
 refine Jk (fun (i_1:Int)=>mk [(0,.sl 6 (Al Ac.enc l)),(1,vk alias),(4,.ptr 0 0),(6,vj i_1)] [(0,.box [.val (.string (⟨#[]⟩:ByteArray)),.val (.int .i64 0),.val (.int .i64 0),.val (.int .i64 0),.val (.bool false),.val (.slice none 0 0)] 40)] 1) D (A1 [(0,0)]) ?_
 rintro i_1 m1 o1 D hn1
 replace D:Dz.l1 l alias i_1=some o1:=D
 show Ce _ _ _ _ (mk _ _ _)
 unfold Dz.l1 at D
 refine Ah ?_
 refine Bd 1 33 A5 ?_
 refine Ak ?_
 refine Ai fun B=>?_
 refine Df rfl D (fun h4 D=>?_) fun h4 D=>?_
 ·refine Ap ?_
  repeat first | refine C4 ?_ | refine C3 ?_
  refine Ah ?_
  refine As ?_
  refine Bd 33 89 B ?_
  refine Ak ?_
  obtain⟨e,he,D⟩:=Ad D
  refine Ak ?_
  refine Bn rfl rfl (Dg Jo Me (by decide) (D3 Ac.enc_len (Ao he) (o:=0) (by decide) rfl)) rfl rfl ?_
  refine Bn rfl rfl (Bt Me (Bh Ac.enc_len (Ao he) (o:=0) (c:=.str e.Alias) rfl rfl)) rfl rfl ?_
  refine Ak ?_
  refine Ai fun B=>?_
  refine Df rfl D (fun h6 D=>?_) fun h6 D=>?_
  ·refine Ah ?_
   refine Ae (Bp _ _ []) 89 145 B rfl rfl ?_
   refine Ak ?_
   refine Bn rfl rfl (C1 L6 (Bx Ac.enc_len (Ao he) (o:=0) (m:=6) (cs:=(Ac.ec e)) rfl (by decide) rfl) (Ba Ac.enc_len (Ao he) (o:=0) (m:=6) (by decide) rfl)) rfl rfl ?_
   obtain⟨y,hy,D⟩:=Ad D
   refine Dm (Km _ _ hy) ?_
   refine Ak ?_
   refine Ai fun B=>?_
   refine A4 ?_
   replace D:=C0 D hn1
   obtain rfl:=oi_ D
   exact A3 [] ⟨rfl,rfl⟩
  ·refine Ap ?_
   repeat first | refine C4 ?_ | refine C3 ?_
   refine Ae (Bp _ _ []) 89 113 B rfl rfl ?_
   refine Ak ?_
   refine Ai fun B=>?_
   obtain rfl:=oi_ D
   exact⟨(W (i_1 + 1),m1),vO _,hn1,A1 [(0,0)]⟩
 ·refine Bv ?_
  repeat first | refine C4 ?_ | refine C3 ?_
  replace D:=C0 D hn1
  refine Bd 33 57 B ?_
  refine Bn rfl rfl (.build (r:=[.val (.string (⟨#[]⟩:ByteArray)),.val (.int .i64 0),.val (.int .i64 0),.val (.int .i64 0),.val (.bool false),.val (.slice none 0 0)]) Mr Z3 Wx (by kernel_rfl) rfl) rfl rfl ?_
  refine Ak ?_
  refine Ai fun B=>?_
  refine A4 ?_
  obtain rfl:=oi_ D
  exact A3 [] ⟨rfl,rfl⟩
theorem Qd (a:(List ByteArray)) (b:(List ByteArray)) (r:Bool) (D:Dl a b=some r):Fn Tryz.prog 138 0 [.sl 1 (Al eS a),.sl 1 (Al eS b)] [] (fun d' b'=>d'=.val (.bool r)/\b'=[]):=by
 unfold Dl at D
 refine Fn.of Tryz.func138 rfl rfl rfl fun w0 I ρ0=>?_
 show Ce _ ⟨w0,I,ρ0,0,0,26⟩ _ _ _
 refine Bd 0 8 A5 ?_
 refine Ak ?_
 refine Ai fun B=>?_
 refine Ah ?_
 refine Bd 8 48 B ?_
 refine Ak ?_
 refine Ai fun B=>?_
 refine Df rfl D (fun h3 D=>?_) fun h3 D=>?_
 ·refine Ah ?_
  refine Ae (Bp _ _ []) 48 56 B rfl rfl ?_
  refine Ak ?_
  refine Ai fun B=>?_
  refine A4 ?_
  obtain rfl:=oi_ D
  exact A3 [] ⟨rfl,rfl⟩
 ·refine Ap ?_
  repeat first | refine C4 ?_ | refine C3 ?_
  refine Ah ?_
  refine Bd 48 56 B ?_
  refine Ak ?_
  refine Ai fun B=>?_
  refine As ?_
  refine Jk (fun (i_1:Int)=>mk [(0,.sl 1 (Al eS a)),(1,.sl 1 (Al eS b)),(5,vj i_1)] [] 0) D (A1 []) ?_
  rintro i_1 m1 o1 D hn1
  replace D:Dl.l1 a b i_1=some o1:=D
  show Ce _ _ _ _ (mk _ _ _)
  unfold Dl.l1 at D
  refine Ah ?_
  refine Bd 0 32 A5 ?_
  refine Ak ?_
  refine Ai fun B=>?_
  refine Df rfl D (fun h7 D=>?_) fun h7 D=>?_
  ·refine Ap ?_
   repeat first | refine C4 ?_ | refine C3 ?_
   refine Ah ?_
   refine As ?_
   refine Ah ?_
   refine Dh (Bp _ _ []) (by kernel_rfl) [0,0,3,7,0,0,48,112,255] 32 104 B rfl rfl (by kernel_rfl) ?_
   refine Ak ?_
   obtain⟨e,he,D⟩:=Ad D
   refine Ak ?_
   refine Bn rfl rfl (Bt Me (Bh Gz (Ao he) (o:=0) (c:=.str e) rfl rfl)) rfl rfl ?_
   refine Ak ?_
   obtain⟨e_2,he_2,D⟩:=Ad D
   refine Ak ?_
   refine Bn rfl rfl (Bt Me (Bh Gz (Ao he_2) (o:=0) (c:=.str e_2) rfl rfl)) rfl rfl ?_
   refine Ak ?_
   refine Ai fun B=>?_
   refine Df rfl D (fun h9 D=>?_) fun h9 D=>?_
   ·refine Ah ?_
    refine Ae (Bp _ _ []) 104 112 B rfl rfl ?_
    refine Ak ?_
    refine Ai fun B=>?_
    refine A4 ?_
    replace D:=C0 D hn1
    obtain rfl:=oi_ D
    exact A3 [] ⟨rfl,rfl⟩
   ·refine Ap ?_
    repeat first | refine C4 ?_ | refine C3 ?_
    refine Ae (Bp _ _ []) 104 128 B rfl rfl ?_
    refine Ak ?_
    refine Ai fun B=>?_
    obtain rfl:=oi_ D
    exact⟨(W (i_1 + 1),m1),vO _,hn1,A1 []⟩
  ·refine Bv ?_
   repeat first | refine C4 ?_ | refine C3 ?_
   replace D:=C0 D hn1
   refine Bd 32 40 B ?_
   refine Ak ?_
   refine Ai fun B=>?_
   refine A4 ?_
   obtain rfl:=oi_ D
   exact A3 [] ⟨rfl,rfl⟩
theorem Xb (a:Ab) (b:Ab) (r:Bool) (D:Im a b=some r):Fn Tryz.prog 92 0 [.agg (Ab.dv a),.agg (Ab.dv b)] [] (fun d' b'=>d'=.val (.bool r)/\b'=[]):=by
 unfold Im at D
 refine Fn.of Tryz.func92 rfl rfl rfl fun w0 I ρ0=>?_
 show Ce _ ⟨w0,I,ρ0,0,0,87⟩ _ _ _
 refine Bd 0 24 A5 ?_
 refine Ak ?_
 refine Ai fun B=>?_
 refine Bd 24 688 B ?_
 refine Ak ?_
 rcases D2 D with ⟨h2,D⟩ | ⟨h2,D⟩
 ·refine Ak ?_
  rcases D2 D with ⟨h3,D⟩ | ⟨h3,D⟩
  ·refine Ak ?_
   rcases D2 D with ⟨h4,D⟩ | ⟨h4,D⟩
   ·refine Ak ?_
    refine Bn (Bu rfl rfl h4) rfl (Ic a.Key b.Key) rfl rfl ?_
    refine Ak ?_
    rcases D2 D with ⟨h5,D⟩ | ⟨h5,D⟩
    ·refine Ak ?_
     rcases D2 D with ⟨h6,D⟩ | ⟨h6,D⟩
     ·refine Ak ?_
      refine Bn (Bu rfl rfl h6) rfl (Ic a.Hash b.Hash) rfl rfl ?_
      refine Ak ?_
      rcases D2 D with ⟨h7,D⟩ | ⟨h7,D⟩
      ·refine Ak ?_
       rcases D2 D with ⟨h8,D⟩ | ⟨h8,D⟩
       ·refine Ak ?_
        rcases D2 D with ⟨h9,D⟩ | ⟨h9,D⟩
        ·refine Ak ?_
         refine Bn (Bu rfl rfl h9) rfl (T5 Xq) rfl rfl ?_
         refine Ak ?_
         rcases D2 D with ⟨h10,D⟩ | ⟨h10,D⟩
         ·refine Ak ?_
          rcases D2 D with ⟨h11,D⟩ | ⟨h11,D⟩
          ·refine Ak ?_
           obtain⟨y,hy,D⟩:=Ad D
           refine Dm (Qd _ _ _ hy) ?_
           refine Ak ?_
           rcases D2 D with ⟨h12,D⟩ | ⟨h12,D⟩
           ·refine Ak ?_
            refine Bn (Bu rfl rfl h12) rfl (Uh a.Seal b.Seal) rfl rfl ?_
            refine Ak ?_
            refine Ai fun B=>?_
            refine A4 ?_
            obtain rfl:=oi_ D
            exact A3 [] ⟨rfl,rfl⟩
           ·refine Ak ?_
            refine Ai fun B=>?_
            refine A4 ?_
            obtain rfl:=oi_ D
            exact A3 [] ⟨rfl,rfl⟩
          ·refine Ak ?_
           refine Ai fun B=>?_
           refine A4 ?_
           obtain rfl:=oi_ D
           exact A3 [] ⟨rfl,rfl⟩
         ·refine Ak ?_
          refine Ai fun B=>?_
          refine A4 ?_
          obtain rfl:=oi_ D
          exact A3 [] ⟨rfl,rfl⟩
        ·refine Ak ?_
         refine Ai fun B=>?_
         refine A4 ?_
         obtain rfl:=oi_ D
         exact A3 [] ⟨rfl,rfl⟩
       ·refine Ak ?_
        refine Ai fun B=>?_
        refine A4 ?_
        obtain rfl:=oi_ D
        exact A3 [] ⟨rfl,rfl⟩
      ·refine Ak ?_
       refine Ai fun B=>?_
       refine A4 ?_
       obtain rfl:=oi_ D
       exact A3 [] ⟨rfl,rfl⟩
     ·refine Ak ?_
      refine Ai fun B=>?_
      refine A4 ?_
      obtain rfl:=oi_ D
      exact A3 [] ⟨rfl,rfl⟩
    ·refine Ak ?_
     refine Ai fun B=>?_
     refine A4 ?_
     obtain rfl:=oi_ D
     exact A3 [] ⟨rfl,rfl⟩
   ·refine Ak ?_
    refine Ai fun B=>?_
    refine A4 ?_
    obtain rfl:=oi_ D
    exact A3 [] ⟨rfl,rfl⟩
  ·refine Ak ?_
   refine Ai fun B=>?_
   refine A4 ?_
   obtain rfl:=oi_ D
   exact A3 [] ⟨rfl,rfl⟩
 ·refine Ak ?_
  refine Ai fun B=>?_
  refine A4 ?_
  obtain rfl:=oi_ D
  exact A3 [] ⟨rfl,rfl⟩
theorem Qh (a:(List Ab)) (b:(List Ab)) (r:Bool) (D:C6 a b=some r):Fn Tryz.prog 45 0 [.sl 15 (Al Ab.enc a),.sl 15 (Al Ab.enc b)] [] (fun d' b'=>d'=.val (.bool r)/\b'=[]):=by
 unfold C6 at D
 refine Fn.of Tryz.func45 rfl rfl rfl fun w0 I ρ0=>?_
 show Ce _ ⟨w0,I,ρ0,0,0,27⟩ _ _ _
 refine Bd 0 8 A5 ?_
 refine Ak ?_
 refine Ai fun B=>?_
 refine Ah ?_
 refine Bd 8 48 B ?_
 refine Ak ?_
 refine Ai fun B=>?_
 refine Df rfl D (fun h3 D=>?_) fun h3 D=>?_
 ·refine Ah ?_
  refine Ae (Bp _ _ []) 48 56 B rfl rfl ?_
  refine Ak ?_
  refine Ai fun B=>?_
  refine A4 ?_
  obtain rfl:=oi_ D
  exact A3 [] ⟨rfl,rfl⟩
 ·refine Ap ?_
  repeat first | refine C4 ?_ | refine C3 ?_
  refine Ah ?_
  refine Bd 48 56 B ?_
  refine Ak ?_
  refine Ai fun B=>?_
  refine As ?_
  refine Jk (fun (i_1:Int)=>mk [(0,.sl 15 (Al Ab.enc a)),(1,.sl 15 (Al Ab.enc b)),(5,vj i_1)] [] 0) D (A1 []) ?_
  rintro i_1 m1 o1 D hn1
  replace D:C6.l1 a b i_1=some o1:=D
  show Ce _ _ _ _ (mk _ _ _)
  unfold C6.l1 at D
  refine Ah ?_
  refine Bd 0 32 A5 ?_
  refine Ak ?_
  refine Ai fun B=>?_
  refine Df rfl D (fun h7 D=>?_) fun h7 D=>?_
  ·refine Ap ?_
   repeat first | refine C4 ?_ | refine C3 ?_
   refine Ah ?_
   refine As ?_
   refine Ah ?_
   refine Dh (Bp _ _ []) (by kernel_rfl) [0,0,3,7,0,0,48,112,255,511] 32 112 B rfl rfl (by kernel_rfl) ?_
   refine Ak ?_
   obtain⟨e,he,D⟩:=Ad D
   refine Ak ?_
   refine Bn rfl rfl (C1 Uu (Bx Ab.enc_len (Ao he) (o:=0) (m:=15) (cs:=(Ab.ec e)) rfl (by decide) rfl) (Ba Ab.enc_len (Ao he) (o:=0) (m:=15) (by decide) rfl)) rfl rfl ?_
   refine Ak ?_
   obtain⟨e_2,he_2,D⟩:=Ad D
   refine Ak ?_
   refine Bn rfl rfl (C1 Uu (Bx Ab.enc_len (Ao he_2) (o:=0) (m:=15) (cs:=(Ab.ec e_2)) rfl (by decide) rfl) (Ba Ab.enc_len (Ao he_2) (o:=0) (m:=15) (by decide) rfl)) rfl rfl ?_
   obtain⟨y,hy,D⟩:=Ad D
   refine Dm (Xb _ _ _ hy) ?_
   refine Ak ?_
   refine Ai fun B=>?_
   refine Df rfl D (fun h9 D=>?_) fun h9 D=>?_
   ·refine Ah ?_
    refine Ae (Bp _ _ []) 112 120 B rfl rfl ?_
    refine Ak ?_
    refine Ai fun B=>?_
    refine A4 ?_
    replace D:=C0 D hn1
    obtain rfl:=oi_ D
    exact A3 [] ⟨rfl,rfl⟩
   ·refine Ap ?_
    repeat first | refine C4 ?_ | refine C3 ?_
    refine Ae (Bp _ _ []) 112 136 B rfl rfl ?_
    refine Ak ?_
    refine Ai fun B=>?_
    obtain rfl:=oi_ D
    exact⟨(W (i_1 + 1),m1),vO _,hn1,A1 []⟩
  ·refine Bv ?_
   repeat first | refine C4 ?_ | refine C3 ?_
   replace D:=C0 D hn1
   refine Bd 32 40 B ?_
   refine Ak ?_
   refine Ai fun B=>?_
   refine A4 ?_
   obtain rfl:=oi_ D
   exact A3 [] ⟨rfl,rfl⟩
theorem Ml (a:(List Ac)) (b:(List Ac)) (r:Bool) (D:Cc a b=some r):Fn Tryz.prog 18 0 [.sl 6 (Al Ac.enc a),.sl 6 (Al Ac.enc b)] [] (fun d' b'=>d'=.val (.bool r)/\b'=[]):=by
 unfold Cc at D
 refine Fn.of Tryz.func18 rfl rfl rfl fun w0 I ρ0=>?_
 show Ce _ ⟨w0,I,ρ0,0,0,81⟩ _ _ _
 refine Bd 0 8 A5 ?_
 refine Ak ?_
 refine Ai fun B=>?_
 refine Ah ?_
 refine Bd 8 48 B ?_
 refine Ak ?_
 refine Ai fun B=>?_
 refine Df rfl D (fun h3 D=>?_) fun h3 D=>?_
 ·refine Ah ?_
  refine Ae (Bp _ _ []) 48 56 B rfl rfl ?_
  refine Ak ?_
  refine Ai fun B=>?_
  refine A4 ?_
  obtain rfl:=oi_ D
  exact A3 [] ⟨rfl,rfl⟩
 ·refine Ap ?_
  repeat first | refine C4 ?_ | refine C3 ?_
  refine Ah ?_
  refine Bd 48 56 B ?_
  refine Ak ?_
  refine Ai fun B=>?_
  refine As ?_
  refine Jk (fun (i_1:Int)=>mk [(0,.sl 6 (Al Ac.enc a)),(1,.sl 6 (Al Ac.enc b)),(5,vj i_1)] [] 0) D (A1 []) ?_
  rintro i_1 m1 o1 D hn1
  replace D:Cc.l1 a b i_1=some o1:=D
  show Ce _ _ _ _ (mk _ _ _)
  unfold Cc.l1 at D
  refine Ah ?_
  refine Bd 0 32 A5 ?_
  refine Ak ?_
  refine Ai fun B=>?_
  refine Df rfl D (fun h7 D=>?_) fun h7 D=>?_
  ·refine Ap ?_
   repeat first | refine C4 ?_ | refine C3 ?_
   refine Ah ?_
   refine As ?_
   refine B9 (ι:=Bool) (fun (x80_2:Bool)=>mk [(0,.sl 6 (Al Ac.enc a)),(1,.sl 6 (Al Ac.enc b)),(5,vj i_1),(80,.val (.bool x80_2))] [] 0) (fun (x80_2:Bool)=>Cc.j2 i_1 x80_2=some o1) ?_ ?_
   ·refine Dh (Bp _ _ []) (by kernel_rfl) [0,0,3,7,15,0,0,96,224,480,1023,2047,4095,4095,16383,32767,65535,4095,4095,397311,921599,1970175,4194303,8388607,16777215,33554431,33554431,134217727,268435455,536870911,33554431,33554431,3254779903,7549747199,16139681791,34359738367,68719476735,137438953471,274877906943,274877906943,1099511627775,2199023255551,4398046511103,274877906943,274877906943,26663156973567,61847529062399,132216273240063,281474976710655,562949953421311,1125899906842623,2251799813685247,2251799813685247,9007199254740991,18014398509481983,36028797018963967,2251799813685247,2251799813685247,218424581927469055,506654958079180799,1083115710382604287,2305843009213693951,4611686018427387903,9223372036854775807] 32 544 B rfl rfl (by kernel_rfl) ?_
    refine Ak ?_
    obtain⟨e,he,D⟩:=Ad D
    refine Ak ?_
    refine Bn rfl rfl (Dg Jo Me (by decide) (D3 Ac.enc_len (Ao he) (o:=0) (by decide) rfl)) rfl rfl ?_
    refine Bn rfl rfl (Bt Me (Bh Ac.enc_len (Ao he) (o:=0) (c:=.str e.Alias) rfl rfl)) rfl rfl ?_
    refine Ak ?_
    obtain⟨e_2,he_2,D⟩:=Ad D
    refine Ak ?_
    refine Bn rfl rfl (Dg Jo Me (by decide) (D3 Ac.enc_len (Ao he_2) (o:=0) (by decide) rfl)) rfl rfl ?_
    refine Bn rfl rfl (Bt Me (Bh Ac.enc_len (Ao he_2) (o:=0) (c:=.str e_2.Alias) rfl rfl)) rfl rfl ?_
    refine Ak ?_
    rcases D2 D with ⟨h8,D⟩ | ⟨h8,D⟩
    ·refine Ak ?_
     refine Ai fun B=>?_
     exact⟨true,D,A1 []⟩
    ·refine Ak ?_
     refine Bn (Bu rfl rfl h8) rfl (Dg Tk O5 (by decide) (D3 Ac.enc_len (Ao he) (o:=1) (by decide) rfl)) rfl rfl ?_
     refine Bn (Bu rfl rfl h8) rfl (C1 O5 (Bx Ac.enc_len (Ao he) (o:=1) (m:=2) (cs:=[.int .i64 e.Key.Alg,.int .i64 e.Key.Bits]) rfl (by decide) rfl) (Ba Ac.enc_len (Ao he) (o:=1) (m:=2) (by decide) rfl)) rfl rfl ?_
     refine Ak ?_
     refine Bn (Bu rfl rfl h8) rfl (Dg Tk O5 (by decide) (D3 Ac.enc_len (Ao he_2) (o:=1) (by decide) rfl)) rfl rfl ?_
     refine Bn (Bu rfl rfl h8) rfl (C1 O5 (Bx Ac.enc_len (Ao he_2) (o:=1) (m:=2) (cs:=[.int .i64 e_2.Key.Alg,.int .i64 e_2.Key.Bits]) rfl (by decide) rfl) (Ba Ac.enc_len (Ao he_2) (o:=1) (m:=2) (by decide) rfl)) rfl rfl ?_
     refine Bn (Bu rfl rfl h8) rfl (aP e.Key e_2.Key) rfl rfl ?_
     refine Ak ?_
     rcases D2 D with ⟨h10,D⟩ | ⟨h10,D⟩
     ·refine Ak ?_
      refine Ai fun B=>?_
      exact⟨true,D,A1 []⟩
     ·refine Ak ?_
      refine Bn (Bu rfl rfl h10) rfl (Dg Ua Qn (by decide) (D3 Ac.enc_len (Ao he) (o:=3) (by decide) rfl)) rfl rfl ?_
      refine Bn (Bu rfl rfl h10) rfl (Bt Qn (Bh Ac.enc_len (Ao he) (o:=3) (c:=.int .i64 e.KeyId) rfl rfl)) rfl rfl ?_
      refine Ak ?_
      refine Bn (Bu rfl rfl h10) rfl (Dg Ua Qn (by decide) (D3 Ac.enc_len (Ao he_2) (o:=3) (by decide) rfl)) rfl rfl ?_
      refine Bn (Bu rfl rfl h10) rfl (Bt Qn (Bh Ac.enc_len (Ao he_2) (o:=3) (c:=.int .i64 e_2.KeyId) rfl rfl)) rfl rfl ?_
      refine Ak ?_
      rcases D2 D with ⟨h12,D⟩ | ⟨h12,D⟩
      ·refine Ak ?_
       refine Ai fun B=>?_
       exact⟨true,D,A1 []⟩
      ·refine Ak ?_
       refine Bn (Bu rfl rfl h12) rfl (Dg aL sY (by decide) (D3 Ac.enc_len (Ao he) (o:=4) (by decide) rfl)) rfl rfl ?_
       refine Bn (Bu rfl rfl h12) rfl (Bt sY (Bh Ac.enc_len (Ao he) (o:=4) (c:=.bool e.Secret) rfl rfl)) rfl rfl ?_
       refine Ak ?_
       refine Bn (Bu rfl rfl h12) rfl (Dg aL sY (by decide) (D3 Ac.enc_len (Ao he_2) (o:=4) (by decide) rfl)) rfl rfl ?_
       refine Bn (Bu rfl rfl h12) rfl (Bt sY (Bh Ac.enc_len (Ao he_2) (o:=4) (c:=.bool e_2.Secret) rfl rfl)) rfl rfl ?_
       refine Bn (Bu rfl rfl h12) rfl (Zn Xq) rfl rfl ?_
       refine Ak ?_
       rcases D2 D with ⟨h14,D⟩ | ⟨h14,D⟩
       ·refine Ak ?_
        refine Ai fun B=>?_
        exact⟨true,D,A1 []⟩
       ·refine Ak ?_
        refine Bn (Bu rfl rfl h14) rfl (Dg Tg Ra (by decide) (D3 Ac.enc_len (Ao he) (o:=5) (by decide) rfl)) rfl rfl ?_
        refine Bn (Bu rfl rfl h14) rfl (Bt Ra (Bh Ac.enc_len (Ao he) (o:=5) (c:=.sl 15 (Al Ab.enc e.Chain)) rfl rfl)) rfl rfl ?_
        refine Ak ?_
        refine Bn (Bu rfl rfl h14) rfl (Dg Tg Ra (by decide) (D3 Ac.enc_len (Ao he_2) (o:=5) (by decide) rfl)) rfl rfl ?_
        refine Bn (Bu rfl rfl h14) rfl (Bt Ra (Bh Ac.enc_len (Ao he_2) (o:=5) (c:=.sl 15 (Al Ab.enc e_2.Chain)) rfl rfl)) rfl rfl ?_
        obtain⟨y,hy,D⟩:=Ad D
        refine Dm (Qh _ _ _ hy) ?_
        refine Ak ?_
        refine Ai fun B=>?_
        exact⟨!y,D,A1 []⟩
   ·rintro x80_2 D
    replace D:Cc.j2 i_1 x80_2=some o1:=D
    show Ce _ _ _ _ (mk _ _ _)
    unfold Cc.j2 at D
    refine Df rfl D (fun h17 D=>?_) fun h17 D=>?_
    ·refine Ah ?_
     refine Ae (Bp _ _ []) 0 8 A5 rfl rfl ?_
     refine Ak ?_
     refine Ai fun B=>?_
     refine A4 ?_
     replace D:=C0 D hn1
     obtain rfl:=oi_ D
     exact A3 [] ⟨rfl,rfl⟩
    ·refine Ap ?_
     repeat first | refine C4 ?_ | refine C3 ?_
     refine Ae (Bp _ _ []) 0 24 A5 rfl rfl ?_
     refine Ak ?_
     refine Ai fun B=>?_
     obtain rfl:=oi_ D
     exact⟨(W (i_1 + 1),m1),vO _,hn1,A1 []⟩
  ·refine Bv ?_
   repeat first | refine C4 ?_ | refine C3 ?_
   replace D:=C0 D hn1
   refine Bd 32 40 B ?_
   refine Ak ?_
   refine Ai fun B=>?_
   refine A4 ?_
   obtain rfl:=oi_ D
   exact A3 [] ⟨rfl,rfl⟩
theorem M4 (s1:(List ByteArray)) (s2:(List ByteArray)) (r:Bool) (D:Cr s1 s2=some r):Fn Tryz.prog 93 0 [.sl 1 (Al eS s1),.sl 1 (Al eS s2)] [] (fun d' b'=>d'=.val (.bool r)/\b'=[]):=by
 unfold Cr at D
 refine Fn.of Tryz.func93 rfl rfl rfl fun w0 I ρ0=>?_
 show Ce _ ⟨w0,I,ρ0,0,0,26⟩ _ _ _
 refine Bd 0 8 A5 ?_
 refine Ak ?_
 refine Ai fun B=>?_
 refine Ah ?_
 refine Bd 8 48 B ?_
 refine Ak ?_
 refine Ai fun B=>?_
 refine Df rfl D (fun h3 D=>?_) fun h3 D=>?_
 ·refine Ah ?_
  refine Ae (Bp _ _ []) 48 56 B rfl rfl ?_
  refine Ak ?_
  refine Ai fun B=>?_
  refine A4 ?_
  obtain rfl:=oi_ D
  exact A3 [] ⟨rfl,rfl⟩
 ·refine Ap ?_
  repeat first | refine C4 ?_ | refine C3 ?_
  refine Ah ?_
  refine Bd 48 72 B ?_
  refine Ak ?_
  refine Ai fun B=>?_
  refine As ?_
  refine Jk (fun (x13_1:Int)=>mk [(0,.sl 1 (Al eS s1)),(1,.sl 1 (Al eS s2)),(12,.val (.int .i64 (s1.length:Int))),(13,vj x13_1)] [] 0) D (A1 []) ?_
  rintro x13_1 m1 o1 D hn1
  replace D:Cr.l1 s1 s2 x13_1=some o1:=D
  show Ce _ _ _ _ (mk _ _ _)
  unfold Cr.l1 at D
  refine Bd 0 8 A5 ?_
  refine Ak ?_
  refine Ai fun B=>?_
  refine Ah ?_
  refine Df rfl D (fun h7 D=>?_) fun h7 D=>?_
  ·refine Ap ?_
   repeat first | refine C4 ?_ | refine C3 ?_
   refine Ah ?_
   refine As ?_
   refine Bd 8 24 B ?_
   refine Ak ?_
   refine Ai fun B=>?_
   refine Ah ?_
   refine Dh (Bp _ _ []) (by kernel_rfl) [0,0,3,7,0,0,48,112,255] 24 96 B rfl rfl (by kernel_rfl) ?_
   refine Ak ?_
   obtain⟨e,he,D⟩:=Ad D
   refine Ak ?_
   refine Bn rfl rfl (Bt Me (Bh Gz (Ao he) (o:=0) (c:=.str e) rfl rfl)) rfl rfl ?_
   refine Ak ?_
   obtain⟨e_2,he_2,D⟩:=Ad D
   refine Ak ?_
   refine Bn rfl rfl (Bt Me (Bh Gz (Ao he_2) (o:=0) (c:=.str e_2) rfl rfl)) rfl rfl ?_
   refine Ak ?_
   refine Ai fun B=>?_
   refine Df rfl D (fun h10 D=>?_) fun h10 D=>?_
   ·refine Ah ?_
    refine Ae (Bp _ _ []) 96 104 B rfl rfl ?_
    refine Ak ?_
    refine Ai fun B=>?_
    refine A4 ?_
    replace D:=C0 D hn1
    obtain rfl:=oi_ D
    exact A3 [] ⟨rfl,rfl⟩
   ·refine Ap ?_
    repeat first | refine C4 ?_ | refine C3 ?_
    refine Ae (Bp _ _ []) 96 112 B rfl rfl ?_
    refine Ak ?_
    refine Ai fun B=>?_
    obtain rfl:=oi_ D
    exact⟨(W (x13_1 + 1),m1),vO _,hn1,A1 []⟩
  ·refine Bv ?_
   repeat first | refine C4 ?_ | refine C3 ?_
   replace D:=C0 D hn1
   refine Bd 8 16 B ?_
   refine Ak ?_
   refine Ai fun B=>?_
   refine A4 ?_
   obtain rfl:=oi_ D
   exact A3 [] ⟨rfl,rfl⟩
theorem O1 (a:Ab) (b:Ab) (r:Bool) (D:Be a b=some r):Fn Tryz.prog 49 0 [.agg (Ab.dv a),.agg (Ab.dv b)] [] (fun d' b'=>d'=.val (.bool r)/\b'=[]):=by
 unfold Be at D
 refine Fn.of Tryz.func49 rfl rfl rfl fun w0 I ρ0=>?_
 show Ce _ ⟨w0,I,ρ0,0,0,91⟩ _ _ _
 refine Bd 0 24 A5 ?_
 refine Ak ?_
 refine Ai fun B=>?_
 refine B9 (ι:=Bool) (fun (named_1:Bool)=>mk [(2,.ptr 0 0),(3,.ptr 1 0),(5,.val (.bool named_1))] [(0,.box (Ab.dv a) 67),(1,.box (Ab.dv b) 67)] 2) (fun (named_1:Bool)=>Be.j1 a b named_1=some r) ?_ ?_
 ·refine Ae (Bp _ _ []) 24 240 B rfl rfl ?_
  refine Ak ?_
  rcases D2 D with ⟨h2,D⟩ | ⟨h2,D⟩
  ·refine Ak ?_
   rcases D2 D with ⟨h3,D⟩ | ⟨h3,D⟩
   ·refine Ak ?_
    rcases D2 D with ⟨h4,D⟩ | ⟨h4,D⟩
    ·refine Ak ?_
     obtain⟨y,hy,D⟩:=Ad D
     refine Dm (M4 _ _ _ hy) ?_
     refine Ak ?_
     refine Ai fun B=>?_
     exact⟨y,D,A1 [(0,0),(1,8)]⟩
    ·refine Ak ?_
     refine Ai fun B=>?_
     exact⟨false,D,A1 [(0,0),(1,8)]⟩
   ·refine Ak ?_
    refine Ai fun B=>?_
    exact⟨false,D,A1 [(0,0),(1,8)]⟩
  ·refine Ak ?_
   refine Ai fun B=>?_
   exact⟨false,D,A1 [(0,0),(1,8)]⟩
 ·rintro named_1 D
  replace D:Be.j1 a b named_1=some r:=D
  show Ce _ _ _ _ (mk _ _ _)
  unfold Be.j1 at D
  refine B9 (ι:=Bool) (fun (keys_2:Bool)=>mk [(2,.ptr 0 0),(3,.ptr 1 0),(5,.val (.bool named_1)),(6,.val (.bool keys_2))] [(0,.box (Ab.dv a) 67),(1,.box (Ab.dv b) 67)] 2) (fun (keys_2:Bool)=>Be.j2 a b named_1 keys_2=some r) ?_ ?_
  ·refine Ae (Bp _ _ []) 2 218 A5 rfl rfl ?_
   refine Ak ?_
   refine Bn rfl rfl (Ic a.Key b.Key) rfl rfl ?_
   refine Ak ?_
   rcases D2 D with ⟨h9,D⟩ | ⟨h9,D⟩
   ·refine Ak ?_
    rcases D2 D with ⟨h10,D⟩ | ⟨h10,D⟩
    ·refine Ak ?_
     refine Bn (Bu rfl rfl h10) rfl (Ic a.Hash b.Hash) rfl rfl ?_
     refine Ak ?_
     rcases D2 D with ⟨h11,D⟩ | ⟨h11,D⟩
     ·refine Ak ?_
      refine Bn (Bu rfl rfl h11) rfl (Uh a.Seal b.Seal) rfl rfl ?_
      refine Ak ?_
      refine Ai fun B=>?_
      exact⟨decide (a.Seal=b.Seal),D,A1 [(0,0),(1,1)]⟩
     ·refine Ak ?_
      refine Ai fun B=>?_
      exact⟨false,D,A1 [(0,0),(1,1)]⟩
    ·refine Ak ?_
     refine Ai fun B=>?_
     exact⟨false,D,A1 [(0,0),(1,1)]⟩
   ·refine Ak ?_
    refine Ai fun B=>?_
    exact⟨false,D,A1 [(0,0),(1,1)]⟩
  ·rintro keys_2 D
   replace D:Be.j2 a b named_1 keys_2=some r:=D
   show Ce _ _ _ _ (mk _ _ _)
   unfold Be.j2 at D
   refine Bd 2 266 A5 ?_
   refine Ak ?_
   rcases D2 D with ⟨h16,D⟩ | ⟨h16,D⟩
   ·refine Ak ?_
    rcases D2 D with ⟨h17,D⟩ | ⟨h17,D⟩
    ·refine Ak ?_
     rcases D2 D with ⟨h18,D⟩ | ⟨h18,D⟩
     ·refine Ak ?_
      rcases D2 D with ⟨h19,D⟩ | ⟨h19,D⟩
      ·refine Ak ?_
       refine Bn (Bu rfl rfl h19) rfl (T5 Xq) rfl rfl ?_
       refine Ak ?_
       rcases D2 D with ⟨h20,D⟩ | ⟨h20,D⟩
       ·refine Ak ?_
        refine Ai fun B=>?_
        refine A4 ?_
        obtain rfl:=oi_ D
        exact A3 [] ⟨rfl,rfl⟩
       ·refine Ak ?_
        refine Ai fun B=>?_
        refine A4 ?_
        obtain rfl:=oi_ D
        exact A3 [] ⟨rfl,rfl⟩
      ·refine Ak ?_
       refine Ai fun B=>?_
       refine A4 ?_
       obtain rfl:=oi_ D
       exact A3 [] ⟨rfl,rfl⟩
     ·refine Ak ?_
      refine Ai fun B=>?_
      refine A4 ?_
      obtain rfl:=oi_ D
      exact A3 [] ⟨rfl,rfl⟩
    ·refine Ak ?_
     refine Ai fun B=>?_
     refine A4 ?_
     obtain rfl:=oi_ D
     exact A3 [] ⟨rfl,rfl⟩
   ·refine Ak ?_
    refine Ai fun B=>?_
    refine A4 ?_
    obtain rfl:=oi_ D
    exact A3 [] ⟨rfl,rfl⟩
theorem Gl (s1:(List Ab)) (s2:(List Ab)) (eq:Ab->Ab->Option (Bool)) (hf_eq:∀ (x0:Ab) (x1:Ab) (y:Bool),eq x0 x1=some y->Fn Tryz.prog 49 0 [.agg (Ab.dv x0),.agg (Ab.dv x1)] [] (fun d' b'=>d'=.val (.bool y)/\b'=[])) (r:Bool) (D:Aw s1 s2 eq=some r):Fn Tryz.prog 48 0 [.sl 15 (Al Ab.enc s1),.sl 15 (Al Ab.enc s2),.clo 49 0 []] [] (fun d' b'=>d'=.val (.bool r)/\b'=[]):=by
 unfold Aw at D
 refine Fn.of Tryz.func48 rfl rfl rfl fun w0 I ρ0=>?_
 show Ce _ ⟨w0,I,ρ0,0,0,32⟩ _ _ _
 refine Bd 0 8 A5 ?_
 refine Ak ?_
 refine Ai fun B=>?_
 refine Ah ?_
 refine Bd 8 48 B ?_
 refine Ak ?_
 refine Ai fun B=>?_
 refine Df rfl D (fun h3 D=>?_) fun h3 D=>?_
 ·refine Ah ?_
  refine Ae (Bp _ _ []) 48 56 B rfl rfl ?_
  refine Ak ?_
  refine Ai fun B=>?_
  refine A4 ?_
  obtain rfl:=oi_ D
  exact A3 [] ⟨rfl,rfl⟩
 ·refine Ap ?_
  repeat first | refine C4 ?_ | refine C3 ?_
  refine Ah ?_
  refine Bd 48 72 B ?_
  refine Ak ?_
  refine Ai fun B=>?_
  refine As ?_
  refine Jk (fun (x17_1:Int)=>mk [(1,.sl 15 (Al Ab.enc s2)),(2,.clo 49 0 []),(15,.sl 15 (Al Ab.enc s1)),(16,.val (.int .i64 (s1.length:Int))),(17,vj x17_1)] [] 0) D (A1 []) ?_
  rintro x17_1 m1 o1 D hn1
  replace D:Aw.l1 s1 s2 eq x17_1=some o1:=D
  show Ce _ _ _ _ (mk _ _ _)
  unfold Aw.l1 at D
  refine Bd 0 8 A5 ?_
  refine Ak ?_
  refine Ai fun B=>?_
  refine Ah ?_
  refine Df rfl D (fun h7 D=>?_) fun h7 D=>?_
  ·refine Ap ?_
   repeat first | refine C4 ?_ | refine C3 ?_
   refine Ah ?_
   refine As ?_
   refine Bd 8 56 B ?_
   refine Ak ?_
   obtain⟨e,he,D⟩:=Ad D
   refine Ak ?_
   refine Bn rfl rfl (C1 Uu (Bx Ab.enc_len (Ao he) (o:=0) (m:=15) (cs:=(Ab.ec e)) rfl (by decide) rfl) (Ba Ab.enc_len (Ao he) (o:=0) (m:=15) (by decide) rfl)) rfl rfl ?_
   refine Ak ?_
   refine Ai fun B=>?_
   refine Bd 56 104 B ?_
   refine Ak ?_
   obtain⟨e_2,he_2,D⟩:=Ad D
   refine Ak ?_
   refine Bn rfl rfl (C1 Uu (Bx Ab.enc_len (Ao he_2) (o:=0) (m:=15) (cs:=(Ab.ec e_2)) rfl (by decide) rfl) (Ba Ab.enc_len (Ao he_2) (o:=0) (m:=15) (by decide) rfl)) rfl rfl ?_
   refine Ak ?_
   refine Ai fun B=>?_
   refine Bd 104 144 B ?_
   refine Ak ?_
   obtain⟨y,hy,D⟩:=Ad D
   refine Lf (rd:=[]) (ps:=[]) (gs:=[]) false rfl rfl (hf_eq e e_2 _ hy) rfl rfl (.cons (.agg (.cons .val (.cons .val (.cons .val (.cons .val (.cons .val (.cons .val (.cons .val (.cons .val (.cons .val (.cons .val (.cons .val (.cons .val (.cons .sl (.cons .val (.cons .val .nil)))))))))))))))) (.cons (.agg (.cons .val (.cons .val (.cons .val (.cons .val (.cons .val (.cons .val (.cons .val (.cons .val (.cons .val (.cons .val (.cons .val (.cons .val (.cons .sl (.cons .val (.cons .val .nil)))))))))))))))) .nil)) rfl rfl (by intro h; cases h) rfl rfl rfl rfl ?_
   refine Ak ?_
   refine Ai fun B=>?_
   refine Df rfl D (fun h11 D=>?_) fun h11 D=>?_
   ·refine Ah ?_
    refine Ae (Bp _ _ []) 144 152 B rfl rfl ?_
    refine Ak ?_
    refine Ai fun B=>?_
    refine A4 ?_
    replace D:=C0 D hn1
    obtain rfl:=oi_ D
    exact A3 [] ⟨rfl,rfl⟩
   ·refine Ap ?_
    repeat first | refine C4 ?_ | refine C3 ?_
    refine Ae (Bp _ _ []) 144 160 B rfl rfl ?_
    refine Ak ?_
    refine Ai fun B=>?_
    obtain rfl:=oi_ D
    exact⟨(W (x17_1 + 1),m1),vO _,hn1,A1 []⟩
  ·refine Bv ?_
   repeat first | refine C4 ?_ | refine C3 ?_
   replace D:=C0 D hn1
   refine Bd 8 16 B ?_
   refine Ak ?_
   refine Ai fun B=>?_
   refine A4 ?_
   obtain rfl:=oi_ D
   exact A3 [] ⟨rfl,rfl⟩
end Go.Proofs.YtfanepojdefdpaaGreat
