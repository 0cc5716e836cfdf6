import Derived.Test.YtfanepojdefdpaaGreatT1
import Derived.Test.YtfanepojdefdpaaGreatA4
import Derived.Test.YtfanepojdefdpaaGreatA5
set_option linter.unusedVariables false
set_option linter.unusedSimpArgs false
set_option maxRecDepth 100000
set_option maxHeartbeats 1600000
namespace Go.Proofs.YtfanepojdefdpaaGreat
open Go.RowKit
theorem Uk (b:(List UInt8)) (r:Aa×Int) (D:Ej b=some r):Fn Tryz.prog 22 0 [.sl 1 (An e8 b)] [] (fun d' b'=>d'=.tup [.agg [vj r.1.Tag,.sl 1 (An e8 r.1.Bytes),.val (.bool r.1.Nested),.row 0],vj r.2]/\b'=[.abs [1] (Ds 50 4 3 (An Aa.enc r.1.Elements)),.gho]):=by
 unfold Ej at D
 refine Fn.of Tryz.func22 rfl rfl rfl fun w0 I ρ0=>?_
 show Ca _ ⟨w0,I,ρ0,0,0,32⟩ _ _ _
 refine A6 0 16 Az ?_
 refine Ak ?_
 refine Ai fun B=>?_
 refine D1 (σ':=mk [(0,.sl 1 (An e8 b)),(2,.ptr 0 0)] [(0,.box [.val (.int .i64 0),.val (.slice none 0 0),.val (.bool false),.row 1] 50),(1,.row 50 4 (An Aa.enc ([]:List Aa)))] 2) (Ay [(0,0)]) ?_
 refine D1 (σ':=mk [(0,.sl 1 (An e8 b)),(2,.ptr 0 0)] [(2,.gho),(0,.box [.val (.int .i64 0),.val (.slice none 0 0),.val (.bool false),.row 1] 50),(1,.abs [2] (Ds 50 4 3 (An Aa.enc ([]:List Aa))))] 3) (Vr 1 3 rfl rfl (by decide)) ?_
 refine Ah ?_
 refine A6 3 27 Az ?_
 refine Ak ?_
 refine Ai fun B=>?_
 refine Dh rfl D (fun h3 D=>?_) fun h3 D=>?_
 ·refine Ah ?_
  refine Af (Bi _ _ []) 27 51 B rfl rfl ?_
  refine Bj rfl rfl (.build (r:=[.val (.int .i64 0),.val (.slice none 0 0),.val (.bool false),.val (.slice none 0 0)]) Io Nc Pq (by kernel_rfl) rfl) rfl rfl ?_
  refine Ak ?_
  refine Ai fun B=>?_
  refine D1 (σ':=mk [(2,.ptr 0 0),(3,.val (.int .i64 3))] [(0,.box [.val (.int .i64 0),.val (.slice none 0 0),.val (.bool false),.row 1] 50),(1,.row 50 4 (An Aa.enc ([]:List Aa)))] 2) (Ay [(0,0)]) ?_
  refine D1 (σ':=mk [(2,.ptr 0 0),(3,.val (.int .i64 3))] [(2,.gho),(0,.box [.val (.int .i64 0),.val (.slice none 0 0),.val (.bool false),.row 1] 50),(1,.abs [2] (Ds 50 4 3 (An Aa.enc ([]:List Aa))))] 3) (Vr 1 3 rfl rfl (by decide)) ?_
  refine A4 ?_
  obtain rfl:=oi_ D
  exact⟨[_,_],_,[_,_],[(0,1),(1,2)],.cons (.cellA rfl rfl Nb rfl) (.cons (.tmp rfl) .nil),⟨rfl,rfl⟩,.tup (.cons (.agg (.cons (.val _) (.cons (.nils _) (.cons (.val _) (.cons (.row rfl) .nil))))) (.cons (.val _) .nil)),⟨.inl ⟨1,_,rfl,rfl,⟨rfl,rfl⟩⟩,.inl ⟨2,_,rfl,rfl,trivial⟩,trivial⟩,rfl,rfl,rfl,rfl,rfl⟩
 ·refine Ao ?_
  repeat first | refine Cw ?_ | refine Cy ?_
  refine A6 27 83 B ?_
  refine Ak ?_
  obtain⟨y,hy,D⟩:=Ae D
  refine Fg (rd:=[]) (ps:=[]) (gs:=[]) false rfl (Nr _ _ hy) rfl rfl (.cons .sl .nil) rfl rfl (by intro h; cases h) rfl (by intro h; first | (cases h; done) | exact⟨_,_,⟨rfl,rfl⟩,by simp,by simp⟩) ?_
  rintro _ _ ⟨rfl,rfl⟩
  refine Ak ?_
  refine Ai fun B=>?_
  refine Ah ?_
  refine Bm (ι:=Bool) (fun (x21_1:Bool)=>mk [(2,.ptr 0 0),(4,.row 1),(21,.val (.bool x21_1))] [(0,.box [.val (.int .i64 0),.val (.slice none 0 0),.val (.bool false),.row 2] 50),(1,.abs [3] (Ds 50 4 3 (An Aa.enc y.1))),(2,.abs [4] (Ds 50 4 3 (An Aa.enc ([]:List Aa)))),(3,.gho),(4,.gho)] 5) (fun (x21_1:Bool)=>Ej.j1 y x21_1=some r) ?_ ?_
  ·refine Af (Bi _ _ []) 83 139 B rfl rfl ?_
   refine Ak ?_
   rcases Eb D with ⟨h6,D⟩ | ⟨h6,D⟩
   ·refine Ak ?_
    refine Ai fun B=>?_
    exact⟨true,D,(by exact Mb.lists [(0,0),(1,35),(2,1),(3,36),(4,2)] rfl rfl ⟨⟨_,rfl,.ptr rfl⟩,⟨_,rfl,.row rfl⟩,⟨_,rfl,.val _⟩,trivial⟩ ⟨.inl ⟨0,_,rfl,rfl,⟨rfl,.cons (.val _) (.cons (.val _) (.cons (.val _) (.cons (.row rfl) .nil)))⟩⟩,.inl ⟨35,_,rfl,rfl,⟨rfl,rfl⟩⟩,.inl ⟨1,_,rfl,rfl,⟨rfl,rfl⟩⟩,.inl ⟨36,_,rfl,rfl,trivial⟩,.inl ⟨2,_,rfl,rfl,trivial⟩,trivial⟩)⟩
   ·refine Ak ?_
    refine U6 (rd:=[35]) (Cj rfl rfl h6) rfl (aAn Jz (D0 Aa.enc_len _)) rfl rfl (fun _=>⟨_,rfl⟩) ?_
    rintro _ rfl
    refine Ak ?_
    refine Ai fun B=>?_
    exact⟨!decide ((y.1.length:Int)=1),D,(by exact Mb.lists [(0,0),(1,35),(2,1),(3,36),(4,2)] rfl rfl ⟨⟨_,rfl,.ptr rfl⟩,⟨_,rfl,.row rfl⟩,⟨_,rfl,.val _⟩,trivial⟩ ⟨.inl ⟨0,_,rfl,rfl,⟨rfl,.cons (.val _) (.cons (.val _) (.cons (.val _) (.cons (.row rfl) .nil)))⟩⟩,.inl ⟨35,_,rfl,rfl,⟨rfl,rfl⟩⟩,.inl ⟨1,_,rfl,rfl,⟨rfl,rfl⟩⟩,.inl ⟨36,_,rfl,rfl,trivial⟩,.inl ⟨2,_,rfl,rfl,trivial⟩,trivial⟩)⟩
  ·rintro x21_1 D
   replace D:Ej.j1 y x21_1=some r:=D
   show Ca _ _ _ _ (mk _ _ _)
   unfold Ej.j1 at D
   refine Dh rfl D (fun h9 D=>?_) fun h9 D=>?_
   ·refine Ah ?_
    refine Af (Bi _ _ []) 5 29 Az rfl rfl ?_
    refine Bj rfl rfl (.build (r:=[.val (.int .i64 0),.val (.slice none 0 0),.val (.bool false),.val (.slice none 0 0)]) Io Nc Pq (by kernel_rfl) rfl) rfl rfl ?_
    refine Ak ?_
    refine Ai fun B=>?_
    refine D1 (σ':=mk [(2,.ptr 0 0),(3,.val (.int .i64 1))] [(0,.box [.val (.int .i64 0),.val (.slice none 0 0),.val (.bool false),.row 1] 50),(1,.row 50 4 (An Aa.enc ([]:List Aa)))] 2) (Ay [(0,0)]) ?_
    refine D1 (σ':=mk [(2,.ptr 0 0),(3,.val (.int .i64 1))] [(2,.gho),(0,.box [.val (.int .i64 0),.val (.slice none 0 0),.val (.bool false),.row 1] 50),(1,.abs [2] (Ds 50 4 3 (An Aa.enc ([]:List Aa))))] 3) (Vr 1 3 rfl rfl (by decide)) ?_
    refine A4 ?_
    obtain rfl:=oi_ D
    exact⟨[_,_],_,[_,_],[(0,1),(1,2)],.cons (.cellA rfl rfl Nb rfl) (.cons (.tmp rfl) .nil),⟨rfl,rfl⟩,.tup (.cons (.agg (.cons (.val _) (.cons (.nils _) (.cons (.val _) (.cons (.row rfl) .nil))))) (.cons (.val _) .nil)),⟨.inl ⟨1,_,rfl,rfl,⟨rfl,rfl⟩⟩,.inl ⟨2,_,rfl,rfl,trivial⟩,trivial⟩,rfl,rfl,rfl,rfl,rfl⟩
   ·refine Ao ?_
    repeat first | refine Cw ?_ | refine Cy ?_
    refine Ah ?_
    refine Ah ?_
    refine D1 (σ':=mk [(2,.ptr 0 0),(4,.row 1)] [(0,.box [.val (.int .i64 0),.val (.slice none 0 0),.val (.bool false),.row 2] 50),(1,.abs [3] (Ds 50 4 3 (An Aa.enc y.1))),(2,.abs [4] (Ds 50 4 3 (An Aa.enc ([]:List Aa)))),(3,.gho),(4,.gho)] 5) ((by exact Mb.lists [(0,0),(1,1),(2,2),(3,3),(4,4)] rfl rfl ⟨⟨_,rfl,.ptr rfl⟩,⟨_,rfl,.row rfl⟩,trivial⟩ ⟨.inl ⟨0,_,rfl,rfl,⟨rfl,.cons (.val _) (.cons (.val _) (.cons (.val _) (.cons (.row rfl) .nil)))⟩⟩,.inl ⟨1,_,rfl,rfl,⟨rfl,rfl⟩⟩,.inl ⟨2,_,rfl,rfl,⟨rfl,rfl⟩⟩,.inl ⟨3,_,rfl,rfl,trivial⟩,.inl ⟨4,_,rfl,rfl,trivial⟩,trivial⟩)) ?_
    obtain⟨e,he,D⟩:=Ae D
    refine D1 (aCm 1 (An Aa.enc e.Elements) rfl (Bf Aa.enc_len (Aq he) (o:=3) (c:=.sl 4 (An Aa.enc e.Elements)) (by simp only [Aa.enc_eq]; rfl) rfl) rfl) ?_
    refine Af (Bi _ _ []) 7 47 Az rfl rfl ?_
    refine Ak ?_
    refine U6 (rd:=[1]) rfl rfl (qN Jz) rfl rfl (fun _=>⟨_,rfl⟩) ?_
    rintro _ rfl
    refine U6 (rd:=[1]) rfl rfl (kI (cs2:=[.int .i64 e.Tag,.sl 1 (An e8 e.Bytes),.bool e.Nested,.sl 4 (An Aa.enc e.Elements)]) Nb (Cm Aa.enc_len (Aq he) (o:=0) (m:=4) (cs:=[.int .i64 e.Tag,.sl 1 (An e8 e.Bytes),.bool e.Nested,.sl 4 (An Aa.enc e.Elements)]) (by simp only [Aa.enc_eq]; rfl) (by decide) rfl)) rfl rfl (fun _=>⟨_,rfl⟩) ?_
    rintro _ rfl
    obtain⟨y_2,hy_2,D⟩:=Ae D
    refine X9 (rd:=[5]) (ps:=[]) (gs:=[]) true rfl (Ka _ _ hy_2) rfl rfl (.cons (.agg (.cons .val (.cons .sl (.cons .val (.cons (.abs rfl (.head _) rfl rfl) .nil))))) .nil) rfl rfl (fun _=>⟨by simp [I1,Ki],by simp [Nm,Ki,I1]⟩) rfl rfl rfl rfl ?_
    refine Ak ?_
    refine Ai fun B=>?_
    refine Dh rfl D (fun h12 D=>?_) fun h12 D=>?_
    ·refine Ah ?_
     refine Af (Bi _ _ []) 47 71 B rfl rfl ?_
     refine Bj rfl rfl (.build (r:=[.val (.int .i64 0),.val (.slice none 0 0),.val (.bool false),.val (.slice none 0 0)]) Io Nc Pq (by kernel_rfl) rfl) rfl rfl ?_
     refine Ak ?_
     refine Ai fun B=>?_
     refine D1 (σ':=mk [(2,.ptr 0 0),(3,.val (.int .i64 3))] [(0,.box [.val (.int .i64 0),.val (.slice none 0 0),.val (.bool false),.row 1] 50),(1,.row 50 4 (An Aa.enc ([]:List Aa)))] 2) (Ay [(0,0)]) ?_
     refine D1 (σ':=mk [(2,.ptr 0 0),(3,.val (.int .i64 3))] [(2,.gho),(0,.box [.val (.int .i64 0),.val (.slice none 0 0),.val (.bool false),.row 1] 50),(1,.abs [2] (Ds 50 4 3 (An Aa.enc ([]:List Aa))))] 3) (Vr 1 3 rfl rfl (by decide)) ?_
     refine A4 ?_
     obtain rfl:=oi_ D
     exact⟨[_,_],_,[_,_],[(0,1),(1,2)],.cons (.cellA rfl rfl Nb rfl) (.cons (.tmp rfl) .nil),⟨rfl,rfl⟩,.tup (.cons (.agg (.cons (.val _) (.cons (.nils _) (.cons (.val _) (.cons (.row rfl) .nil))))) (.cons (.val _) .nil)),⟨.inl ⟨1,_,rfl,rfl,⟨rfl,rfl⟩⟩,.inl ⟨2,_,rfl,rfl,trivial⟩,trivial⟩,rfl,rfl,rfl,rfl,rfl⟩
    ·refine Ao ?_
     repeat first | refine Cw ?_ | refine Cy ?_
     refine A6 47 87 B ?_
     refine Ak ?_
     refine U6 (rd:=[1]) rfl rfl (qN Jz) rfl rfl (fun _=>⟨_,rfl⟩) ?_
     rintro _ rfl
     refine U6 (rd:=[1]) rfl rfl (kI (cs2:=[.int .i64 e.Tag,.sl 1 (An e8 e.Bytes),.bool e.Nested,.sl 4 (An Aa.enc e.Elements)]) Nb (Cm Aa.enc_len (Aq he) (o:=0) (m:=4) (cs:=[.int .i64 e.Tag,.sl 1 (An e8 e.Bytes),.bool e.Nested,.sl 4 (An Aa.enc e.Elements)]) (by simp only [Aa.enc_eq]; rfl) (by decide) rfl)) rfl rfl (fun _=>⟨_,rfl⟩) ?_
     rintro _ rfl
     refine Ak ?_
     refine Ai fun B=>?_
     refine A4 ?_
     obtain rfl:=oi_ D
     exact⟨[_,_],_,[_,_],[(0,5),(1,6)],.cons (.cellA rfl rfl Nb rfl) (.cons (.tmp rfl) .nil),⟨rfl,rfl⟩,.tup (.cons (.agg (.cons (.val _) (.cons (.sl _ _) (.cons (.val _) (.cons (.row rfl) .nil))))) (.cons (.val _) .nil)),⟨.inl ⟨5,_,rfl,rfl,⟨rfl,rfl⟩⟩,.inl ⟨6,_,rfl,rfl,trivial⟩,trivial⟩,rfl,rfl,rfl,rfl,rfl⟩
theorem Z3 (n:Int) (r:Bool) (D:Mj n=some r):Fn Tryz.prog 116 0 [vj n] [] (fun d' b'=>d'=.val (.bool r)/\b'=[]):=by
 unfold Mj at D
 refine Fn.of Tryz.func116 rfl rfl rfl fun w0 I ρ0=>?_
 show Ca _ ⟨w0,I,ρ0,0,0,14⟩ _ _ _
 refine A6 0 8 Az ?_
 refine Ak ?_
 refine Ai fun B=>?_
 refine A6 8 104 B ?_
 refine Ak ?_
 rcases Eb D with ⟨h2,D⟩ | ⟨h2,D⟩
 ·refine Ak ?_
  rcases Eb D with ⟨h3,D⟩ | ⟨h3,D⟩
  ·refine Ak ?_
   refine Bj (Cj rfl rfl h3) rfl jP rfl rfl ?_
   refine Ak ?_
   refine Ai fun B=>?_
   refine A4 ?_
   obtain rfl:=oi_ D
   exact A3 [] ⟨rfl,rfl⟩
  ·refine Ak ?_
   refine Ai fun B=>?_
   refine A4 ?_
   obtain rfl:=oi_ D
   exact A3 [] ⟨rfl,rfl⟩
 ·refine Ak ?_
  refine Ai fun B=>?_
  refine A4 ?_
  obtain rfl:=oi_ D
  exact A3 [] ⟨rfl,rfl⟩
theorem jM (b:(List UInt8)) (r:Int×Int×Bool) (D:C0 b=some r):Fn Tryz.prog 140 0 [.sl 1 (An e8 b)] [] (fun d' b'=>d'=.tup [vj r.1,vj r.2.1,.val (.bool r.2.2)]/\b'=[]):=by
 unfold C0 at D
 refine Fn.of Tryz.func140 rfl rfl rfl fun w0 I ρ0=>?_
 show Ca _ ⟨w0,I,ρ0,0,0,61⟩ _ _ _
 refine A6 0 24 Az ?_
 refine Ak ?_
 refine Ai fun B=>?_
 refine Ah ?_
 refine A6 24 48 B ?_
 refine Ak ?_
 refine Ai fun B=>?_
 refine Dh rfl D (fun h3 D=>?_) fun h3 D=>?_
 ·refine Ah ?_
  refine Af (Bi _ _ []) 48 72 B rfl rfl ?_
  refine Ak ?_
  refine Ai fun B=>?_
  refine A4 ?_
  obtain rfl:=oi_ D
  exact A3 [] ⟨rfl,rfl⟩
 ·refine Ao ?_
  repeat first | refine Cw ?_ | refine Cy ?_
  refine A6 48 96 B ?_
  refine Ak ?_
  obtain⟨e,he,D⟩:=Ae D
  refine Ak ?_
  refine Bj rfl rfl (Bl N8 (Bf B5 (Aq he) (o:=0) (c:=.int .u8 (e.toNat:Int)) rfl rfl)) rfl rfl ?_
  refine Bj rfl rfl (Hx (u:=e) Ku M9) rfl rfl ?_
  refine Ak ?_
  refine Ai fun B=>?_
  refine Ah ?_
  refine A6 96 112 B ?_
  refine Ak ?_
  refine Ai fun B=>?_
  refine Dh rfl D (fun h7 D=>?_) fun h7 D=>?_
  ·refine Ah ?_
   refine Af (Bi _ _ []) 112 168 B rfl rfl ?_
   refine Ak ?_
   refine Bj rfl rfl (Bl N8 (Bf B5 (Aq he) (o:=0) (c:=.int .u8 (e.toNat:Int)) rfl rfl)) rfl rfl ?_
   refine Bj rfl rfl (Hx (u:=e) Ku M9) rfl rfl ?_
   refine Ak ?_
   refine Ai fun B=>?_
   refine A4 ?_
   obtain rfl:=oi_ D
   exact A3 [] ⟨rfl,rfl⟩
  ·refine Ao ?_
   repeat first | refine Cw ?_ | refine Cy ?_
   refine Ah ?_
   refine Bm (ι:=Bool) (fun (x40_1:Bool)=>mk [(0,.sl 1 (An e8 b)),(5,.val (.int .i64 (W ((e.toNat:Int) - 128)))),(40,.val (.bool x40_1))] [] 0) (fun (x40_1:Bool)=>C0.j1 b e x40_1=some r) ?_ ?_
   ·refine Af (Bi _ _ []) 112 256 B rfl rfl ?_
    refine Ak ?_
    rcases Eb D with ⟨h9,D⟩ | ⟨h9,D⟩
    ·refine Ak ?_
     refine Ai fun B=>?_
     exact⟨true,D,Ay []⟩
    ·refine Ak ?_
     rcases Eb D with ⟨h11,D⟩ | ⟨h11,D⟩
     ·refine Ak ?_
      refine Ai fun B=>?_
      exact⟨true,D,Ay []⟩
     ·refine Ak ?_
      rcases Eb D with ⟨h13,D⟩ | ⟨h13,D⟩
      ·refine Ak ?_
       refine Ai fun B=>?_
       exact⟨true,D,Ay []⟩
      ·refine Ak ?_
       obtain⟨e_2,he_2,D⟩:=Ae D
       refine Ak ?_
       refine Bj (Cj rfl rfl h13) rfl (Bl N8 (Bf B5 (Aq he_2) (o:=0) (c:=.int .u8 (e_2.toNat:Int)) rfl rfl)) rfl rfl ?_
       refine Ak ?_
       refine Ai fun B=>?_
       exact⟨decide ((e_2.toNat:Int)=0),D,Ay []⟩
   ·rintro x40_1 D
    replace D:C0.j1 b e x40_1=some r:=D
    show Ca _ _ _ _ (mk _ _ _)
    unfold C0.j1 at D
    refine Dh rfl D (fun h16 D=>?_) fun h16 D=>?_
    ·refine Ah ?_
     refine Af (Bi _ _ []) 0 24 Az rfl rfl ?_
     refine Ak ?_
     refine Ai fun B=>?_
     refine A4 ?_
     obtain rfl:=oi_ D
     exact A3 [] ⟨rfl,rfl⟩
    ·refine Ao ?_
     repeat first | refine Cw ?_ | refine Cy ?_
     refine A6 0 8 Az ?_
     refine Ak ?_
     refine Ai fun B=>?_
     refine Ah ?_
     refine A6 8 56 B ?_
     refine Ak ?_
     obtain⟨l,hl,D⟩:=Ae D
     refine Bj rfl rfl (R5 Hp B5 hl) rfl rfl ?_
     refine Ak ?_
     refine Ai fun B=>?_
     refine Au ?_
     refine Lu (fun ((n_2,x46_2):Int×Int)=>mk [(5,.val (.int .i64 (W ((e.toNat:Int) - 128)))),(6,vj n_2),(44,.sl 1 (An e8 l)),(45,.val (.int .i64 (l.length:Int))),(46,vj x46_2)] [] 0) D (Ay []) ?_
     rintro⟨n_2,x46_2⟩ m2 o2 D hn2
     replace D:C0.l2 e l n_2 x46_2=some o2:=D
     show Ca _ _ _ _ (mk _ _ _)
     unfold C0.l2 at D
     refine A6 0 8 Az ?_
     refine Ak ?_
     refine Ai fun B=>?_
     refine Ah ?_
     refine Dh rfl D (fun h21 D=>?_) fun h21 D=>?_
     ·refine Ao ?_
      repeat first | refine Cw ?_ | refine Cy ?_
      refine Ah ?_
      refine Au ?_
      refine A6 8 32 B ?_
      obtain⟨e_3,he_3,D⟩:=Ae D
      refine Ak ?_
      refine Bj rfl rfl (Bl N8 (Bf B5 (Aq he_3) (o:=0) (c:=.int .u8 (e_3.toNat:Int)) rfl rfl)) rfl rfl ?_
      refine Ak ?_
      refine Ai fun B=>?_
      refine Af (Bi _ _ []) 32 80 B rfl rfl ?_
      refine Ak ?_
      obtain⟨q,hq,D⟩:=Ae D
      refine Bj rfl rfl (jK hq) rfl rfl ?_
      refine Ak ?_
      refine Bj rfl rfl (Hx (u:=e_3) Ku M9) rfl rfl ?_
      refine Bj rfl rfl pS rfl rfl ?_
      refine Ak ?_
      refine Ai fun B=>?_
      refine Af (Bi _ _ []) 80 96 B rfl rfl ?_
      refine Ak ?_
      refine Ai fun B=>?_
      obtain rfl:=oi_ D
      exact⟨((Zk .i64 q (e_3.toNat:Int),W (x46_2 + 1)),m2),aDn _,hn2,Ay []⟩
     ·refine B8 ?_
      repeat first | refine Cw ?_ | refine Cy ?_
      replace D:=C5 D hn2
      refine A6 8 72 B ?_
      refine Ak ?_
      refine Ai fun B=>?_
      refine A4 ?_
      obtain rfl:=oi_ D
      exact A3 [] ⟨rfl,rfl⟩
theorem Rp (b:(List UInt8)) (r:(List UInt8)) (D:Ex b=some r):Fn Tryz.prog 142 0 [.sl 1 (An e8 b)] [] (fun d' b'=>d'=.sl 1 (An e8 r)/\b'=[]):=by
 unfold Ex at D
 refine Fn.of Tryz.func142 rfl rfl rfl fun w0 I ρ0=>?_
 show Ca _ ⟨w0,I,ρ0,0,0,8⟩ _ _ _
 refine A6 0 8 Az ?_
 refine Ak ?_
 refine Ai fun B=>?_
 refine Ah ?_
 refine Bm (ι:=Bool) (fun (x4_1:Bool)=>mk [(0,.sl 1 (An e8 b)),(4,.val (.bool x4_1))] [] 0) (fun (x4_1:Bool)=>Ex.j1 b x4_1=some r) ?_ ?_
 ·refine Af (Bi _ _ []) 8 24 B rfl rfl ?_
  refine Ak ?_
  refine lI rfl rfl ⟨_,Tl⟩ rfl ?_
  intro bz hz2
  rcases bz with _ | _
  ·replace D:=rC D
   refine Ai fun B=>?_
   exact⟨false,D,Ay []⟩
  ·replace D:=pP ((Xz B5 (by decide) (hz2 rfl))) D
   refine Ai fun B=>?_
   exact⟨true,D,Ay []⟩
 ·rintro x4_1 D
  replace D:Ex.j1 b x4_1=some r:=D
  show Ca _ _ _ _ (mk _ _ _)
  unfold Ex.j1 at D
  refine Dh rfl D (fun h5 D=>?_) fun h5 D=>?_
  ·refine Ah ?_
   refine Af (Bi _ _ []) 0 8 Az rfl rfl ?_
   refine Ak ?_
   refine Ai fun B=>?_
   refine A4 ?_
   obtain rfl:=oi_ D
   exact A3 [] ⟨rfl,rfl⟩
  ·refine Ao ?_
   repeat first | refine Cw ?_ | refine Cy ?_
   refine A6 0 32 Az ?_
   refine Bj rfl rfl (As Hp z5 (by decide) rfl rfl rfl rfl fR (cs:=[]) .nil rfl (l:=([]:List UInt8)) (f:=e8) rfl) rfl rfl ?_
   refine Ak ?_
   obtain⟨l,hl,D⟩:=Ae D
   refine Ff (rd:=[0]) rfl rfl (Dg Hp B5 .row rfl .sl rfl hl rfl) rfl rfl ?_
   refine Ak ?_
   refine Ai fun B=>?_
   refine A4 ?_
   obtain rfl:=oi_ D
   exact A3 [] ⟨rfl,rfl⟩
theorem lS (rec:(List UInt8)->Option (Aa×Int×Bool)) (hrec:∀ (b:(List UInt8)) (r:Aa×Int×Bool),rec b=some r->Fn Tryz.prog 99 0 [.sl 1 (An e8 b)] [] (fun d' b'=>d'=.tup [.agg (Aa.dv r.1),vj r.2.1,.val (.bool r.2.2)]/\b'=[])) (b:(List UInt8)) (r:(List Aa)×Bool) (D:F0 rec b=some r):Fn Tryz.prog 141 0 [.sl 1 (An e8 b)] [] (fun d' b'=>d'=.tup [.sl 4 (An Aa.enc r.1),.val (.bool r.2)]/\b'=[]):=by
 unfold F0 at D
 refine Fn.of Tryz.func141 rfl rfl rfl fun w0 I ρ0=>?_
 show Ca _ ⟨w0,I,ρ0,0,0,31⟩ _ _ _
 refine A6 0 16 Az ?_
 refine Ak ?_
 refine Ai fun B=>?_
 refine A6 16 24 B ?_
 refine Ak ?_
 refine Ai fun B=>?_
 refine Ah ?_
 refine A6 24 32 B ?_
 refine Ak ?_
 refine Ai fun B=>?_
 refine Au ?_
 refine Lu (fun ((at_1,out_1):Int×List Aa)=>mk [(0,.sl 1 (An e8 b)),(4,.row 0),(5,vj at_1)] [(0,.row 50 4 (An Aa.enc out_1))] 1) D (Ay []) ?_
 rintro⟨at_1,out_1⟩ m1 o1 D hn1
 replace D:F0.l1 rec b at_1 out_1=some o1:=D
 show Ca _ _ _ _ (mk _ _ _)
 unfold F0.l1 at D
 refine Ah ?_
 refine A6 1 33 Az ?_
 refine Ak ?_
 refine Ai fun B=>?_
 refine Dh rfl D (fun h5 D=>?_) fun h5 D=>?_
 ·refine Ao ?_
  repeat first | refine Cw ?_ | refine Cy ?_
  refine Au ?_
  refine A6 33 129 B ?_
  refine Ak ?_
  obtain⟨l,hl,D⟩:=Ae D
  refine Bj rfl rfl (Q5 Hp B5 hl) rfl rfl ?_
  obtain⟨y,hy,D⟩:=Ae D
  refine Ek (hrec _ _ hy) ?_
  refine Ak ?_
  refine Ai fun B=>?_
  refine Ah ?_
  refine A6 129 145 B ?_
  refine Ak ?_
  refine Ai fun B=>?_
  refine Dh rfl D (fun h8 D=>?_) fun h8 D=>?_
  ·refine Ah ?_
   refine Af (Bi _ _ []) 145 161 B rfl rfl ?_
   refine Ak ?_
   refine Ai fun B=>?_
   refine A4 ?_
   replace D:=C5 D hn1
   obtain rfl:=oi_ D
   exact A3 [] ⟨rfl,rfl⟩
  ·refine Ao ?_
   repeat first | refine Cw ?_ | refine Cy ?_
   refine Af (Bi _ _ []) 145 217 B rfl rfl ?_
   refine Ak ?_
   refine Bj rfl rfl (As Jz Pq (by decide) rfl rfl rfl rfl Si (cs:=[.int .i64 y.1.Tag,.sl 1 (An e8 y.1.Bytes),.bool y.1.Nested,.sl 4 (An Aa.enc y.1.Elements)]) (.cons .int (.cons .sl (.cons .bool (.cons .sl .nil)))) rfl (l:=([y.1]:List Aa)) (f:=Aa.enc) (by simp only [An,aFe,aFo,Aa.enc_eq]; rfl)) rfl rfl ?_
   obtain⟨l_2,hl_2,D⟩:=Ae D
   refine Ff (rd:=[0,161]) rfl rfl (Dg Jz Aa.enc_len .row rfl .row rfl hl_2 rfl) rfl rfl ?_
   refine Ak ?_
   refine Ai fun B=>?_
   obtain rfl:=oi_ D
   exact⟨((W (at_1 + y.2.1),l_2),m1),aDn _,hn1,Ay [(0,169)]⟩
 ·refine B8 ?_
  repeat first | refine Cw ?_ | refine Cy ?_
  replace D:=C5 D hn1
  refine A6 33 57 B ?_
  refine Ak ?_
  refine Ai fun B=>?_
  refine A4 ?_
  obtain rfl:=oi_ D
  exact A3 [] ⟨rfl,rfl⟩
theorem Ry.F (rec:(List UInt8)->Option (Aa×Int×Bool)) (hrec:∀ (b:(List UInt8)) (r:Aa×Int×Bool),rec b=some r->Fn Tryz.prog 99 0 [.sl 1 (An e8 b)] [] (fun d' b'=>d'=.tup [.agg (Aa.dv r.1),vj r.2.1,.val (.bool r.2.2)]/\b'=[])) (b:(List UInt8)) (r:Aa×Int×Bool) (D:Ci.F rec b=some r):Fn Tryz.prog 99 0 [.sl 1 (An e8 b)] [] (fun d' b'=>d'=.tup [.agg (Aa.dv r.1),vj r.2.1,.val (.bool r.2.2)]/\b'=[]):=by
 unfold Ci.F at D
 refine Fn.of Tryz.func99 rfl rfl rfl fun w0 I ρ0=>?_
 show Ca _ ⟨w0,I,ρ0,0,0,83⟩ _ _ _
 refine A6 0 24 Az ?_
 refine Ak ?_
 refine Ai fun B=>?_
 refine Ah ?_
 refine Bm (ι:=Bool) (fun (x20_1:Bool)=>mk [(0,.sl 1 (An e8 b)),(2,.ptr 0 0),(20,.val (.bool x20_1))] [(0,.box [.val (.int .i64 0),.val (.slice none 0 0),.val (.bool false),.val (.slice none 0 0)] 50)] 1) (fun (x20_1:Bool)=>Ci.j1 rec b x20_1=some r) ?_ ?_
 ·refine Af (Bi _ _ []) 24 112 B rfl rfl ?_
  refine Ak ?_
  rcases Eb D with ⟨h2,D⟩ | ⟨h2,D⟩
  ·refine Ak ?_
   refine Ai fun B=>?_
   exact⟨true,D,Ay [(0,0)]⟩
  ·refine Ak ?_
   obtain⟨e,he,D⟩:=Ae D
   refine Ak ?_
   refine Bj (Cj rfl rfl h2) rfl (Bl N8 (Bf B5 (Aq he) (o:=0) (c:=.int .u8 (e.toNat:Int)) rfl rfl)) rfl rfl ?_
   refine Bj (Cj rfl rfl h2) rfl (Hx (u:=e) Ku M9) rfl rfl ?_
   obtain⟨y,hy,D⟩:=Ae D
   refine Ek (Z3 _ _ hy) ?_
   refine Ak ?_
   refine Ai fun B=>?_
   exact⟨!y,D,Ay [(0,0)]⟩
 ·rintro x20_1 D
  replace D:Ci.j1 rec b x20_1=some r:=D
  show Ca _ _ _ _ (mk _ _ _)
  unfold Ci.j1 at D
  refine Dh rfl D (fun h5 D=>?_) fun h5 D=>?_
  ·refine Ah ?_
   refine Af (Bi _ _ []) 1 33 Az rfl rfl ?_
   refine Bj rfl rfl (.build (r:=[.val (.int .i64 0),.val (.slice none 0 0),.val (.bool false),.val (.slice none 0 0)]) Io Nc Pq (by kernel_rfl) rfl) rfl rfl ?_
   refine Ak ?_
   refine Ai fun B=>?_
   refine A4 ?_
   obtain rfl:=oi_ D
   exact A3 [] ⟨rfl,rfl⟩
  ·refine Ao ?_
   repeat first | refine Cw ?_ | refine Cy ?_
   refine A6 1 81 Az ?_
   refine Ak ?_
   obtain⟨l,hl,D⟩:=Ae D
   refine Bj rfl rfl (Q5 Hp B5 hl) rfl rfl ?_
   obtain⟨y_2,hy_2,D⟩:=Ae D
   refine Ek (jM _ _ hy_2) ?_
   refine Ak ?_
   refine Ai fun B=>?_
   refine A6 81 105 B ?_
   refine Ak ?_
   refine Ai fun B=>?_
   refine Bm (ι:=Bool) (fun (x40_2:Bool)=>mk [(0,.sl 1 (An e8 b)),(2,.ptr 0 0),(5,vj y_2.1),(8,.val (.int .i64 (W (1 + y_2.2.1)))),(40,.val (.bool x40_2))] [(0,.box [.val (.int .i64 0),.val (.slice none 0 0),.val (.bool false),.val (.slice none 0 0)] 50)] 1) (fun (x40_2:Bool)=>Ci.j2 rec b y_2 x40_2=some r) ?_ ?_
   ·refine Af (Bi _ _ []) 105 185 B rfl rfl ?_
    refine Ak ?_
    rcases Eb D with ⟨h9,D⟩ | ⟨h9,D⟩
    ·refine Ak ?_
     refine Ai fun B=>?_
     exact⟨true,D,Ay [(0,0)]⟩
    ·refine Ak ?_
     refine Ai fun B=>?_
     exact⟨decide ((W ((b.length:Int) - (W (1 + y_2.2.1)))) < y_2.1),D,Ay [(0,0)]⟩
   ·rintro x40_2 D
    replace D:Ci.j2 rec b y_2 x40_2=some r:=D
    show Ca _ _ _ _ (mk _ _ _)
    unfold Ci.j2 at D
    refine Dh rfl D (fun h12 D=>?_) fun h12 D=>?_
    ·refine Ah ?_
     refine Af (Bi _ _ []) 1 33 Az rfl rfl ?_
     refine Bj rfl rfl (.build (r:=[.val (.int .i64 0),.val (.slice none 0 0),.val (.bool false),.val (.slice none 0 0)]) Io Nc Pq (by kernel_rfl) rfl) rfl rfl ?_
     refine Ak ?_
     refine Ai fun B=>?_
     refine A4 ?_
     obtain rfl:=oi_ D
     exact A3 [] ⟨rfl,rfl⟩
    ·refine Ah ?_
     refine Cs (Bi _ _ []) (by kernel_rfl) [0,1,3,7,0,16,48,112,240,496,1023,0,4095] 1 105 Az rfl rfl (by kernel_rfl) ?_
     refine Ak ?_
     obtain⟨e_2,he_2,D⟩:=Ae D
     refine Ak ?_
     refine Bj rfl rfl (Bl N8 (Bf B5 (Aq he_2) (o:=0) (c:=.int .u8 (e_2.toNat:Int)) rfl rfl)) rfl rfl ?_
     refine Bj rfl rfl (Hx (u:=e_2) Ku M9) rfl rfl ?_
     refine Ak ?_
     refine Bj rfl rfl (Bl N8 (Bf B5 (Aq he_2) (o:=0) (c:=.int .u8 (e_2.toNat:Int)) rfl rfl)) rfl rfl ?_
     refine Bj rfl rfl (Hx (u:=e_2) Ku M9) rfl rfl ?_
     refine Bj rfl rfl jP rfl rfl ?_
     refine Ak ?_
     refine Bj rfl rfl (.build (r:=[.val (.int .i64 (e_2.toNat:Int)),.val (.slice none 0 0),.val (.bool (!decide ((Xh .i64 (e_2.toNat:Int) 32)=0))),.val (.slice none 0 0)]) Io Nc Pq (by kernel_rfl) rfl) rfl rfl ?_
     refine Ak ?_
     refine Ai fun B=>?_
     refine A6 105 121 B ?_
     refine Ak ?_
     refine Ai fun B=>?_
     refine Dh rfl D (fun h16 D=>?_) fun h16 D=>?_
     ·refine Ah ?_
      refine Af (Bi _ _ []) 121 225 B rfl rfl ?_
      refine Ak ?_
      obtain⟨l_2,hl_2,D⟩:=Ae D
      refine Bj rfl rfl (R5 Hp B5 hl_2) rfl rfl ?_
      obtain⟨y_3,hy_3,D⟩:=Ae D
      refine Ek (lS rec hrec _ _ hy_3) ?_
      refine Ak ?_
      refine Ai fun B=>?_
      refine A6 225 289 B ?_
      refine Ak ?_
      refine Ai fun B=>?_
      refine A4 ?_
      obtain rfl:=oi_ D
      exact A3 [] ⟨rfl,rfl⟩
     ·refine Ah ?_
      refine Af (Bi _ _ []) 121 193 B rfl rfl ?_
      refine Ak ?_
      obtain⟨l_3,hl_3,D⟩:=Ae D
      refine Bj rfl rfl (R5 Hp B5 hl_3) rfl rfl ?_
      obtain⟨y_4,hy_4,D⟩:=Ae D
      refine Ek (Rp _ _ hy_4) ?_
      refine Ak ?_
      refine Ai fun B=>?_
      refine A6 193 249 B ?_
      refine Ak ?_
      refine Ai fun B=>?_
      refine A4 ?_
      obtain rfl:=oi_ D
      exact A3 [] ⟨rfl,rfl⟩
theorem Ry (b:(List UInt8)) (r:Aa×Int×Bool) (D:Ci b=some r):Fn Tryz.prog 99 0 [.sl 1 (An e8 b)] [] (fun d' b'=>d'=.tup [.agg (Aa.dv r.1),vj r.2.1,.val (.bool r.2.2)]/\b'=[]):=
 Kd (motive:=fun (x:(List UInt8)) (r:Aa×Int×Bool)=>Fn Tryz.prog 99 0 [.sl 1 (An e8 x)] [] (fun d' b'=>d'=.tup [.agg (Aa.dv r.1),vj r.2.1,.val (.bool r.2.2)]/\b'=[])) (fun rec hrec x r h=>Ry.F _ (fun b r h=>hrec b r h) x r h) b r D
theorem Pz.F (rec:Aa->Option (Int)) (hrec:∀ (v:Aa) (r:Int),rec v=some r->Fn Tryz.prog 76 0 [.agg (Aa.dv v)] [] (fun d' b'=>d'=vj r/\b'=[])) (v:Aa) (r:Int) (D:Di.F rec v=some r):Fn Tryz.prog 76 0 [.agg (Aa.dv v)] [] (fun d' b'=>d'=vj r/\b'=[]):=by
 unfold Di.F at D
 refine Fn.of Tryz.func76 rfl rfl rfl fun w0 I ρ0=>?_
 show Ca _ ⟨w0,I,ρ0,0,0,20⟩ _ _ _
 refine A6 0 16 Az ?_
 refine Ak ?_
 refine Ai fun B=>?_
 refine A6 16 24 B ?_
 refine Ak ?_
 refine Ai fun B=>?_
 refine Ah ?_
 refine A6 24 56 B ?_
 refine Ak ?_
 refine Ai fun B=>?_
 refine Au ?_
 refine Lu (fun ((most_1,x9_1):Int×Int)=>mk [(3,vj most_1),(7,.sl 4 (An Aa.enc v.Elements)),(8,.val (.int .i64 (v.Elements.length:Int))),(9,vj x9_1)] [] 0) D (Ay []) ?_
 rintro⟨most_1,x9_1⟩ m1 o1 D hn1
 replace D:Di.l1 rec v most_1 x9_1=some o1:=D
 show Ca _ _ _ _ (mk _ _ _)
 unfold Di.l1 at D
 refine A6 0 8 Az ?_
 refine Ak ?_
 refine Ai fun B=>?_
 refine Ah ?_
 refine Dh rfl D (fun h5 D=>?_) fun h5 D=>?_
 ·refine Ao ?_
  repeat first | refine Cw ?_ | refine Cy ?_
  refine Ah ?_
  refine Au ?_
  refine A6 8 40 B ?_
  obtain⟨e,he,D⟩:=Ae D
  refine Ak ?_
  refine Bj rfl rfl (Dx Nb (Cm Aa.enc_len (Aq he) (o:=0) (m:=4) (cs:=[.int .i64 e.Tag,.sl 1 (An e8 e.Bytes),.bool e.Nested,.sl 4 (An Aa.enc e.Elements)]) (by simp only [Aa.enc_eq]; rfl) (by decide) rfl) (Bn Aa.enc_len (Aq he) (o:=0) (m:=4) (by decide) rfl)) rfl rfl ?_
  refine Ak ?_
  refine Ai fun B=>?_
  refine Af (Bi _ _ []) 40 80 B rfl rfl ?_
  refine Ak ?_
  obtain⟨y,hy,D⟩:=Ae D
  refine Ek (hrec _ _ hy) ?_
  refine Bj rfl rfl wO rfl rfl ?_
  refine Ak ?_
  refine Ai fun B=>?_
  refine Af (Bi _ _ []) 80 96 B rfl rfl ?_
  refine Ak ?_
  refine Ai fun B=>?_
  obtain rfl:=oi_ D
  exact⟨((max most_1 y,W (x9_1 + 1)),m1),aDn _,hn1,Ay []⟩
 ·refine B8 ?_
  repeat first | refine Cw ?_ | refine Cy ?_
  replace D:=C5 D hn1
  refine A6 8 32 B ?_
  refine Ak ?_
  refine Ai fun B=>?_
  refine A4 ?_
  obtain rfl:=oi_ D
  exact A3 [] ⟨rfl,rfl⟩
theorem Pz (v:Aa) (r:Int) (D:Di v=some r):Fn Tryz.prog 76 0 [.agg (Aa.dv v)] [] (fun d' b'=>d'=vj r/\b'=[]):=
 Kd (motive:=fun (x:Aa) (r:Int)=>Fn Tryz.prog 76 0 [.agg (Aa.dv x)] [] (fun d' b'=>d'=vj r/\b'=[])) (fun rec hrec x r h=>Pz.F _ (fun v r h=>hrec v r h) x r h) v r D
theorem bV (b:(List UInt8)) (r:Aa×Int) (D:Fy b=some r):Fn Tryz.prog 55 0 [.sl 1 (An e8 b)] [] (fun d' b'=>d'=.tup [.agg (Aa.dv r.1),vj r.2]/\b'=[]):=by
 unfold Fy at D
 refine Fn.of Tryz.func55 rfl rfl rfl fun w0 I ρ0=>?_
 show Ca _ ⟨w0,I,ρ0,0,0,31⟩ _ _ _
 refine A6 0 16 Az ?_
 refine Ak ?_
 refine Ai fun B=>?_
 refine Ah ?_
 refine A6 16 40 B ?_
 refine Ak ?_
 refine Ai fun B=>?_
 refine Dh rfl D (fun h3 D=>?_) fun h3 D=>?_
 ·refine Ah ?_
  refine Af (Bi _ _ []) 40 64 B rfl rfl ?_
  refine Bj rfl rfl (.build (r:=[.val (.int .i64 0),.val (.slice none 0 0),.val (.bool false),.val (.slice none 0 0)]) Io Nc Pq (by kernel_rfl) rfl) rfl rfl ?_
  refine Ak ?_
  refine Ai fun B=>?_
  refine A4 ?_
  obtain rfl:=oi_ D
  exact A3 [] ⟨rfl,rfl⟩
 ·refine Ao ?_
  repeat first | refine Cw ?_ | refine Cy ?_
  refine A6 40 120 B ?_
  refine Ak ?_
  obtain⟨y,hy,D⟩:=Ae D
  refine Ek (Ry _ _ hy) ?_
  refine Ak ?_
  refine Ai fun B=>?_
  refine Ah ?_
  refine Bm (ι:=Bool) (fun (x24_1:Bool)=>mk [(2,.ptr 0 0),(4,.ptr 1 0),(24,.val (.bool x24_1))] [(0,.box [.val (.int .i64 0),.val (.slice none 0 0),.val (.bool false),.val (.slice none 0 0)] 50),(1,.box (Aa.dv y.1) 50)] 2) (fun (x24_1:Bool)=>Fy.j1 y x24_1=some r) ?_ ?_
  ·refine Af (Bi _ _ []) 120 184 B rfl rfl ?_
   refine Ak ?_
   rcases Eb D with ⟨h6,D⟩ | ⟨h6,D⟩
   ·refine Ak ?_
    refine Ai fun B=>?_
    exact⟨true,D,Ay [(0,0),(1,88)]⟩
   ·refine Ak ?_
    refine Ai fun B=>?_
    exact⟨!decide (y.2.1=(b.length:Int)),D,Ay [(0,0),(1,88)]⟩
  ·rintro x24_1 D
   replace D:Fy.j1 y x24_1=some r:=D
   show Ca _ _ _ _ (mk _ _ _)
   unfold Fy.j1 at D
   refine Dh rfl D (fun h9 D=>?_) fun h9 D=>?_
   ·refine Ah ?_
    refine Af (Bi _ _ []) 2 26 Az rfl rfl ?_
    refine Bj rfl rfl (.build (r:=[.val (.int .i64 0),.val (.slice none 0 0),.val (.bool false),.val (.slice none 0 0)]) Io Nc Pq (by kernel_rfl) rfl) rfl rfl ?_
    refine Ak ?_
    refine Ai fun B=>?_
    refine A4 ?_
    obtain rfl:=oi_ D
    exact A3 [] ⟨rfl,rfl⟩
   ·refine Ao ?_
    repeat first | refine Cw ?_ | refine Cy ?_
    refine Ah ?_
    refine A6 2 26 Az ?_
    refine Ak ?_
    obtain⟨y_2,hy_2,D⟩:=Ae D
    refine Ek (Pz _ _ hy_2) ?_
    refine Ak ?_
    refine Ai fun B=>?_
    refine Dh rfl D (fun h12 D=>?_) fun h12 D=>?_
    ·refine Ah ?_
     refine Af (Bi _ _ []) 26 50 B rfl rfl ?_
     refine Bj rfl rfl (.build (r:=[.val (.int .i64 0),.val (.slice none 0 0),.val (.bool false),.val (.slice none 0 0)]) Io Nc Pq (by kernel_rfl) rfl) rfl rfl ?_
     refine Ak ?_
     refine Ai fun B=>?_
     refine A4 ?_
     obtain rfl:=oi_ D
     exact A3 [] ⟨rfl,rfl⟩
    ·refine Ao ?_
     repeat first | refine Cw ?_ | refine Cy ?_
     refine A6 26 50 B ?_
     refine Ak ?_
     refine Ai fun B=>?_
     refine A4 ?_
     obtain rfl:=oi_ D
     exact A3 [] ⟨rfl,rfl⟩
theorem Wa (rec:Aa->Option (Bool)) (hrec:∀ (v:Aa) (r:Bool),rec v=some r->Fn Tryz.prog 75 0 [.agg (Aa.dv v)] [] (fun d' b'=>d'=.val (.bool r)/\b'=[])) (x':Aa) (r:Bool) (D:Fw rec x'=some r):Fn Tryz.prog 118 0 [.agg (Aa.dv x')] [] (fun d' b'=>d'=.val (.bool r)/\b'=[]):=by
 unfold Fw at D
 refine Fn.of Tryz.func118 rfl rfl rfl fun w0 I ρ0=>?_
 show Ca _ ⟨w0,I,ρ0,0,0,6⟩ _ _ _
 refine A6 0 16 Az ?_
 refine Ak ?_
 refine Ai fun B=>?_
 refine A6 16 48 B ?_
 refine Ak ?_
 obtain⟨y,hy,D⟩:=Ae D
 refine Ek (hrec _ _ hy) ?_
 refine Ak ?_
 refine Ai fun B=>?_
 refine A4 ?_
 obtain rfl:=oi_ D
 exact A3 [] ⟨rfl,rfl⟩
theorem Jk (rec:Aa->Option (Bool)) (hrec:∀ (v:Aa) (r:Bool),rec v=some r->Fn Tryz.prog 75 0 [.agg (Aa.dv v)] [] (fun d' b'=>d'=.val (.bool r)/\b'=[])) (s:(List Aa)) (f:Aa->Option (Bool)) (hf_f:∀ (x0:Aa) (y:Bool),f x0=some y->Fn Tryz.prog 118 0 [.agg (Aa.dv x0)] [] (fun d' b'=>d'=.val (.bool y)/\b'=[])) (r:Int) (D:Bg rec s f=some r):Fn Tryz.prog 156 0 [.sl 4 (An Aa.enc s),.clo 118 0 []] [] (fun d' b'=>d'=vj r/\b'=[]):=by
 unfold Bg at D
 refine Fn.of Tryz.func156 rfl rfl rfl fun w0 I ρ0=>?_
 show Ca _ ⟨w0,I,ρ0,0,0,19⟩ _ _ _
 refine A6 0 8 Az ?_
 refine Ak ?_
 refine Ai fun B=>?_
 refine Ah ?_
 refine A6 8 32 B ?_
 refine Ak ?_
 refine Ai fun B=>?_
 refine Au ?_
 refine Lu (fun (x8_1:Int)=>mk [(0,.sl 4 (An Aa.enc s)),(1,.clo 118 0 []),(7,.val (.int .i64 (s.length:Int))),(8,vj x8_1)] [] 0) D (Ay []) ?_
 rintro x8_1 m1 o1 D hn1
 replace D:Bg.l1 s f x8_1=some o1:=D
 show Ca _ _ _ _ (mk _ _ _)
 unfold Bg.l1 at D
 refine A6 0 8 Az ?_
 refine Ak ?_
 refine Ai fun B=>?_
 refine Ah ?_
 refine Dh rfl D (fun h4 D=>?_) fun h4 D=>?_
 ·refine Ao ?_
  repeat first | refine Cw ?_ | refine Cy ?_
  refine Ah ?_
  refine Au ?_
  refine A6 8 24 B ?_
  refine Ak ?_
  refine Ai fun B=>?_
  refine A6 24 72 B ?_
  refine Ak ?_
  obtain⟨e,he,D⟩:=Ae D
  refine Ak ?_
  refine Bj rfl rfl (Dx Nb (Cm Aa.enc_len (Aq he) (o:=0) (m:=4) (cs:=[.int .i64 e.Tag,.sl 1 (An e8 e.Bytes),.bool e.Nested,.sl 4 (An Aa.enc e.Elements)]) (by simp only [Aa.enc_eq]; rfl) (by decide) rfl) (Bn Aa.enc_len (Aq he) (o:=0) (m:=4) (by decide) rfl)) rfl rfl ?_
  obtain⟨y,hy,D⟩:=Ae D
  refine Qz (rd:=[]) (ps:=[]) (gs:=[]) false rfl rfl (hf_f e _ hy) rfl rfl (.cons (.agg (.cons .val (.cons .sl (.cons .val (.cons .sl .nil))))) .nil) rfl rfl (by intro h; cases h) rfl rfl rfl rfl ?_
  refine Ai fun B=>?_
  refine Dh rfl D (fun h7 D=>?_) fun h7 D=>?_
  ·refine Ah ?_
   refine Af (Bi _ _ []) 72 88 B rfl rfl ?_
   refine Ak ?_
   refine Ai fun B=>?_
   refine A4 ?_
   replace D:=C5 D hn1
   obtain rfl:=oi_ D
   exact A3 [] ⟨rfl,rfl⟩
  ·refine Ao ?_
   repeat first | refine Cw ?_ | refine Cy ?_
   refine Af (Bi _ _ []) 72 88 B rfl rfl ?_
   refine Ak ?_
   refine Ai fun B=>?_
   obtain rfl:=oi_ D
   exact⟨(W (x8_1 + 1),m1),aDn _,hn1,Ay []⟩
 ·refine B8 ?_
  repeat first | refine Cw ?_ | refine Cy ?_
  replace D:=C5 D hn1
  refine A6 8 16 B ?_
  refine Ak ?_
  refine Ai fun B=>?_
  refine A4 ?_
  obtain rfl:=oi_ D
  exact A3 [] ⟨rfl,rfl⟩
theorem Is (rec:Aa->Option (Bool)) (hrec:∀ (v:Aa) (r:Bool),rec v=some r->Fn Tryz.prog 75 0 [.agg (Aa.dv v)] [] (fun d' b'=>d'=.val (.bool r)/\b'=[])) (s:(List Aa)) (f:Aa->Option (Bool)) (hf_f:∀ (x0:Aa) (y:Bool),f x0=some y->Fn Tryz.prog 118 0 [.agg (Aa.dv x0)] [] (fun d' b'=>d'=.val (.bool y)/\b'=[])) (r:Bool) (D:De rec s f=some r):Fn Tryz.prog 117 0 [.sl 4 (An Aa.enc s),.clo 118 0 []] [] (fun d' b'=>d'=.val (.bool r)/\b'=[]):=by
 unfold De at D
 refine Fn.of Tryz.func117 rfl rfl rfl fun w0 I ρ0=>?_
 show Ca _ ⟨w0,I,ρ0,0,0,9⟩ _ _ _
 refine A6 0 8 Az ?_
 refine Ak ?_
 refine Ai fun B=>?_
 refine A6 8 48 B ?_
 refine Ak ?_
 obtain⟨y,hy,D⟩:=Ae D
 refine Ek (Jk rec hrec s f hf_f _ hy) ?_
 refine Ak ?_
 refine Ai fun B=>?_
 refine A4 ?_
 obtain rfl:=oi_ D
 exact A3 [] ⟨rfl,rfl⟩
theorem Pe.F (rec:Aa->Option (Bool)) (hrec:∀ (v:Aa) (r:Bool),rec v=some r->Fn Tryz.prog 75 0 [.agg (Aa.dv v)] [] (fun d' b'=>d'=.val (.bool r)/\b'=[])) (v:Aa) (r:Bool) (D:Ch.F rec v=some r):Fn Tryz.prog 75 0 [.agg (Aa.dv v)] [] (fun d' b'=>d'=.val (.bool r)/\b'=[]):=by
 unfold Ch.F at D
 refine Fn.of Tryz.func75 rfl rfl rfl fun w0 I ρ0=>?_
 show Ca _ ⟨w0,I,ρ0,0,0,41⟩ _ _ _
 refine A6 0 16 Az ?_
 refine Ak ?_
 refine Ai fun B=>?_
 refine Ah ?_
 refine Bm (ι:=Bool) (fun (x36_1:Bool)=>mk [(1,.ptr 0 0),(36,.val (.bool x36_1))] [(0,.box (Aa.dv v) 50)] 1) (fun (x36_1:Bool)=>Ch.j1 rec v x36_1=some r) ?_ ?_
 ·refine Af (Bi _ _ []) 16 288 B rfl rfl ?_
  refine Ak ?_
  obtain⟨y,hy,D⟩:=Ae D
  refine Ek (Z3 _ _ hy) ?_
  refine Ak ?_
  rcases Eb D with ⟨h2,D⟩ | ⟨h2,D⟩
  ·refine Ak ?_
   refine Ai fun B=>?_
   exact⟨true,D,Ay [(0,0)]⟩
  ·refine Ak ?_
   refine Bj (Cj rfl rfl h2) rfl jP rfl rfl ?_
   refine Ak ?_
   refine Bj (Cj rfl rfl h2) rfl (iU uU) rfl rfl ?_
   refine Ak ?_
   rcases Eb D with ⟨h4,D⟩ | ⟨h4,D⟩
   ·refine Ak ?_
    refine Ai fun B=>?_
    exact⟨true,D,Ay [(0,0)]⟩
   ·refine Ak ?_
    rcases Eb D with ⟨h6,D⟩ | ⟨h6,D⟩
    ·refine Ak ?_
     rcases Eb D with ⟨h7,D⟩ | ⟨h7,D⟩
     ·refine Ak ?_
      refine Ai fun B=>?_
      exact⟨true,D,Ay [(0,0)]⟩
     ·refine Ak ?_
      refine Ai fun B=>?_
      exact⟨false,D,Ay [(0,0)]⟩
    ·refine Ak ?_
     refine Ai fun B=>?_
     exact⟨decide (0 < (v.Elements.length:Int)),D,Ay [(0,0)]⟩
 ·rintro x36_1 D
  replace D:Ch.j1 rec v x36_1=some r:=D
  show Ca _ _ _ _ (mk _ _ _)
  unfold Ch.j1 at D
  refine Dh rfl D (fun h11 D=>?_) fun h11 D=>?_
  ·refine Ah ?_
   refine Af (Bi _ _ []) 1 9 Az rfl rfl ?_
   refine Ak ?_
   refine Ai fun B=>?_
   refine A4 ?_
   obtain rfl:=oi_ D
   exact A3 [] ⟨rfl,rfl⟩
  ·refine Ao ?_
   repeat first | refine Cw ?_ | refine Cy ?_
   refine A6 1 41 Az ?_
   refine Ak ?_
   obtain⟨y_2,hy_2,D⟩:=Ae D
   refine Ek (Is rec hrec v.Elements (fun x0=>Fw rec x0) (fun x0 yy hh=>Wa rec hrec x0 yy hh) _ hy_2) ?_
   refine Ak ?_
   refine Ai fun B=>?_
   refine A4 ?_
   obtain rfl:=oi_ D
   exact A3 [] ⟨rfl,rfl⟩
theorem Pe (v:Aa) (r:Bool) (D:Ch v=some r):Fn Tryz.prog 75 0 [.agg (Aa.dv v)] [] (fun d' b'=>d'=.val (.bool r)/\b'=[]):=
 Kd (motive:=fun (x:Aa) (r:Bool)=>Fn Tryz.prog 75 0 [.agg (Aa.dv x)] [] (fun d' b'=>d'=.val (.bool r)/\b'=[])) (fun rec hrec x r h=>Pe.F _ (fun v r h=>hrec v r h) x r h) v r D
theorem Oq.F (rec:(List Aa)->Option ((List Aa))) (hrec:∀ (l:(List Aa)) (r:(List Aa)),rec l=some r->Fn Tryz.prog 100 0 [.sl 4 (An Aa.enc l)] [] (fun d' b'=>d'=.sl 4 (An Aa.enc r)/\b'=[])) (l:(List Aa)) (r:(List Aa)) (D:Cz.F rec l=some r):Fn Tryz.prog 100 0 [.sl 4 (An Aa.enc l)] [] (fun d' b'=>d'=.sl 4 (An Aa.enc r)/\b'=[]):=by
 unfold Cz.F at D
 refine Fn.of Tryz.func100 rfl rfl rfl fun w0 I ρ0=>?_
 show Ca _ ⟨w0,I,ρ0,0,0,26⟩ _ _ _
 refine A6 0 8 Az ?_
 refine Ak ?_
 refine Ai fun B=>?_
 refine A6 8 16 B ?_
 refine Ak ?_
 refine Ai fun B=>?_
 refine Ah ?_
 refine A6 16 40 B ?_
 refine Ak ?_
 refine Ai fun B=>?_
 refine Au ?_
 refine Lu (fun ((x8_1,out_1):Int×List Aa)=>mk [(3,.row 0),(6,.sl 4 (An Aa.enc l)),(7,.val (.int .i64 (l.length:Int))),(8,vj x8_1)] [(0,.row 50 4 (An Aa.enc out_1))] 1) D (Ay []) ?_
 rintro⟨x8_1,out_1⟩ m1 o1 D hn1
 replace D:Cz.l1 rec l x8_1 out_1=some o1:=D
 show Ca _ _ _ _ (mk _ _ _)
 unfold Cz.l1 at D
 refine A6 1 9 Az ?_
 refine Ak ?_
 refine Ai fun B=>?_
 refine Ah ?_
 refine Dh rfl D (fun h5 D=>?_) fun h5 D=>?_
 ·refine Ao ?_
  repeat first | refine Cw ?_ | refine Cy ?_
  refine Ah ?_
  refine Au ?_
  refine A6 9 41 B ?_
  obtain⟨e,he,D⟩:=Ae D
  refine Ak ?_
  refine Bj rfl rfl (Dx Nb (Cm Aa.enc_len (Aq he) (o:=0) (m:=4) (cs:=[.int .i64 e.Tag,.sl 1 (An e8 e.Bytes),.bool e.Nested,.sl 4 (An Aa.enc e.Elements)]) (by simp only [Aa.enc_eq]; rfl) (by decide) rfl) (Bn Aa.enc_len (Aq he) (o:=0) (m:=4) (by decide) rfl)) rfl rfl ?_
  refine Ak ?_
  refine Ai fun B=>?_
  refine Ah ?_
  refine Cs (Bi _ _ []) (by kernel_rfl) [0,1,3,0,8,31,31,127,255,511] 41 121 B rfl rfl (by kernel_rfl) ?_
  refine Ak ?_
  obtain⟨y,hy,D⟩:=Ae D
  refine Ek (Rp _ _ hy) ?_
  refine Ak ?_
  obtain⟨y_2,hy_2,D⟩:=Ae D
  refine Ek (hrec _ _ hy_2) ?_
  refine Ak ?_
  refine Ai fun B=>?_
  refine Af (Bi _ _ []) 121 161 B rfl rfl ?_
  refine Ak ?_
  refine Bj rfl rfl (As Jz Pq (by decide) rfl rfl rfl rfl Si (cs:=[.int .i64 e.Tag,.sl 1 (An e8 y),.bool e.Nested,.sl 4 (An Aa.enc y_2)]) (.cons .int (.cons .sl (.cons .bool (.cons .sl .nil)))) rfl (l:=([(Aa.mk e.Tag y e.Nested y_2)]:List Aa)) (f:=Aa.enc) (by simp only [An,aFe,aFo,Aa.enc_eq]; rfl)) rfl rfl ?_
  obtain⟨l_2,hl_2,D⟩:=Ae D
  refine Ff (rd:=[0,137]) rfl rfl (Dg Jz Aa.enc_len .row rfl .row rfl hl_2 rfl) rfl rfl ?_
  refine Ak ?_
  refine Ai fun B=>?_
  refine Af (Bi _ _ []) 161 177 B rfl rfl ?_
  refine Ak ?_
  refine Ai fun B=>?_
  obtain rfl:=oi_ D
  exact⟨((W (x8_1 + 1),l_2),m1),aDn _,hn1,Ay [(0,145)]⟩
 ·refine B8 ?_
  repeat first | refine Cw ?_ | refine Cy ?_
  replace D:=C5 D hn1
  refine A6 9 25 B ?_
  refine Ak ?_
  refine Ai fun B=>?_
  refine A4 ?_
  obtain rfl:=oi_ D
  exact A3 [] ⟨rfl,rfl⟩
theorem Oq (l:(List Aa)) (r:(List Aa)) (D:Cz l=some r):Fn Tryz.prog 100 0 [.sl 4 (An Aa.enc l)] [] (fun d' b'=>d'=.sl 4 (An Aa.enc r)/\b'=[]):=
 Kd (motive:=fun (x:(List Aa)) (r:(List Aa))=>Fn Tryz.prog 100 0 [.sl 4 (An Aa.enc x)] [] (fun d' b'=>d'=.sl 4 (An Aa.enc r)/\b'=[])) (fun rec hrec x r h=>Oq.F _ (fun l r h=>hrec l r h) x r h) l r D
theorem Pc (v:Aa) (r:(List Aa)×Int) (D:En v=some r):Fn Tryz.prog 56 0 [.agg (Aa.dv v)] [] (fun d' b'=>d'=.tup [.sl 4 (An Aa.enc r.1),vj r.2]/\b'=[]):=by
 unfold En at D
 refine Fn.of Tryz.func56 rfl rfl rfl fun w0 I ρ0=>?_
 show Ca _ ⟨w0,I,ρ0,0,0,15⟩ _ _ _
 refine A6 0 24 Az ?_
 refine Ak ?_
 refine Ai fun B=>?_
 refine Ah ?_
 refine Bm (ι:=Bool) (fun (x11_1:Bool)=>mk [(1,.ptr 0 0),(11,.val (.bool x11_1))] [(0,.box (Aa.dv v) 50)] 1) (fun (x11_1:Bool)=>En.j1 v x11_1=some r) ?_ ?_
 ·refine Af (Bi _ _ []) 24 88 B rfl rfl ?_
  refine Ak ?_
  rcases Eb D with ⟨h2,D⟩ | ⟨h2,D⟩
  ·refine Ak ?_
   refine Ai fun B=>?_
   exact⟨true,D,Ay [(0,0)]⟩
  ·refine Ak ?_
   obtain⟨y,hy,D⟩:=Ae D
   refine Ek (Pe _ _ hy) ?_
   refine Ak ?_
   refine Ai fun B=>?_
   exact⟨!y,D,Ay [(0,0)]⟩
 ·rintro x11_1 D
  replace D:En.j1 v x11_1=some r:=D
  show Ca _ _ _ _ (mk _ _ _)
  unfold En.j1 at D
  refine Dh rfl D (fun h5 D=>?_) fun h5 D=>?_
  ·refine Ah ?_
   refine Af (Bi _ _ []) 1 17 Az rfl rfl ?_
   refine Ak ?_
   refine Ai fun B=>?_
   refine A4 ?_
   obtain rfl:=oi_ D
   exact A3 [] ⟨rfl,rfl⟩
  ·refine Ao ?_
   repeat first | refine Cw ?_ | refine Cy ?_
   refine A6 1 41 Az ?_
   refine Ak ?_
   obtain⟨y_2,hy_2,D⟩:=Ae D
   refine Ek (Oq _ _ hy_2) ?_
   refine Ak ?_
   refine Ai fun B=>?_
   refine A4 ?_
   obtain rfl:=oi_ D
   exact A3 [] ⟨rfl,rfl⟩
theorem Hl (v:Aa) (count:Int) (r:Aj) (D:Ed v count=some r):Fn Tryz.prog 101 0 [.agg (Aa.dv v),vj count] [] (fun d' b'=>d'=.ptr 0 0/\b'=[.box [.sl 4 (An Aa.enc r.l),.val (.bool r.Failed)] 131]):=by
 unfold Ed at D
 refine Fn.of Tryz.func101 rfl rfl rfl fun w0 I ρ0=>?_
 show Ca _ ⟨w0,I,ρ0,0,0,23⟩ _ _ _
 refine A6 0 16 Az ?_
 refine Ak ?_
 refine Ai fun B=>?_
 refine A6 16 72 B ?_
 refine Ak ?_
 obtain⟨y,hy,D⟩:=Ae D
 refine Ek (Pc _ _ hy) ?_
 refine Ak ?_
 refine Ai fun B=>?_
 refine A6 72 168 B ?_
 refine Ak ?_
 rcases Eb D with ⟨h3,D⟩ | ⟨h3,D⟩
 ·refine Ak ?_
  refine Bj rfl rfl (.build (r:=[.sl 4 (An Aa.enc y.1),.val (.bool true)]) cV xB zZ (by kernel_rfl) rfl) rfl rfl ?_
  refine Ak ?_
  refine Ai fun B=>?_
  refine A4 ?_
  obtain rfl:=oi_ D
  exact A3 [(0,152)] ⟨rfl,rfl⟩
 ·refine Ak ?_
  refine Bj rfl rfl (.build (r:=[.sl 4 (An Aa.enc y.1),.val (.bool (!decide ((y.1.length:Int)=count)))]) cV xB zZ (by kernel_rfl) rfl) rfl rfl ?_
  refine Ak ?_
  refine Ai fun B=>?_
  refine A4 ?_
  obtain rfl:=oi_ D
  exact A3 [(0,152)] ⟨rfl,rfl⟩
theorem D2 (r':Aj) (r:Aa×Aj) (D:Bb r'=some r):Fn Tryz.prog 144 1 [.ptr 0 0] [.box [.sl 4 (An Aa.enc r'.l),.val (.bool r'.Failed)] 131] (fun d' b'=>d'=.agg (Aa.dv r.1)/\b'=[.box [.sl 4 (An Aa.enc r.2.l),.val (.bool r.2.Failed)] 131]):=by
 unfold Bb at D
 refine Fn.of Tryz.func144 rfl rfl rfl fun w0 I ρ0=>?_
 show Ca _ ⟨w0,I,ρ0,1,1,35⟩ _ _ _
 refine A6 1 9 Az ?_
 refine Ak ?_
 refine Ai fun B=>?_
 refine Ah ?_
 refine Bm (ι:=Bool) (fun (x15_1:Bool)=>mk [(0,.ptr 0 0),(2,.ptr 1 0),(15,.val (.bool x15_1))] [(0,.box [.sl 4 (An Aa.enc r'.l),.val (.bool r'.Failed)] 131),(1,.box [.val (.int .i64 0),.val (.slice none 0 0),.val (.bool false),.val (.slice none 0 0)] 50)] 2) (fun (x15_1:Bool)=>Bb.j1 r' x15_1=some r) ?_ ?_
 ·refine Af (Bi _ _ []) 9 105 B rfl rfl ?_
  refine Ak ?_
  rcases Eb D with ⟨h2,D⟩ | ⟨h2,D⟩
  ·refine Ak ?_
   refine Ai fun B=>?_
   exact⟨true,D,Ay [(0,0),(1,1)]⟩
  ·refine Ak ?_
   refine Ai fun B=>?_
   exact⟨decide ((r'.l.length:Int)=0),D,Ay [(0,0),(1,1)]⟩
 ·rintro x15_1 D
  replace D:Bb.j1 r' x15_1=some r:=D
  show Ca _ _ _ _ (mk _ _ _)
  unfold Bb.j1 at D
  refine Dh rfl D (fun h5 D=>?_) fun h5 D=>?_
  ·refine Ah ?_
   refine Af (Bi _ _ []) 2 34 Az rfl rfl ?_
   refine Ak ?_
   refine Ai fun B=>?_
   refine A6 34 50 B ?_
   refine Bj rfl rfl (.build (r:=[.val (.int .i64 0),.val (.slice none 0 0),.val (.bool false),.val (.slice none 0 0)]) Io Nc Pq (by kernel_rfl) rfl) rfl rfl ?_
   refine Ak ?_
   refine Ai fun B=>?_
   refine A4 ?_
   obtain rfl:=oi_ D
   exact A3 [(0,0)] ⟨rfl,rfl⟩
  ·refine Ao ?_
   repeat first | refine Cw ?_ | refine Cy ?_
   refine A6 2 66 Az ?_
   refine Ak ?_
   obtain⟨e,he,D⟩:=Ae D
   refine Ak ?_
   refine Bj rfl rfl (Dx Nb (Cm Aa.enc_len (Aq he) (o:=0) (m:=4) (cs:=[.int .i64 e.Tag,.sl 1 (An e8 e.Bytes),.bool e.Nested,.sl 4 (An Aa.enc e.Elements)]) (by simp only [Aa.enc_eq]; rfl) (by decide) rfl) (Bn Aa.enc_len (Aq he) (o:=0) (m:=4) (by decide) rfl)) rfl rfl ?_
   refine Ak ?_
   refine Ai fun B=>?_
   refine A6 66 138 B ?_
   refine Ak ?_
   obtain⟨l,hl,D⟩:=Ae D
   refine Bj rfl rfl (Q5 Jz Aa.enc_len hl) rfl rfl ?_
   refine Ak ?_
   refine Ai fun B=>?_
   refine A6 138 154 B ?_
   refine Ak ?_
   refine Ai fun B=>?_
   refine A4 ?_
   obtain rfl:=oi_ D
   exact A3 [(0,0)] ⟨rfl,rfl⟩
theorem Qn (v:Aa) (tag:Int) (r:Bool) (D:Jp v tag=some r):Fn Tryz.prog 172 0 [.agg (Aa.dv v),vj tag] [] (fun d' b'=>d'=.val (.bool r)/\b'=[]):=by
 unfold Jp at D
 refine Fn.of Tryz.func172 rfl rfl rfl fun w0 I ρ0=>?_
 show Ca _ ⟨w0,I,ρ0,0,0,20⟩ _ _ _
 refine A6 0 16 Az ?_
 refine Ak ?_
 refine Ai fun B=>?_
 refine A6 16 144 B ?_
 refine Ak ?_
 rcases Eb D with ⟨h2,D⟩ | ⟨h2,D⟩
 ·refine Ak ?_
  rcases Eb D with ⟨h3,D⟩ | ⟨h3,D⟩
  ·refine Ak ?_
   refine Ai fun B=>?_
   refine A4 ?_
   obtain rfl:=oi_ D
   exact A3 [] ⟨rfl,rfl⟩
  ·refine Ak ?_
   refine Ai fun B=>?_
   refine A4 ?_
   obtain rfl:=oi_ D
   exact A3 [] ⟨rfl,rfl⟩
 ·refine Ak ?_
  refine Ai fun B=>?_
  refine A4 ?_
  obtain rfl:=oi_ D
  exact A3 [] ⟨rfl,rfl⟩
theorem V7 (x':UInt8) (r:Bool) (D:Gw x'=some r):Fn Tryz.prog 174 0 [.val (.int .u8 (x'.toNat:Int))] [] (fun d' b'=>d'=.val (.bool r)/\b'=[]):=by
 unfold Gw at D
 refine Fn.of Tryz.func174 rfl rfl rfl fun w0 I ρ0=>?_
 show Ca _ ⟨w0,I,ρ0,0,0,9⟩ _ _ _
 refine A6 0 8 Az ?_
 refine Ak ?_
 refine Ai fun B=>?_
 refine A6 8 64 B ?_
 refine Ak ?_
 rcases Eb D with ⟨h2,D⟩ | ⟨h2,D⟩
 ·refine Ak ?_
  refine Ai fun B=>?_
  refine A4 ?_
  obtain rfl:=oi_ D
  exact A3 [] ⟨rfl,rfl⟩
 ·refine Ak ?_
  refine Ai fun B=>?_
  refine A4 ?_
  obtain rfl:=oi_ D
  exact A3 [] ⟨rfl,rfl⟩
end Go.Proofs.YtfanepojdefdpaaGreat
