import Derived.Test.YtfanepojdefdpaaGreatT1
import Derived.Test.YtfanepojdefdpaaGreatA1
import Derived.Test.YtfanepojdefdpaaGreatA2
import Derived.Test.YtfanepojdefdpaaGreatA4
import Derived.Test.YtfanepojdefdpaaGreatA5
import Derived.Test.YtfanepojdefdpaaGreatA6
import Derived.Test.YtfanepojdefdpaaGreatA8
import Derived.Test.YtfanepojdefdpaaGreatA9
set_option linter.unusedVariables false
set_option linter.unusedSimpArgs false
set_option maxRecDepth 100000
set_option maxHeartbeats 1600000
namespace Go.Proofs.YtfanepojdefdpaaGreat
open Go.RowKit
theorem Pw (l:(List Int)) (at':Int) (by':UInt8) (how:UInt8) (r:Bool) (D:Be l at' by' how=some r):Fn Tryz.prog 4 0 [.sl 1 (An eI l),vj at',.val (.int .u8 (by'.toNat:Int)),.val (.int .u8 (how.toNat:Int))] [] (fun d' b'=>d'=.val (.bool r)/\b'=[]):=by
 unfold Be at D
 refine Fn.of Tryz.func4 rfl rfl rfl fun w0 I ρ0=>?_
 show Ca _ ⟨w0,I,ρ0,0,0,127⟩ _ _ _
 refine A6 0 8 Az ?_
 refine Ak ?_
 refine Ai fun B=>?_
 refine Ah ?_
 refine A6 8 32 B ?_
 refine Ak ?_
 obtain⟨y,hy,D⟩:=Ae D
 refine Ek (cB _ _ hy) ?_
 refine Ak ?_
 refine Ai fun B=>?_
 refine Dh rfl D (fun h3 D=>?_) fun h3 D=>?_
 ·refine Ah ?_
  refine Af (Bi _ _ []) 32 48 B rfl rfl ?_
  obtain⟨y_2,hy_2,D⟩:=Ae D
  refine Ek (Rq _ hy_2) ?_
  refine Ak ?_
  refine Ai fun B=>?_
  refine A4 ?_
  obtain rfl:=oi_ D
  exact A3 [] ⟨rfl,rfl⟩
 ·refine Ao ?_
  repeat first | refine Cw ?_ | refine Cy ?_
  refine A6 32 56 B ?_
  refine Ak ?_
  obtain⟨y_3,hy_3,D⟩:=Ae D
  refine Fg (rd:=[]) (ps:=[]) (gs:=[]) false rfl (gB _ _ hy_3) rfl rfl (.cons .sl .nil) rfl rfl (by intro h; cases h) rfl (by intro h; first | (cases h; done) | exact⟨_,_,⟨rfl,rfl⟩,by simp,by simp⟩) ?_
  rintro _ _ ⟨rfl,rfl⟩
  refine Ak ?_
  refine Ai fun B=>?_
  refine A6 56 120 B ?_
  refine Ak ?_
  obtain⟨y_4,hy_4,D⟩:=Ae D
  refine Hc [40] [40] [] false (bU _ _ _ hy_4) ?_
  obtain⟨y_5,hy_5,D⟩:=Ae D
  refine Fg (rd:=[]) (ps:=[]) (gs:=[]) false rfl (Sj _ _ hy_5) rfl rfl (.cons .sl .nil) rfl rfl (by intro h; cases h) rfl (by intro h; first | (cases h; done) | exact⟨_,_,⟨rfl,rfl⟩,by simp,by simp⟩) ?_
  rintro _ _ ⟨rfl,rfl⟩
  refine Ak ?_
  refine Ai fun B=>?_
  refine Bm (ι:=List UInt8) (fun (b_3:List UInt8)=>mk [(10,.row 0)] [(0,.row 5 1 (An e8 b_3))] 1) (fun (b_3:List UInt8)=>Be.j3 b_3=some r) ?_ ?_
  ·refine Ah ?_
   refine Af (Bi _ _ []) 120 144 B rfl rfl ?_
   refine Ak ?_
   refine Ai fun B=>?_
   refine Dh rfl D (fun h8 D=>?_) fun h8 D=>?_
   ·refine Ah ?_
    refine Af (Bi _ _ []) 144 184 B rfl rfl ?_
    refine Ak ?_
    obtain⟨y_6,hy_6,D⟩:=Ae D
    refine Ek (Sg _ _ _ hy_6) ?_
    refine Ak ?_
    refine Ai fun B=>?_
    refine A6 184 200 B ?_
    refine Ak ?_
    obtain⟨q,hq,D⟩:=Ae D
    refine Bj rfl rfl (yP (a:=how) (b:=(5:UInt8)) hq) rfl rfl ?_
    refine Ai fun B=>?_
    refine Au ?_
    refine A6 200 216 B ?_
    refine Ak ?_
    refine Ai fun B=>?_
    refine Dh rfl D (fun h12 D=>?_) fun h12 D=>?_
    ·refine Af (Bi _ _ []) 216 256 B rfl rfl ?_
     refine Ak ?_
     obtain⟨e,he,D⟩:=Ae D
     refine Ak ?_
     refine Ff (rd:=[72]) rfl rfl (S0 N8 rfl (Bn B5 (Aq he) (o:=0) (m:=1) (by decide) rfl) fR (cs':=[.int .u8 (by'.toNat:Int)]) (.cons .int .nil) (Mr B5 (Aq he) (o:=0) (x':=by') (aC3 rfl) rfl rfl)) rfl rfl ?_
     refine Ai fun B=>?_
     exact⟨Jy y_5.1 ((y_6).toNat) by',D,Ay [(0,72)]⟩
    ·refine Ah ?_
     refine Af (Bi _ _ []) 216 232 B rfl rfl ?_
     refine Ak ?_
     refine Ai fun B=>?_
     refine Dh rfl D (fun h15 D=>?_) fun h15 D=>?_
     ·refine Cs (Bi _ _ []) (by kernel_rfl) [0,0,3,0,0,16,56,127,255] 232 304 B rfl rfl (by kernel_rfl) ?_
      refine Ak ?_
      obtain⟨l_2,hl_2,D⟩:=Ae D
      refine Ff (rd:=[72]) rfl rfl (aC Hp B5 hl_2) rfl rfl ?_
      refine Ak ?_
      obtain⟨l_3,hl_3,D⟩:=Ae D
      refine Ff (rd:=[72]) rfl rfl (aH Hp B5 hl_3) rfl rfl ?_
      obtain⟨l_4,hl_4,D⟩:=Ae D
      refine Ff (rd:=[72,72]) rfl rfl (Dg Hp B5 (.part (rY B5 (Qb hl_2))) (mX B5 _ _ (Qb hl_2)) (.part (Wj B5 (Qb hl_3))) (Ts B5 _ _ _ (Qb hl_3)) hl_4 rfl) rfl rfl ?_
      refine Ak ?_
      refine Ai fun B=>?_
      exact⟨l_4,D,Ay [(0,288)]⟩
     ·refine Ah ?_
      refine Af (Bi _ _ []) 232 248 B rfl rfl ?_
      refine Ak ?_
      refine Ai fun B=>?_
      refine Dh rfl D (fun h18 D=>?_) fun h18 D=>?_
      ·refine Cs (Bi _ _ []) (by kernel_rfl) [0,0,0,6,15,0,32,127,0,0,768,2047,4095] 248 352 B rfl rfl (by kernel_rfl) ?_
       refine Bj rfl rfl (As Hp z5 (by decide) rfl rfl rfl rfl fR (cs:=[]) .nil rfl (l:=([]:List UInt8)) (f:=e8) rfl) rfl rfl ?_
       refine Ak ?_
       obtain⟨l_5,hl_5,D⟩:=Ae D
       refine Ff (rd:=[72]) rfl rfl (aC Hp B5 hl_5) rfl rfl ?_
       obtain⟨l_6,hl_6,D⟩:=Ae D
       refine Ff (rd:=[248,72]) rfl rfl (Dg Hp B5 .row rfl (.part (Wj B5 (Qb hl_5))) (Ts B5 _ _ _ (Qb hl_5)) hl_6 rfl) rfl rfl ?_
       refine Ak ?_
       refine Bj rfl rfl (As Hp z5 (by decide) rfl rfl rfl rfl fR (cs:=[.int .u8 (by'.toNat:Int)]) (.cons .int .nil) rfl (l:=([by']:List UInt8)) (f:=e8) rfl) rfl rfl ?_
       obtain⟨l_7,hl_7,D⟩:=Ae D
       refine Ff (rd:=[280,296]) rfl rfl (Dg Hp B5 .row rfl .row rfl hl_7 rfl) rfl rfl ?_
       refine Ak ?_
       obtain⟨l_8,hl_8,D⟩:=Ae D
       refine Ff (rd:=[72]) rfl rfl (aH Hp B5 hl_8) rfl rfl ?_
       obtain⟨l_9,hl_9,D⟩:=Ae D
       refine Ff (rd:=[304,72]) rfl rfl (Dg Hp B5 .row rfl (.part (Wj B5 (Qb hl_8))) (Ts B5 _ _ _ (Qb hl_8)) hl_9 rfl) rfl rfl ?_
       refine Ak ?_
       refine Ai fun B=>?_
       exact⟨l_9,D,Ay [(0,336)]⟩
      ·refine Ah ?_
       refine Af (Bi _ _ []) 248 264 B rfl rfl ?_
       refine Ak ?_
       refine Ai fun B=>?_
       refine Dh rfl D (fun h21 D=>?_) fun h21 D=>?_
       ·refine Ah ?_
        refine D1 (σ':=mk [(1,vj at'),(10,.sl 1 (An e8 y_5.1))] [] 0) (Ay []) ?_
        refine Af (Bi _ _ []) 0 64 Az rfl rfl ?_
        refine Ak ?_
        obtain⟨y_7,hy_7,D⟩:=Ae D
        refine Fg (rd:=[]) (ps:=[]) (gs:=[]) false rfl (Uk _ _ hy_7) rfl rfl (.cons .sl .nil) rfl rfl (by intro h; cases h) rfl (by intro h; first | (cases h; done) | exact⟨_,_,⟨rfl,rfl⟩,by simp,by simp⟩) ?_
        rintro _ _ ⟨rfl,rfl⟩
        refine Ak ?_
        refine Ai fun B=>?_
        refine Bm (ι:=List Aa) (fun (l_2_2:List Aa)=>mk [(13,.ptr 0 0)] [(0,.box [vj y_7.1.Tag,.sl 1 (An e8 y_7.1.Bytes),.val (.bool y_7.1.Nested),.row 1] 50),(1,.tree 50 4 3 50 4 2 none (An Aa.enc l_2_2)),(2,.gho)] 3) (fun (l_2_2:List Aa)=>Be.j2 y_7 l_2_2=some r) ?_ ?_
        ·refine Ah ?_
         refine D1 (σ':=mk [(1,vj at'),(13,.ptr 0 0)] [(0,.box [vj y_7.1.Tag,.sl 1 (An e8 y_7.1.Bytes),.val (.bool y_7.1.Nested),.row 1] 50),(1,.abs [2] (Ds 50 4 3 (An Aa.enc y_7.1.Elements))),(2,.gho)] 3) ((by exact Mb.lists [(0,40),(1,8),(2,9)] rfl rfl ⟨⟨_,rfl,.val _⟩,⟨_,rfl,.ptr rfl⟩,trivial⟩ ⟨.inl ⟨40,_,rfl,rfl,⟨rfl,.cons (.val _) (.cons (.sl _ _) (.cons (.val _) (.cons (.row rfl) .nil)))⟩⟩,.inl ⟨8,_,rfl,rfl,⟨rfl,rfl⟩⟩,.inl ⟨9,_,rfl,rfl,trivial⟩,trivial⟩)) ?_
         refine D1 (σ':=mk [(1,vj at'),(13,.ptr 0 0)] [(3,.gho),(0,.box [vj y_7.1.Tag,.sl 1 (An e8 y_7.1.Bytes),.val (.bool y_7.1.Nested),.row 1] 50),(1,.tree 50 4 3 50 4 3 none (An Aa.enc y_7.1.Elements)),(2,.gho)] 4) (yG 1 rfl rfl) ?_
         refine Af (Bi _ _ []) 4 36 Az rfl rfl ?_
         refine Ak ?_
         refine Ff (rd:=[1]) rfl rfl (.len Jz.elem (.rowT (by decide) (D0 Aa.enc_len _))) rfl rfl ?_
         refine Ak ?_
         refine Ai fun B=>?_
         refine Dh rfl D (fun h24 D=>?_) fun h24 D=>?_
         ·refine Ah ?_
          refine Cs (Bi _ _ []) (by kernel_rfl) [0,1,0,0,8,24,60,127,255] 36 108 B rfl rfl (by kernel_rfl) ?_
          refine Ak ?_
          refine Ff (rd:=[1]) rfl rfl (.len Jz.elem (.rowT (by decide) (D0 Aa.enc_len _))) rfl rfl ?_
          obtain⟨y_8,hy_8,D⟩:=Ae D
          refine Ek (Sg _ _ _ hy_8) ?_
          obtain⟨e_2,he_2,D⟩:=Ae D
          refine Ff (rd:=[1]) rfl rfl (.idxT Jz (Tk he_2) (Xt Aa.enc_len (Aq he_2))) rfl rfl ?_
          refine Ak ?_
          refine Ai fun B=>?_
          refine Cs (Bi _ _ []) (by kernel_rfl) [0,1,3,7,0,15,0,127,255,511,255,1279,3327] 108 212 B rfl rfl (by kernel_rfl) ?_
          refine Ak ?_
          refine Ff (rd:=[1]) rfl rfl (.loadTN yV (by decide) rfl kD (Gh Aa.enc_len (Aq he_2) (o:=3) (by decide) rfl)) rfl rfl ?_
          obtain⟨y_9,hy_9,D⟩:=Ae D
          refine Ek (Fp _ _ hy_9) ?_
          refine Ff (rd:=[1]) rfl rfl (.len Jz.elem (.nst (by decide) (Bf Aa.enc_len (Aq he_2) (o:=3) (c:=.sl 4 (An Aa.enc e_2.Elements)) (by simp only [Aa.enc_eq]; rfl) rfl) kD (D0 Aa.enc_len _))) rfl rfl ?_
          refine Bj rfl rfl (As Jz Pq (by decide) rfl rfl rfl rfl Si (cs:=[.int .i64 0,.sl 1 (An e8 []),.bool false,.sl 4 (An Aa.enc [])]) (.cons .int (.cons .nil (.cons .bool (.cons .nil .nil)))) rfl (l:=([(Aa.mk 0 ([]:(List UInt8)) false ([]:(List Aa)))]:List Aa)) (f:=Aa.enc) (by simp only [An,aFe,aFo,Aa.enc_eq]; rfl)) rfl rfl ?_
          obtain⟨l_10,hl_10,D⟩:=Ae D
          refine U6 (rd:=[1,3,156]) rfl rfl (vR (l:=e_2.Elements) (l':=([(Aa.mk 0 ([]:(List UInt8)) false ([]:(List Aa)))]:List Aa)) Jz Aa.enc_len (Bf Aa.enc_len (Aq he_2) (o:=3) (c:=.sl 4 (An Aa.enc e_2.Elements)) (by simp only [Aa.enc_eq]; rfl) rfl) rfl .row rfl hl_10 rfl (List.Mem.head _) rfl) rfl rfl (fun _=>⟨_,rfl⟩) ?_
          rintro _ rfl
          obtain⟨e_3,he_3,D⟩:=Ae D
          refine Ff (rd:=[164]) rfl rfl (tD Jz (Tk he_3) (Aq he_3)) rfl rfl ?_
          refine Ff (rd:=[164]) rfl rfl (S0 Nb rfl (Bn Aa.enc_len (Aq he_3) (o:=0) (m:=4) (by decide) rfl) Si (cs':=[.int .i64 y_9.Tag,.sl 1 (An e8 y_9.Bytes),.bool y_9.Nested,.sl 4 (An Aa.enc y_9.Elements)]) (.cons .int (.cons .sl (.cons .bool (.cons .sl .nil)))) (Mr Aa.enc_len (Aq he_3) (o:=0) (x':=y_9) (aC3 rfl) (by simp only [Aa.enc_eq]; rfl) rfl)) rfl rfl ?_
          refine Ak ?_
          refine U6 (rd:=[1]) rfl rfl (aBm yV rfl (Gh Aa.enc_len (Aq he_2) (o:=3) (by decide) rfl) (List.Mem.head _)) rfl rfl (fun _=>⟨_,rfl⟩) ?_
          rintro _ rfl
          refine Ai fun B=>?_
          exact⟨Jy y_7.1.Elements ((y_8).toNat) (Aa.mk e_2.Tag e_2.Bytes e_2.Nested (Jy l_10 (((e_2.Elements.length:Int)).toNat) y_9)),D,(Mb.trans (b:=mk [(13,.ptr 0 0)] [(0,.box [vj y_7.1.Tag,.sl 1 (An e8 y_7.1.Bytes),.val (.bool y_7.1.Nested),.row 1] 50),(1,.abs [2,3] (eN 50 4 3 50 4 ((y_8).toNat) l_10.length (An Aa.enc y_7.1.Elements))),(2,.gho),(3,.row 50 4 (An Aa.enc (Jy l_10 (((e_2.Elements.length:Int)).toNat) y_9)))] 4) ((by exact Mb.lists [(0,0),(1,1),(2,3),(3,164)] rfl rfl ⟨⟨_,rfl,.ptr rfl⟩,trivial⟩ ⟨.inl ⟨0,_,rfl,rfl,⟨rfl,.cons (.val _) (.cons (.sl _ _) (.cons (.val _) (.cons (.row rfl) .nil)))⟩⟩,.inl ⟨1,_,rfl,rfl,⟨rfl,rfl⟩⟩,.inl ⟨3,_,rfl,rfl,trivial⟩,.inl ⟨164,_,rfl,rfl,⟨rfl,rfl,rfl⟩⟩,trivial⟩)) ((Mb.trans (b:=mk [(13,.ptr 0 0)] [(4,.gho),(0,.box [vj y_7.1.Tag,.sl 1 (An e8 y_7.1.Bytes),.val (.bool y_7.1.Nested),.row 1] 50),(1,.tree 50 4 3 50 4 4 none (An Aa.enc (Jy y_7.1.Elements ((y_8).toNat) (Aa.mk e_2.Tag e_2.Bytes e_2.Nested (Jy l_10 (((e_2.Elements.length:Int)).toNat) y_9))))),(2,.gho),(3,.gho)] 5) (aAb 1 3 (e2:=50) (sz2:=4) (m:=l_10.length) rfl rfl (by decide) (cA Aa.enc_len) rfl rfl (uO Aa.enc_len (Aq he_2) (o:=3) (x':=(Aa.mk e_2.Tag e_2.Bytes e_2.Nested (Jy l_10 (((e_2.Elements.length:Int)).toNat) y_9))) (by decide) (by simp only [Aa.enc_eq]; rfl) rfl)) (Ay [(0,0),(1,1),(2,4)]))))⟩
         ·refine Ao ?_
          repeat first | refine Cw ?_ | refine Cy ?_
          exact⟨y_7.1.Elements,D,Ay [(0,0),(1,1),(2,3)]⟩
        ·rintro l_2_2 D
         replace D:Be.j2 y_7 l_2_2=some r:=D
         show Ca _ _ _ _ (mk _ _ _)
         unfold Be.j2 at D
         refine Af (Bi _ _ []) 3 51 Az rfl rfl ?_
         refine Ak ?_
         obtain⟨y_10,hy_10,D⟩:=Ae D
         refine Fg (rd:=[1]) (ps:=[]) (gs:=[]) true rfl (Kj _ _ hy_10) rfl rfl (.cons (.agg (.cons .val (.cons .sl (.cons .val (.cons (.tree rfl (.head _) rfl) .nil))))) .nil) rfl rfl (by rintro - _ _ ⟨rfl,rfl⟩; exact⟨by simp [I1,Ki],fb_⟩) rfl (by intro h; first | (cases h; done) | exact⟨_,_,⟨rfl,rfl⟩,by simp,by simp⟩) ?_
         rintro _ _ ⟨rfl,rfl⟩
         refine Ak ?_
         refine Ai fun B=>?_
         exact⟨y_10.1,D,Ay [(0,11)]⟩
       ·refine Ao ?_
        repeat first | refine Cw ?_ | refine Cy ?_
        exact⟨y_5.1,D,Ay [(0,72)]⟩
   ·refine Ao ?_
    repeat first | refine Cw ?_ | refine Cy ?_
    exact⟨y_5.1,D,Ay [(0,72)]⟩
  ·rintro b_3 D
   replace D:Be.j3 b_3=some r:=D
   show Ca _ _ _ _ (mk _ _ _)
   unfold Be.j3 at D
   refine Ah ?_
   refine D1 (σ':=mk [(10,.sl 1 (An e8 b_3))] [] 0) (Ay []) ?_
   refine Af (Bi _ _ []) 0 56 Az rfl rfl ?_
   refine Ak ?_
   obtain⟨y_11,hy_11,D⟩:=Ae D
   refine Ek (Tr _ _ hy_11) ?_
   refine Ak ?_
   refine Ai fun B=>?_
   refine A6 56 112 B ?_
   refine Ak ?_
   obtain⟨y_12,hy_12,D⟩:=Ae D
   refine Ek (Xw _ _ hy_12) ?_
   refine Ak ?_
   refine Ai fun B=>?_
   refine A6 112 208 B ?_
   refine Ak ?_
   rcases Eb D with ⟨h30,D⟩ | ⟨h30,D⟩
   ·refine Ak ?_
    obtain⟨y_13,hy_13,D⟩:=Ae D
    refine Ek (dB _ _ _ hy_13) ?_
    refine Ak ?_
    rcases Eb D with ⟨h31,D⟩ | ⟨h31,D⟩
    ·obtain⟨y_14,hy_14,D⟩:=Ae D
     refine Ek (Rq _ hy_14) ?_
     refine Ak ?_
     refine Ai fun B=>?_
     refine A4 ?_
     obtain rfl:=oi_ D
     exact A3 [] ⟨rfl,rfl⟩
    ·refine Ak ?_
     refine Ai fun B=>?_
     refine A4 ?_
     obtain rfl:=oi_ D
     exact A3 [] ⟨rfl,rfl⟩
   ·refine Ak ?_
    refine Ai fun B=>?_
    refine A4 ?_
    obtain rfl:=oi_ D
    exact A3 [] ⟨rfl,rfl⟩
end Go.Proofs.YtfanepojdefdpaaGreat
