import Derived.Test.YtlfeokjhphpjeaaGreatT1
import Derived.Test.YtlfeokjhphpjeaaGreatA1
import Derived.Test.YtlfeokjhphpjeaaGreatA4
import Derived.Test.YtlfeokjhphpjeaaGreatA6
import Derived.Test.YtlfeokjhphpjeaaGreatA7
import Derived.Test.YtlfeokjhphpjeaaGreatA8
set_option linter.unusedVariables false
set_option linter.unusedSimpArgs false
set_option maxRecDepth 100000
set_option maxHeartbeats 1600000
namespace Go.Proofs.YtlfeokjhphpjeaaGreat
open Go.RowKit
theorem Lc (l:(List Int)) (raw:(List UInt8)) (r:Bool) (D:An l raw=some r):Fn Tryz.prog 3 0 [.sl 1 (Al eI l),.sl 1 (Al e8 raw)] [] (fun d' b'=>d'=.val (.bool r)/\b'=[]):=by
 unfold An at D
 refine Fn.of Tryz.func3 rfl rfl rfl fun w0 I ρ0=>?_
 show B9 _ ⟨w0,I,ρ0,0,0,139⟩ _ _ _
 refine A4 0 8 Az ?_
 refine Aj ?_
 refine Af fun B=>?_
 refine Ah ?_
 refine Bp (ι:=Bool) (fun (x23_1:Bool)=>mk [(0,.sl 1 (Al eI l)),(1,.sl 1 (Al e8 raw)),(23,.val (.bool x23_1))] [] 0) (fun (x23_1:Bool)=>An.j1 l raw x23_1=some r) ?_ ?_
 ·refine Ad (Bb _ _ []) 8 72 B rfl rfl ?_
  refine Aj ?_
  obtain⟨y,hy,D⟩:=Ac D
  refine Dy (Zi _ _ hy) ?_
  refine Aj ?_
  rcases Dx D with ⟨h2,D⟩ | ⟨h2,D⟩
  ·refine Aj ?_
   refine Af fun B=>?_
   exact⟨true,D,Ay []⟩
  ·refine Aj ?_
   refine Af fun B=>?_
   exact⟨decide (300 < (raw.length:Int)),D,Ay []⟩
 ·rintro x23_1 D
  replace D:An.j1 l raw x23_1=some r:=D
  show B9 _ _ _ _ (mk _ _ _)
  unfold An.j1 at D
  refine Dg rfl D (fun h5 D=>?_) fun h5 D=>?_
  ·refine Ah ?_
   refine Ad (Bb _ _ []) 0 16 Az rfl rfl ?_
   obtain⟨y_2,hy_2,D⟩:=Ac D
   refine Dy (Qi _ hy_2) ?_
   refine Aj ?_
   refine Af fun B=>?_
   refine A1 ?_
   obtain rfl:=oi_ D
   exact Ax [] ⟨rfl,rfl⟩
  ·refine Ap ?_
   repeat first | refine Dc ?_ | refine De ?_
   refine A4 0 24 Az ?_
   refine Aj ?_
   obtain⟨y_3,hy_3,D⟩:=Ac D
   refine Eh (rd:=[]) (ps:=[]) (gs:=[]) false rfl (bC _ _ hy_3) rfl rfl (.cons .sl .nil) rfl rfl (by intro h; cases h) rfl (by intro h; first | (cases h; done) | exact⟨_,_,⟨rfl,rfl⟩,by simp,by simp⟩) ?_
   rintro _ _ ⟨rfl,rfl⟩
   refine Aj ?_
   refine Af fun B=>?_
   refine A4 24 64 B ?_
   refine Aj ?_
   obtain⟨y_4,hy_4,D⟩:=Ac D
   refine F3 [8] [8] [] false (Zv _ _ hy_4) ?_
   obtain⟨y_5,hy_5,D⟩:=Ac D
   refine Eh (rd:=[]) (ps:=[]) (gs:=[]) false rfl (Si _ _ hy_5) rfl rfl (.cons (.agg (.cons .val (.cons .val (.cons .val (.cons .val (.cons .val (.cons .val (.cons .val (.cons .val (.cons .val (.cons .val (.cons .val (.cons .val (.cons .sl (.cons .val (.cons .val .nil)))))))))))))))) .nil) rfl rfl (by intro h; cases h) rfl (by intro h; first | (cases h; done) | exact⟨_,_,⟨rfl,rfl⟩,by simp,by simp⟩) ?_
   rintro _ _ ⟨rfl,rfl⟩
   refine Aj ?_
   refine Af fun B=>?_
   refine Ah ?_
   refine C5 (Bb _ _ []) (by kernel_rfl) [0,1,0,4,15,31] 64 112 B rfl rfl (by kernel_rfl) ?_
   refine Aj ?_
   obtain⟨y_6,hy_6,D⟩:=Ac D
   refine F3 [8] [8] [] false (Dm _ _ _ hy_6) ?_
   obtain⟨e,he,D⟩:=Ac D
   refine Fe (rd:=[40]) rfl rfl (.idxT Ip (Nw he) (Pd Aa.enc_len (Aw he))) rfl rfl ?_
   refine Aj ?_
   refine Af fun B=>?_
   refine A4 112 176 B ?_
   refine Aj ?_
   refine Fe (rd:=[40]) rfl rfl (.loadTN Xx (by decide) rfl Ht (L2 Aa.enc_len (Aw he) (o:=3) (by decide) rfl)) rfl rfl ?_
   refine Fe (rd:=[40]) rfl rfl (.len Ip.elem (.nst (by decide) (A9 Aa.enc_len (Aw he) (o:=3) (c:=.sl 4 (Al Aa.enc e.Elements)) (by simp only [Aa.enc_eq]; rfl) rfl) Ht (Ek Aa.enc_len _))) rfl rfl ?_
   obtain⟨y_7,hy_7,D⟩:=Ac D
   refine F3 [8] [8] [] false (Dm _ _ _ hy_7) ?_
   refine Aj ?_
   refine Af fun B=>?_
   refine Bp (ι:=List Aa) (fun (l_2_2:List Aa)=>mk [(1,.sl 1 (Al e8 raw)),(6,.ptr 0 0)] [(0,.box [vj y_5.Tag,.sl 1 (Al e8 y_5.Bytes),.val (.bool y_5.Nested),.row 1] 30),(1,.tree 30 4 3 30 4 2 none (Al Aa.enc l_2_2)),(2,.gho)] 3) (fun (l_2_2:List Aa)=>An.j2 raw y_5 l_2_2=some r) ?_ ?_
   ·refine Ah ?_
    refine Ad (Bb _ _ []) 176 192 B rfl rfl ?_
    refine Aj ?_
    obtain⟨y_8,hy_8,D⟩:=Ac D
    refine F3 [8] [8] [] false (Dm _ _ _ hy_8) ?_
    refine Af fun B=>?_
    refine Av ?_
    refine A4 192 208 B ?_
    refine Aj ?_
    refine Af fun B=>?_
    refine Dg rfl D (fun h13 D=>?_) fun h13 D=>?_
    ·refine C5 (Bb _ _ []) (by kernel_rfl) [0,1,3,7,0,16,48,15,0,511,1023,2047,1023,5119,13311] 208 328 B rfl rfl (by kernel_rfl) ?_
     refine Aj ?_
     refine Fe (rd:=[40]) rfl rfl (.loadTN Xx (by decide) rfl Ht (L2 Aa.enc_len (Aw he) (o:=3) (by decide) rfl)) rfl rfl ?_
     refine Aj ?_
     obtain⟨y_9,hy_9,D⟩:=Ac D
     refine F3 [8] [8] [] false (Dm _ _ _ hy_9) ?_
     obtain⟨y_10,hy_10,D⟩:=Ac D
     refine Dy (Fc _ _ hy_10) ?_
     refine Fe (rd:=[40]) rfl rfl (.len Ip.elem (.nst (by decide) (A9 Aa.enc_len (Aw he) (o:=3) (c:=.sl 4 (Al Aa.enc e.Elements)) (by simp only [Aa.enc_eq]; rfl) rfl) Ht (Ek Aa.enc_len _))) rfl rfl ?_
     refine Bl rfl rfl (Ao Ip No (by decide) rfl rfl rfl rfl Qb (cs:=[.int .i64 0,.sl 1 (Al e8 []),.bool false,.sl 4 (Al Aa.enc [])]) (.cons .int (.cons .nil (.cons .bool (.cons .nil .nil)))) rfl (l:=([(Aa.mk 0 ([]:(List UInt8)) false ([]:(List Aa)))]:List Aa)) (f:=Aa.enc) (by simp only [Al,List.flatMap_cons,aBn,Aa.enc_eq]; rfl)) rfl rfl ?_
     obtain⟨l_2,hl_2,D⟩:=Ac D
     refine Zz (rd:=[40,41,272]) rfl rfl (aA6 (l:=e.Elements) (l':=([(Aa.mk 0 ([]:(List UInt8)) false ([]:(List Aa)))]:List Aa)) Ip Aa.enc_len (A9 Aa.enc_len (Aw he) (o:=3) (c:=.sl 4 (Al Aa.enc e.Elements)) (by simp only [Aa.enc_eq]; rfl) rfl) rfl .row rfl hl_2 rfl (List.Mem.head _) rfl) rfl rfl (fun _=>⟨_,rfl⟩) ?_
     rintro _ rfl
     obtain⟨e_2,he_2,D⟩:=Ac D
     refine Fe (rd:=[280]) rfl rfl (aA5 Ip (Nw he_2) (Aw he_2)) rfl rfl ?_
     refine Fe (rd:=[280]) rfl rfl (mP Nt rfl (Di Aa.enc_len (Aw he_2) (o:=0) (m:=4) (by decide) rfl) Qb (cs':=[.int .i64 y_10.Tag,.sl 1 (Al e8 y_10.Bytes),.bool y_10.Nested,.sl 4 (Al Aa.enc y_10.Elements)]) (.cons .int (.cons .sl (.cons .bool (.cons .sl .nil)))) (Ly Aa.enc_len (Aw he_2) (o:=0) (x':=y_10) (Nat.le_of_ble_eq_true rfl) (by simp only [Aa.enc_eq]; rfl) rfl)) rfl rfl ?_
     refine Aj ?_
     refine Zz (rd:=[40]) rfl rfl (aBa Xx rfl (L2 Aa.enc_len (Aw he) (o:=3) (by decide) rfl) (List.Mem.head _)) rfl rfl (fun _=>⟨_,rfl⟩) ?_
     rintro _ rfl
     refine Af fun B=>?_
     exact⟨Ir y_5.Elements ((y_6.1).toNat) (Aa.mk e.Tag e.Bytes e.Nested (Ir l_2 (((e.Elements.length:Int)).toNat) y_10)),D,(Uk.trans (b:=mk [(1,.sl 1 (Al e8 raw)),(6,.ptr 0 0)] [(0,.box [vj y_5.Tag,.sl 1 (Al e8 y_5.Bytes),.val (.bool y_5.Nested),.row 1] 30),(1,.abs [2,3] (aA0 30 4 3 30 4 ((y_6.1).toNat) l_2.length (Al Aa.enc y_5.Elements))),(2,.gho),(3,.row 30 4 (Al Aa.enc (Ir l_2 (((e.Elements.length:Int)).toNat) y_10)))] 4) ((by exact Uk.lists [(0,48),(1,40),(2,41),(3,280)] rfl rfl ⟨⟨_,rfl,.sl _ _⟩,⟨_,rfl,.ptr rfl⟩,trivial⟩ ⟨.inl ⟨48,_,rfl,rfl,⟨rfl,.cons (.val _) (.cons (.sl _ _) (.cons (.val _) (.cons (.row rfl) .nil)))⟩⟩,.inl ⟨40,_,rfl,rfl,⟨rfl,rfl⟩⟩,.inl ⟨41,_,rfl,rfl,trivial⟩,.inl ⟨280,_,rfl,rfl,⟨rfl,rfl,rfl⟩⟩,trivial⟩)) ((Uk.trans (b:=mk [(1,.sl 1 (Al e8 raw)),(6,.ptr 0 0)] [(4,.gho),(0,.box [vj y_5.Tag,.sl 1 (Al e8 y_5.Bytes),.val (.bool y_5.Nested),.row 1] 30),(1,.tree 30 4 3 30 4 4 none (Al Aa.enc (Ir y_5.Elements ((y_6.1).toNat) (Aa.mk e.Tag e.Bytes e.Nested (Ir l_2 (((e.Elements.length:Int)).toNat) y_10))))),(2,.gho),(3,.gho)] 5) (aBb 1 3 (e2:=30) (sz2:=4) (m:=l_2.length) rfl rfl (by decide) (aBh Aa.enc_len) rfl rfl (Sf Aa.enc_len (Aw he) (o:=3) (x':=(Aa.mk e.Tag e.Bytes e.Nested (Ir l_2 (((e.Elements.length:Int)).toNat) y_10))) (by decide) (by simp only [Aa.enc_eq]; rfl) rfl)) (Ay [(0,0),(1,1),(2,4)]))))⟩
    ·refine Ah ?_
     refine Ad (Bb _ _ []) 208 224 B rfl rfl ?_
     refine Aj ?_
     refine Af fun B=>?_
     refine Dg rfl D (fun h16 D=>?_) fun h16 D=>?_
     ·refine C5 (Bb _ _ []) (by kernel_rfl) [0,0,2,6,14,0,62,0,128,384,896,0,2048,8064,16382,32767,65535,131071] 224 368 B rfl rfl (by kernel_rfl) ?_
      refine Aj ?_
      refine Fe (rd:=[40]) rfl rfl (.loadTN Xx (by decide) rfl Ht (L2 Aa.enc_len (Aw he) (o:=3) (by decide) rfl)) rfl rfl ?_
      refine Aj ?_
      obtain⟨l_3,hl_3,D⟩:=Ac D
      refine Fe (rd:=[40]) rfl rfl (iS Ip Aa.enc_len (A9 Aa.enc_len (Aw he) (o:=3) (c:=.sl 4 (Al Aa.enc e.Elements)) (by simp only [Aa.enc_eq]; rfl) rfl) Ht hl_3) rfl rfl ?_
      refine Aj ?_
      refine Fe (rd:=[40]) rfl rfl (.loadTN Xx (by decide) rfl Ht (L2 Aa.enc_len (Aw he) (o:=3) (by decide) rfl)) rfl rfl ?_
      refine Aj ?_
      obtain⟨l_4,hl_4,D⟩:=Ac D
      refine Fe (rd:=[40]) rfl rfl (iU Ip Aa.enc_len (A9 Aa.enc_len (Aw he) (o:=3) (c:=.sl 4 (Al Aa.enc e.Elements)) (by simp only [Aa.enc_eq]; rfl) rfl) Ht hl_4) rfl rfl ?_
      obtain⟨l_5,hl_5,D⟩:=Ac D
      refine Zz (rd:=[40,41,40,41]) rfl rfl (qP (l:=e.Elements) (l':=((e.Elements.drop ((W (y_7.1 + 1):Int).toNat)).take (((e.Elements.length:Int):Int).toNat - (W (y_7.1 + 1):Int).toNat))) Ip Aa.enc_len (A9 Aa.enc_len (Aw he) (o:=3) (c:=.sl 4 (Al Aa.enc e.Elements)) (by simp only [Aa.enc_eq]; rfl) rfl) rfl (fN hl_3) (.npr (A9 Aa.enc_len (Aw he) (o:=3) (c:=.sl 4 (Al Aa.enc e.Elements)) (by simp only [Aa.enc_eq]; rfl) rfl) Ht (fQ Aa.enc_len (fN hl_4))) (aZ Aa.enc_len _ _ _ (fN hl_4)) hl_5 rfl (List.Mem.head _) rfl) rfl rfl (fun _=>⟨_,rfl⟩) ?_
      rintro _ rfl
      refine Aj ?_
      refine Zz (rd:=[40,336]) rfl rfl (kA Xx rfl (L2 Aa.enc_len (Aw he) (o:=3) (by decide) rfl) (List.Mem.head _) (List.Mem.tail _ (List.Mem.head _)) rfl rfl (Sf Aa.enc_len (Aw he) (o:=3) (x':=(Aa.mk e.Tag e.Bytes e.Nested l_5)) (by decide) (by simp only [Aa.enc_eq]; rfl) rfl)) rfl rfl (fun _=>⟨_,rfl⟩) ?_
      rintro _ rfl
      refine Af fun B=>?_
      exact⟨Ir y_5.Elements ((y_6.1).toNat) (Aa.mk e.Tag e.Bytes e.Nested l_5),D,Ay [(0,48),(1,40),(2,360)]⟩
     ·refine Ah ?_
      refine Ad (Bb _ _ []) 224 240 B rfl rfl ?_
      refine Aj ?_
      refine Af fun B=>?_
      refine Dg rfl D (fun h19 D=>?_) fun h19 D=>?_
      ·refine C5 (Bb _ _ [288]) (by kernel_rfl) [0,1,3,7,0,0,0,96,224,511,1023] 240 328 B rfl rfl (by kernel_rfl) ?_
       refine Aj ?_
       refine Fe (rd:=[40]) rfl rfl (.loadTN Xx (by decide) rfl Ht (L2 Aa.enc_len (Aw he) (o:=3) (by decide) rfl)) rfl rfl ?_
       refine Aj ?_
       refine Hq (rd:=[]) rfl rfl (Ao Mz z9 (by decide) rfl rfl rfl rfl dL (cs:=[.str (⟨#[97]⟩:ByteArray),.str (⟨#[]⟩:ByteArray)]) (.cons .str (.cons .str .nil)) rfl (l:=([(⟨#[97]⟩:ByteArray),(⟨#[]⟩:ByteArray)]:List ByteArray)) (f:=eS) rfl) rfl rfl rfl ?_
       obtain⟨y_11,hy_11,D⟩:=Ac D
       refine F3 [8] [8] [] false (Hm _ _ _ hy_11) ?_
       obtain⟨y_12,hy_12,D⟩:=Ac D
       refine Dy (La _ _ hy_12) ?_
       obtain⟨e_3,he_3,D⟩:=Ac D
       refine Fe (rd:=[40]) rfl rfl (.idxN Ip (A9 Aa.enc_len (Aw he) (o:=3) (c:=.sl 4 (Al Aa.enc e.Elements)) (by simp only [Aa.enc_eq]; rfl) rfl) Ht (Nw he_3) (Pd Aa.enc_len (Aw he_3))) rfl rfl ?_
       refine Zz (rd:=[40,41]) rfl rfl (Wm Nt (A9 Aa.enc_len (Aw he) (o:=3) (c:=.sl 4 (Al Aa.enc e.Elements)) (by simp only [Aa.enc_eq]; rfl) rfl) rfl (Di Aa.enc_len (Aw he_3) (o:=0) (m:=4) (by decide) rfl) (ck:=[none,some 1,none,some 4]) (cs':=[.int .i64 y_12.Tag,.sl 1 (Al e8 y_12.Bytes),.bool y_12.Nested,.sl 4 (Al Aa.enc y_12.Elements)]) (.cons .int (.cons .sl (.cons .bool (.cons .sl .nil)))) (List.Mem.head _) (Ly Aa.enc_len (Aw he_3) (o:=0) (x':=y_12) (Nat.le_of_ble_eq_true rfl) (by simp only [Aa.enc_eq]; rfl) rfl) (Sf Aa.enc_len (Aw he) (o:=3) (x':=(Aa.mk e.Tag e.Bytes e.Nested (Ir e.Elements ((y_7.1).toNat) y_12))) (by decide) (by simp only [Aa.enc_eq]; rfl) rfl)) rfl rfl (fun _=>⟨_,rfl⟩) ?_
       rintro _ rfl
       refine Af fun B=>?_
       exact⟨Ir y_5.Elements ((y_6.1).toNat) (Aa.mk e.Tag e.Bytes e.Nested (Ir e.Elements ((y_7.1).toNat) y_12)),D,Ay [(0,48),(1,40),(2,41)]⟩
      ·refine Ah ?_
       refine Ad (Bb _ _ []) 240 256 B rfl rfl ?_
       refine Aj ?_
       refine Af fun B=>?_
       refine Dg rfl D (fun h22 D=>?_) fun h22 D=>?_
       ·refine C5 (Bb _ _ [304]) (by kernel_rfl) [0,1,3,7,0,0,0,96,224,511,1023] 256 344 B rfl rfl (by kernel_rfl) ?_
        refine Aj ?_
        refine Fe (rd:=[40]) rfl rfl (.loadTN Xx (by decide) rfl Ht (L2 Aa.enc_len (Aw he) (o:=3) (by decide) rfl)) rfl rfl ?_
        refine Aj ?_
        refine Hq (rd:=[]) rfl rfl (Ao E8 z3 (by decide) rfl rfl rfl rfl J7 (cs:=[.int .i64 3,.int .i64 (-1),.int .i64 2199023255552]) (.cons .int (.cons .int (.cons .int .nil))) rfl (l:=([3,-1,2199023255552]:List Int)) (f:=eI) rfl) rfl rfl rfl ?_
        obtain⟨y_13,hy_13,D⟩:=Ac D
        refine F3 [8] [8] [] false (B3 _ _ _ hy_13) ?_
        obtain⟨y_14,hy_14,D⟩:=Ac D
        refine Dy (Fc _ _ hy_14) ?_
        obtain⟨e_4,he_4,D⟩:=Ac D
        refine Fe (rd:=[40]) rfl rfl (.idxN Ip (A9 Aa.enc_len (Aw he) (o:=3) (c:=.sl 4 (Al Aa.enc e.Elements)) (by simp only [Aa.enc_eq]; rfl) rfl) Ht (Nw he_4) (Pd Aa.enc_len (Aw he_4))) rfl rfl ?_
        refine Zz (rd:=[40,41]) rfl rfl (Wm Nt (A9 Aa.enc_len (Aw he) (o:=3) (c:=.sl 4 (Al Aa.enc e.Elements)) (by simp only [Aa.enc_eq]; rfl) rfl) rfl (Di Aa.enc_len (Aw he_4) (o:=0) (m:=4) (by decide) rfl) (ck:=[none,some 1,none,some 4]) (cs':=[.int .i64 y_14.Tag,.sl 1 (Al e8 y_14.Bytes),.bool y_14.Nested,.sl 4 (Al Aa.enc y_14.Elements)]) (.cons .int (.cons .sl (.cons .bool (.cons .sl .nil)))) (List.Mem.head _) (Ly Aa.enc_len (Aw he_4) (o:=0) (x':=y_14) (Nat.le_of_ble_eq_true rfl) (by simp only [Aa.enc_eq]; rfl) rfl) (Sf Aa.enc_len (Aw he) (o:=3) (x':=(Aa.mk e.Tag e.Bytes e.Nested (Ir e.Elements ((y_7.1).toNat) y_14))) (by decide) (by simp only [Aa.enc_eq]; rfl) rfl)) rfl rfl (fun _=>⟨_,rfl⟩) ?_
        rintro _ rfl
        refine Af fun B=>?_
        exact⟨Ir y_5.Elements ((y_6.1).toNat) (Aa.mk e.Tag e.Bytes e.Nested (Ir e.Elements ((y_7.1).toNat) y_14)),D,Ay [(0,48),(1,40),(2,41)]⟩
       ·refine C5 (Bb _ _ []) (by kernel_rfl) [0,1,3,7,0,0,63,127] 256 320 B rfl rfl (by kernel_rfl) ?_
        refine Aj ?_
        refine Fe (rd:=[40]) rfl rfl (.loadTN Xx (by decide) rfl Ht (L2 Aa.enc_len (Aw he) (o:=3) (by decide) rfl)) rfl rfl ?_
        refine Aj ?_
        obtain⟨y_15,hy_15,D⟩:=Ac D
        refine Dy (Lf _ _ hy_15) ?_
        obtain⟨e_5,he_5,D⟩:=Ac D
        refine Fe (rd:=[40]) rfl rfl (.idxN Ip (A9 Aa.enc_len (Aw he) (o:=3) (c:=.sl 4 (Al Aa.enc e.Elements)) (by simp only [Aa.enc_eq]; rfl) rfl) Ht (Nw he_5) (Pd Aa.enc_len (Aw he_5))) rfl rfl ?_
        refine Zz (rd:=[40,41]) rfl rfl (Wm Nt (A9 Aa.enc_len (Aw he) (o:=3) (c:=.sl 4 (Al Aa.enc e.Elements)) (by simp only [Aa.enc_eq]; rfl) rfl) rfl (Di Aa.enc_len (Aw he_5) (o:=0) (m:=4) (by decide) rfl) (ck:=[none,some 1,none,some 4]) (cs':=[.int .i64 y_15.Tag,.sl 1 (Al e8 y_15.Bytes),.bool y_15.Nested,.sl 4 (Al Aa.enc y_15.Elements)]) (.cons .int (.cons .sl (.cons .bool (.cons .sl .nil)))) (List.Mem.head _) (Ly Aa.enc_len (Aw he_5) (o:=0) (x':=y_15) (Nat.le_of_ble_eq_true rfl) (by simp only [Aa.enc_eq]; rfl) rfl) (Sf Aa.enc_len (Aw he) (o:=3) (x':=(Aa.mk e.Tag e.Bytes e.Nested (Ir e.Elements ((y_7.1).toNat) y_15))) (by decide) (by simp only [Aa.enc_eq]; rfl) rfl)) rfl rfl (fun _=>⟨_,rfl⟩) ?_
        rintro _ rfl
        refine Af fun B=>?_
        exact⟨Ir y_5.Elements ((y_6.1).toNat) (Aa.mk e.Tag e.Bytes e.Nested (Ir e.Elements ((y_7.1).toNat) y_15)),D,Ay [(0,48),(1,40),(2,41)]⟩
   ·rintro l_2_2 D
    replace D:An.j2 raw y_5 l_2_2=some r:=D
    show B9 _ _ _ _ (mk _ _ _)
    unfold An.j2 at D
    refine A4 3 59 Az ?_
    refine Aj ?_
    obtain⟨y_16,hy_16,D⟩:=Ac D
    refine Eh (rd:=[1]) (ps:=[]) (gs:=[]) true rfl (L0 _ _ hy_16) rfl rfl (.cons (.agg (.cons .val (.cons .sl (.cons .val (.cons (.tree rfl (.head _) rfl) .nil))))) .nil) rfl rfl (by rintro - _ _ ⟨rfl,rfl⟩; exact⟨by simp [Iz,Kb],fb_⟩) rfl (by intro h; first | (cases h; done) | exact⟨_,_,⟨rfl,rfl⟩,by simp,by simp⟩) ?_
    rintro _ _ ⟨rfl,rfl⟩
    refine Aj ?_
    refine Af fun B=>?_
    refine Ah ?_
    refine A4 59 67 B ?_
    refine Aj ?_
    refine Af fun B=>?_
    refine Av ?_
    refine Nu (fun ((b_3,i_3):List UInt8×Int)=>mk [(1,.sl 1 (Al e8 raw)),(9,.sl 1 (Al e8 b_3)),(11,vj i_3)] [] 0) D (Ay []) ?_
    rintro⟨b_3,i_3⟩ m3 o3 D hn3
    replace D:An.l3 raw b_3 i_3=some o3:=D
    show B9 _ _ _ _ (mk _ _ _)
    unfold An.l3 at D
    refine Ah ?_
    refine A4 0 16 Az ?_
    refine Aj ?_
    refine Af fun B=>?_
    refine Dg rfl D (fun h28 D=>?_) fun h28 D=>?_
    ·refine Ap ?_
     repeat first | refine Dc ?_ | refine De ?_
     refine Ah ?_
     refine Av ?_
     refine A4 16 80 B ?_
     refine Aj ?_
     obtain⟨y_17,hy_17,D⟩:=Ac D
     refine Dy (Kq _ _ hy_17) ?_
     refine Aj ?_
     refine Af fun B=>?_
     refine A4 80 144 B ?_
     refine Aj ?_
     obtain⟨y_18,hy_18,D⟩:=Ac D
     refine Dy (Xg _ _ hy_18) ?_
     refine Aj ?_
     refine Af fun B=>?_
     refine Ah ?_
     refine Bp (ι:=Bool) (fun (x136_4:Bool)=>mk [(1,.sl 1 (Al e8 raw)),(11,vj i_3),(136,.val (.bool x136_4))] [] 0) (fun (x136_4:Bool)=>An.j4 raw i_3 x136_4=some o3) ?_ ?_
     ·refine Ad (Bb _ _ []) 144 216 B rfl rfl ?_
      refine Aj ?_
      rcases Dx D with ⟨h31,D⟩ | ⟨h31,D⟩
      ·refine Aj ?_
       refine Af fun B=>?_
       exact⟨true,D,Ay []⟩
      ·refine Aj ?_
       obtain⟨y_19,hy_19,D⟩:=Ac D
       refine Dy (Zr _ _ _ hy_19) ?_
       refine Aj ?_
       refine Af fun B=>?_
       exact⟨!y_19,D,Ay []⟩
     ·rintro x136_4 D
      replace D:An.j4 raw i_3 x136_4=some o3:=D
      show B9 _ _ _ _ (mk _ _ _)
      unfold An.j4 at D
      refine Dg rfl D (fun h34 D=>?_) fun h34 D=>?_
      ·refine Ah ?_
       refine Ad (Bb _ _ []) 0 8 Az rfl rfl ?_
       refine Aj ?_
       refine Af fun B=>?_
       refine A1 ?_
       replace D:=Dr D hn3
       obtain rfl:=oi_ D
       exact Ax [] ⟨rfl,rfl⟩
      ·refine Ap ?_
       repeat first | refine Dc ?_ | refine De ?_
       refine Ad (Bb _ _ []) 0 16 Az rfl rfl ?_
       refine Aj ?_
       refine Af fun B=>?_
       refine Ad (Bb _ _ []) 16 40 B rfl rfl ?_
       refine Aj ?_
       refine Af fun B=>?_
       obtain rfl:=oi_ D
       exact⟨((raw,W (i_3 + 1)),m3),Nat.lt_succ_self _,hn3,Ay []⟩
    ·refine Cm ?_
     repeat first | refine Dc ?_ | refine De ?_
     replace D:=Dr D hn3
     refine A4 16 32 B ?_
     obtain⟨y_20,hy_20,D⟩:=Ac D
     refine Dy (Qi _ hy_20) ?_
     refine Aj ?_
     refine Af fun B=>?_
     refine A1 ?_
     obtain rfl:=oi_ D
     exact Ax [] ⟨rfl,rfl⟩
end Go.Proofs.YtlfeokjhphpjeaaGreat
