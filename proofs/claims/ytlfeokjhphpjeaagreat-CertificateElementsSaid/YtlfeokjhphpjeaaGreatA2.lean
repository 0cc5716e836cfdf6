import Derived.Test.YtlfeokjhphpjeaaGreatT1
import Derived.Test.YtlfeokjhphpjeaaGreatA1
set_option linter.unusedVariables false
set_option linter.unusedSimpArgs false
set_option maxRecDepth 100000
set_option maxHeartbeats 1600000
namespace Go.Proofs.YtlfeokjhphpjeaaGreat
open Go.RowKit
theorem Qj (b:(List UInt8)) (r:(List UInt8)) (D:D7 b=some r):Fn Tryz.prog 96 0 [.sl 1 (Al e8 b)] [] (fun d' b'=>d'=.sl 1 (Al e8 r)/\b'=[]):=by
 unfold D7 at D
 refine Fn.of Tryz.func96 rfl rfl rfl fun w0 I ρ0=>?_
 show B9 _ ⟨w0,I,ρ0,0,0,8⟩ _ _ _
 refine A4 0 8 Az ?_
 refine Aj ?_
 refine Af fun B=>?_
 refine Ah ?_
 refine Bp (ι:=Bool) (fun (x4_1:Bool)=>mk [(0,.sl 1 (Al e8 b)),(4,.val (.bool x4_1))] [] 0) (fun (x4_1:Bool)=>D7.j1 b x4_1=some r) ?_ ?_
 ·refine Ad (Bb _ _ []) 8 24 B rfl rfl ?_
  refine Aj ?_
  refine gG rfl rfl ⟨_,Qf⟩ rfl ?_
  intro bz hz2
  rcases bz with _ | _
  ·replace D:=nR D
   refine Af fun B=>?_
   exact⟨false,D,Ay []⟩
  ·replace D:=mG ((Wk B7 (by decide) (hz2 rfl))) D
   refine Af fun B=>?_
   exact⟨true,D,Ay []⟩
 ·rintro x4_1 D
  replace D:D7.j1 b x4_1=some r:=D
  show B9 _ _ _ _ (mk _ _ _)
  unfold D7.j1 at D
  refine Dg rfl D (fun h5 D=>?_) fun h5 D=>?_
  ·refine Ah ?_
   refine Ad (Bb _ _ []) 0 8 Az rfl rfl ?_
   refine Aj ?_
   refine Af fun B=>?_
   refine A1 ?_
   obtain rfl:=oi_ D
   exact Ax [] ⟨rfl,rfl⟩
  ·refine Ap ?_
   repeat first | refine Dc ?_ | refine De ?_
   refine A4 0 32 Az ?_
   refine Bl rfl rfl (Ao F5 z5 (by decide) rfl rfl rfl rfl Xn (cs:=[]) .nil rfl (l:=([]:List UInt8)) (f:=e8) rfl) rfl rfl ?_
   refine Aj ?_
   obtain⟨l,hl,D⟩:=Ac D
   refine Fe (rd:=[0]) rfl rfl (Dj F5 B7 .row rfl .sl rfl hl rfl) rfl rfl ?_
   refine Aj ?_
   refine Af fun B=>?_
   refine A1 ?_
   obtain rfl:=oi_ D
   exact Ax [] ⟨rfl,rfl⟩
theorem Ld.F (rec:(List Aa)->Option ((List Aa))) (hrec:∀ (l:(List Aa)) (r:(List Aa)),rec l=some r->Fn Tryz.prog 120 0 [.sl 4 (Al Aa.enc l)] [] (fun d' b'=>d'=.sl 4 (Al Aa.enc r)/\b'=[])) (l:(List Aa)) (r:(List Aa)) (D:Cg.F rec l=some r):Fn Tryz.prog 120 0 [.sl 4 (Al Aa.enc l)] [] (fun d' b'=>d'=.sl 4 (Al Aa.enc r)/\b'=[]):=by
 unfold Cg.F at D
 refine Fn.of Tryz.func120 rfl rfl rfl fun w0 I ρ0=>?_
 show B9 _ ⟨w0,I,ρ0,0,0,26⟩ _ _ _
 refine A4 0 8 Az ?_
 refine Aj ?_
 refine Af fun B=>?_
 refine A4 8 16 B ?_
 refine Aj ?_
 refine Af fun B=>?_
 refine Ah ?_
 refine A4 16 40 B ?_
 refine Aj ?_
 refine Af fun B=>?_
 refine Av ?_
 refine Nu (fun ((x8_1,out_1):Int×List Aa)=>mk [(3,.row 0),(6,.sl 4 (Al Aa.enc l)),(7,.val (.int .i64 (l.length:Int))),(8,vj x8_1)] [(0,.row 30 4 (Al Aa.enc out_1))] 1) D (Ay []) ?_
 rintro⟨x8_1,out_1⟩ m1 o1 D hn1
 replace D:Cg.l1 rec l x8_1 out_1=some o1:=D
 show B9 _ _ _ _ (mk _ _ _)
 unfold Cg.l1 at D
 refine A4 1 9 Az ?_
 refine Aj ?_
 refine Af fun B=>?_
 refine Ah ?_
 refine Dg rfl D (fun h5 D=>?_) fun h5 D=>?_
 ·refine Ap ?_
  repeat first | refine Dc ?_ | refine De ?_
  refine Ah ?_
  refine Av ?_
  refine A4 9 41 B ?_
  obtain⟨e,he,D⟩:=Ac D
  refine Aj ?_
  refine Bl rfl rfl (G1 Nt (Fp Aa.enc_len (Aw he) (o:=0) (m:=4) (cs:=[.int .i64 e.Tag,.sl 1 (Al e8 e.Bytes),.bool e.Nested,.sl 4 (Al Aa.enc e.Elements)]) (by simp only [Aa.enc_eq]; rfl) (by decide) rfl) (Di Aa.enc_len (Aw he) (o:=0) (m:=4) (by decide) rfl)) rfl rfl ?_
  refine Aj ?_
  refine Af fun B=>?_
  refine Ah ?_
  refine C5 (Bb _ _ []) (by kernel_rfl) [0,1,3,0,8,31,31,127,255,511] 41 121 B rfl rfl (by kernel_rfl) ?_
  refine Aj ?_
  obtain⟨y,hy,D⟩:=Ac D
  refine Dy (Qj _ _ hy) ?_
  refine Aj ?_
  obtain⟨y_2,hy_2,D⟩:=Ac D
  refine Dy (hrec _ _ hy_2) ?_
  refine Aj ?_
  refine Af fun B=>?_
  refine Ad (Bb _ _ []) 121 161 B rfl rfl ?_
  refine Aj ?_
  refine Bl rfl rfl (Ao Ip No (by decide) rfl rfl rfl rfl Qb (cs:=[.int .i64 e.Tag,.sl 1 (Al e8 y),.bool e.Nested,.sl 4 (Al Aa.enc y_2)]) (.cons .int (.cons .sl (.cons .bool (.cons .sl .nil)))) rfl (l:=([(Aa.mk e.Tag y e.Nested y_2)]:List Aa)) (f:=Aa.enc) (by simp only [Al,List.flatMap_cons,aBn,Aa.enc_eq]; rfl)) rfl rfl ?_
  obtain⟨l_2,hl_2,D⟩:=Ac D
  refine Fe (rd:=[0,137]) rfl rfl (Dj Ip Aa.enc_len .row rfl .row rfl hl_2 rfl) rfl rfl ?_
  refine Aj ?_
  refine Af fun B=>?_
  refine Ad (Bb _ _ []) 161 177 B rfl rfl ?_
  refine Aj ?_
  refine Af fun B=>?_
  obtain rfl:=oi_ D
  exact⟨((W (x8_1 + 1),l_2),m1),Nat.lt_succ_self _,hn1,Ay [(0,145)]⟩
 ·refine Cm ?_
  repeat first | refine Dc ?_ | refine De ?_
  replace D:=Dr D hn1
  refine A4 9 25 B ?_
  refine Aj ?_
  refine Af fun B=>?_
  refine A1 ?_
  obtain rfl:=oi_ D
  exact Ax [] ⟨rfl,rfl⟩
theorem Ld (l:(List Aa)) (r:(List Aa)) (D:Cg l=some r):Fn Tryz.prog 120 0 [.sl 4 (Al Aa.enc l)] [] (fun d' b'=>d'=.sl 4 (Al Aa.enc r)/\b'=[]):=
 Ja (motive:=fun (x:(List Aa)) (r:(List Aa))=>Fn Tryz.prog 120 0 [.sl 4 (Al Aa.enc x)] [] (fun d' b'=>d'=.sl 4 (Al Aa.enc r)/\b'=[])) (fun rec hrec x r h=>Ld.F _ (fun l r h=>hrec l r h) x r h) l r D
theorem Ph (l:(List Aa)) (r:Aa) (D:Ib l=some r):Fn Tryz.prog 88 0 [.sl 4 (Al Aa.enc l)] [] (fun d' b'=>d'=.agg (Aa.dv r)/\b'=[]):=by
 unfold Ib at D
 refine Fn.of Tryz.func88 rfl rfl rfl fun w0 I ρ0=>?_
 show B9 _ ⟨w0,I,ρ0,0,0,6⟩ _ _ _
 refine A4 0 8 Az ?_
 refine Aj ?_
 refine Af fun B=>?_
 refine A4 8 40 B ?_
 refine Aj ?_
 obtain⟨y,hy,D⟩:=Ac D
 refine Dy (Ld _ _ hy) ?_
 refine Bl rfl rfl (.build (r:=[.val (.int .i64 48),.val (.slice none 0 0),.val (.bool true),.sl 4 (Al Aa.enc y)]) Hh Me No (by kernel_rfl) rfl) rfl rfl ?_
 refine Aj ?_
 refine Af fun B=>?_
 refine A1 ?_
 obtain rfl:=oi_ D
 exact Ax [] ⟨rfl,rfl⟩
theorem Ms (u:A3) (r:Aa) (D:Fw u=some r):Fn Tryz.prog 113 0 [.agg [vj u.Alg,vj u.Bits]] [] (fun d' b'=>d'=.agg (Aa.dv r)/\b'=[]):=by
 unfold Fw at D
 refine Fn.of Tryz.func113 rfl rfl rfl fun w0 I ρ0=>?_
 show B9 _ ⟨w0,I,ρ0,0,0,11⟩ _ _ _
 refine A4 0 16 Az ?_
 refine Aj ?_
 refine Af fun B=>?_
 refine Ah ?_
 refine C5 (Bb _ _ [64]) (by kernel_rfl) [0,1,3,0,8,31,63,127,255] 16 88 B rfl rfl (by kernel_rfl) ?_
 refine Aj ?_
 obtain⟨y,hy,D⟩:=Ac D
 refine Dy (Hz _ _ hy) ?_
 refine Aj ?_
 obtain⟨y_2,hy_2,D⟩:=Ac D
 refine Dy (Hz _ _ hy_2) ?_
 refine Hq (rd:=[]) rfl rfl (Ao Ip No (by decide) rfl rfl rfl rfl Qb (cs:=[.int .i64 y.Tag,.sl 1 (Al e8 y.Bytes),.bool y.Nested,.sl 4 (Al Aa.enc y.Elements),.int .i64 y_2.Tag,.sl 1 (Al e8 y_2.Bytes),.bool y_2.Nested,.sl 4 (Al Aa.enc y_2.Elements)]) (.cons .int (.cons .sl (.cons .bool (.cons .sl (.cons .int (.cons .sl (.cons .bool (.cons .sl .nil)))))))) rfl (l:=([y,y_2]:List Aa)) (f:=Aa.enc) (by simp only [Al,List.flatMap_cons,aBn,Aa.enc_eq]; rfl)) rfl rfl rfl ?_
 obtain⟨y_3,hy_3,D⟩:=Ac D
 refine Dy (Ph _ _ hy_3) ?_
 refine Aj ?_
 refine Af fun B=>?_
 refine A1 ?_
 obtain rfl:=oi_ D
 exact Ax [] ⟨rfl,rfl⟩
theorem dA (b:Bool) (r:Aa) (D:Np b=some r):Fn Tryz.prog 114 0 [.val (.bool b)] [] (fun d' b'=>d'=.agg (Aa.dv r)/\b'=[]):=by
 unfold Np at D
 refine Fn.of Tryz.func114 rfl rfl rfl fun w0 I ρ0=>?_
 show B9 _ ⟨w0,I,ρ0,0,0,8⟩ _ _ _
 refine A4 0 8 Az ?_
 refine Aj ?_
 refine Af fun B=>?_
 refine Ah ?_
 refine A4 8 16 B ?_
 refine Aj ?_
 refine Af fun B=>?_
 refine Dg rfl D (fun h3 D=>?_) fun h3 D=>?_
 ·refine Ah ?_
  refine Ad (Bb _ _ []) 16 40 B rfl rfl ?_
  refine Bl rfl rfl (Ao F5 z5 (by decide) rfl rfl rfl rfl Xn (cs:=[.int .u8 255]) (.cons .int .nil) rfl (l:=([(255:UInt8)]:List UInt8)) (f:=e8) rfl) rfl rfl ?_
  refine Bl rfl rfl (.build (r:=[.val (.int .i64 1),.row 16,.val (.bool false),.val (.slice none 0 0)]) Hh Me No (by kernel_rfl) rfl) rfl rfl ?_
  refine Aj ?_
  refine Af fun B=>?_
  refine A1 ?_
  obtain rfl:=oi_ D
  exact Ax [] ⟨rfl,rfl⟩
 ·refine Ap ?_
  repeat first | refine Dc ?_ | refine De ?_
  refine A4 16 40 B ?_
  refine Bl rfl rfl (Ao F5 z5 (by decide) rfl rfl rfl rfl Xn (cs:=[.int .u8 0]) (.cons .int .nil) rfl (l:=([(0:UInt8)]:List UInt8)) (f:=e8) rfl) rfl rfl ?_
  refine Bl rfl rfl (.build (r:=[.val (.int .i64 1),.row 16,.val (.bool false),.val (.slice none 0 0)]) Hh Me No (by kernel_rfl) rfl) rfl rfl ?_
  refine Aj ?_
  refine Af fun B=>?_
  refine A1 ?_
  obtain rfl:=oi_ D
  exact Ax [] ⟨rfl,rfl⟩
theorem dV (l:(List Aa)) (r:Aa) (D:Mf l=some r):Fn Tryz.prog 115 0 [.sl 4 (Al Aa.enc l)] [] (fun d' b'=>d'=.agg (Aa.dv r)/\b'=[]):=by
 unfold Mf at D
 refine Fn.of Tryz.func115 rfl rfl rfl fun w0 I ρ0=>?_
 show B9 _ ⟨w0,I,ρ0,0,0,5⟩ _ _ _
 refine A4 0 8 Az ?_
 refine Aj ?_
 refine Af fun B=>?_
 refine A4 8 32 B ?_
 refine Aj ?_
 obtain⟨y,hy,D⟩:=Ac D
 refine Dy (Ph _ _ hy) ?_
 refine Aj ?_
 refine Af fun B=>?_
 refine A1 ?_
 obtain rfl:=oi_ D
 exact Ax [] ⟨rfl,rfl⟩
theorem Mk (c:Ab) (r:Aa) (D:Ch c=some r):Fn Tryz.prog 85 0 [.agg (Ab.dv c)] [] (fun d' b'=>d'=.agg (Aa.dv r)/\b'=[]):=by
 unfold Ch at D
 refine Fn.of Tryz.func85 rfl rfl rfl fun w0 I ρ0=>?_
 show B9 _ ⟨w0,I,ρ0,0,0,53⟩ _ _ _
 refine A4 0 16 Az ?_
 refine Aj ?_
 refine Af fun B=>?_
 refine A4 16 24 B ?_
 refine Aj ?_
 refine Af fun B=>?_
 refine Ah ?_
 refine A4 24 56 B ?_
 refine Aj ?_
 refine Af fun B=>?_
 refine Av ?_
 refine Nu (fun ((x9_1,names_1):Int×List Aa)=>mk [(1,.ptr 0 0),(2,.ptr 1 0),(3,.row 2),(7,.sl 1 (Al eS c.Names)),(8,.val (.int .i64 (c.Names.length:Int))),(9,vj x9_1)] [(0,.box (Ab.dv c) 38),(1,.box [.val (.int .i64 0),.val (.slice none 0 0),.val (.bool false),.val (.slice none 0 0)] 30),(2,.row 30 4 (Al Aa.enc names_1))] 3) D (Ay [(0,0),(1,8)]) ?_
 rintro⟨x9_1,names_1⟩ m1 o1 D hn1
 replace D:Ch.l1 c x9_1 names_1=some o1:=D
 show B9 _ _ _ _ (mk _ _ _)
 unfold Ch.l1 at D
 refine A4 3 11 Az ?_
 refine Aj ?_
 refine Af fun B=>?_
 refine Ah ?_
 refine Dg rfl D (fun h5 D=>?_) fun h5 D=>?_
 ·refine Ap ?_
  repeat first | refine Dc ?_ | refine De ?_
  refine Ah ?_
  refine Av ?_
  refine A4 11 35 B ?_
  obtain⟨e,he,D⟩:=Ac D
  refine Aj ?_
  refine Bl rfl rfl (Bq jX (A9 Hs (Aw he) (o:=0) (c:=.str e) rfl rfl)) rfl rfl ?_
  refine Aj ?_
  refine Af fun B=>?_
  refine Ad (Bb _ _ []) 35 83 B rfl rfl ?_
  refine Aj ?_
  obtain⟨y,hy,D⟩:=Ac D
  refine Dy (Qs _ _ hy) ?_
  refine Bl rfl rfl (Ao Ip No (by decide) rfl rfl rfl rfl Qb (cs:=[.int .i64 y.Tag,.sl 1 (Al e8 y.Bytes),.bool y.Nested,.sl 4 (Al Aa.enc y.Elements)]) (.cons .int (.cons .sl (.cons .bool (.cons .sl .nil)))) rfl (l:=([y]:List Aa)) (f:=Aa.enc) (by simp only [Al,List.flatMap_cons,aBn,Aa.enc_eq]; rfl)) rfl rfl ?_
  obtain⟨l,hl,D⟩:=Ac D
  refine Fe (rd:=[2,59]) rfl rfl (Dj Ip Aa.enc_len .row rfl .row rfl hl rfl) rfl rfl ?_
  refine Aj ?_
  refine Af fun B=>?_
  refine Ad (Bb _ _ []) 83 99 B rfl rfl ?_
  refine Aj ?_
  refine Af fun B=>?_
  obtain rfl:=oi_ D
  exact⟨((W (x9_1 + 1),l),m1),Nat.lt_succ_self _,hn1,Ay [(0,0),(1,1),(2,67)]⟩
 ·refine Cm ?_
  repeat first | refine Dc ?_ | refine De ?_
  replace D:=Dr D hn1
  refine Ah ?_
  refine Je (σ':=mk [(1,.ptr 0 0),(2,.ptr 1 0),(3,.sl 4 (Al Aa.enc names_1))] [(0,.box (Ab.dv c) 38),(1,.box [.val (.int .i64 0),.val (.slice none 0 0),.val (.bool false),.val (.slice none 0 0)] 30)] 2) (Ay [(0,0),(1,1)]) ?_
  refine C5 (Bb _ _ [258]) (by kernel_rfl) [0,1,3,0,8,31,0,64,255,0,512,2047,0,4096,16383,0,32768,131071,0,262144,1048575,0,2097152,8388607,0,16777216,67108863,0,134217728,536870911,0,2147483647,4294967295,8589934591,17179869183] 2 282 Az rfl rfl (by kernel_rfl) ?_
  refine Aj ?_
  obtain⟨y_12,hy_12,D⟩:=Ac D
  refine Dy (Hz _ _ hy_12) ?_
  refine Aj ?_
  obtain⟨y_13,hy_13,D⟩:=Ac D
  refine Dy (Qs _ _ hy_13) ?_
  refine Aj ?_
  obtain⟨y_14,hy_14,D⟩:=Ac D
  refine Dy (Qs _ _ hy_14) ?_
  refine Aj ?_
  obtain⟨y_15,hy_15,D⟩:=Ac D
  refine Dy (Ms _ _ hy_15) ?_
  refine Aj ?_
  obtain⟨y_16,hy_16,D⟩:=Ac D
  refine Dy (Hz _ _ hy_16) ?_
  refine Aj ?_
  obtain⟨y_17,hy_17,D⟩:=Ac D
  refine Dy (Ms _ _ hy_17) ?_
  refine Aj ?_
  obtain⟨y_18,hy_18,D⟩:=Ac D
  refine Dy (Hz _ _ hy_18) ?_
  refine Aj ?_
  obtain⟨y_19,hy_19,D⟩:=Ac D
  refine Dy (Hz _ _ hy_19) ?_
  refine Aj ?_
  obtain⟨y_20,hy_20,D⟩:=Ac D
  refine Dy (dA _ _ hy_20) ?_
  refine Aj ?_
  obtain⟨y_21,hy_21,D⟩:=Ac D
  refine Dy (Hz _ _ hy_21) ?_
  refine Aj ?_
  obtain⟨y_22,hy_22,D⟩:=Ac D
  refine Dy (dV _ _ hy_22) ?_
  refine Hq (rd:=[]) rfl rfl (Ao Ip No (by decide) rfl rfl rfl rfl Qb (cs:=[.int .i64 y_12.Tag,.sl 1 (Al e8 y_12.Bytes),.bool y_12.Nested,.sl 4 (Al Aa.enc y_12.Elements),.int .i64 y_13.Tag,.sl 1 (Al e8 y_13.Bytes),.bool y_13.Nested,.sl 4 (Al Aa.enc y_13.Elements),.int .i64 y_14.Tag,.sl 1 (Al e8 y_14.Bytes),.bool y_14.Nested,.sl 4 (Al Aa.enc y_14.Elements),.int .i64 y_15.Tag,.sl 1 (Al e8 y_15.Bytes),.bool y_15.Nested,.sl 4 (Al Aa.enc y_15.Elements),.int .i64 y_16.Tag,.sl 1 (Al e8 y_16.Bytes),.bool y_16.Nested,.sl 4 (Al Aa.enc y_16.Elements),.int .i64 y_17.Tag,.sl 1 (Al e8 y_17.Bytes),.bool y_17.Nested,.sl 4 (Al Aa.enc y_17.Elements),.int .i64 y_18.Tag,.sl 1 (Al e8 y_18.Bytes),.bool y_18.Nested,.sl 4 (Al Aa.enc y_18.Elements),.int .i64 y_19.Tag,.sl 1 (Al e8 y_19.Bytes),.bool y_19.Nested,.sl 4 (Al Aa.enc y_19.Elements),.int .i64 y_20.Tag,.sl 1 (Al e8 y_20.Bytes),.bool y_20.Nested,.sl 4 (Al Aa.enc y_20.Elements),.int .i64 y_21.Tag,.sl 1 (Al e8 y_21.Bytes),.bool y_21.Nested,.sl 4 (Al Aa.enc y_21.Elements),.int .i64 y_22.Tag,.sl 1 (Al e8 y_22.Bytes),.bool y_22.Nested,.sl 4 (Al Aa.enc y_22.Elements)]) (.cons .int (.cons .sl (.cons .bool (.cons .sl (.cons .int (.cons .sl (.cons .bool (.cons .sl (.cons .int (.cons .sl (.cons .bool (.cons .sl (.cons .int (.cons .sl (.cons .bool (.cons .sl (.cons .int (.cons .sl (.cons .bool (.cons .sl (.cons .int (.cons .sl (.cons .bool (.cons .sl (.cons .int (.cons .sl (.cons .bool (.cons .sl (.cons .int (.cons .sl (.cons .bool (.cons .sl (.cons .int (.cons .sl (.cons .bool (.cons .sl (.cons .int (.cons .sl (.cons .bool (.cons .sl (.cons .int (.cons .sl (.cons .bool (.cons .sl .nil)))))))))))))))))))))))))))))))))))))))))))) rfl (l:=([y_12,y_13,y_14,y_15,y_16,y_17,y_18,y_19,y_20,y_21,y_22]:List Aa)) (f:=Aa.enc) (by simp only [Al,List.flatMap_cons,aBn,Aa.enc_eq]; rfl)) rfl rfl rfl ?_
  obtain⟨y_23,hy_23,D⟩:=Ac D
  refine Dy (Ph _ _ hy_23) ?_
  refine Aj ?_
  refine Af fun B=>?_
  refine A1 ?_
  obtain rfl:=oi_ D
  exact Ax [] ⟨rfl,rfl⟩
theorem Yf (n:Int) (r:Bool) (D:Lq n=some r):Fn Tryz.prog 93 0 [vj n] [] (fun d' b'=>d'=.val (.bool r)/\b'=[]):=by
 unfold Lq at D
 refine Fn.of Tryz.func93 rfl rfl rfl fun w0 I ρ0=>?_
 show B9 _ ⟨w0,I,ρ0,0,0,14⟩ _ _ _
 refine A4 0 8 Az ?_
 refine Aj ?_
 refine Af fun B=>?_
 refine A4 8 104 B ?_
 refine Aj ?_
 rcases Dx D with ⟨h2,D⟩ | ⟨h2,D⟩
 ·refine Aj ?_
  rcases Dx D with ⟨h3,D⟩ | ⟨h3,D⟩
  ·refine Aj ?_
   refine Bl (Ef rfl rfl h3) rfl eM rfl rfl ?_
   refine Aj ?_
   refine Af fun B=>?_
   refine A1 ?_
   obtain rfl:=oi_ D
   exact Ax [] ⟨rfl,rfl⟩
  ·refine Aj ?_
   refine Af fun B=>?_
   refine A1 ?_
   obtain rfl:=oi_ D
   exact Ax [] ⟨rfl,rfl⟩
 ·refine Aj ?_
  refine Af fun B=>?_
  refine A1 ?_
  obtain rfl:=oi_ D
  exact Ax [] ⟨rfl,rfl⟩
theorem Uc (rec:Aa->Option (Bool)) (hrec:∀ (v:Aa) (r:Bool),rec v=some r->Fn Tryz.prog 86 0 [.agg (Aa.dv v)] [] (fun d' b'=>d'=.val (.bool r)/\b'=[])) (x':Aa) (r:Bool) (D:Ew rec x'=some r):Fn Tryz.prog 117 0 [.agg (Aa.dv x')] [] (fun d' b'=>d'=.val (.bool r)/\b'=[]):=by
 unfold Ew at D
 refine Fn.of Tryz.func117 rfl rfl rfl fun w0 I ρ0=>?_
 show B9 _ ⟨w0,I,ρ0,0,0,6⟩ _ _ _
 refine A4 0 16 Az ?_
 refine Aj ?_
 refine Af fun B=>?_
 refine A4 16 48 B ?_
 refine Aj ?_
 obtain⟨y,hy,D⟩:=Ac D
 refine Dy (hrec _ _ hy) ?_
 refine Aj ?_
 refine Af fun B=>?_
 refine A1 ?_
 obtain rfl:=oi_ D
 exact Ax [] ⟨rfl,rfl⟩
theorem H8 (rec:Aa->Option (Bool)) (hrec:∀ (v:Aa) (r:Bool),rec v=some r->Fn Tryz.prog 86 0 [.agg (Aa.dv v)] [] (fun d' b'=>d'=.val (.bool r)/\b'=[])) (s:(List Aa)) (f:Aa->Option (Bool)) (hf_f:∀ (x0:Aa) (y:Bool),f x0=some y->Fn Tryz.prog 117 0 [.agg (Aa.dv x0)] [] (fun d' b'=>d'=.val (.bool y)/\b'=[])) (r:Int) (D:A8 rec s f=some r):Fn Tryz.prog 130 0 [.sl 4 (Al Aa.enc s),.clo 117 0 []] [] (fun d' b'=>d'=vj r/\b'=[]):=by
 unfold A8 at D
 refine Fn.of Tryz.func130 rfl rfl rfl fun w0 I ρ0=>?_
 show B9 _ ⟨w0,I,ρ0,0,0,19⟩ _ _ _
 refine A4 0 8 Az ?_
 refine Aj ?_
 refine Af fun B=>?_
 refine Ah ?_
 refine A4 8 32 B ?_
 refine Aj ?_
 refine Af fun B=>?_
 refine Av ?_
 refine Nu (fun (x8_1:Int)=>mk [(0,.sl 4 (Al Aa.enc s)),(1,.clo 117 0 []),(7,.val (.int .i64 (s.length:Int))),(8,vj x8_1)] [] 0) D (Ay []) ?_
 rintro x8_1 m1 o1 D hn1
 replace D:A8.l1 s f x8_1=some o1:=D
 show B9 _ _ _ _ (mk _ _ _)
 unfold A8.l1 at D
 refine A4 0 8 Az ?_
 refine Aj ?_
 refine Af fun B=>?_
 refine Ah ?_
 refine Dg rfl D (fun h4 D=>?_) fun h4 D=>?_
 ·refine Ap ?_
  repeat first | refine Dc ?_ | refine De ?_
  refine Ah ?_
  refine Av ?_
  refine A4 8 24 B ?_
  refine Aj ?_
  refine Af fun B=>?_
  refine A4 24 72 B ?_
  refine Aj ?_
  obtain⟨e,he,D⟩:=Ac D
  refine Aj ?_
  refine Bl rfl rfl (G1 Nt (Fp Aa.enc_len (Aw he) (o:=0) (m:=4) (cs:=[.int .i64 e.Tag,.sl 1 (Al e8 e.Bytes),.bool e.Nested,.sl 4 (Al Aa.enc e.Elements)]) (by simp only [Aa.enc_eq]; rfl) (by decide) rfl) (Di Aa.enc_len (Aw he) (o:=0) (m:=4) (by decide) rfl)) rfl rfl ?_
  obtain⟨y,hy,D⟩:=Ac D
  refine Yx (rd:=[]) (ps:=[]) (gs:=[]) false rfl rfl (hf_f e _ hy) rfl rfl (.cons (.agg (.cons .val (.cons .sl (.cons .val (.cons .sl .nil))))) .nil) rfl rfl (by intro h; cases h) rfl rfl rfl rfl ?_
  refine Af fun B=>?_
  refine Dg rfl D (fun h7 D=>?_) fun h7 D=>?_
  ·refine Ah ?_
   refine Ad (Bb _ _ []) 72 88 B rfl rfl ?_
   refine Aj ?_
   refine Af fun B=>?_
   refine A1 ?_
   replace D:=Dr D hn1
   obtain rfl:=oi_ D
   exact Ax [] ⟨rfl,rfl⟩
  ·refine Ap ?_
   repeat first | refine Dc ?_ | refine De ?_
   refine Ad (Bb _ _ []) 72 88 B rfl rfl ?_
   refine Aj ?_
   refine Af fun B=>?_
   obtain rfl:=oi_ D
   exact⟨(W (x8_1 + 1),m1),Nat.lt_succ_self _,hn1,Ay []⟩
 ·refine Cm ?_
  repeat first | refine Dc ?_ | refine De ?_
  replace D:=Dr D hn1
  refine A4 8 16 B ?_
  refine Aj ?_
  refine Af fun B=>?_
  refine A1 ?_
  obtain rfl:=oi_ D
  exact Ax [] ⟨rfl,rfl⟩
theorem Hr (rec:Aa->Option (Bool)) (hrec:∀ (v:Aa) (r:Bool),rec v=some r->Fn Tryz.prog 86 0 [.agg (Aa.dv v)] [] (fun d' b'=>d'=.val (.bool r)/\b'=[])) (s:(List Aa)) (f:Aa->Option (Bool)) (hf_f:∀ (x0:Aa) (y:Bool),f x0=some y->Fn Tryz.prog 117 0 [.agg (Aa.dv x0)] [] (fun d' b'=>d'=.val (.bool y)/\b'=[])) (r:Bool) (D:Cy rec s f=some r):Fn Tryz.prog 116 0 [.sl 4 (Al Aa.enc s),.clo 117 0 []] [] (fun d' b'=>d'=.val (.bool r)/\b'=[]):=by
 unfold Cy at D
 refine Fn.of Tryz.func116 rfl rfl rfl fun w0 I ρ0=>?_
 show B9 _ ⟨w0,I,ρ0,0,0,9⟩ _ _ _
 refine A4 0 8 Az ?_
 refine Aj ?_
 refine Af fun B=>?_
 refine A4 8 48 B ?_
 refine Aj ?_
 obtain⟨y,hy,D⟩:=Ac D
 refine Dy (H8 rec hrec s f hf_f _ hy) ?_
 refine Aj ?_
 refine Af fun B=>?_
 refine A1 ?_
 obtain rfl:=oi_ D
 exact Ax [] ⟨rfl,rfl⟩
theorem Le.F (rec:Aa->Option (Bool)) (hrec:∀ (v:Aa) (r:Bool),rec v=some r->Fn Tryz.prog 86 0 [.agg (Aa.dv v)] [] (fun d' b'=>d'=.val (.bool r)/\b'=[])) (v:Aa) (r:Bool) (D:B1.F rec v=some r):Fn Tryz.prog 86 0 [.agg (Aa.dv v)] [] (fun d' b'=>d'=.val (.bool r)/\b'=[]):=by
 unfold B1.F at D
 refine Fn.of Tryz.func86 rfl rfl rfl fun w0 I ρ0=>?_
 show B9 _ ⟨w0,I,ρ0,0,0,41⟩ _ _ _
 refine A4 0 16 Az ?_
 refine Aj ?_
 refine Af fun B=>?_
 refine Ah ?_
 refine Bp (ι:=Bool) (fun (x36_1:Bool)=>mk [(1,.ptr 0 0),(36,.val (.bool x36_1))] [(0,.box (Aa.dv v) 30)] 1) (fun (x36_1:Bool)=>B1.j1 rec v x36_1=some r) ?_ ?_
 ·refine Ad (Bb _ _ []) 16 288 B rfl rfl ?_
  refine Aj ?_
  obtain⟨y,hy,D⟩:=Ac D
  refine Dy (Yf _ _ hy) ?_
  refine Aj ?_
  rcases Dx D with ⟨h2,D⟩ | ⟨h2,D⟩
  ·refine Aj ?_
   refine Af fun B=>?_
   exact⟨true,D,Ay [(0,0)]⟩
  ·refine Aj ?_
   refine Bl (Ef rfl rfl h2) rfl eM rfl rfl ?_
   refine Aj ?_
   refine Bl (Ef rfl rfl h2) rfl (kH rM) rfl rfl ?_
   refine Aj ?_
   rcases Dx D with ⟨h4,D⟩ | ⟨h4,D⟩
   ·refine Aj ?_
    refine Af fun B=>?_
    exact⟨true,D,Ay [(0,0)]⟩
   ·refine Aj ?_
    rcases Dx D with ⟨h6,D⟩ | ⟨h6,D⟩
    ·refine Aj ?_
     rcases Dx D with ⟨h7,D⟩ | ⟨h7,D⟩
     ·refine Aj ?_
      refine Af fun B=>?_
      exact⟨true,D,Ay [(0,0)]⟩
     ·refine Aj ?_
      refine Af fun B=>?_
      exact⟨false,D,Ay [(0,0)]⟩
    ·refine Aj ?_
     refine Af fun B=>?_
     exact⟨decide (0 < (v.Elements.length:Int)),D,Ay [(0,0)]⟩
 ·rintro x36_1 D
  replace D:B1.j1 rec v x36_1=some r:=D
  show B9 _ _ _ _ (mk _ _ _)
  unfold B1.j1 at D
  refine Dg rfl D (fun h11 D=>?_) fun h11 D=>?_
  ·refine Ah ?_
   refine Ad (Bb _ _ []) 1 9 Az rfl rfl ?_
   refine Aj ?_
   refine Af fun B=>?_
   refine A1 ?_
   obtain rfl:=oi_ D
   exact Ax [] ⟨rfl,rfl⟩
  ·refine Ap ?_
   repeat first | refine Dc ?_ | refine De ?_
   refine A4 1 41 Az ?_
   refine Aj ?_
   obtain⟨y_2,hy_2,D⟩:=Ac D
   refine Dy (Hr rec hrec v.Elements (fun x0=>Ew rec x0) (fun x0 yy hh=>Uc rec hrec x0 yy hh) _ hy_2) ?_
   refine Aj ?_
   refine Af fun B=>?_
   refine A1 ?_
   obtain rfl:=oi_ D
   exact Ax [] ⟨rfl,rfl⟩
theorem Le (v:Aa) (r:Bool) (D:B1 v=some r):Fn Tryz.prog 86 0 [.agg (Aa.dv v)] [] (fun d' b'=>d'=.val (.bool r)/\b'=[]):=
 Ja (motive:=fun (x:Aa) (r:Bool)=>Fn Tryz.prog 86 0 [.agg (Aa.dv x)] [] (fun d' b'=>d'=.val (.bool r)/\b'=[])) (fun rec hrec x r h=>Le.F _ (fun v r h=>hrec v r h) x r h) v r D
theorem Mt.F (rec:Aa->Option (Int)) (hrec:∀ (v:Aa) (r:Int),rec v=some r->Fn Tryz.prog 53 0 [.agg (Aa.dv v)] [] (fun d' b'=>d'=vj r/\b'=[])) (v:Aa) (r:Int) (D:Cu.F rec v=some r):Fn Tryz.prog 53 0 [.agg (Aa.dv v)] [] (fun d' b'=>d'=vj r/\b'=[]):=by
 unfold Cu.F at D
 refine Fn.of Tryz.func53 rfl rfl rfl fun w0 I ρ0=>?_
 show B9 _ ⟨w0,I,ρ0,0,0,20⟩ _ _ _
 refine A4 0 16 Az ?_
 refine Aj ?_
 refine Af fun B=>?_
 refine A4 16 24 B ?_
 refine Aj ?_
 refine Af fun B=>?_
 refine Ah ?_
 refine A4 24 56 B ?_
 refine Aj ?_
 refine Af fun B=>?_
 refine Av ?_
 refine Nu (fun ((most_1,x9_1):Int×Int)=>mk [(3,vj most_1),(7,.sl 4 (Al Aa.enc v.Elements)),(8,.val (.int .i64 (v.Elements.length:Int))),(9,vj x9_1)] [] 0) D (Ay []) ?_
 rintro⟨most_1,x9_1⟩ m1 o1 D hn1
 replace D:Cu.l1 rec v most_1 x9_1=some o1:=D
 show B9 _ _ _ _ (mk _ _ _)
 unfold Cu.l1 at D
 refine A4 0 8 Az ?_
 refine Aj ?_
 refine Af fun B=>?_
 refine Ah ?_
 refine Dg rfl D (fun h5 D=>?_) fun h5 D=>?_
 ·refine Ap ?_
  repeat first | refine Dc ?_ | refine De ?_
  refine Ah ?_
  refine Av ?_
  refine A4 8 40 B ?_
  obtain⟨e,he,D⟩:=Ac D
  refine Aj ?_
  refine Bl rfl rfl (G1 Nt (Fp Aa.enc_len (Aw he) (o:=0) (m:=4) (cs:=[.int .i64 e.Tag,.sl 1 (Al e8 e.Bytes),.bool e.Nested,.sl 4 (Al Aa.enc e.Elements)]) (by simp only [Aa.enc_eq]; rfl) (by decide) rfl) (Di Aa.enc_len (Aw he) (o:=0) (m:=4) (by decide) rfl)) rfl rfl ?_
  refine Aj ?_
  refine Af fun B=>?_
  refine Ad (Bb _ _ []) 40 80 B rfl rfl ?_
  refine Aj ?_
  obtain⟨y,hy,D⟩:=Ac D
  refine Dy (hrec _ _ hy) ?_
  refine Bl rfl rfl sE rfl rfl ?_
  refine Aj ?_
  refine Af fun B=>?_
  refine Ad (Bb _ _ []) 80 96 B rfl rfl ?_
  refine Aj ?_
  refine Af fun B=>?_
  obtain rfl:=oi_ D
  exact⟨((max most_1 y,W (x9_1 + 1)),m1),Nat.lt_succ_self _,hn1,Ay []⟩
 ·refine Cm ?_
  repeat first | refine Dc ?_ | refine De ?_
  replace D:=Dr D hn1
  refine A4 8 32 B ?_
  refine Aj ?_
  refine Af fun B=>?_
  refine A1 ?_
  obtain rfl:=oi_ D
  exact Ax [] ⟨rfl,rfl⟩
theorem Mt (v:Aa) (r:Int) (D:Cu v=some r):Fn Tryz.prog 53 0 [.agg (Aa.dv v)] [] (fun d' b'=>d'=vj r/\b'=[]):=
 Ja (motive:=fun (x:Aa) (r:Int)=>Fn Tryz.prog 53 0 [.agg (Aa.dv x)] [] (fun d' b'=>d'=vj r/\b'=[])) (fun rec hrec x r h=>Mt.F _ (fun v r h=>hrec v r h) x r h) v r D
theorem M8 (b:List UInt8) (n:Int) (r:(List UInt8)) (D:Cj b n=some r):Fn Tryz.prog 119 0 [.row 0,vj n] [.row 5 1 (Al e8 b)] (fun d' b'=>d'=.row 0/\b'=[.row 5 1 (Al e8 r)]):=by
 unfold Cj at D
 refine Fn.of Tryz.func119 rfl rfl rfl fun w0 I ρ0=>?_
 show B9 _ ⟨w0,I,ρ0,0,1,43⟩ _ _ _
 refine A4 1 9 Az ?_
 refine Aj ?_
 refine Af fun B=>?_
 refine Ah ?_
 refine A4 9 25 B ?_
 refine Aj ?_
 refine Af fun B=>?_
 refine Dg rfl D (fun h3 D=>?_) fun h3 D=>?_
 ·refine Ah ?_
  refine Ad (Bb _ _ []) 25 73 B rfl rfl ?_
  refine Aj ?_
  refine Bl rfl rfl (Gw Kl Ia) rfl rfl ?_
  refine Bl rfl rfl (Ao F5 z5 (by decide) rfl rfl rfl rfl Xn (cs:=[.int .u8 ((u8 n).toNat:Int)]) (.cons .int .nil) rfl (l:=([(u8 n)]:List UInt8)) (f:=e8) rfl) rfl rfl ?_
  obtain⟨l,hl,D⟩:=Ac D
  refine Fe (rd:=[0,49]) rfl rfl (Dj F5 B7 .row rfl .row rfl hl rfl) rfl rfl ?_
  refine Aj ?_
  refine Af fun B=>?_
  refine A1 ?_
  obtain rfl:=oi_ D
  exact Ax [(0,57)] ⟨rfl,rfl⟩
 ·refine Ap ?_
  repeat first | refine Dc ?_ | refine De ?_
  refine A4 25 33 B ?_
  refine Aj ?_
  refine Af fun B=>?_
  refine Ah ?_
  refine A4 33 49 B ?_
  refine Aj ?_
  refine Af fun B=>?_
  refine Av ?_
  refine Nu (fun ((count_1,m_1):Int×Int)=>mk [(0,.row 0),(1,vj n),(5,vj count_1),(6,vj m_1)] [(0,.row 5 1 (Al e8 b))] 1) D (Ay [(0,0)]) ?_
  rintro⟨count_1,m_1⟩ m1 o1 D hn1
  replace D:Cj.l1 b n count_1 m_1=some o1:=D
  show B9 _ _ _ _ (mk _ _ _)
  unfold Cj.l1 at D
  refine Ah ?_
  refine A4 1 17 Az ?_
  refine Aj ?_
  refine Af fun B=>?_
  refine Dg rfl D (fun h8 D=>?_) fun h8 D=>?_
  ·refine Ap ?_
   repeat first | refine Dc ?_ | refine De ?_
   refine Ah ?_
   refine Av ?_
   refine Ad (Bb _ _ []) 17 41 B rfl rfl ?_
   refine Aj ?_
   refine Af fun B=>?_
   refine Ad (Bb _ _ []) 41 65 B rfl rfl ?_
   refine Aj ?_
   obtain⟨q,hq,D⟩:=Ac D
   refine Bl rfl rfl (Wj hq) rfl rfl ?_
   refine Aj ?_
   refine Af fun B=>?_
   obtain rfl:=oi_ D
   exact⟨((W (count_1 + 1),q),m1),Nat.lt_succ_self _,hn1,Ay [(0,0)]⟩
  ·refine Cm ?_
   repeat first | refine Dc ?_ | refine De ?_
   replace D:=Dr D hn1
   refine A4 17 73 B ?_
   refine Aj ?_
   refine Bl rfl rfl (Gw Kl Ia) rfl rfl ?_
   refine Bl rfl rfl (Ao F5 z5 (by decide) rfl rfl rfl rfl Xn (cs:=[.int .u8 ((u8 (W (128 + count_1))).toNat:Int)]) (.cons .int .nil) rfl (l:=([(u8 (W (128 + count_1)))]:List UInt8)) (f:=e8) rfl) rfl rfl ?_
   obtain⟨l_2,hl_2,D⟩:=Ac D
   refine Fe (rd:=[0,49]) rfl rfl (Dj F5 B7 .row rfl .row rfl hl_2 rfl) rfl rfl ?_
   refine Aj ?_
   refine Af fun B=>?_
   refine Ah ?_
   refine A4 73 97 B ?_
   refine Aj ?_
   refine Af fun B=>?_
   refine Av ?_
   refine Nu (fun ((i_2,b_2):Int×List UInt8)=>mk [(0,.row 0),(1,vj n),(7,vj i_2)] [(0,.row 5 1 (Al e8 b_2))] 1) D (Ay [(0,57)]) ?_
   rintro⟨i_2,b_2⟩ m2 o2 D hn2
   replace D:Cj.l2 n i_2 b_2=some o2:=D
   show B9 _ _ _ _ (mk _ _ _)
   unfold Cj.l2 at D
   refine Ah ?_
   refine A4 1 17 Az ?_
   refine Aj ?_
   refine Af fun B=>?_
   refine Dg rfl D (fun h14 D=>?_) fun h14 D=>?_
   ·refine Ap ?_
    repeat first | refine Dc ?_ | refine De ?_
    refine Ah ?_
    refine Av ?_
    refine Ad (Bb _ _ []) 17 89 B rfl rfl ?_
    refine Aj ?_
    obtain⟨q_2,hq_2,D⟩:=Ac D
    refine Bl rfl rfl (Wj hq_2) rfl rfl ?_
    refine Bl rfl rfl (Gw Kl Ia) rfl rfl ?_
    refine Bl rfl rfl (Ao F5 z5 (by decide) rfl rfl rfl rfl Xn (cs:=[.int .u8 ((u8 q_2).toNat:Int)]) (.cons .int .nil) rfl (l:=([(u8 q_2)]:List UInt8)) (f:=e8) rfl) rfl rfl ?_
    obtain⟨l_3,hl_3,D⟩:=Ac D
    refine Fe (rd:=[0,65]) rfl rfl (Dj F5 B7 .row rfl .row rfl hl_3 rfl) rfl rfl ?_
    refine Aj ?_
    refine Af fun B=>?_
    refine Ad (Bb _ _ []) 89 113 B rfl rfl ?_
    refine Aj ?_
    refine Af fun B=>?_
    obtain rfl:=oi_ D
    exact⟨((W (i_2 - 1),l_3),m2),Nat.lt_succ_self _,hn2,Ay [(0,73)]⟩
   ·refine Cm ?_
    repeat first | refine Dc ?_ | refine De ?_
    replace D:=Dr D hn2
    refine A4 17 33 B ?_
    refine Aj ?_
    refine Af fun B=>?_
    refine A1 ?_
    obtain rfl:=oi_ D
    exact Ax [(0,0)] ⟨rfl,rfl⟩
theorem R0 (rec:Aa->Option ((List UInt8))) (hrec:∀ (v:Aa) (r:(List UInt8)),rec v=some r->Fn Tryz.prog 118 0 [.agg (Aa.dv v)] [] (fun d' b'=>d'=.sl 1 (Al e8 r)/\b'=[])) (b:List UInt8) (v:Aa) (r:(List UInt8)) (D:Gg rec b v=some r):Fn Tryz.prog 87 0 [.row 0,.agg (Aa.dv v)] [.row 5 1 (Al e8 b)] (fun d' b'=>d'=.row 0/\b'=[.row 5 1 (Al e8 r)]):=by
 unfold Gg at D
 refine Fn.of Tryz.func87 rfl rfl rfl fun w0 I ρ0=>?_
 show B9 _ ⟨w0,I,ρ0,0,1,19⟩ _ _ _
 refine A4 1 17 Az ?_
 refine Aj ?_
 refine Af fun B=>?_
 refine A4 17 41 B ?_
 refine Aj ?_
 obtain⟨y,hy,D⟩:=Ac D
 refine Dy (hrec _ _ hy) ?_
 refine Aj ?_
 refine Af fun B=>?_
 refine A4 41 137 B ?_
 refine Aj ?_
 refine Bl rfl rfl (Gw Kl Ia) rfl rfl ?_
 refine Bl rfl rfl (Ao F5 z5 (by decide) rfl rfl rfl rfl Xn (cs:=[.int .u8 ((u8 v.Tag).toNat:Int)]) (.cons .int .nil) rfl (l:=([(u8 v.Tag)]:List UInt8)) (f:=e8) rfl) rfl rfl ?_
 obtain⟨l,hl,D⟩:=Ac D
 refine Fe (rd:=[0,73]) rfl rfl (Dj F5 B7 .row rfl .row rfl hl rfl) rfl rfl ?_
 refine Aj ?_
 obtain⟨y_2,hy_2,D⟩:=Ac D
 refine Eh (rd:=[81]) (ps:=[]) (gs:=[81]) false rfl (M8 _ _ _ hy_2) rfl rfl (.cons (.rowK rfl) (.cons .val .nil)) ⟨_,_,_,rfl,.head _,rfl,rfl⟩ rfl (by intro h; cases h) rfl (by intro h; first | (cases h; done) | exact⟨_,_,⟨rfl,rfl⟩,by simp,by simp⟩) ?_
 rintro _ _ ⟨rfl,rfl⟩
 refine Aj ?_
 obtain⟨l_2,hl_2,D⟩:=Ac D
 refine Fe (rd:=[105]) rfl rfl (Dj F5 B7 .row rfl .sl rfl hl_2 rfl) rfl rfl ?_
 refine Aj ?_
 refine Af fun B=>?_
 refine A1 ?_
 obtain rfl:=oi_ D
 exact Ax [(0,121)] ⟨rfl,rfl⟩
theorem L7.F (rec:Aa->Option ((List UInt8))) (hrec:∀ (v:Aa) (r:(List UInt8)),rec v=some r->Fn Tryz.prog 118 0 [.agg (Aa.dv v)] [] (fun d' b'=>d'=.sl 1 (Al e8 r)/\b'=[])) (v:Aa) (r:(List UInt8)) (D:Bx.F rec v=some r):Fn Tryz.prog 118 0 [.agg (Aa.dv v)] [] (fun d' b'=>d'=.sl 1 (Al e8 r)/\b'=[]):=by
 unfold Bx.F at D
 refine Fn.of Tryz.func118 rfl rfl rfl fun w0 I ρ0=>?_
 show B9 _ ⟨w0,I,ρ0,0,0,23⟩ _ _ _
 refine A4 0 16 Az ?_
 refine Aj ?_
 refine Af fun B=>?_
 refine Ah ?_
 refine A4 16 40 B ?_
 refine Aj ?_
 refine Af fun B=>?_
 refine Dg rfl D (fun h3 D=>?_) fun h3 D=>?_
 ·refine Ah ?_
  refine Ad (Bb _ _ []) 40 64 B rfl rfl ?_
  refine Aj ?_
  refine Af fun B=>?_
  refine A1 ?_
  obtain rfl:=oi_ D
  exact Ax [] ⟨rfl,rfl⟩
 ·refine Ap ?_
  repeat first | refine Dc ?_ | refine De ?_
  refine A4 40 48 B ?_
  refine Aj ?_
  refine Af fun B=>?_
  refine Ah ?_
  refine A4 48 80 B ?_
  refine Aj ?_
  refine Af fun B=>?_
  refine Av ?_
  refine Nu (fun ((x14_1,out_1):Int×List UInt8)=>mk [(3,.row 0),(12,.sl 4 (Al Aa.enc v.Elements)),(13,.val (.int .i64 (v.Elements.length:Int))),(14,vj x14_1)] [(0,.row 5 1 (Al e8 out_1))] 1) D (Ay []) ?_
  rintro⟨x14_1,out_1⟩ m1 o1 D hn1
  replace D:Bx.l1 rec v x14_1 out_1=some o1:=D
  show B9 _ _ _ _ (mk _ _ _)
  unfold Bx.l1 at D
  refine A4 1 9 Az ?_
  refine Aj ?_
  refine Af fun B=>?_
  refine Ah ?_
  refine Dg rfl D (fun h8 D=>?_) fun h8 D=>?_
  ·refine Ap ?_
   repeat first | refine Dc ?_ | refine De ?_
   refine Ah ?_
   refine Av ?_
   refine A4 9 41 B ?_
   obtain⟨e,he,D⟩:=Ac D
   refine Aj ?_
   refine Bl rfl rfl (G1 Nt (Fp Aa.enc_len (Aw he) (o:=0) (m:=4) (cs:=[.int .i64 e.Tag,.sl 1 (Al e8 e.Bytes),.bool e.Nested,.sl 4 (Al Aa.enc e.Elements)]) (by simp only [Aa.enc_eq]; rfl) (by decide) rfl) (Di Aa.enc_len (Aw he) (o:=0) (m:=4) (by decide) rfl)) rfl rfl ?_
   refine Aj ?_
   refine Af fun B=>?_
   refine Ad (Bb _ _ []) 41 73 B rfl rfl ?_
   refine Aj ?_
   obtain⟨y,hy,D⟩:=Ac D
   refine Eh (rd:=[0]) (ps:=[]) (gs:=[0]) false rfl (R0 rec hrec _ _ _ hy) rfl rfl (.cons (.rowK rfl) (.cons (.agg (.cons .val (.cons .sl (.cons .val (.cons .sl .nil))))) .nil)) ⟨_,_,_,rfl,.head _,rfl,rfl⟩ rfl (by intro h; cases h) rfl (by intro h; first | (cases h; done) | exact⟨_,_,⟨rfl,rfl⟩,by simp,by simp⟩) ?_
   rintro _ _ ⟨rfl,rfl⟩
   refine Aj ?_
   refine Af fun B=>?_
   refine Ad (Bb _ _ []) 73 89 B rfl rfl ?_
   refine Aj ?_
   refine Af fun B=>?_
   obtain rfl:=oi_ D
   exact⟨((W (x14_1 + 1),y),m1),Nat.lt_succ_self _,hn1,Ay [(0,57)]⟩
  ·refine Cm ?_
   repeat first | refine Dc ?_ | refine De ?_
   replace D:=Dr D hn1
   refine A4 9 25 B ?_
   refine Aj ?_
   refine Af fun B=>?_
   refine A1 ?_
   obtain rfl:=oi_ D
   exact Ax [] ⟨rfl,rfl⟩
theorem L7 (v:Aa) (r:(List UInt8)) (D:Bx v=some r):Fn Tryz.prog 118 0 [.agg (Aa.dv v)] [] (fun d' b'=>d'=.sl 1 (Al e8 r)/\b'=[]):=
 Ja (motive:=fun (x:Aa) (r:(List UInt8))=>Fn Tryz.prog 118 0 [.agg (Aa.dv x)] [] (fun d' b'=>d'=.sl 1 (Al e8 r)/\b'=[])) (fun rec hrec x r h=>L7.F _ (fun v r h=>hrec v r h) x r h) v r D
theorem Ox (v:Aa) (r:(List UInt8)) (D:H5 v=some r):Fn Tryz.prog 87 0 [.val (.slice none 0 0),.agg (Aa.dv v)] [] (fun d' b'=>d'=.row 0/\b'=[.row 5 1 (Al e8 r)]):=by
 unfold H5 at D
 refine Fn.of Tryz.func87 rfl rfl rfl fun w0 I ρ0=>?_
 show B9 _ ⟨w0,I,ρ0,0,0,19⟩ _ _ _
 refine A4 0 16 Az ?_
 refine Aj ?_
 refine Af fun B=>?_
 refine A4 16 40 B ?_
 refine Aj ?_
 obtain⟨y,hy,D⟩:=Ac D
 refine Dy (L7 _ _ hy) ?_
 refine Aj ?_
 refine Af fun B=>?_
 refine A4 40 136 B ?_
 refine Aj ?_
 refine Bl rfl rfl (Gw Kl Ia) rfl rfl ?_
 refine Bl rfl rfl (Ao F5 z5 (by decide) rfl rfl rfl rfl Xn (cs:=[.int .u8 ((u8 v.Tag).toNat:Int)]) (.cons .int .nil) rfl (l:=([(u8 v.Tag)]:List UInt8)) (f:=e8) rfl) rfl rfl ?_
 obtain⟨l,hl,D⟩:=Ac D
 refine Fe (rd:=[72]) rfl rfl (Dj F5 B7 .nil rfl .row rfl hl rfl) rfl rfl ?_
 refine Aj ?_
 obtain⟨y_2,hy_2,D⟩:=Ac D
 refine Eh (rd:=[80]) (ps:=[]) (gs:=[80]) false rfl (M8 _ _ _ hy_2) rfl rfl (.cons (.rowK rfl) (.cons .val .nil)) ⟨_,_,_,rfl,.head _,rfl,rfl⟩ rfl (by intro h; cases h) rfl (by intro h; first | (cases h; done) | exact⟨_,_,⟨rfl,rfl⟩,by simp,by simp⟩) ?_
 rintro _ _ ⟨rfl,rfl⟩
 refine Aj ?_
 obtain⟨l_2,hl_2,D⟩:=Ac D
 refine Fe (rd:=[104]) rfl rfl (Dj F5 B7 .row rfl .sl rfl hl_2 rfl) rfl rfl ?_
 refine Aj ?_
 refine Af fun B=>?_
 refine A1 ?_
 obtain rfl:=oi_ D
 exact Ax [(0,120)] ⟨rfl,rfl⟩
theorem Rh (v:Aa) (r:(List UInt8)×Int) (D:Is v=some r):Fn Tryz.prog 43 0 [.agg (Aa.dv v)] [] (fun d' b'=>d'=.tup [.sl 1 (Al e8 r.1),vj r.2]/\b'=[]):=by
 unfold Is at D
 refine Fn.of Tryz.func43 rfl rfl rfl fun w0 I ρ0=>?_
 show B9 _ ⟨w0,I,ρ0,0,0,17⟩ _ _ _
 refine A4 0 24 Az ?_
 refine Aj ?_
 refine Af fun B=>?_
 refine Ah ?_
 refine A4 24 48 B ?_
 refine Aj ?_
 obtain⟨y,hy,D⟩:=Ac D
 refine Dy (Le _ _ hy) ?_
 refine Aj ?_
 refine Af fun B=>?_
 refine Dg rfl D (fun h3 D=>?_) fun h3 D=>?_
 ·refine Ah ?_
  refine Ad (Bb _ _ []) 48 64 B rfl rfl ?_
  refine Aj ?_
  refine Af fun B=>?_
  refine A1 ?_
  obtain rfl:=oi_ D
  exact Ax [] ⟨rfl,rfl⟩
 ·refine Ap ?_
  repeat first | refine Dc ?_ | refine De ?_
  refine Ah ?_
  refine A4 48 72 B ?_
  refine Aj ?_
  obtain⟨y_2,hy_2,D⟩:=Ac D
  refine Dy (Mt _ _ hy_2) ?_
  refine Aj ?_
  refine Af fun B=>?_
  refine Dg rfl D (fun h6 D=>?_) fun h6 D=>?_
  ·refine Ah ?_
   refine Ad (Bb _ _ []) 72 88 B rfl rfl ?_
   refine Aj ?_
   refine Af fun B=>?_
   refine A1 ?_
   obtain rfl:=oi_ D
   exact Ax [] ⟨rfl,rfl⟩
  ·refine Ap ?_
   repeat first | refine Dc ?_ | refine De ?_
   refine A4 72 96 B ?_
   refine Aj ?_
   obtain⟨y_3,hy_3,D⟩:=Ac D
   refine Eh (rd:=[]) (ps:=[]) (gs:=[]) false rfl (Ox _ _ hy_3) rfl rfl (.cons .val (.cons (.agg (.cons .val (.cons .sl (.cons .val (.cons .sl .nil))))) .nil)) rfl rfl (by intro h; cases h) rfl (by intro h; first | (cases h; done) | exact⟨_,_,⟨rfl,rfl⟩,by simp,by simp⟩) ?_
   rintro _ _ ⟨rfl,rfl⟩
   refine Aj ?_
   refine Af fun B=>?_
   refine Ah ?_
   refine A4 96 120 B ?_
   refine Aj ?_
   refine Af fun B=>?_
   refine Dg rfl D (fun h10 D=>?_) fun h10 D=>?_
   ·refine Ah ?_
    refine Ad (Bb _ _ []) 120 136 B rfl rfl ?_
    refine Aj ?_
    refine Af fun B=>?_
    refine A1 ?_
    obtain rfl:=oi_ D
    exact Ax [] ⟨rfl,rfl⟩
   ·refine Ap ?_
    repeat first | refine Dc ?_ | refine De ?_
    refine A4 120 144 B ?_
    refine Aj ?_
    refine Af fun B=>?_
    refine A1 ?_
    obtain rfl:=oi_ D
    exact Ax [] ⟨rfl,rfl⟩
theorem K5 (c:Ab) (r:(List UInt8)×Int) (D:Es c=some r):Fn Tryz.prog 41 0 [.agg (Ab.dv c)] [] (fun d' b'=>d'=.tup [.sl 1 (Al e8 r.1),vj r.2]/\b'=[]):=by
 unfold Es at D
 refine Fn.of Tryz.func41 rfl rfl rfl fun w0 I ρ0=>?_
 show B9 _ ⟨w0,I,ρ0,0,0,12⟩ _ _ _
 refine A4 0 24 Az ?_
 refine Aj ?_
 refine Af fun B=>?_
 refine Ah ?_
 refine A4 24 48 B ?_
 refine Aj ?_
 obtain⟨y,hy,D⟩:=Ac D
 refine Dy (I1 _ _ hy) ?_
 refine Aj ?_
 refine Af fun B=>?_
 refine Dg rfl D (fun h3 D=>?_) fun h3 D=>?_
 ·refine Ah ?_
  refine Ad (Bb _ _ []) 48 64 B rfl rfl ?_
  refine Aj ?_
  refine Af fun B=>?_
  refine A1 ?_
  obtain rfl:=oi_ D
  exact Ax [] ⟨rfl,rfl⟩
 ·refine Ap ?_
  repeat first | refine Dc ?_ | refine De ?_
  refine A4 48 104 B ?_
  refine Aj ?_
  obtain⟨y_2,hy_2,D⟩:=Ac D
  refine Dy (Mk _ _ hy_2) ?_
  obtain⟨y_3,hy_3,D⟩:=Ac D
  refine Dy (Rh _ _ hy_3) ?_
  refine Aj ?_
  refine Af fun B=>?_
  refine A1 ?_
  obtain rfl:=oi_ D
  exact Ax [] ⟨rfl,rfl⟩
theorem Ju (b:(List UInt8)) (r:Int) (D:Ci b=some r):Fn Tryz.prog 23 0 [.sl 1 (Al e8 b)] [] (fun d' b'=>d'=vj r/\b'=[]):=by
 unfold Ci at D
 refine Fn.of Tryz.func23 rfl rfl rfl fun w0 I ρ0=>?_
 show B9 _ ⟨w0,I,ρ0,0,0,20⟩ _ _ _
 refine A4 0 8 Az ?_
 refine Aj ?_
 refine Af fun B=>?_
 refine A4 8 16 B ?_
 refine Aj ?_
 refine Af fun B=>?_
 refine Ah ?_
 refine A4 16 40 B ?_
 refine Aj ?_
 refine Af fun B=>?_
 refine Av ?_
 refine Nu (fun ((s_1,x8_1):Int×Int)=>mk [(3,.val (.int .u32 s_1)),(6,.sl 1 (Al e8 b)),(7,.val (.int .i64 (b.length:Int))),(8,vj x8_1)] [] 0) D (Ay []) ?_
 rintro⟨s_1,x8_1⟩ m1 o1 D hn1
 replace D:Ci.l1 b s_1 x8_1=some o1:=D
 show B9 _ _ _ _ (mk _ _ _)
 unfold Ci.l1 at D
 refine A4 0 8 Az ?_
 refine Aj ?_
 refine Af fun B=>?_
 refine Ah ?_
 refine Dg rfl D (fun h5 D=>?_) fun h5 D=>?_
 ·refine Ap ?_
  repeat first | refine Dc ?_ | refine De ?_
  refine Ah ?_
  refine Av ?_
  refine A4 8 32 B ?_
  obtain⟨e,he,D⟩:=Ac D
  refine Aj ?_
  refine Bl rfl rfl (Bq Na (A9 B7 (Aw he) (o:=0) (c:=.int .u8 (e.toNat:Int)) rfl rfl)) rfl rfl ?_
  refine Aj ?_
  refine Af fun B=>?_
  refine Ad (Bb _ _ []) 32 80 B rfl rfl ?_
  refine Aj ?_
  refine Bl rfl rfl (U3 Ia fS) rfl rfl ?_
  refine Bl rfl rfl oE rfl rfl ?_
  refine Bl rfl rfl mE rfl rfl ?_
  refine Aj ?_
  refine Af fun B=>?_
  refine Ad (Bb _ _ []) 80 96 B rfl rfl ?_
  refine Aj ?_
  refine Af fun B=>?_
  obtain rfl:=oi_ D
  exact⟨((IntKind.wrap .u32 ((Zw .u32 s_1 (IntKind.wrap .u32 (e.toNat:Int))) * 16777619),W (x8_1 + 1)),m1),Nat.lt_succ_self _,hn1,Ay []⟩
 ·refine Cm ?_
  repeat first | refine Dc ?_ | refine De ?_
  replace D:=Dr D hn1
  refine A4 8 32 B ?_
  refine Aj ?_
  refine Bl rfl rfl (Nv fS Kl) rfl rfl ?_
  refine Aj ?_
  refine Af fun B=>?_
  refine A1 ?_
  obtain rfl:=oi_ D
  exact Ax [] ⟨rfl,rfl⟩
theorem Q6 (c:Ab) (key:Int) (r:Ab×Int) (D:Cn c key=some r):Fn Tryz.prog 19 0 [.agg (Ab.dv c),vj key] [] (fun d' b'=>d'=.tup [.agg (Ab.dv r.1),vj r.2]/\b'=[]):=by
 unfold Cn at D
 refine Fn.of Tryz.func19 rfl rfl rfl fun w0 I ρ0=>?_
 show B9 _ ⟨w0,I,ρ0,0,0,33⟩ _ _ _
 refine A4 0 24 Az ?_
 refine Aj ?_
 refine Af fun B=>?_
 refine A4 24 88 B ?_
 refine Aj ?_
 obtain⟨y,hy,D⟩:=Ac D
 refine Dy (Oy _ _ hy) ?_
 refine Bl rfl rfl (.build (r:=[.val (.int .i64 0),.val (.int .i64 0)]) Qh cW pF (by kernel_rfl) rfl) rfl rfl ?_
 refine Aj ?_
 refine Af fun B=>?_
 refine A4 88 144 B ?_
 refine Aj ?_
 obtain⟨y_2,hy_2,D⟩:=Ac D
 refine Dy (K5 _ _ hy_2) ?_
 refine Aj ?_
 refine Af fun B=>?_
 refine Ah ?_
 refine Bp (ι:=Bool) (fun (x25_1:Bool)=>mk [(1,vj key),(2,.ptr 0 0),(4,.ptr 1 0),(6,.sl 1 (Al e8 y_2.1)),(25,.val (.bool x25_1))] [(0,.box [vj c.Serial,vk c.Issuer,vk c.Subject,vj c.Key.Alg,vj c.Key.Bits,vj c.KeyId,vj c.Hash.Alg,vj c.Hash.Bits,vj c.From,vj c.To,.val (.bool c.Authority),vj c.Path,.sl 1 (Al eS y),.val (.int .i64 0),.val (.int .i64 0)] 38),(1,.box [.val (.int .i64 0),.val (.string (⟨#[]⟩:ByteArray)),.val (.string (⟨#[]⟩:ByteArray)),.val (.int .i64 0),.val (.int .i64 0),.val (.int .i64 0),.val (.int .i64 0),.val (.int .i64 0),.val (.int .i64 0),.val (.int .i64 0),.val (.bool false),.val (.int .i64 0),.val (.slice none 0 0),.val (.int .i64 0),.val (.int .i64 0)] 38)] 2) (fun (x25_1:Bool)=>Cn.j1 c key y y_2 x25_1=some r) ?_ ?_
 ·refine Ad (Bb _ _ []) 144 200 B rfl rfl ?_
  refine Aj ?_
  rcases Dx D with ⟨h4,D⟩ | ⟨h4,D⟩
  ·refine Aj ?_
   refine Af fun B=>?_
   exact⟨true,D,Ay [(0,0),(1,8)]⟩
  ·refine Aj ?_
   obtain⟨y_3,hy_3,D⟩:=Ac D
   refine Dy (J6 _ _ hy_3) ?_
   refine Aj ?_
   refine Af fun B=>?_
   exact⟨!y_3,D,Ay [(0,0),(1,8)]⟩
 ·rintro x25_1 D
  replace D:Cn.j1 c key y y_2 x25_1=some r:=D
  show B9 _ _ _ _ (mk _ _ _)
  unfold Cn.j1 at D
  refine Dg rfl D (fun h7 D=>?_) fun h7 D=>?_
  ·refine Ah ?_
   refine Ad (Bb _ _ []) 2 26 Az rfl rfl ?_
   refine Bl rfl rfl (.build (r:=[.val (.int .i64 0),.val (.string (⟨#[]⟩:ByteArray)),.val (.string (⟨#[]⟩:ByteArray)),.val (.int .i64 0),.val (.int .i64 0),.val (.int .i64 0),.val (.int .i64 0),.val (.int .i64 0),.val (.int .i64 0),.val (.int .i64 0),.val (.bool false),.val (.int .i64 0),.val (.slice none 0 0),.val (.int .i64 0),.val (.int .i64 0)]) H4 Ui iN (by kernel_rfl) rfl) rfl rfl ?_
   refine Aj ?_
   refine Af fun B=>?_
   refine A1 ?_
   obtain rfl:=oi_ D
   exact Ax [] ⟨rfl,rfl⟩
  ·refine Ap ?_
   repeat first | refine Dc ?_ | refine De ?_
   refine A4 2 50 Az ?_
   refine Aj ?_
   obtain⟨y_4,hy_4,D⟩:=Ac D
   refine Dy (Ju _ _ hy_4) ?_
   refine Bl rfl rfl (.build (r:=[vj key,vj y_4]) Qh cW pF (by kernel_rfl) rfl) rfl rfl ?_
   refine Aj ?_
   refine Af fun B=>?_
   refine A4 50 74 B ?_
   refine Aj ?_
   refine Af fun B=>?_
   refine A1 ?_
   obtain rfl:=oi_ D
   exact Ax [] ⟨rfl,rfl⟩
theorem Oq (c:Ab) (r:Aa) (D:Gt c=some r):Fn Tryz.prog 44 0 [.agg (Ab.dv c)] [] (fun d' b'=>d'=.agg (Aa.dv r)/\b'=[]):=by
 unfold Gt at D
 refine Fn.of Tryz.func44 rfl rfl rfl fun w0 I ρ0=>?_
 show B9 _ ⟨w0,I,ρ0,0,0,17⟩ _ _ _
 refine A4 0 16 Az ?_
 refine Aj ?_
 refine Af fun B=>?_
 refine Ah ?_
 refine C5 (Bb _ _ [96,112]) (by kernel_rfl) [0,1,0,4,12,31,0,64,192,511,1023,2047,4095,8191,16383] 16 136 B rfl rfl (by kernel_rfl) ?_
 refine Aj ?_
 obtain⟨y,hy,D⟩:=Ac D
 refine Dy (Mk _ _ hy) ?_
 refine Aj ?_
 obtain⟨y_2,hy_2,D⟩:=Ac D
 refine Dy (Hz _ _ hy_2) ?_
 refine Aj ?_
 obtain⟨y_3,hy_3,D⟩:=Ac D
 refine Dy (Hz _ _ hy_3) ?_
 refine Hq (rd:=[]) rfl rfl (Ao Ip No (by decide) rfl rfl rfl rfl Qb (cs:=[.int .i64 y_2.Tag,.sl 1 (Al e8 y_2.Bytes),.bool y_2.Nested,.sl 4 (Al Aa.enc y_2.Elements),.int .i64 y_3.Tag,.sl 1 (Al e8 y_3.Bytes),.bool y_3.Nested,.sl 4 (Al Aa.enc y_3.Elements)]) (.cons .int (.cons .sl (.cons .bool (.cons .sl (.cons .int (.cons .sl (.cons .bool (.cons .sl .nil)))))))) rfl (l:=([y_2,y_3]:List Aa)) (f:=Aa.enc) (by simp only [Al,List.flatMap_cons,aBn,Aa.enc_eq]; rfl)) rfl rfl rfl ?_
 obtain⟨y_4,hy_4,D⟩:=Ac D
 refine Dy (Ph _ _ hy_4) ?_
 refine Hq (rd:=[]) rfl rfl (Ao Ip No (by decide) rfl rfl rfl rfl Qb (cs:=[.int .i64 y.Tag,.sl 1 (Al e8 y.Bytes),.bool y.Nested,.sl 4 (Al Aa.enc y.Elements),.int .i64 y_4.Tag,.sl 1 (Al e8 y_4.Bytes),.bool y_4.Nested,.sl 4 (Al Aa.enc y_4.Elements)]) (.cons .int (.cons .sl (.cons .bool (.cons .sl (.cons .int (.cons .sl (.cons .bool (.cons .sl .nil)))))))) rfl (l:=([y,y_4]:List Aa)) (f:=Aa.enc) (by simp only [Al,List.flatMap_cons,aBn,Aa.enc_eq]; rfl)) rfl rfl rfl ?_
 obtain⟨y_5,hy_5,D⟩:=Ac D
 refine Dy (Ph _ _ hy_5) ?_
 refine Aj ?_
 refine Af fun B=>?_
 refine A1 ?_
 obtain rfl:=oi_ D
 exact Ax [] ⟨rfl,rfl⟩
theorem O0 (c:Ab) (r:(List UInt8)×Int) (D:Ft c=some r):Fn Tryz.prog 20 0 [.agg (Ab.dv c)] [] (fun d' b'=>d'=.tup [.sl 1 (Al e8 r.1),vj r.2]/\b'=[]):=by
 unfold Ft at D
 refine Fn.of Tryz.func20 rfl rfl rfl fun w0 I ρ0=>?_
 show B9 _ ⟨w0,I,ρ0,0,0,12⟩ _ _ _
 refine A4 0 24 Az ?_
 refine Aj ?_
 refine Af fun B=>?_
 refine Ah ?_
 refine A4 24 48 B ?_
 refine Aj ?_
 obtain⟨y,hy,D⟩:=Ac D
 refine Dy (I1 _ _ hy) ?_
 refine Aj ?_
 refine Af fun B=>?_
 refine Dg rfl D (fun h3 D=>?_) fun h3 D=>?_
 ·refine Ah ?_
  refine Ad (Bb _ _ []) 48 64 B rfl rfl ?_
  refine Aj ?_
  refine Af fun B=>?_
  refine A1 ?_
  obtain rfl:=oi_ D
  exact Ax [] ⟨rfl,rfl⟩
 ·refine Ap ?_
  repeat first | refine Dc ?_ | refine De ?_
  refine A4 48 104 B ?_
  refine Aj ?_
  obtain⟨y_2,hy_2,D⟩:=Ac D
  refine Dy (Oq _ _ hy_2) ?_
  obtain⟨y_3,hy_3,D⟩:=Ac D
  refine Dy (Rh _ _ hy_3) ?_
  refine Aj ?_
  refine Af fun B=>?_
  refine A1 ?_
  obtain rfl:=oi_ D
  exact Ax [] ⟨rfl,rfl⟩
theorem dP (b:(List UInt8)) (r:Int×Int×Bool) (D:Ck b=some r):Fn Tryz.prog 94 0 [.sl 1 (Al e8 b)] [] (fun d' b'=>d'=.tup [vj r.1,vj r.2.1,.val (.bool r.2.2)]/\b'=[]):=by
 unfold Ck at D
 refine Fn.of Tryz.func94 rfl rfl rfl fun w0 I ρ0=>?_
 show B9 _ ⟨w0,I,ρ0,0,0,61⟩ _ _ _
 refine A4 0 24 Az ?_
 refine Aj ?_
 refine Af fun B=>?_
 refine Ah ?_
 refine A4 24 48 B ?_
 refine Aj ?_
 refine Af fun B=>?_
 refine Dg rfl D (fun h3 D=>?_) fun h3 D=>?_
 ·refine Ah ?_
  refine Ad (Bb _ _ []) 48 72 B rfl rfl ?_
  refine Aj ?_
  refine Af fun B=>?_
  refine A1 ?_
  obtain rfl:=oi_ D
  exact Ax [] ⟨rfl,rfl⟩
 ·refine Ap ?_
  repeat first | refine Dc ?_ | refine De ?_
  refine A4 48 96 B ?_
  refine Aj ?_
  obtain⟨e,he,D⟩:=Ac D
  refine Aj ?_
  refine Bl rfl rfl (Bq Na (A9 B7 (Aw he) (o:=0) (c:=.int .u8 (e.toNat:Int)) rfl rfl)) rfl rfl ?_
  refine Bl rfl rfl (Hk (u:=e) Ia Kl) rfl rfl ?_
  refine Aj ?_
  refine Af fun B=>?_
  refine Ah ?_
  refine A4 96 112 B ?_
  refine Aj ?_
  refine Af fun B=>?_
  refine Dg rfl D (fun h7 D=>?_) fun h7 D=>?_
  ·refine Ah ?_
   refine Ad (Bb _ _ []) 112 168 B rfl rfl ?_
   refine Aj ?_
   refine Bl rfl rfl (Bq Na (A9 B7 (Aw he) (o:=0) (c:=.int .u8 (e.toNat:Int)) rfl rfl)) rfl rfl ?_
   refine Bl rfl rfl (Hk (u:=e) Ia Kl) rfl rfl ?_
   refine Aj ?_
   refine Af fun B=>?_
   refine A1 ?_
   obtain rfl:=oi_ D
   exact Ax [] ⟨rfl,rfl⟩
  ·refine Ap ?_
   repeat first | refine Dc ?_ | refine De ?_
   refine Ah ?_
   refine Bp (ι:=Bool) (fun (x40_1:Bool)=>mk [(0,.sl 1 (Al e8 b)),(5,.val (.int .i64 (W ((e.toNat:Int) - 128)))),(40,.val (.bool x40_1))] [] 0) (fun (x40_1:Bool)=>Ck.j1 b e x40_1=some r) ?_ ?_
   ·refine Ad (Bb _ _ []) 112 256 B rfl rfl ?_
    refine Aj ?_
    rcases Dx D with ⟨h9,D⟩ | ⟨h9,D⟩
    ·refine Aj ?_
     refine Af fun B=>?_
     exact⟨true,D,Ay []⟩
    ·refine Aj ?_
     rcases Dx D with ⟨h11,D⟩ | ⟨h11,D⟩
     ·refine Aj ?_
      refine Af fun B=>?_
      exact⟨true,D,Ay []⟩
     ·refine Aj ?_
      rcases Dx D with ⟨h13,D⟩ | ⟨h13,D⟩
      ·refine Aj ?_
       refine Af fun B=>?_
       exact⟨true,D,Ay []⟩
      ·refine Aj ?_
       obtain⟨e_2,he_2,D⟩:=Ac D
       refine Aj ?_
       refine Bl (Ef rfl rfl h13) rfl (Bq Na (A9 B7 (Aw he_2) (o:=0) (c:=.int .u8 (e_2.toNat:Int)) rfl rfl)) rfl rfl ?_
       refine Aj ?_
       refine Af fun B=>?_
       exact⟨decide ((e_2.toNat:Int)=0),D,Ay []⟩
   ·rintro x40_1 D
    replace D:Ck.j1 b e x40_1=some r:=D
    show B9 _ _ _ _ (mk _ _ _)
    unfold Ck.j1 at D
    refine Dg rfl D (fun h16 D=>?_) fun h16 D=>?_
    ·refine Ah ?_
     refine Ad (Bb _ _ []) 0 24 Az rfl rfl ?_
     refine Aj ?_
     refine Af fun B=>?_
     refine A1 ?_
     obtain rfl:=oi_ D
     exact Ax [] ⟨rfl,rfl⟩
    ·refine Ap ?_
     repeat first | refine Dc ?_ | refine De ?_
     refine A4 0 8 Az ?_
     refine Aj ?_
     refine Af fun B=>?_
     refine Ah ?_
     refine A4 8 56 B ?_
     refine Aj ?_
     obtain⟨l,hl,D⟩:=Ac D
     refine Bl rfl rfl (W0 F5 B7 hl) rfl rfl ?_
     refine Aj ?_
     refine Af fun B=>?_
     refine Av ?_
     refine Nu (fun ((n_2,x46_2):Int×Int)=>mk [(5,.val (.int .i64 (W ((e.toNat:Int) - 128)))),(6,vj n_2),(44,.sl 1 (Al e8 l)),(45,.val (.int .i64 (l.length:Int))),(46,vj x46_2)] [] 0) D (Ay []) ?_
     rintro⟨n_2,x46_2⟩ m2 o2 D hn2
     replace D:Ck.l2 e l n_2 x46_2=some o2:=D
     show B9 _ _ _ _ (mk _ _ _)
     unfold Ck.l2 at D
     refine A4 0 8 Az ?_
     refine Aj ?_
     refine Af fun B=>?_
     refine Ah ?_
     refine Dg rfl D (fun h21 D=>?_) fun h21 D=>?_
     ·refine Ap ?_
      repeat first | refine Dc ?_ | refine De ?_
      refine Ah ?_
      refine Av ?_
      refine A4 8 32 B ?_
      obtain⟨e_3,he_3,D⟩:=Ac D
      refine Aj ?_
      refine Bl rfl rfl (Bq Na (A9 B7 (Aw he_3) (o:=0) (c:=.int .u8 (e_3.toNat:Int)) rfl rfl)) rfl rfl ?_
      refine Aj ?_
      refine Af fun B=>?_
      refine Ad (Bb _ _ []) 32 80 B rfl rfl ?_
      refine Aj ?_
      obtain⟨q,hq,D⟩:=Ac D
      refine Bl rfl rfl (dO hq) rfl rfl ?_
      refine Aj ?_
      refine Bl rfl rfl (Hk (u:=e_3) Ia Kl) rfl rfl ?_
      refine Bl rfl rfl mJ rfl rfl ?_
      refine Aj ?_
      refine Af fun B=>?_
      refine Ad (Bb _ _ []) 80 96 B rfl rfl ?_
      refine Aj ?_
      refine Af fun B=>?_
      obtain rfl:=oi_ D
      exact⟨((Xq .i64 q (e_3.toNat:Int),W (x46_2 + 1)),m2),Nat.lt_succ_self _,hn2,Ay []⟩
     ·refine Cm ?_
      repeat first | refine Dc ?_ | refine De ?_
      replace D:=Dr D hn2
      refine A4 8 72 B ?_
      refine Aj ?_
      refine Af fun B=>?_
      refine A1 ?_
      obtain rfl:=oi_ D
      exact Ax [] ⟨rfl,rfl⟩
end Go.Proofs.YtlfeokjhphpjeaaGreat
