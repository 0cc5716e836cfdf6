import Derived.Test.YtkoflhimdenjaaaGreatT1
import Derived.Test.YtkoflhimdenjaaaGreatA1
import Derived.Test.YtkoflhimdenjaaaGreatA4
set_option linter.unusedVariables false
set_option linter.unusedSimpArgs false
set_option maxRecDepth 100000
set_option maxHeartbeats 1600000
namespace Go.Proofs.YtkoflhimdenjaaaGreat
open Go.RowKit
theorem bU (x':Cf) (r:Int) (G:Bt x'=some r):Fn Tryz.prog 63 0 [.agg (Cf.dv x')] [] (fun d' b'=>d'=vk r/\b'=[]):=by
 unfold Bt at G
 refine Fn.of Tryz.func63 rfl rfl rfl fun w0 I ρ0=>?_
 show B4 _ ⟨w0,I,ρ0,0,0,108⟩ _ _ _
 refine Bk 0 16 Ay fun B=>?_
 refine Ak <| Bs (ι:=Bool) (fun (x54_1:Bool)=>mk [(1,.ptr 0 0),(54,.val (.bool x54_1))] [(0,.box (Cf.dv x') 81)] 1) (fun (x54_1:Bool)=>Bt.j1 x' x54_1=some r) ?_ ?_
 refine Bu (Ch _ _ []) (by kernel_rfl) [0,1,3,7,15,31,63,127,255,511,1023,2047,4095,8191,16383,32767,65535,131071,262143,524287,1048575,2097151,4194303,8388607,16777215,33554431,67108863,134217727,268435455,536870911,1073741823,2147483647,4294967295,8589934591,17179869183,34359738367,68719476735,137438953471,274877906943,549755813887,1099511627775,2199023255551,4398046511103,8796093022207,4398046511103,21990232555519,57174604644351,127543348822015,268280837177343,562949953421311,1125899906842623] 16 424 B rfl rfl (by kernel_rfl) ?_
 refine Aw ?_
 obtain⟨y,hy,G⟩:=Ab G
 refine Dl (Nv _ _ hy) ?_
 refine Aw ?_
 rcases Dj G with ⟨h2,G⟩ | ⟨h2,G⟩
 refine Bi fun B=>?_
 exact⟨true,G,Av [(0,0)]⟩
 refine Aw ?_
 rcases Dj G with ⟨h4,G⟩ | ⟨h4,G⟩
 refine Aw ?_
 rcases Dj G with ⟨h5,G⟩ | ⟨h5,G⟩
 refine Bi fun B=>?_
 exact⟨true,G,Av [(0,0)]⟩
 refine Aw ?_
 rcases Dj G with ⟨h7,G⟩ | ⟨h7,G⟩
 refine Bi fun B=>?_
 exact⟨true,G,Av [(0,0)]⟩
 refine Aw ?_
 rcases Dj G with ⟨h9,G⟩ | ⟨h9,G⟩
 refine Bi fun B=>?_
 exact⟨true,G,Av [(0,0)]⟩
 refine Aw ?_
 rcases Dj G with ⟨h11,G⟩ | ⟨h11,G⟩
 refine Bi fun B=>?_
 exact⟨true,G,Av [(0,0)]⟩
 refine Aw ?_
 rcases Dj G with ⟨h13,G⟩ | ⟨h13,G⟩
 refine Bi fun B=>?_
 exact⟨true,G,Av [(0,0)]⟩
 refine Aw ?_
 rcases Dj G with ⟨h15,G⟩ | ⟨h15,G⟩
 refine Bi fun B=>?_
 exact⟨true,G,Av [(0,0)]⟩
 refine Aw ?_
 obtain⟨e,he,G⟩:=Ab G
 refine Aw ?_
 refine C1 (Dx rfl rfl h15) rfl (Fa Ru Sq (by decide) (Jb Co.enc_len (B3 he) (o:=2) (by decide) rfl)) rfl rfl ?_
 refine C1 (Dx rfl rfl h15) rfl (Da Sq (Eo Co.enc_len (B3 he) (o:=2) (c:=.int .i64 e.Day) rfl rfl)) rfl rfl ?_
 refine Bi fun B=>?_
 exact⟨decide (x'.Until < e.Day),G,Av [(0,0)]⟩
 refine Aw ?_
 rcases Dj G with ⟨h18,G⟩ | ⟨h18,G⟩
 refine Bi fun B=>?_
 exact⟨true,G,Av [(0,0)]⟩
 refine Aw ?_
 rcases Dj G with ⟨h20,G⟩ | ⟨h20,G⟩
 refine Bi fun B=>?_
 exact⟨true,G,Av [(0,0)]⟩
 refine Aw ?_
 rcases Dj G with ⟨h22,G⟩ | ⟨h22,G⟩
 refine Bi fun B=>?_
 exact⟨true,G,Av [(0,0)]⟩
 refine Aw ?_
 rcases Dj G with ⟨h24,G⟩ | ⟨h24,G⟩
 refine Bi fun B=>?_
 exact⟨true,G,Av [(0,0)]⟩
 refine Aw ?_
 rcases Dj G with ⟨h26,G⟩ | ⟨h26,G⟩
 refine Bi fun B=>?_
 exact⟨true,G,Av [(0,0)]⟩
 refine Aw ?_
 obtain⟨e_2,he_2,G⟩:=Ab G
 refine Aw ?_
 refine C1 (Dx rfl rfl h26) rfl (Fa Ru Sq (by decide) (Jb Co.enc_len (B3 he_2) (o:=2) (by decide) rfl)) rfl rfl ?_
 refine C1 (Dx rfl rfl h26) rfl (Da Sq (Eo Co.enc_len (B3 he_2) (o:=2) (c:=.int .i64 e_2.Day) rfl rfl)) rfl rfl ?_
 refine Bi fun B=>?_
 exact⟨decide (x'.Until < e_2.Day),G,Av [(0,0)]⟩
 rintro x54_1 G
 replace G:Bt.j1 x' x54_1=some r:=G
 show B4 _ _ _ _ (mk _ _ _)
 unfold Bt.j1 at G
 refine Cr rfl G (fun h29 G=>?_) fun h29 G=>?_
 refine Ca 1 9 Ay ?_
 exact Df
 refine C9 ?_
 refine Ak <| Bk 1 9 Ay fun B=>?_
 refine Aq <| Jp (fun (i_2:Int)=>mk [(1,.ptr 0 0),(3,vk i_2)] [(0,.box (Cf.dv x') 81)] 1) G (Av [(0,0)]) ?_
 rintro i_2 m2 o2 G hn2
 replace G:Bt.l2 x' i_2=some o2:=G
 show B4 _ _ _ _ (mk _ _ _)
 unfold Bt.l2 at G
 refine Ak <| Bk 1 41 Ay fun B=>?_
 refine Cr rfl G (fun h33 G=>?_) fun h33 G=>?_
 refine C9 ?_
 refine Ak <| Aq <| Bs (ι:=Bool) (fun (x107_3:Bool)=>mk [(1,.ptr 0 0),(3,vk i_2),(107,.val (.bool x107_3))] [(0,.box (Cf.dv x') 81)] 1) (fun (x107_3:Bool)=>Bt.j3 i_2 x107_3=some o2) ?_ ?_
 refine Bu (Ch _ _ []) (by kernel_rfl) [0,1,0,7,15,31,63,127,255,511,1023,511,4095,8191,16383,32767,65535,131071,262143,524287,262143,2097151,4194303,8388607,16777215,33554431,67108863,134217727,268435455,536870911,1073741823,2147483647,1073741823,5368709119,17179869183,34359738367,68719476735,1073741823,138512695295,1073741823,963146416127,2062658043903,4261681299455,8796093022207,17592186044415,35184372088831] 41 409 B rfl rfl (by kernel_rfl) ?_
 refine Aw ?_
 obtain⟨e_3,he_3,G⟩:=Ab G
 refine Aw ?_
 refine C1 rfl rfl (Fa mJ Zy (by decide) (Jb Co.enc_len (B3 he_3) (o:=0) (by decide) rfl)) rfl rfl ?_
 refine C1 rfl rfl (D4 Zy (Hi Co.enc_len (B3 he_3) (o:=0) (m:=2) (cs:=[.int .i64 e_3.Use.Alg,.int .i64 e_3.Use.Bits]) rfl (by decide) rfl) (E1 Co.enc_len (B3 he_3) (o:=0) (m:=2) (by decide) rfl)) rfl rfl ?_
 obtain⟨y_2,hy_2,G⟩:=Ab G
 refine Dl (P6 _ _ hy_2) ?_
 refine Aw ?_
 rcases Dj G with ⟨h34,G⟩ | ⟨h34,G⟩
 refine Bi fun B=>?_
 exact⟨true,G,Av [(0,0)]⟩
 refine Aw ?_
 refine C1 (Dx rfl rfl h34) rfl (Fa Ru Sq (by decide) (Jb Co.enc_len (B3 he_3) (o:=2) (by decide) rfl)) rfl rfl ?_
 refine C1 (Dx rfl rfl h34) rfl (Da Sq (Eo Co.enc_len (B3 he_3) (o:=2) (c:=.int .i64 e_3.Day) rfl rfl)) rfl rfl ?_
 refine Aw ?_
 rcases Dj G with ⟨h36,G⟩ | ⟨h36,G⟩
 refine Bi fun B=>?_
 exact⟨true,G,Av [(0,0)]⟩
 refine Aw ?_
 refine C1 (Dx rfl rfl h36) rfl (Fa Ru Sq (by decide) (Jb Co.enc_len (B3 he_3) (o:=2) (by decide) rfl)) rfl rfl ?_
 refine C1 (Dx rfl rfl h36) rfl (Da Sq (Eo Co.enc_len (B3 he_3) (o:=2) (c:=.int .i64 e_3.Day) rfl rfl)) rfl rfl ?_
 refine Aw ?_
 rcases Dj G with ⟨h38,G⟩ | ⟨h38,G⟩
 refine Bi fun B=>?_
 exact⟨true,G,Av [(0,0)]⟩
 refine Aw ?_
 rcases Dj G with ⟨h40,G⟩ | ⟨h40,G⟩
 refine Aw ?_
 obtain⟨e_4,he_4,G⟩:=Ab G
 refine Aw ?_
 refine C1 (Dx rfl rfl h40) rfl (Fa Ru Sq (by decide) (Jb Co.enc_len (B3 he_4) (o:=2) (by decide) rfl)) rfl rfl ?_
 refine C1 (Dx rfl rfl h40) rfl (Da Sq (Eo Co.enc_len (B3 he_4) (o:=2) (c:=.int .i64 e_4.Day) rfl rfl)) rfl rfl ?_
 refine Aw ?_
 refine C1 (Dx rfl rfl h40) rfl (Fa Ru Sq (by decide) (Jb Co.enc_len (B3 he_3) (o:=2) (by decide) rfl)) rfl rfl ?_
 refine C1 (Dx rfl rfl h40) rfl (Da Sq (Eo Co.enc_len (B3 he_3) (o:=2) (c:=.int .i64 e_3.Day) rfl rfl)) rfl rfl ?_
 refine Bi fun B=>?_
 exact⟨decide (e_3.Day<=e_4.Day),G,Av [(0,0)]⟩
 refine Bi fun B=>?_
 exact⟨false,G,Av [(0,0)]⟩
 rintro x107_3 G
 replace G:Bt.j3 i_2 x107_3=some o2:=G
 show B4 _ _ _ _ (mk _ _ _)
 unfold Bt.j3 at G
 refine Cr rfl G (fun h43 G=>?_) fun h43 G=>?_
 refine Bk 1 9 Ay fun B=>?_
 refine Fj ?_
 replace G:=Ce G hn2
 exact Ts
 refine C9 ?_
 refine Al (Ch _ _ []) 1 25 Ay rfl rfl ?_
 refine Bi fun B=>?_
 obtain rfl:=oi_ G
 exact⟨(W (i_2 + 1),m2),aBj _,hn2,Av [(0,0)]⟩
 refine Jl ?_
 replace G:=Ce G hn2
 refine Bk 41 49 B fun B=>?_
 exact K0
theorem cC (e:Bb) (r:Int) (G:Bd e=some r):Fn Tryz.prog 37 0 [.agg (Bb.dv e)] [] (fun d' b'=>d'=vk r/\b'=[]):=by
 unfold Bd at G
 refine Fn.of Tryz.func37 rfl rfl rfl fun w0 I ρ0=>?_
 show B4 _ ⟨w0,I,ρ0,0,0,152⟩ _ _ _
 refine Bk 0 16 Ay fun B=>?_
 refine Ak <| Bs (ι:=Bool) (fun (x22_1:Bool)=>mk [(1,.ptr 0 0),(22,.val (.bool x22_1))] [(0,.box (Bb.dv e) 31)] 1) (fun (x22_1:Bool)=>Bd.j1 e x22_1=some r) ?_ ?_
 refine Al (Ch _ _ []) 16 144 B rfl rfl ?_
 refine Aw ?_
 rcases Dj G with ⟨h2,G⟩ | ⟨h2,G⟩
 refine Bi fun B=>?_
 exact⟨true,G,Av [(0,0)]⟩
 refine Aw ?_
 rcases Dj G with ⟨h4,G⟩ | ⟨h4,G⟩
 refine Bi fun B=>?_
 exact⟨true,G,Av [(0,0)]⟩
 refine Bi fun B=>?_
 exact⟨decide (30 < (e.Items.length:Int)),G,Av [(0,0)]⟩
 rintro x22_1 G
 replace G:Bd.j1 e x22_1=some r:=G
 show B4 _ _ _ _ (mk _ _ _)
 unfold Bd.j1 at G
 refine Cr rfl G (fun h7 G=>?_) fun h7 G=>?_
 refine Ca 1 9 Ay ?_
 exact Df
 refine C9 ?_
 refine Ak <| Bk 1 9 Ay fun B=>?_
 refine Aq <| Jp (fun (i_2:Int)=>mk [(1,.ptr 0 0),(3,vk i_2)] [(0,.box (Bb.dv e) 31)] 1) G (Av [(0,0)]) ?_
 rintro i_2 m2 o2 G hn2
 replace G:Bd.l2 e i_2=some o2:=G
 show B4 _ _ _ _ (mk _ _ _)
 unfold Bd.l2 at G
 refine Ak <| Bk 1 41 Ay fun B=>?_
 refine Cr rfl G (fun h11 G=>?_) fun h11 G=>?_
 refine C9 ?_
 refine Ak <| Aq <| Bs (ι:=Bool) (fun (x56_3:Bool)=>mk [(1,.ptr 0 0),(3,vk i_2),(56,.val (.bool x56_3))] [(0,.box (Bb.dv e) 31)] 1) (fun (x56_3:Bool)=>Bd.j3 i_2 x56_3=some o2) ?_ ?_
 refine Bu (Ch _ _ []) (by kernel_rfl) [0,1,0,7,15,31,63,127,255,511,1023,2047,4095,2047,10239,32767,65535,131071,2047,264191,2047,1837055,3934207,8128511,16777215,33554431,67108863] 41 257 B rfl rfl (by kernel_rfl) ?_
 refine Aw ?_
 obtain⟨e_2,he_2,G⟩:=Ab G
 refine Aw ?_
 refine Wv he_2 ?_
 obtain⟨y,hy,G⟩:=Ab G
 refine Dl (Qb _ _ hy) ?_
 refine Aw ?_
 rcases Dj G with ⟨h12,G⟩ | ⟨h12,G⟩
 refine Bi fun B=>?_
 exact⟨true,G,Av [(0,0)]⟩
 refine Aw ?_
 rcases Dj G with ⟨h14,G⟩ | ⟨h14,G⟩
 refine Aw ?_
 obtain⟨e_3,he_3,G⟩:=Ab G
 refine Aw ?_
 refine C1 (Dx rfl rfl h14) rfl (Fa kG ty9 (by decide) (Jb Af.enc_len (B3 he_3) (o:=0) (by decide) rfl)) rfl rfl ?_
 refine C1 (Dx rfl rfl h14) rfl (Da ty9 (Eo Af.enc_len (B3 he_3) (o:=0) (c:=.str e_3.Name) rfl rfl)) rfl rfl ?_
 refine Aw ?_
 refine C1 (Dx rfl rfl h14) rfl (Fa kG ty9 (by decide) (Jb Af.enc_len (B3 he_2) (o:=0) (by decide) rfl)) rfl rfl ?_
 refine C1 (Dx rfl rfl h14) rfl (Da ty9 (Eo Af.enc_len (B3 he_2) (o:=0) (c:=.str e_2.Name) rfl rfl)) rfl rfl ?_
 refine C1 (Dx rfl rfl h14) rfl lF rfl rfl ?_
 refine Bi fun B=>?_
 exact⟨!L4 (Iv e_3.Name) (Iv e_2.Name),G,Av [(0,0)]⟩
 refine Bi fun B=>?_
 exact⟨false,G,Av [(0,0)]⟩
 rintro x56_3 G
 replace G:Bd.j3 i_2 x56_3=some o2:=G
 show B4 _ _ _ _ (mk _ _ _)
 unfold Bd.j3 at G
 refine Cr rfl G (fun h17 G=>?_) fun h17 G=>?_
 refine Bk 1 9 Ay fun B=>?_
 refine Fj ?_
 replace G:=Ce G hn2
 exact Ts
 refine C9 ?_
 refine Al (Ch _ _ []) 1 25 Ay rfl rfl ?_
 refine Bi fun B=>?_
 obtain rfl:=oi_ G
 exact⟨(W (i_2 + 1),m2),aBj _,hn2,Av [(0,0)]⟩
 refine Jl ?_
 replace G:=Ce G hn2
 refine Ak <| Bk 41 49 B fun B=>?_
 refine Aq <| Jp (fun (i_4:Int)=>mk [(1,.ptr 0 0),(4,vk i_4)] [(0,.box (Bb.dv e) 31)] 1) G (Av [(0,0)]) ?_
 rintro i_4 m4 o4 G hn4
 replace G:Bd.l4 e i_4=some o4:=G
 show B4 _ _ _ _ (mk _ _ _)
 unfold Bd.l4 at G
 refine Ak <| Bk 1 41 Ay fun B=>?_
 refine Cr rfl G (fun h22 G=>?_) fun h22 G=>?_
 refine C9 ?_
 refine Ak <| Aq <| Ca 41 97 B ?_
 refine Aw ?_
 obtain⟨e_4,he_4,G⟩:=Ab G
 refine Aw ?_
 refine Wv he_4 ?_
 refine Bi fun B=>?_
 refine Ak <| Bs (ι:=Bool) (fun (x99_5:Bool)=>mk [(1,.ptr 0 0),(4,vk i_4),(5,.ptr 1 0),(99,.val (.bool x99_5))] [(0,.box (Bb.dv e) 31),(1,.box [vk e_4.Client,vk e_4.Server] 78)] 2) (fun (x99_5:Bool)=>Bd.j5 e i_4 e_4 x99_5=some o4) ?_ ?_
 refine Al (Ch _ _ []) 97 345 B rfl rfl ?_
 refine Aw ?_
 rcases Dj G with ⟨h24,G⟩ | ⟨h24,G⟩
 refine Bi fun B=>?_
 exact⟨true,G,Av [(0,0),(1,81)]⟩
 refine Aw ?_
 rcases Dj G with ⟨h26,G⟩ | ⟨h26,G⟩
 refine Bi fun B=>?_
 exact⟨true,G,Av [(0,0),(1,81)]⟩
 refine Aw ?_
 rcases Dj G with ⟨h28,G⟩ | ⟨h28,G⟩
 refine Bi fun B=>?_
 exact⟨true,G,Av [(0,0),(1,81)]⟩
 refine Aw ?_
 rcases Dj G with ⟨h30,G⟩ | ⟨h30,G⟩
 refine Bi fun B=>?_
 exact⟨true,G,Av [(0,0),(1,81)]⟩
 refine Bi fun B=>?_
 exact⟨decide (e_4.Client=e_4.Server),G,Av [(0,0),(1,81)]⟩
 rintro x99_5 G
 replace G:Bd.j5 e i_4 e_4 x99_5=some o4:=G
 show B4 _ _ _ _ (mk _ _ _)
 unfold Bd.j5 at G
 refine Cr rfl G (fun h33 G=>?_) fun h33 G=>?_
 refine Bk 2 10 Ay fun B=>?_
 refine Fj ?_
 replace G:=Ce G hn4
 exact Ts
 refine C9 ?_
 refine Bs (ι:=Bool) (fun (x137_6:Bool)=>mk [(1,.ptr 0 0),(4,vk i_4),(137,.val (.bool x137_6))] [(0,.box (Bb.dv e) 31)] 1) (fun (x137_6:Bool)=>Bd.j6 i_4 x137_6=some o4) ?_ ?_
 refine Bu (Ch _ _ []) (by kernel_rfl) [0,1,3,7,15,7,39,127,255,511,7,1031,4095,8191,16383,32767,16383,81919,262143,524287,1048575,16383,2113535,8388607,16777215,33554431,67108863,33554431,167772159,536870911,1073741823,2147483647,33554431,4328521727,17179869183,34359738367,68719476735,137438953471] 2 306 Ay rfl rfl (by kernel_rfl) ?_
 refine Aw ?_
 rcases Dj G with ⟨h35,G⟩ | ⟨h35,G⟩
 refine Aw ?_
 obtain⟨e_5,he_5,G⟩:=Ab G
 refine Aw ?_
 refine C1 (Dx rfl rfl h35) rfl (Fa jY Sq (by decide) (Jb Bq.enc_len (B3 he_5) (o:=0) (by decide) rfl)) rfl rfl ?_
 refine C1 (Dx rfl rfl h35) rfl (Da Sq (Eo Bq.enc_len (B3 he_5) (o:=0) (c:=.int .i64 e_5.Client) rfl rfl)) rfl rfl ?_
 refine Aw ?_
 rcases Dj G with ⟨h36,G⟩ | ⟨h36,G⟩
 refine Bi fun B=>?_
 exact⟨true,G,Av [(0,0)]⟩
 refine Aw ?_
 refine C1 (Dx rfl rfl h36) rfl (Fa jY Sq (by decide) (Jb Bq.enc_len (B3 he_5) (o:=0) (by decide) rfl)) rfl rfl ?_
 refine C1 (Dx rfl rfl h36) rfl (Da Sq (Eo Bq.enc_len (B3 he_5) (o:=0) (c:=.int .i64 e_5.Client) rfl rfl)) rfl rfl ?_
 refine Aw ?_
 rcases Dj G with ⟨h38,G⟩ | ⟨h38,G⟩
 refine Aw ?_
 refine C1 (Dx rfl rfl h38) rfl (Fa uF Sq (by decide) (Jb Bq.enc_len (B3 he_5) (o:=1) (by decide) rfl)) rfl rfl ?_
 refine C1 (Dx rfl rfl h38) rfl (Da Sq (Eo Bq.enc_len (B3 he_5) (o:=1) (c:=.int .i64 e_5.Server) rfl rfl)) rfl rfl ?_
 refine Bi fun B=>?_
 exact⟨decide (e_4.Server<=e_5.Server),G,Av [(0,0)]⟩
 refine Bi fun B=>?_
 exact⟨false,G,Av [(0,0)]⟩
 refine Bi fun B=>?_
 exact⟨false,G,Av [(0,0)]⟩
 rintro x137_6 G
 replace G:Bd.j6 i_4 x137_6=some o4:=G
 show B4 _ _ _ _ (mk _ _ _)
 unfold Bd.j6 at G
 refine Cr rfl G (fun h42 G=>?_) fun h42 G=>?_
 refine Bk 1 9 Ay fun B=>?_
 refine Fj ?_
 replace G:=Ce G hn4
 exact Ts
 refine C9 ?_
 refine Al (Ch _ _ []) 1 25 Ay rfl rfl ?_
 refine Bi fun B=>?_
 obtain rfl:=oi_ G
 exact⟨(W (i_4 + 1),m4),aBj _,hn4,Av [(0,0)]⟩
 refine Jl ?_
 replace G:=Ce G hn4
 refine Ak <| Bk 41 49 B fun B=>?_
 refine Aq <| Jp (fun (i_7:Int)=>mk [(1,.ptr 0 0),(6,vk i_7)] [(0,.box (Bb.dv e) 31)] 1) G (Av [(0,0)]) ?_
 rintro i_7 m7 o7 G hn7
 replace G:Bd.l7 e i_7=some o7:=G
 show B4 _ _ _ _ (mk _ _ _)
 unfold Bd.l7 at G
 refine Ak <| Bk 1 41 Ay fun B=>?_
 refine Cr rfl G (fun h47 G=>?_) fun h47 G=>?_
 refine C9 ?_
 refine Ak <| Aq <| Ca 41 97 B ?_
 refine Aw ?_
 obtain⟨e_6,he_6,G⟩:=Ab G
 refine Aw ?_
 refine Wv he_6 ?_
 obtain⟨y_2,hy_2,G⟩:=Ab G
 refine Dl (bU _ _ hy_2) ?_
 refine Bi fun B=>?_
 refine Cr rfl G (fun h49 G=>?_) fun h49 G=>?_
 refine Bk 97 105 B fun B=>?_
 refine Fj ?_
 replace G:=Ce G hn7
 exact Ts
 refine C9 ?_
 refine Al (Ch _ _ []) 97 121 B rfl rfl ?_
 refine Bi fun B=>?_
 obtain rfl:=oi_ G
 exact⟨(W (i_7 + 1),m7),aBj _,hn7,Av [(0,0)]⟩
 refine Jl ?_
 replace G:=Ce G hn7
 refine Bk 41 49 B fun B=>?_
 exact K0
theorem Qw (a:Ae) (b:Ae) (r:Bool) (G:Bw a b=some r):Fn Tryz.prog 199 0 [.agg (Ae.dv a),.agg (Ae.dv b)] [] (fun d' b'=>d'=.val (.bool r)/\b'=[]):=by
 unfold Bw at G
 refine Fn.of Tryz.func199 rfl rfl rfl fun w0 I ρ0=>?_
 show B4 _ ⟨w0,I,ρ0,0,0,108⟩ _ _ _
 refine Bk 0 24 Ay fun B=>?_
 refine Ak <| Bs (ι:=Bool) (fun (x89_1:Bool)=>mk [(2,.ptr 0 0),(3,.ptr 1 0),(89,.val (.bool x89_1))] [(0,.box (Ae.dv a) 111),(1,.box (Ae.dv b) 111)] 2) (fun (x89_1:Bool)=>Bw.j1 a b x89_1=some r) ?_ ?_
 refine Al (Ch _ _ []) 24 696 B rfl rfl ?_
 refine Aw ?_
 rcases Dj G with ⟨h2,G⟩ | ⟨h2,G⟩
 refine Bi fun B=>?_
 exact⟨true,G,Av [(0,0),(1,8)]⟩
 refine Aw ?_
 rcases Dj G with ⟨h4,G⟩ | ⟨h4,G⟩
 refine Bi fun B=>?_
 exact⟨true,G,Av [(0,0),(1,8)]⟩
 refine Aw ?_
 rcases Dj G with ⟨h6,G⟩ | ⟨h6,G⟩
 refine Bi fun B=>?_
 exact⟨true,G,Av [(0,0),(1,8)]⟩
 refine Aw ?_
 refine C1 (Dx rfl rfl h6) rfl (U9 a.Key b.Key) rfl rfl ?_
 refine Aw ?_
 rcases Dj G with ⟨h8,G⟩ | ⟨h8,G⟩
 refine Bi fun B=>?_
 exact⟨true,G,Av [(0,0),(1,8)]⟩
 refine Aw ?_
 rcases Dj G with ⟨h10,G⟩ | ⟨h10,G⟩
 refine Bi fun B=>?_
 exact⟨true,G,Av [(0,0),(1,8)]⟩
 refine Aw ?_
 refine C1 (Dx rfl rfl h10) rfl (U9 a.Hash b.Hash) rfl rfl ?_
 refine Aw ?_
 rcases Dj G with ⟨h12,G⟩ | ⟨h12,G⟩
 refine Bi fun B=>?_
 exact⟨true,G,Av [(0,0),(1,8)]⟩
 refine Aw ?_
 rcases Dj G with ⟨h14,G⟩ | ⟨h14,G⟩
 refine Bi fun B=>?_
 exact⟨true,G,Av [(0,0),(1,8)]⟩
 refine Aw ?_
 rcases Dj G with ⟨h16,G⟩ | ⟨h16,G⟩
 refine Bi fun B=>?_
 exact⟨true,G,Av [(0,0),(1,8)]⟩
 refine Aw ?_
 refine C1 (Dx rfl rfl h16) rfl (sZ aD4) rfl rfl ?_
 refine Aw ?_
 rcases Dj G with ⟨h18,G⟩ | ⟨h18,G⟩
 refine Bi fun B=>?_
 exact⟨true,G,Av [(0,0),(1,8)]⟩
 refine Aw ?_
 rcases Dj G with ⟨h20,G⟩ | ⟨h20,G⟩
 refine Bi fun B=>?_
 exact⟨true,G,Av [(0,0),(1,8)]⟩
 refine Aw ?_
 refine C1 (Dx rfl rfl h20) rfl (jP a.Seal b.Seal) rfl rfl ?_
 refine Aw ?_
 rcases Dj G with ⟨h22,G⟩ | ⟨h22,G⟩
 refine Bi fun B=>?_
 exact⟨true,G,Av [(0,0),(1,8)]⟩
 refine Bi fun B=>?_
 exact⟨!decide ((a.Names.length:Int)=(b.Names.length:Int)),G,Av [(0,0),(1,8)]⟩
 rintro x89_1 G
 replace G:Bw.j1 a b x89_1=some r:=G
 show B4 _ _ _ _ (mk _ _ _)
 unfold Bw.j1 at G
 refine Cr rfl G (fun h25 G=>?_) fun h25 G=>?_
 refine Ca 2 10 Ay ?_
 exact Df
 refine C9 ?_
 refine Ak <| Bk 2 34 Ay fun B=>?_
 refine Aq <| Jp (fun (x93_2:Int)=>mk [(2,.ptr 0 0),(3,.ptr 1 0),(92,.val (.int .i64 (a.Names.length:Int))),(93,vk x93_2)] [(0,.box (Ae.dv a) 111),(1,.box (Ae.dv b) 111)] 2) G (Av [(0,0),(1,1)]) ?_
 rintro x93_2 m2 o2 G hn2
 replace G:Bw.l2 a b x93_2=some o2:=G
 show B4 _ _ _ _ (mk _ _ _)
 unfold Bw.l2 at G
 refine Bk 2 10 Ay fun B=>?_
 refine Ak <| Cr rfl G (fun h29 G=>?_) fun h29 G=>?_
 refine C9 ?_
 refine Ak <| Aq <| Bk 10 26 B fun B=>?_
 refine Ak <| Bu (Ch _ _ []) (by kernel_rfl) [0,1,0,7,15,0,32,0,224,480,1023] 26 114 B rfl rfl (by kernel_rfl) ?_
 refine Aw ?_
 obtain⟨e,he,G⟩:=Ab G
 refine Aw ?_
 refine Rg he ?_
 refine Aw ?_
 obtain⟨e_2,he_2,G⟩:=Ab G
 refine Aw ?_
 refine Rg he_2 ?_
 refine Bi fun B=>?_
 refine Cr rfl G (fun h32 G=>?_) fun h32 G=>?_
 refine Bk 114 122 B fun B=>?_
 refine Fj ?_
 replace G:=Ce G hn2
 exact Ts
 refine C9 ?_
 refine Al (Ch _ _ []) 114 130 B rfl rfl ?_
 refine Bi fun B=>?_
 obtain rfl:=oi_ G
 exact⟨(W (x93_2 + 1),m2),aBj _,hn2,Av [(0,0),(1,1)]⟩
 refine Jl ?_
 replace G:=Ce G hn2
 refine Bk 10 18 B fun B=>?_
 exact K0
end Go.Proofs.YtkoflhimdenjaaaGreat
