import Derived.Test.YtkoflhimdenjaaaGreatT1
import Derived.Test.YtkoflhimdenjaaaGreatA1
import Derived.Test.YtkoflhimdenjaaaGreatA2
set_option linter.unusedVariables false
set_option linter.unusedSimpArgs false
set_option maxRecDepth 100000
set_option maxHeartbeats 1600000
namespace Go.Proofs.YtkoflhimdenjaaaGreat
open Go.RowKit
theorem Tj.F (rec:Ai->Option ((List UInt8))) (hrec:∀ (v:Ai) (r:(List UInt8)),rec v=some r->Fn Tryz.prog 164 0 [.agg (Ai.dv v)] [] (fun d' b'=>d'=.sl 1 (As e8 r)/\b'=[])) (v:Ai) (r:(List UInt8)) (G:Dt.F rec v=some r):Fn Tryz.prog 164 0 [.agg (Ai.dv v)] [] (fun d' b'=>d'=.sl 1 (As e8 r)/\b'=[]):=by
 unfold Dt.F at G
 refine Fn.of Tryz.func164 rfl rfl rfl fun w0 I ρ0=>?_
 show B4 _ ⟨w0,I,ρ0,0,0,34⟩ _ _ _
 refine Bk 0 16 Ay fun B=>?_
 refine Ca 16 56 B ?_
 refine C1 rfl rfl (H7 L6 z5 (by decide) rfl rfl rfl rfl vI (cs:=[]) .nil rfl (l:=([]:List UInt8)) (f:=e8) rfl) rfl rfl ?_
 refine Aw ?_
 obtain⟨l,hl,G⟩:=Ab G
 refine Gs (rd:=[16]) rfl rfl (Dp L6 Lf .row rfl .sl rfl hl rfl) rfl rfl ?_
 refine Bi fun B=>?_
 refine Ak <| Bk 56 64 B fun B=>?_
 refine Aq <| Jp (fun ((i_1,b_1):Int×List UInt8)=>mk [(1,.ptr 0 0),(3,.row 1),(4,vk i_1)] [(0,.box (Ai.dv v) 170),(1,.row 5 1 (As e8 b_1))] 2) G (Av [(0,0),(1,40)]) ?_
 rintro⟨i_1,b_1⟩ m1 o1 G hn1
 replace G:Dt.l1 rec v i_1 b_1=some o1:=G
 show B4 _ _ _ _ (mk _ _ _)
 unfold Dt.l1 at G
 refine Ak <| Bk 2 42 Ay fun B=>?_
 refine Cr rfl G (fun h5 G=>?_) fun h5 G=>?_
 refine C9 ?_
 refine Ak <| Aq <| Al (Ch _ _ []) 42 114 B rfl rfl ?_
 refine Aw ?_
 obtain⟨e,he,G⟩:=Ab G
 refine Aw ?_
 refine C1 rfl rfl (D4 gR (Hi Ai.enc_len (B3 he) (o:=0) (m:=4) (cs:=[.int .i64 e.Tag,.sl 1 (As e8 e.Bytes),.bool e.Nested,.sl 4 (As Ai.enc e.Elements)]) (by simp only [Ai.enc_eq]; rfl) (by decide) rfl) (E1 Ai.enc_len (B3 he) (o:=0) (m:=4) (by decide) rfl)) rfl rfl ?_
 obtain⟨y,hy,G⟩:=Ab G
 refine Dl (hrec _ _ hy) ?_
 obtain⟨l_2,hl_2,G⟩:=Ab G
 refine Gs (rd:=[1]) rfl rfl (Dp L6 Lf .row rfl .sl rfl hl_2 rfl) rfl rfl ?_
 refine Bi fun B=>?_
 refine Al (Ch _ _ []) 114 138 B rfl rfl ?_
 refine Bi fun B=>?_
 obtain rfl:=oi_ G
 exact⟨((W (i_1 + 1),l_2),m1),aBj _,hn1,Av [(0,0),(1,98)]⟩
 refine Jl ?_
 replace G:=Ce G hn1
 refine Ak <| Bu (Ch _ _ []) (by kernel_rfl) [0,1,3,7,0,16,48,127,0,511,1023] 42 130 B rfl rfl (by kernel_rfl) ?_
 refine Aw ?_
 refine C1 rfl rfl (Mo Ye Yw) rfl rfl ?_
 refine Kx L6 z5 vI ([(u8 v.Tag)]:List UInt8) e8 ?_
 refine Aw ?_
 obtain⟨y_2,hy_2,G⟩:=Ab G
 refine Dl (Zu _ _ hy_2) ?_
 obtain⟨l_3,hl_3,G⟩:=Ab G
 refine Gs (rd:=[66]) rfl rfl (Dp L6 Lf .row rfl .sl rfl hl_3 rfl) rfl rfl ?_
 refine Aw ?_
 obtain⟨l_4,hl_4,G⟩:=Ab G
 refine Gs (rd:=[98,1]) rfl rfl (Dp L6 Lf .row rfl .row rfl hl_4 rfl) rfl rfl ?_
 exact Df
theorem Tj (v:Ai) (r:(List UInt8)) (G:Dt v=some r):Fn Tryz.prog 164 0 [.agg (Ai.dv v)] [] (fun d' b'=>d'=.sl 1 (As e8 r)/\b'=[]):=
 Tf (motive:=fun (x:Ai) (r:(List UInt8))=>Fn Tryz.prog 164 0 [.agg (Ai.dv x)] [] (fun d' b'=>d'=.sl 1 (As e8 r)/\b'=[])) (fun rec hrec x r h=>Tj.F _ (fun v r h=>hrec v r h) x r h) v r G
theorem Zb (v:Ai) (r:(List UInt8)×Int) (G:Ko v=some r):Fn Tryz.prog 121 0 [.agg (Ai.dv v)] [] (fun d' b'=>d'=.tup [.sl 1 (As e8 r.1),vk r.2]/\b'=[]):=by
 unfold Ko at G
 refine Fn.of Tryz.func121 rfl rfl rfl fun w0 I ρ0=>?_
 show B4 _ ⟨w0,I,ρ0,0,0,17⟩ _ _ _
 refine Bk 0 24 Ay fun B=>?_
 refine Ak <| Ca 24 48 B ?_
 refine Aw ?_
 obtain⟨y,hy,G⟩:=Ab G
 refine Dl (Ou _ _ hy) ?_
 refine Bi fun B=>?_
 refine Cr rfl G (fun h3 G=>?_) fun h3 G=>?_
 refine Ca 48 64 B ?_
 exact Df
 refine C9 ?_
 refine Ak <| Ca 48 72 B ?_
 refine Aw ?_
 obtain⟨y_2,hy_2,G⟩:=Ab G
 refine Dl (Qf _ _ hy_2) ?_
 refine Bi fun B=>?_
 refine Cr rfl G (fun h6 G=>?_) fun h6 G=>?_
 refine Ca 72 88 B ?_
 exact Df
 refine C9 ?_
 refine Ca 72 96 B ?_
 refine Aw ?_
 obtain⟨y_3,hy_3,G⟩:=Ab G
 refine Dl (Tj _ _ hy_3) ?_
 refine Bi fun B=>?_
 refine Ak <| Bk 96 120 B fun B=>?_
 refine Cr rfl G (fun h10 G=>?_) fun h10 G=>?_
 refine Ca 120 136 B ?_
 exact Df
 refine C9 ?_
 refine Bk 120 144 B fun B=>?_
 exact K0
theorem bZ (c:Ae) (r:(List UInt8)×Int) (G:J9 c=some r):Fn Tryz.prog 89 0 [.agg (Ae.dv c)] [] (fun d' b'=>d'=.tup [.sl 1 (As e8 r.1),vk r.2]/\b'=[]):=by
 unfold J9 at G
 refine Fn.of Tryz.func89 rfl rfl rfl fun w0 I ρ0=>?_
 show B4 _ ⟨w0,I,ρ0,0,0,12⟩ _ _ _
 refine Bk 0 24 Ay fun B=>?_
 refine Ak <| Ca 24 48 B ?_
 refine Aw ?_
 obtain⟨y,hy,G⟩:=Ab G
 refine Dl (Qc _ _ hy) ?_
 refine Bi fun B=>?_
 refine Cr rfl G (fun h3 G=>?_) fun h3 G=>?_
 refine Ca 48 64 B ?_
 exact Df
 refine C9 ?_
 refine Ca 48 104 B ?_
 refine Aw ?_
 obtain⟨y_2,hy_2,G⟩:=Ab G
 refine Dl (eC _ _ hy_2) ?_
 obtain⟨y_3,hy_3,G⟩:=Ab G
 refine Dl (Zb _ _ hy_3) ?_
 exact Df
theorem hY (b:(List UInt8)) (r:Int) (G:Fq b=some r):Fn Tryz.prog 90 0 [.sl 1 (As e8 b)] [] (fun d' b'=>d'=vk r/\b'=[]):=by
 unfold Fq at G
 refine Fn.of Tryz.func90 rfl rfl rfl fun w0 I ρ0=>?_
 show B4 _ ⟨w0,I,ρ0,0,0,21⟩ _ _ _
 refine Bk 0 8 Ay fun B=>?_
 refine Bk 8 16 B fun B=>?_
 refine Ak <| Bk 16 24 B fun B=>?_
 refine Aq <| Jp (fun ((h_1,i_1):Int×Int)=>mk [(0,.sl 1 (As e8 b)),(3,.val (.int .u32 h_1)),(4,vk i_1)] [] 0) G (Av []) ?_
 rintro⟨h_1,i_1⟩ m1 o1 G hn1
 replace G:Fq.l1 b h_1 i_1=some o1:=G
 show B4 _ _ _ _ (mk _ _ _)
 unfold Fq.l1 at G
 refine Ak <| Bk 0 32 Ay fun B=>?_
 refine Cr rfl G (fun h5 G=>?_) fun h5 G=>?_
 refine C9 ?_
 refine Ak <| Aq <| Al (Ch _ _ []) 32 104 B rfl rfl ?_
 refine Aw ?_
 obtain⟨e,he,G⟩:=Ab G
 refine Aw ?_
 refine Rg he ?_
 refine C1 rfl rfl (Y1 Yw rQ) rfl rfl ?_
 refine C1 rfl rfl dN rfl rfl ?_
 refine C1 rfl rfl aDu rfl rfl ?_
 refine Bi fun B=>?_
 refine Al (Ch _ _ []) 104 128 B rfl rfl ?_
 refine Bi fun B=>?_
 obtain rfl:=oi_ G
 exact⟨((IntKind.wrap .u32 ((Qy .u32 h_1 (IntKind.wrap .u32 (e.toNat:Int))) * 16777619),W (i_1 + 1)),m1),aBj _,hn1,Av []⟩
 refine Jl ?_
 replace G:=Ce G hn1
 refine Ca 32 56 B ?_
 refine Aw ?_
 refine C1 rfl rfl (Zh rQ Ye) rfl rfl ?_
 exact Df
theorem eY (c:Ae) (key:Int) (r:Ae×Int) (G:Fb c key=some r):Fn Tryz.prog 61 0 [.agg (Ae.dv c),vk key] [] (fun d' b'=>d'=.tup [.agg (Ae.dv r.1),vk r.2]/\b'=[]):=by
 unfold Fb at G
 refine Fn.of Tryz.func61 rfl rfl rfl fun w0 I ρ0=>?_
 show B4 _ ⟨w0,I,ρ0,0,0,35⟩ _ _ _
 refine Bk 0 24 Ay fun B=>?_
 refine Ca 24 48 B ?_
 refine Aw ?_
 obtain⟨y,hy,G⟩:=Ab G
 refine Dl (gC _ _ hy) ?_
 refine Bi fun B=>?_
 refine Ca 48 72 B ?_
 refine Mv gJ aAa aA0 ?_
 refine Bi fun B=>?_
 refine Ak <| Bs (ι:=Bool) (fun (x22_1:Bool)=>mk [(1,vk key),(2,.ptr 0 0),(4,.ptr 1 0),(22,.val (.bool x22_1))] [(0,.box [vk y.Serial,ws y.Issuer,ws y.Subject,vk y.Key.Alg,vk y.Key.Bits,vk y.KeyId,vk y.Hash.Alg,vk y.Hash.Bits,vk y.From,vk y.To,.val (.bool y.Authority),vk y.Path,.sl 1 (As eS y.Names),.val (.int .i64 0),.val (.int .i64 0)] 111),(1,.box [.val (.int .i64 0),.val (.string (⟨#[]⟩:ByteArray)),.val (.string (⟨#[]⟩:ByteArray)),.val (.int .i64 0),.val (.int .i64 0),.val (.int .i64 0),.val (.int .i64 0),.val (.int .i64 0),.val (.int .i64 0),.val (.int .i64 0),.val (.bool false),.val (.int .i64 0),.val (.slice none 0 0),.val (.int .i64 0),.val (.int .i64 0)] 111)] 2) (fun (x22_1:Bool)=>Fb.j1 key y x22_1=some r) ?_ ?_
 refine Al (Ch _ _ []) 72 160 B rfl rfl ?_
 refine Aw ?_
 obtain⟨y_2,hy_2,G⟩:=Ab G
 refine Dl (Qc _ _ hy_2) ?_
 refine Aw ?_
 rcases Dj G with ⟨h4,G⟩ | ⟨h4,G⟩
 refine Bi fun B=>?_
 exact⟨true,G,Av [(0,0),(1,8)]⟩
 refine Aw ?_
 rcases Dj G with ⟨h6,G⟩ | ⟨h6,G⟩
 refine Bi fun B=>?_
 exact⟨true,G,Av [(0,0),(1,8)]⟩
 refine Bi fun B=>?_
 exact⟨decide (2147483648 < key),G,Av [(0,0),(1,8)]⟩
 rintro x22_1 G
 replace G:Fb.j1 key y x22_1=some r:=G
 show B4 _ _ _ _ (mk _ _ _)
 unfold Fb.j1 at G
 refine Cr rfl G (fun h9 G=>?_) fun h9 G=>?_
 refine Ca 2 26 Ay ?_
 refine Mv Lu aAi rI ?_
 exact Df
 refine C9 ?_
 refine Ca 2 58 Ay ?_
 refine Aw ?_
 obtain⟨y_3,hy_3,G⟩:=Ab G
 refine Dl (bZ _ _ hy_3) ?_
 refine Bi fun B=>?_
 refine Ca 58 106 B ?_
 refine Aw ?_
 obtain⟨y_4,hy_4,G⟩:=Ab G
 refine Dl (hY _ _ hy_4) ?_
 refine Mv gJ aAa aA0 ?_
 refine Bi fun B=>?_
 refine Bk 106 130 B fun B=>?_
 exact K0
theorem X3 (name:ByteArray) (key:Ar) (id:Int) (anchor:Int) (to:Int) (r:Am) (G:Kn name key id anchor to=some r):Fn Tryz.prog 32 0 [ws name,.agg [vk key.Alg,vk key.Bits],vk id,vk anchor,vk to] [] (fun d' b'=>d'=.agg (Am.dv r)/\b'=[]):=by
 unfold Kn at G
 refine Fn.of Tryz.func32 rfl rfl rfl fun w0 I ρ0=>?_
 show B4 _ ⟨w0,I,ρ0,0,0,32⟩ _ _ _
 refine Bk 0 16 Ay fun B=>?_
 refine Ca 16 104 B ?_
 refine Aw ?_
 refine Mv Kv Qd X1 ?_
 refine Aw ?_
 refine Kx Yd z9 ck9 ([name]:List ByteArray) eS ?_
 refine Mv Lu aAi rI ?_
 refine Bi fun B=>?_
 refine Ak <| Ey (σ':=mk [(2,vk id),(3,vk anchor),(6,.ptr 0 0),(10,.ptr 1 0),(11,.ptr 2 0)] [(0,.box [vk key.Alg,vk key.Bits] 34),(1,.box [.val (.int .i64 0),.val (.int .i64 0),.val (.int .i64 0),.val (.slice none 0 0)] 37),(2,.box [vk id,.val (.string (⟨#[114,111,111,116]⟩:ByteArray)),ws name,vk key.Alg,vk key.Bits,vk id,.val (.int .i64 3),.val (.int .i64 0),.val (.int .i64 0),vk to,.val (.bool false),.val (.int .i64 0),.sl 1 (As eS ([name]:List ByteArray)),.val (.int .i64 0),.val (.int .i64 0)] 111)] 3) (Av [(0,0),(1,8),(2,88)]) ?_
 refine Al (Ch _ _ []) 3 59 Ay rfl rfl ?_
 refine Aw ?_
 obtain⟨y,hy,G⟩:=Ab G
 refine Dl (eY _ _ _ hy) ?_
 refine Bi fun B=>?_
 refine Ca 59 107 B ?_
 refine Aw ?_
 refine Kx yN rI aAd ([y.1]:List Ae) Ae.enc ?_
 refine Mv cM aEh z37 ?_
 exact Df
theorem W9 (d:Ah) (l:(List ByteArray)) (r:ByteArray×Ah) (G:Ji d l=some r):Fn Tryz.prog 35 1 [.ptr 0 0,.sl 1 (As eS l)] [.box [.sl 1 (As eI d.L),vk d.At] 71] (fun d' b'=>d'=ws r.1/\b'=[.box [.sl 1 (As eI r.2.L),vk r.2.At] 71]):=by
 unfold Ji at G
 refine Fn.of Tryz.func35 rfl rfl rfl fun w0 I ρ0=>?_
 show B4 _ ⟨w0,I,ρ0,1,1,12⟩ _ _ _
 refine Bk 1 9 Ay fun B=>?_
 refine Ca 9 73 B ?_
 refine Aw ?_
 obtain⟨y,hy,G⟩:=Ab G
 refine Ki [0] [0] [] false (B6 _ _ _ hy) ?_
 obtain⟨e,he,G⟩:=Ab G
 refine Aw ?_
 refine Rg he ?_
 refine Bi fun B=>?_
 refine Fj ?_
 obtain rfl:=oi_ G
 exact Ip [(0,0)] ⟨rfl,rfl⟩
theorem gW (d:Ah) (name:ByteArray) (r:Cf×Ah) (G:G6 d name=some r):Fn Tryz.prog 34 1 [.ptr 0 0,ws name] [.box [.sl 1 (As eI d.L),vk d.At] 71] (fun d' b'=>d'=.agg (Cf.dv r.1)/\b'=[.box [.sl 1 (As eI r.2.L),vk r.2.At] 71]):=by
 unfold G6 at G
 refine Fn.of Tryz.func34 rfl rfl rfl fun w0 I ρ0=>?_
 show B4 _ ⟨w0,I,ρ0,1,1,62⟩ _ _ _
 refine Bk 1 9 Ay fun B=>?_
 refine Ca 9 89 B ?_
 refine Aw ?_
 obtain⟨y,hy,G⟩:=Ab G
 refine Ki [0] [0] [] false (B6 _ _ _ hy) ?_
 refine Aw ?_
 obtain⟨y_2,hy_2,G⟩:=Ab G
 refine Ki [0] [0] [] false (B6 _ _ _ hy_2) ?_
 refine Aw ?_
 refine Mv dK aI1 z81 ?_
 refine Bi fun B=>?_
 refine Ca 89 113 B ?_
 refine Aw ?_
 obtain⟨y_3,hy_3,G⟩:=Ab G
 refine Ki [0] [0] [] false (B6 _ _ _ hy_3) ?_
 refine Bi fun B=>?_
 refine Ak <| Ca 113 145 B ?_
 refine Aw ?_
 obtain⟨y_4,hy_4,G⟩:=Ab G
 refine Ki [0] [0] [] false (B6 _ _ _ hy_4) ?_
 refine Bi fun B=>?_
 refine Aq <| Jp (fun ((day_1,i_1,d_1,l_1):Int×Int×Ah×List Co)=>mk [(0,.ptr 0 0),(4,.ptr 1 0),(5,.ptr 2 0),(6,vk day_1),(7,vk i_1)] [(0,.box [.sl 1 (As eI d_1.L),vk d_1.At] 71),(1,.box [.val (.string (⟨#[]⟩:ByteArray)),.val (.int .i64 0),.val (.int .i64 0),.val (.slice none 0 0),.val (.int .i64 0)] 81),(2,.box [ws name,.val (.int .i64 (W (1 + y.1))),.val (.int .i64 (W (1 + y_2.1))),.row 3,.val (.int .i64 0)] 81),(3,.row 115 3 (As Co.enc l_1))] 4) G (Av [(0,0),(1,1),(2,73)]) ?_
 rintro⟨day_1,i_1,d_1,l_1⟩ m1 o1 G hn1
 replace G:G6.l1 name y y_2 day_1 i_1 d_1 l_1=some o1:=G
 show B4 _ _ _ _ (mk _ _ _)
 unfold G6.l1 at G
 refine Ak <| Bk 4 20 Ay fun B=>?_
 refine Cr rfl G (fun h6 G=>?_) fun h6 G=>?_
 refine C9 ?_
 refine Ak <| Aq <| Ca 20 124 B ?_
 refine Mv Kv Qd X1 ?_
 refine Mv Kv Qd X1 ?_
 refine Mv Kv Qd X1 ?_
 refine Mv Kv Qd X1 ?_
 refine Mv Kv Qd X1 ?_
 refine Mv Kv Qd X1 ?_
 refine Kx aA8 X1 aFo ([(Ar.mk 2 0),(Ar.mk 1 0),(Ar.mk 5 2048),(Ar.mk 16 128),(Ar.mk 3 0),(Ar.mk 15 168)]:List Ar) Ar.enc ?_
 refine Aw ?_
 obtain⟨y_5,hy_5,G⟩:=Ab G
 refine Ki [0] [0] [] false (B6 _ _ _ hy_5) ?_
 obtain⟨e,he,G⟩:=Ab G
 refine Aw ?_
 refine Ln he ?_
 refine Bi fun B=>?_
 refine Ca 124 196 B ?_
 refine Aw ?_
 refine Mv lS aF1 aAr ?_
 refine Kx wO aAr aGk ([(Co.mk e day_1)]:List Co) Co.enc ?_
 obtain⟨l,hl,G⟩:=Ab G
 refine Gs (rd:=[3,164]) rfl rfl (Dp wO Co.enc_len .row rfl .row rfl hl rfl) rfl rfl ?_
 refine Bi fun B=>?_
 refine Al (Ch _ _ [220]) 196 252 B rfl rfl ?_
 refine Aw ?_
 refine bZ_ F0 z3 Oq ([5,30,0,100]:List Int) eI ?_
 obtain⟨y_6,hy_6,G⟩:=Ab G
 refine Ki [0] [0] [] false (Ot _ _ _ hy_6) ?_
 refine Bi fun B=>?_
 refine Al (Ch _ _ []) 252 276 B rfl rfl ?_
 refine Bi fun B=>?_
 obtain rfl:=oi_ G
 exact⟨((W ((W (day_1 + 1)) + y_6.1),W (i_1 - 1),y_6.2,l),m1),aBj _,hn1,Av [(0,0),(1,1),(2,2),(3,172)]⟩
 refine Jl ?_
 replace G:=Ce G hn1
 refine Ak <| Bu (Ch _ _ [68]) (by kernel_rfl) [0,1,3,7,15,0,0,96,255,511,1023] 20 108 B rfl rfl (by kernel_rfl) ?_
 refine Aw ?_
 obtain⟨e_2,he_2,G⟩:=Ab G
 refine Aw ?_
 refine Gs (rd:=[3]) rfl rfl (.loadR1 Sq (Eo Co.enc_len (B3 he_2) (o:=2) (c:=.int .i64 e_2.Day) rfl rfl)) rfl rfl ?_
 refine Aw ?_
 refine bZ_ F0 z3 Oq ([50,300,0,3000]:List Int) eI ?_
 obtain⟨y_7,hy_7,G⟩:=Ab G
 refine Ki [0] [0] [] false (Ot _ _ _ hy_7) ?_
 refine Bi fun B=>?_
 refine Bk 108 124 B fun B=>?_
 refine Fj ?_
 obtain rfl:=oi_ G
 exact Ip [(0,0)] ⟨rfl,rfl⟩
theorem fQ (d:Ah) (r:Bb×Ah) (G:Bh d=some r):Fn Tryz.prog 9 1 [.ptr 0 0] [.box [.sl 1 (As eI d.L),vk d.At] 71] (fun d' b'=>d'=.agg (Bb.dv r.1)/\b'=[.box [.sl 1 (As eI r.2.L),vk r.2.At] 71]):=by
 unfold Bh at G
 refine Fn.of Tryz.func9 rfl rfl rfl fun w0 I ρ0=>?_
 show B4 _ ⟨w0,I,ρ0,1,1,122⟩ _ _ _
 refine Bk 1 9 Ay fun B=>?_
 refine Bk 9 17 B fun B=>?_
 refine Ca 17 65 B ?_
 refine Kx Yd z9 ck9 ([(⟨#[97,112,112]⟩:ByteArray),(⟨#[100,98]⟩:ByteArray),(⟨#[119,101,98]⟩:ByteArray)]:List ByteArray) eS ?_
 refine Aw ?_
 obtain⟨y,hy,G⟩:=Ab G
 refine Ki [0] [0] [] false (B6 _ _ _ hy) ?_
 refine Aw ?_
 obtain⟨l,hl,G⟩:=Ab G
 refine Gs (rd:=[17]) rfl rfl (Wz Yd Zq hl) rfl rfl ?_
 refine Bi fun B=>?_
 refine Ak <| Ca 65 89 B ?_
 refine Aw ?_
 refine C1 rfl rfl (.len Yd.elem .part) rfl rfl ?_
 refine Bi fun B=>?_
 refine Aq <| Jp (fun ((x18_1,d_1,l_1):Int×Ah×List Af)=>mk [(0,.ptr 0 0),(2,.ptr 1 0),(3,.ptr 2 0),(4,.part 3 (((0:Int).toNat) * 1) ((W (2 + y.1):Int).toNat - (0:Int).toNat)),(16,.part 3 (((0:Int).toNat) * 1) ((W (2 + y.1):Int).toNat - (0:Int).toNat)),(17,.val (.int .i64 ((((W (2 + y.1):Int).toNat - (0:Int).toNat):Nat):Int))),(18,vk x18_1)] [(0,.box [.sl 1 (As eI d_1.L),vk d_1.At] 71),(1,.box [.val (.slice none 0 0),.val (.slice none 0 0),.val (.slice none 0 0)] 31),(2,.box [.row 4,.val (.slice none 0 0),.val (.slice none 0 0)] 31),(3,.row 9 1 (As eS ([(⟨#[97,112,112]⟩:ByteArray),(⟨#[100,98]⟩:ByteArray),(⟨#[119,101,98]⟩:ByteArray)]:List ByteArray))),(4,.row 43 9 (As Af.enc l_1))] 5) G (Av [(0,0),(1,1),(2,9),(3,17)]) ?_
 rintro⟨x18_1,d_1,l_1⟩ m1 o1 G hn1
 replace G:Bh.l1 y x18_1 d_1 l_1=some o1:=G
 show B4 _ _ _ _ (mk _ _ _)
 unfold Bh.l1 at G
 refine Bk 5 13 Ay fun B=>?_
 refine Ak <| Cr rfl G (fun h6 G=>?_) fun h6 G=>?_
 refine C9 ?_
 refine Ak <| Aq <| Ca 13 53 B ?_
 refine Aw ?_
 obtain⟨e,he,G⟩:=Ab G
 refine Gs (rd:=[3]) rfl rfl (dO Yd (Rn he) (B3 he)) rfl rfl ?_
 refine Gs (rd:=[3]) rfl rfl (.loadR1 ty9 (Eo Zq (Rz (a:=(0:Int).toNat) (B3 he)) (o:=0) (c:=.str e) rfl rfl)) rfl rfl ?_
 refine Bi fun B=>?_
 refine Ak <| Bu (Ch _ _ [69,85,93,101]) (by kernel_rfl) [0,0,0,6,0,0,0,112,0,270,1022,2046,0,4878,0,0,0,78606,262143,0,1048575] 53 221 B rfl rfl (by kernel_rfl) ?_
 refine Aw ?_
 refine bZ_ F0 z3 Oq ([3,3,4]:List Int) eI ?_
 obtain⟨y_2,hy_2,G⟩:=Ab G
 refine Ki [0] [0] [] false (Ot _ _ _ hy_2) ?_
 refine bZ_ F0 z3 Oq ([10,8,2]:List Int) eI ?_
 refine bZ_ F0 z3 Oq ([8,2]:List Int) eI ?_
 refine bZ_ F0 z3 Oq ([2,10,8,3]:List Int) eI ?_
 refine Kx aFe z22 aIs ([([10,8,2]:List Int),([8,2]:List Int),([2,10,8,3]:List Int)]:List (List Int)) (eL 1 eI) ?_
 refine Aw ?_
 obtain⟨y_3,hy_3,G⟩:=Ab G
 refine Ki [0] [0] [] false (B6 _ _ _ hy_3) ?_
 obtain⟨e_2,he_2,G⟩:=Ab G
 refine Aw ?_
 refine Gs (rd:=[109]) rfl rfl (.loadR1 aGr (Eo (sK _ _) (B3 he_2) (o:=0) (c:=.sl 1 (As eI e_2)) rfl rfl)) rfl rfl ?_
 refine Aw ?_
 obtain⟨y_4,hy_4,G⟩:=Ab G
 refine Ki [0] [0] [] false (Le _ _ _ hy_4) ?_
 refine Kx F0 z3 Oq ([1]:List Int) eI ?_
 refine Kx F0 z3 Oq ([2,3]:List Int) eI ?_
 refine Aw ?_
 obtain⟨y_5,hy_5,G⟩:=Ab G
 refine Ki [0] [0] [] false (Le _ _ _ hy_5) ?_
 refine Mv Qo xB z43 ?_
 refine Bi fun B=>?_
 refine Bs (ι:=List Int) (fun (x_2:List Int)=>mk [(0,.ptr 0 0),(2,.ptr 1 0),(3,.ptr 2 0),(4,.part 3 (((0:Int).toNat) * 1) ((W (2 + y.1):Int).toNat - (0:Int).toNat)),(5,vk x18_1),(6,ws e),(7,.ptr 4 0),(16,.part 3 (((0:Int).toNat) * 1) ((W (2 + y.1):Int).toNat - (0:Int).toNat)),(17,.val (.int .i64 ((((W (2 + y.1):Int).toNat - (0:Int).toNat):Nat):Int))),(18,vk x18_1)] [(0,.box [.sl 1 (As eI y_5.2.L),vk y_5.2.At] 71),(1,.box [.val (.slice none 0 0),.val (.slice none 0 0),.val (.slice none 0 0)] 31),(2,.box [.row 5,.val (.slice none 0 0),.val (.slice none 0 0)] 31),(3,.row 9 1 (As eS ([(⟨#[97,112,112]⟩:ByteArray),(⟨#[100,98]⟩:ByteArray),(⟨#[119,101,98]⟩:ByteArray)]:List ByteArray))),(4,.box [ws e,.val (.int .i64 1),vk y_2.1,.sl 1 (As eI x_2),.val (.bool y_4.1),.val (.slice none 0 0),.row 6,.row 7,.val (.bool y_5.1)] 43),(5,.row 43 9 (As Af.enc l_1)),(6,.row 3 1 (As eI ([1]:List Int))),(7,.row 3 1 (As eI ([2,3]:List Int)))] 8) (fun (x_2:List Int)=>Bh.j2 x18_1 l_1 e y_2 y_4 y_5 x_2=some o1) ?_ ?_
 refine Bk 221 245 B fun B=>?_
 refine Cr rfl G (fun h10 G=>?_) fun h10 G=>?_
 refine Al (Ch _ _ []) 245 293 B rfl rfl ?_
 refine Kx F0 z3 Oq ([14]:List Int) eI ?_
 refine Aw ?_
 obtain⟨l_2,hl_2,G⟩:=Ab G
 refine Gs (rd:=[245]) rfl rfl (Dp F0 Ka .row rfl .sl rfl hl_2 rfl) rfl rfl ?_
 refine Bi fun B=>?_
 exact⟨l_2,G,Av [(0,0),(1,1),(2,2),(3,3),(4,205),(5,4),(6,165),(7,173)]⟩
 refine C9 ?_
 exact⟨e_2,G,Av [(0,0),(1,1),(2,2),(3,3),(4,205),(5,4),(6,165),(7,173)]⟩
 rintro x_2 G
 replace G:Bh.j2 x18_1 l_1 e y_2 y_4 y_5 x_2=some o1:=G
 show B4 _ _ _ _ (mk _ _ _)
 unfold Bh.j2 at G
 refine Ca 8 72 Ay ?_
 refine Aw ?_
 obtain⟨y_6,hy_6,G⟩:=Ab G
 refine Dl (Z2 _ hy_6) ?_
 refine Aw ?_
 obtain⟨y_7,hy_7,G⟩:=Ab G
 refine Dl (X3 _ _ _ _ _ _ hy_7) ?_
 refine Kx Vu z37 aBo ([y_7]:List Am) Am.enc ?_
 refine Bi fun B=>?_
 refine Ey (σ':=mk [(0,.ptr 0 0),(2,.ptr 1 0),(3,.ptr 2 0),(4,.part 3 (((0:Int).toNat) * 1) ((W (2 + y.1):Int).toNat - (0:Int).toNat)),(7,.ptr 4 0),(16,.part 3 (((0:Int).toNat) * 1) ((W (2 + y.1):Int).toNat - (0:Int).toNat)),(17,.val (.int .i64 ((((W (2 + y.1):Int).toNat - (0:Int).toNat):Nat):Int))),(18,vk x18_1)] [(0,.box [.sl 1 (As eI y_5.2.L),vk y_5.2.At] 71),(1,.box [.val (.slice none 0 0),.val (.slice none 0 0),.val (.slice none 0 0)] 31),(2,.box [.row 5,.val (.slice none 0 0),.val (.slice none 0 0)] 31),(3,.row 9 1 (As eS ([(⟨#[97,112,112]⟩:ByteArray),(⟨#[100,98]⟩:ByteArray),(⟨#[119,101,98]⟩:ByteArray)]:List ByteArray))),(4,.box [ws e,.val (.int .i64 1),vk y_2.1,.sl 1 (As eI x_2),.val (.bool y_4.1),.sl 4 (As Am.enc ([y_7]:List Am)),.row 6,.row 7,.val (.bool y_5.1)] 43),(5,.row 43 9 (As Af.enc l_1)),(6,.row 3 1 (As eI ([1]:List Int))),(7,.row 3 1 (As eI ([2,3]:List Int)))] 8) (Av [(0,0),(1,1),(2,2),(3,3),(4,4),(5,5),(6,6),(7,7)]) ?_
 refine Ey (σ':=mk [(0,.ptr 0 0),(2,.ptr 1 0),(3,.ptr 2 0),(4,.part 3 (((0:Int).toNat) * 1) ((W (2 + y.1):Int).toNat - (0:Int).toNat)),(7,.ptr 4 0),(16,.part 3 (((0:Int).toNat) * 1) ((W (2 + y.1):Int).toNat - (0:Int).toNat)),(17,.val (.int .i64 ((((W (2 + y.1):Int).toNat - (0:Int).toNat):Nat):Int))),(18,vk x18_1)] [(0,.box [.sl 1 (As eI y_5.2.L),vk y_5.2.At] 71),(1,.box [.val (.slice none 0 0),.val (.slice none 0 0),.val (.slice none 0 0)] 31),(2,.box [.row 5,.val (.slice none 0 0),.val (.slice none 0 0)] 31),(3,.row 9 1 (As eS ([(⟨#[97,112,112]⟩:ByteArray),(⟨#[100,98]⟩:ByteArray),(⟨#[119,101,98]⟩:ByteArray)]:List ByteArray))),(4,.box [ws e,.val (.int .i64 1),vk y_2.1,.sl 1 (As eI x_2),.val (.bool y_4.1),.sl 4 (As Am.enc ([y_7]:List Am)),.sl 1 (As eI ([1]:List Int)),.row 6,.val (.bool y_5.1)] 43),(5,.row 43 9 (As Af.enc l_1)),(6,.row 3 1 (As eI ([2,3]:List Int)))] 7) (Av [(0,0),(1,1),(2,2),(3,3),(4,4),(5,5),(6,7)]) ?_
 refine Ey (σ':=mk [(0,.ptr 0 0),(2,.ptr 1 0),(3,.ptr 2 0),(4,.part 3 (((0:Int).toNat) * 1) ((W (2 + y.1):Int).toNat - (0:Int).toNat)),(7,.ptr 4 0),(16,.part 3 (((0:Int).toNat) * 1) ((W (2 + y.1):Int).toNat - (0:Int).toNat)),(17,.val (.int .i64 ((((W (2 + y.1):Int).toNat - (0:Int).toNat):Nat):Int))),(18,vk x18_1)] [(0,.box [.sl 1 (As eI y_5.2.L),vk y_5.2.At] 71),(1,.box [.val (.slice none 0 0),.val (.slice none 0 0),.val (.slice none 0 0)] 31),(2,.box [.row 5,.val (.slice none 0 0),.val (.slice none 0 0)] 31),(3,.row 9 1 (As eS ([(⟨#[97,112,112]⟩:ByteArray),(⟨#[100,98]⟩:ByteArray),(⟨#[119,101,98]⟩:ByteArray)]:List ByteArray))),(4,.box [ws e,.val (.int .i64 1),vk y_2.1,.sl 1 (As eI x_2),.val (.bool y_4.1),.sl 4 (As Am.enc ([y_7]:List Am)),.sl 1 (As eI ([1]:List Int)),.sl 1 (As eI ([2,3]:List Int)),.val (.bool y_5.1)] 43),(5,.row 43 9 (As Af.enc l_1))] 6) (Av [(0,0),(1,1),(2,2),(3,3),(4,4),(5,5)]) ?_
 refine Al (Ch _ _ []) 6 62 Ay rfl rfl ?_
 refine Aw ?_
 refine Kx oU z43 aBv ([(Af.mk e 1 y_2.1 x_2 y_4.1 ([y_7]:List Am) ([1]:List Int) ([2,3]:List Int) y_5.1)]:List Af) Af.enc ?_
 obtain⟨l_3,hl_3,G⟩:=Ab G
 refine Gs (rd:=[5,30]) rfl rfl (Dp oU Af.enc_len .row rfl .row rfl hl_3 rfl) rfl rfl ?_
 refine Bi fun B=>?_
 refine Al (Ch _ _ []) 62 78 B rfl rfl ?_
 refine Bi fun B=>?_
 obtain rfl:=oi_ G
 exact⟨((W (x18_1 + 1),y_5.2,l_3),m1),aBj _,hn1,Av [(0,0),(1,1),(2,2),(3,3),(4,38)]⟩
 refine Jl ?_
 replace G:=Ce G hn1
 refine Ak <| Ca 13 37 B ?_
 refine Aw ?_
 refine C1 rfl rfl (.len Yd.elem .part) rfl rfl ?_
 refine Bi fun B=>?_
 refine Aq <| Jp (fun ((x66_6,d_6,l_6):Int×Ah×List Bq)=>mk [(0,.ptr 0 0),(2,.ptr 1 0),(3,.ptr 2 0),(4,.part 3 (((0:Int).toNat) * 1) ((W (2 + y.1):Int).toNat - (0:Int).toNat)),(65,.val (.int .i64 ((((W (2 + y.1):Int).toNat - (0:Int).toNat):Nat):Int))),(66,vk x66_6)] [(0,.box [.sl 1 (As eI d_6.L),vk d_6.At] 71),(1,.box [.val (.slice none 0 0),.val (.slice none 0 0),.val (.slice none 0 0)] 31),(2,.box [.row 4,.row 5,.val (.slice none 0 0)] 31),(3,.row 9 1 (As eS ([(⟨#[97,112,112]⟩:ByteArray),(⟨#[100,98]⟩:ByteArray),(⟨#[119,101,98]⟩:ByteArray)]:List ByteArray))),(4,.row 43 9 (As Af.enc l_1)),(5,.row 78 2 (As Bq.enc l_6))] 6) G (Av [(0,0),(1,1),(2,2),(3,3),(4,4)]) ?_
 rintro⟨x66_6,d_6,l_6⟩ m6 o6 G hn6
 replace G:Bh.l6 y l_1 x66_6 d_6 l_6=some o6:=G
 show B4 _ _ _ _ (mk _ _ _)
 unfold Bh.l6 at G
 refine Bk 6 14 Ay fun B=>?_
 refine Ak <| Cr rfl G (fun h17 G=>?_) fun h17 G=>?_
 refine C9 ?_
 refine Ak <| Aq <| Bk 14 30 B fun B=>?_
 refine Ca 30 54 B ?_
 refine Aw ?_
 refine C1 rfl rfl (.len Yd.elem .part) rfl rfl ?_
 refine Bi fun B=>?_
 refine Aq <| Jp (fun ((x71_7,d_7,l_7):Int×Ah×List Bq)=>mk [(0,.ptr 0 0),(2,.ptr 1 0),(3,.ptr 2 0),(4,.part 3 (((0:Int).toNat) * 1) ((W (2 + y.1):Int).toNat - (0:Int).toNat)),(8,vk x66_6),(65,.val (.int .i64 ((((W (2 + y.1):Int).toNat - (0:Int).toNat):Nat):Int))),(66,vk x66_6),(70,.val (.int .i64 ((((W (2 + y.1):Int).toNat - (0:Int).toNat):Nat):Int))),(71,vk x71_7)] [(0,.box [.sl 1 (As eI d_7.L),vk d_7.At] 71),(1,.box [.val (.slice none 0 0),.val (.slice none 0 0),.val (.slice none 0 0)] 31),(2,.box [.row 4,.row 5,.val (.slice none 0 0)] 31),(3,.row 9 1 (As eS ([(⟨#[97,112,112]⟩:ByteArray),(⟨#[100,98]⟩:ByteArray),(⟨#[119,101,98]⟩:ByteArray)]:List ByteArray))),(4,.row 43 9 (As Af.enc l_1)),(5,.row 78 2 (As Bq.enc l_7))] 6) G (Av [(0,0),(1,1),(2,2),(3,3),(4,4),(5,5)]) ?_
 rintro⟨x71_7,d_7,l_7⟩ m7 o7 G hn7
 replace G:Bh.l7 y x66_6 x71_7 d_7 l_7=some o7:=G
 show B4 _ _ _ _ (mk _ _ _)
 unfold Bh.l7 at G
 refine Bk 6 14 Ay fun B=>?_
 refine Ak <| Cr rfl G (fun h21 G=>?_) fun h21 G=>?_
 refine C9 ?_
 refine Bs (ι:=Ah×List Bq) (fun ((d_9,l_9):Ah×List Bq)=>mk [(0,.ptr 0 0),(2,.ptr 1 0),(3,.ptr 2 0),(4,.part 3 (((0:Int).toNat) * 1) ((W (2 + y.1):Int).toNat - (0:Int).toNat)),(8,vk x66_6),(65,.val (.int .i64 ((((W (2 + y.1):Int).toNat - (0:Int).toNat):Nat):Int))),(66,vk x66_6),(70,.val (.int .i64 ((((W (2 + y.1):Int).toNat - (0:Int).toNat):Nat):Int))),(71,vk x71_7)] [(0,.box [.sl 1 (As eI d_9.L),vk d_9.At] 71),(1,.box [.val (.slice none 0 0),.val (.slice none 0 0),.val (.slice none 0 0)] 31),(2,.box [.row 4,.row 5,.val (.slice none 0 0)] 31),(3,.row 9 1 (As eS ([(⟨#[97,112,112]⟩:ByteArray),(⟨#[100,98]⟩:ByteArray),(⟨#[119,101,98]⟩:ByteArray)]:List ByteArray))),(4,.row 43 9 (As Af.enc l_1)),(5,.row 78 2 (As Bq.enc l_9))] 6) (fun ((d_9,l_9):Ah×List Bq)=>Bh.j9 x71_7 d_9 l_9=some o7) ?_ ?_
 refine Aq <| Bk 14 30 B fun B=>?_
 refine Bs (ι:=Bool×Ah) (fun ((x87_8,d_8):Bool×Ah)=>mk [(0,.ptr 0 0),(2,.ptr 1 0),(3,.ptr 2 0),(4,.part 3 (((0:Int).toNat) * 1) ((W (2 + y.1):Int).toNat - (0:Int).toNat)),(8,vk x66_6),(9,vk x71_7),(65,.val (.int .i64 ((((W (2 + y.1):Int).toNat - (0:Int).toNat):Nat):Int))),(66,vk x66_6),(70,.val (.int .i64 ((((W (2 + y.1):Int).toNat - (0:Int).toNat):Nat):Int))),(71,vk x71_7),(87,.val (.bool x87_8))] [(0,.box [.sl 1 (As eI d_8.L),vk d_8.At] 71),(1,.box [.val (.slice none 0 0),.val (.slice none 0 0),.val (.slice none 0 0)] 31),(2,.box [.row 4,.row 5,.val (.slice none 0 0)] 31),(3,.row 9 1 (As eS ([(⟨#[97,112,112]⟩:ByteArray),(⟨#[100,98]⟩:ByteArray),(⟨#[119,101,98]⟩:ByteArray)]:List ByteArray))),(4,.row 43 9 (As Af.enc l_1)),(5,.row 78 2 (As Bq.enc l_7))] 6) (fun ((x87_8,d_8):Bool×Ah)=>Bh.j8 x66_6 x71_7 l_7 x87_8 d_8=some o7) ?_ ?_
 refine Al (Ch _ _ []) 30 142 B rfl rfl ?_
 refine Aw ?_
 rcases Dj G with ⟨h23,G⟩ | ⟨h23,G⟩
 refine Aw ?_
 obtain⟨y_8,hy_8,G⟩:=Ab G
 refine Ki [0] [0] [] false (B6 _ _ _ hy_8) ?_
 refine Aw ?_
 rcases Dj G with ⟨h24,G⟩ | ⟨h24,G⟩
 refine Bi fun B=>?_
 exact⟨(decide ((l_7.length:Int) < 3),y_8.2),G,Av [(0,0),(1,1),(2,2),(3,3),(4,4),(5,5)]⟩
 refine Bi fun B=>?_
 exact⟨(false,y_8.2),G,Av [(0,0),(1,1),(2,2),(3,3),(4,4),(5,5)]⟩
 refine Bi fun B=>?_
 exact⟨(false,d_7),G,Av [(0,0),(1,1),(2,2),(3,3),(4,4),(5,5)]⟩
 rintro⟨x87_8,d_8⟩ G
 replace G:Bh.j8 x66_6 x71_7 l_7 x87_8 d_8=some o7:=G
 show B4 _ _ _ _ (mk _ _ _)
 unfold Bh.j8 at G
 refine Cr rfl G (fun h28 G=>?_) fun h28 G=>?_
 refine Al (Ch _ _ []) 6 78 Ay rfl rfl ?_
 refine Aw ?_
 refine Mv mW aE3 z78 ?_
 refine Kx tF z78 aF4 ([(Bq.mk x66_6 x71_7)]:List Bq) Bq.enc ?_
 obtain⟨l_4,hl_4,G⟩:=Ab G
 refine Gs (rd:=[5,46]) rfl rfl (Dp tF Bq.enc_len .row rfl .row rfl hl_4 rfl) rfl rfl ?_
 refine Bi fun B=>?_
 exact⟨(d_8,l_4),G,Av [(0,0),(1,1),(2,2),(3,3),(4,4),(5,54)]⟩
 refine C9 ?_
 exact⟨(d_8,l_7),G,Av [(0,0),(1,1),(2,2),(3,3),(4,4),(5,5)]⟩
 rintro⟨d_9,l_9⟩ G
 replace G:Bh.j9 x71_7 d_9 l_9=some o7:=G
 show B4 _ _ _ _ (mk _ _ _)
 unfold Bh.j9 at G
 refine Al (Ch _ _ []) 6 22 Ay rfl rfl ?_
 refine Bi fun B=>?_
 obtain rfl:=oi_ G
 exact⟨((W (x71_7 + 1),d_9,l_9),m7),aBj _,hn7,Av [(0,0),(1,1),(2,2),(3,3),(4,4),(5,5)]⟩
 refine Jl ?_
 replace G:=Ce G hn7
 refine Al (Ch _ _ []) 14 30 B rfl rfl ?_
 refine Bi fun B=>?_
 obtain rfl:=oi_ G
 exact⟨((W (x66_6 + 1),d_7,l_7),m6),aBj _,hn6,Av [(0,0),(1,1),(2,2),(3,3),(4,4),(5,5)]⟩
 refine Jl ?_
 replace G:=Ce G hn6
 refine Bs (ι:=List Bq) (fun (l_10:List Bq)=>mk [(0,.ptr 0 0),(2,.ptr 1 0),(3,.ptr 2 0)] [(0,.box [.sl 1 (As eI d_6.L),vk d_6.At] 71),(1,.box [.val (.slice none 0 0),.val (.slice none 0 0),.val (.slice none 0 0)] 31),(2,.box [.row 3,.row 4,.val (.slice none 0 0)] 31),(3,.row 43 9 (As Af.enc l_1)),(4,.row 78 2 (As Bq.enc l_10))] 5) (fun (l_10:List Bq)=>Bh.j10 l_1 d_6 l_10=some r) ?_ ?_
 refine Bk 14 46 B fun B=>?_
 refine Cr rfl G (fun h33 G=>?_) fun h33 G=>?_
 refine Al (Ch _ _ []) 46 78 B rfl rfl ?_
 refine Mv mW aE3 z78 ?_
 refine Kx tF z78 aF4 ([(Bq.mk 0 1)]:List Bq) Bq.enc ?_
 refine Bi fun B=>?_
 exact⟨([(Bq.mk 0 1)]:List Bq),G,Av [(0,0),(1,1),(2,2),(3,4),(4,54)]⟩
 refine C9 ?_
 exact⟨l_6,G,Av [(0,0),(1,1),(2,2),(3,4),(4,5)]⟩
 rintro l_10 G
 replace G:Bh.j10 l_1 d_6 l_10=some r:=G
 show B4 _ _ _ _ (mk _ _ _)
 unfold Bh.j10 at G
 refine Ak <| Ca 5 29 Ay ?_
 refine Aw ?_
 obtain⟨y_9,hy_9,G⟩:=Ab G
 refine Ki [0] [0] [] false (B6 _ _ _ hy_9) ?_
 refine Bi fun B=>?_
 refine Aq <| Jp (fun ((i_11,d_11,l_11):Int×Ah×List Cf)=>mk [(0,.ptr 0 0),(2,.ptr 1 0),(3,.ptr 2 0),(10,vk i_11)] [(0,.box [.sl 1 (As eI d_11.L),vk d_11.At] 71),(1,.box [.val (.slice none 0 0),.val (.slice none 0 0),.val (.slice none 0 0)] 31),(2,.box [.row 3,.row 4,.row 5] 31),(3,.row 43 9 (As Af.enc l_1)),(4,.row 78 2 (As Bq.enc l_10)),(5,.row 81 5 (As Cf.enc l_11))] 6) G (Av [(0,0),(1,1),(2,2),(3,3),(4,4)]) ?_
 rintro⟨i_11,d_11,l_11⟩ m11 o11 G hn11
 replace G:Bh.l11 l_1 l_10 i_11 d_11 l_11=some o11:=G
 show B4 _ _ _ _ (mk _ _ _)
 unfold Bh.l11 at G
 refine Ak <| Bk 6 22 Ay fun B=>?_
 refine Cr rfl G (fun h37 G=>?_) fun h37 G=>?_
 refine C9 ?_
 refine Ak <| Aq <| Bu (Ch _ _ [54]) (by kernel_rfl) [0,1,0,0,0,24,60,124,255,511,1023] 22 110 B rfl rfl (by kernel_rfl) ?_
 refine Aw ?_
 refine bZ_ Yd z9 ck9 ([(⟨#[98,97,99,107,117,112]⟩:ByteArray),(⟨#[100,101,101,100]⟩:ByteArray)]:List ByteArray) eS ?_
 obtain⟨y_10,hy_10,G⟩:=Ab G
 refine Ki [0] [0] [] false (W9 _ _ _ hy_10) ?_
 obtain⟨y_11,hy_11,G⟩:=Ab G
 refine Ki [0] [0] [] false (gW _ _ _ hy_11) ?_
 refine Kx sH z81 aE0 ([y_11.1]:List Cf) Cf.enc ?_
 obtain⟨l_5,hl_5,G⟩:=Ab G
 refine Gs (rd:=[5,78]) rfl rfl (Dp sH Cf.enc_len .row rfl .row rfl hl_5 rfl) rfl rfl ?_
 refine Bi fun B=>?_
 refine Al (Ch _ _ []) 110 134 B rfl rfl ?_
 refine Bi fun B=>?_
 obtain rfl:=oi_ G
 exact⟨((W (i_11 - 1),y_11.2,l_5),m11),aBj _,hn11,Av [(0,0),(1,1),(2,2),(3,3),(4,4),(5,86)]⟩
 refine Jl ?_
 replace G:=Ce G hn11
 refine Bk 22 38 B fun B=>?_
 refine Fj ?_
 obtain rfl:=oi_ G
 exact Ip [(0,0)] ⟨rfl,rfl⟩
theorem pR  (r:Ar) (G:Wo=some r):Fn Tryz.prog 36 0 [] [] (fun d' b'=>d'=.agg [vk r.Alg,vk r.Bits]/\b'=[]):=by
 unfold Wo at G
 refine Fn.of Tryz.func36 rfl rfl rfl fun w0 I ρ0=>?_
 show B4 _ ⟨w0,I,ρ0,0,0,2⟩ _ _ _
 refine Bk 0 8 Ay fun B=>?_
 refine Ca 8 24 B ?_
 refine Mv Kv Qd X1 ?_
 exact Df
theorem kF (d:Ah) (e:Bb) (r:A7×Ah) (G:Bo d e=some r):Fn Tryz.prog 10 1 [.ptr 0 0,.agg (Bb.dv e)] [.box [.sl 1 (As eI d.L),vk d.At] 71] (fun d' b'=>d'=.agg (A7.dv r.1)/\b'=[.box [.sl 1 (As eI r.2.L),vk r.2.At] 71]):=by
 unfold Bo at G
 refine Fn.of Tryz.func10 rfl rfl rfl fun w0 I ρ0=>?_
 show B4 _ ⟨w0,I,ρ0,1,1,143⟩ _ _ _
 refine Bk 1 17 Ay fun B=>?_
 refine Ca 17 65 B ?_
 refine Aw ?_
 obtain⟨y,hy,G⟩:=Ab G
 refine Ki [0] [0] [] false (B6 _ _ _ hy) ?_
 refine Bi fun B=>?_
 refine Ca 65 121 B ?_
 refine Aw ?_
 obtain⟨e_2,he_2,G⟩:=Ab G
 refine Aw ?_
 refine Wv he_2 ?_
 refine Bi fun B=>?_
 refine Ca 121 177 B ?_
 refine Aw ?_
 obtain⟨y_2,hy_2,G⟩:=Ab G
 refine Ki [0] [0] [] false (B6 _ _ _ hy_2) ?_
 refine Aw ?_
 refine Mv cP aHv z39 ?_
 refine Bi fun B=>?_
 refine Bs (ι:=Ah×A7) (fun ((b_7,c_7):Ah×A7)=>mk [(4,.ptr 1 0),(7,.ptr 2 0)] [(0,.box [.sl 1 (As eI b_7.L),vk b_7.At] 71),(1,.box [.val (.int .i64 0),.val (.int .i64 0),.val (.int .i64 0),.val (.int .i64 0),.val (.int .i64 0),.val (.int .i64 0),.val (.int .i64 0),.val (.slice none 0 0)] 39),(2,.box (A7.dv c_7) 39)] 3) (fun ((b_7,c_7):Ah×A7)=>Bo.j7 b_7 c_7=some r) ?_ ?_
 refine Bk 177 193 B fun B=>?_
 refine Aq <| Bk 193 209 B fun B=>?_
 refine Cr rfl G (fun h7 G=>?_) fun h7 G=>?_
 refine Bu (Ch _ _ []) (by kernel_rfl) [0,1,3,0,0,16,48,112,251,7,1023,2047,4095] 209 313 B rfl rfl (by kernel_rfl) ?_
 refine Aw ?_
 obtain⟨y_3,hy_3,G⟩:=Ab G
 refine Ki [0] [0] [] false (B6 _ _ _ hy_3) ?_
 refine Aw ?_
 obtain⟨y_4,hy_4,G⟩:=Ab G
 refine Ki [0] [0] [] false (B6 _ _ _ hy_4) ?_
 refine Bi fun B=>?_
 exact⟨(y_4.2,(A7.mk y.1 (W (1 + y_2.1)) (W (1 + y_3.1)) y_4.1 (Am.mk (Ar.mk 0 0) 0 ([]:(List Ae))))),G,Av [(0,0),(1,9),(2,161)]⟩
 refine Bk 209 225 B fun B=>?_
 refine Cr rfl G (fun h10 G=>?_) fun h10 G=>?_
 refine Ca 225 265 B ?_
 refine Aw ?_
 obtain⟨y_5,hy_5,G⟩:=Ab G
 refine Ki [0] [0] [] false (B6 _ _ _ hy_5) ?_
 refine Bi fun B=>?_
 refine Bs (ι:=Bool×Ah) (fun ((x52_1,d_1):Bool×Ah)=>mk [(0,.ptr 0 0),(4,.ptr 1 0),(6,.ptr 2 0),(7,.ptr 3 0),(52,.val (.bool x52_1))] [(0,.box [.sl 1 (As eI d_1.L),vk d_1.At] 71),(1,.box [.val (.int .i64 0),.val (.int .i64 0),.val (.int .i64 0),.val (.int .i64 0),.val (.int .i64 0),.val (.int .i64 0),.val (.int .i64 0),.val (.slice none 0 0)] 39),(2,.box (Af.dv e_2) 43),(3,.box [vk y.1,.val (.int .i64 (W (1 + y_2.1))),.val (.int .i64 (W (1 + y_5.1))),.val (.int .i64 0),.val (.int .i64 0),.val (.int .i64 0),.val (.int .i64 0),.val (.slice none 0 0)] 39)] 4) (fun ((x52_1,d_1):Bool×Ah)=>Bo.j1 y e_2 y_2 y_5 x52_1 d_1=some r) ?_ ?_
 refine Al (Ch _ _ []) 265 337 B rfl rfl ?_
 refine Aw ?_
 rcases Dj G with ⟨h12,G⟩ | ⟨h12,G⟩
 refine Aw ?_
 obtain⟨y_6,hy_6,G⟩:=Ab G
 refine Ki [0] [0] [] false (Le _ _ _ hy_6) ?_
 refine Bi fun B=>?_
 exact⟨(!y_6.1,y_6.2),G,Av [(0,0),(1,9),(2,105),(3,161)]⟩
 refine Bi fun B=>?_
 exact⟨(false,y_5.2),G,Av [(0,0),(1,9),(2,105),(3,161)]⟩
 rintro⟨x52_1,d_1⟩ G
 replace G:Bo.j1 y e_2 y_2 y_5 x52_1 d_1=some r:=G
 show B4 _ _ _ _ (mk _ _ _)
 unfold Bo.j1 at G
 refine Cr rfl G (fun h15 G=>?_) fun h15 G=>?_
 refine Bu (Ch _ _ []) (by kernel_rfl) [0,1,0,0,8,24,60,127,255,511,1023] 4 92 Ay rfl rfl (by kernel_rfl) ?_
 refine Aw ?_
 obtain⟨y_7,hy_7,G⟩:=Ab G
 refine Ki [0] [0] [] false (B6 _ _ _ hy_7) ?_
 obtain⟨e_3,he_3,G⟩:=Ab G
 refine Aw ?_
 refine Rg he_3 ?_
 refine Bi fun B=>?_
 exact⟨(y_7.2,(A7.mk y.1 (W (1 + y_2.1)) e_3 0 (Am.mk (Ar.mk 0 0) 0 ([]:(List Ae))))),G,Av [(0,0),(1,1),(2,3)]⟩
 refine C9 ?_
 exact⟨(d_1,(A7.mk y.1 (W (1 + y_2.1)) (W (1 + y_5.1)) 0 (Am.mk (Ar.mk 0 0) 0 ([]:(List Ae))))),G,Av [(0,0),(1,1),(2,3)]⟩
 refine Bs (ι:=Bool) (fun (x63_2:Bool)=>mk [(0,.ptr 0 0),(4,.ptr 1 0),(6,.ptr 2 0),(7,.ptr 3 0),(24,.val (.int .i64 (W (1 + y_2.1)))),(63,.val (.bool x63_2))] [(0,.box [.sl 1 (As eI y_2.2.L),vk y_2.2.At] 71),(1,.box [.val (.int .i64 0),.val (.int .i64 0),.val (.int .i64 0),.val (.int .i64 0),.val (.int .i64 0),.val (.int .i64 0),.val (.int .i64 0),.val (.slice none 0 0)] 39),(2,.box (Af.dv e_2) 43),(3,.box [vk y.1,.val (.int .i64 (W (1 + y_2.1))),.val (.int .i64 0),.val (.int .i64 0),.val (.int .i64 0),.val (.int .i64 0),.val (.int .i64 0),.val (.slice none 0 0)] 39)] 4) (fun (x63_2:Bool)=>Bo.j2 y e_2 y_2 x63_2=some r) ?_ ?_
 refine Bk 225 241 B fun B=>?_
 refine Cr rfl G (fun h18 G=>?_) fun h18 G=>?_
 refine C9 ?_
 exact⟨decide ((W (1 + y_2.1))=3),G,Av [(0,0),(1,9),(2,105),(3,161)]⟩
 refine Al (Ch _ _ []) 241 257 B rfl rfl ?_
 refine Bi fun B=>?_
 exact⟨decide ((W (1 + y_2.1))=4),G,Av [(0,0),(1,9),(2,105),(3,161)]⟩
 rintro x63_2 G
 replace G:Bo.j2 y e_2 y_2 x63_2=some r:=G
 show B4 _ _ _ _ (mk _ _ _)
 unfold Bo.j2 at G
 refine Cr rfl G (fun h20 G=>?_) fun h20 G=>?_
 refine Al (Ch _ _ []) 4 44 Ay rfl rfl ?_
 refine Aw ?_
 obtain⟨y_8,hy_8,G⟩:=Ab G
 refine Ki [0] [0] [] false (B6 _ _ _ hy_8) ?_
 refine Bi fun B=>?_
 exact⟨(y_8.2,(A7.mk y.1 (W (1 + y_2.1)) (W (1 + y_8.1)) 0 (Am.mk (Ar.mk 0 0) 0 ([]:(List Ae))))),G,Av [(0,0),(1,1),(2,3)]⟩
 refine Bk 4 20 Ay fun B=>?_
 refine Cr rfl G (fun h23 G=>?_) fun h23 G=>?_
 refine Bu (Ch _ _ []) (by kernel_rfl) [0,0,2,6,14,31,0,64,63,319,831,0,2879,7999,16191,0,39743,105279,0,367423,891711,2097151,63,8388607,16777215,33554431] 20 228 B rfl rfl (by kernel_rfl) ?_
 refine Aw ?_
 obtain⟨y_9,hy_9,G⟩:=Ab G
 refine Ki [0] [0] [] false (B6 _ _ _ hy_9) ?_
 refine Aw ?_
 obtain⟨y_10,hy_10,G⟩:=Ab G
 refine Dl (pR _ hy_10) ?_
 obtain⟨y_11,hy_11,G⟩:=Ab G
 refine Dl (Z2 _ hy_11) ?_
 refine Kx aA8 X1 aFo ([y_10,y_11]:List Ar) Ar.enc ?_
 refine Aw ?_
 obtain⟨y_12,hy_12,G⟩:=Ab G
 refine Ki [0] [0] [] false (B6 _ _ _ hy_12) ?_
 obtain⟨e_4,he_4,G⟩:=Ab G
 refine Aw ?_
 refine Ln he_4 ?_
 refine Aw ?_
 obtain⟨y_13,hy_13,G⟩:=Ab G
 refine Ki [0] [0] [] false (B6 _ _ _ hy_13) ?_
 refine Aw ?_
 obtain⟨y_14,hy_14,G⟩:=Ab G
 refine Ki [0] [0] [] false (B6 _ _ _ hy_14) ?_
 refine Aw ?_
 obtain⟨y_15,hy_15,G⟩:=Ab G
 refine Dl (X3 _ _ _ _ _ _ hy_15) ?_
 refine Bi fun B=>?_
 exact⟨(y_14.2,(A7.mk y.1 (W (1 + y_2.1)) 0 y_9.1 y_15)),G,Av [(0,0),(1,1),(2,3)]⟩
 refine Bk 20 36 B fun B=>?_
 refine Cr rfl G (fun h26 G=>?_) fun h26 G=>?_
 refine Ca 36 76 B ?_
 refine Aw ?_
 obtain⟨y_16,hy_16,G⟩:=Ab G
 refine Ki [0] [0] [] false (B6 _ _ _ hy_16) ?_
 refine Bi fun B=>?_
 refine Bs (ι:=Bool×Ah) (fun ((x110_3,d_3):Bool×Ah)=>mk [(0,.ptr 0 0),(4,.ptr 1 0),(6,.ptr 2 0),(7,.ptr 3 0),(110,.val (.bool x110_3))] [(0,.box [.sl 1 (As eI d_3.L),vk d_3.At] 71),(1,.box [.val (.int .i64 0),.val (.int .i64 0),.val (.int .i64 0),.val (.int .i64 0),.val (.int .i64 0),.val (.int .i64 0),.val (.int .i64 0),.val (.slice none 0 0)] 39),(2,.box (Af.dv e_2) 43),(3,.box [vk y.1,.val (.int .i64 (W (1 + y_2.1))),.val (.int .i64 (W (100 + y_16.1))),.val (.int .i64 0),.val (.int .i64 0),.val (.int .i64 0),.val (.int .i64 0),.val (.slice none 0 0)] 39)] 4) (fun ((x110_3,d_3):Bool×Ah)=>Bo.j3 y e_2 y_2 y_16 x110_3 d_3=some r) ?_ ?_
 refine Al (Ch _ _ []) 76 148 B rfl rfl ?_
 refine Aw ?_
 rcases Dj G with ⟨h28,G⟩ | ⟨h28,G⟩
 refine Aw ?_
 obtain⟨y_17,hy_17,G⟩:=Ab G
 refine Ki [0] [0] [] false (Le _ _ _ hy_17) ?_
 refine Bi fun B=>?_
 exact⟨(!y_17.1,y_17.2),G,Av [(0,0),(1,1),(2,2),(3,3)]⟩
 refine Bi fun B=>?_
 exact⟨(false,y_16.2),G,Av [(0,0),(1,1),(2,2),(3,3)]⟩
 rintro⟨x110_3,d_3⟩ G
 replace G:Bo.j3 y e_2 y_2 y_16 x110_3 d_3=some r:=G
 show B4 _ _ _ _ (mk _ _ _)
 unfold Bo.j3 at G
 refine Cr rfl G (fun h31 G=>?_) fun h31 G=>?_
 refine Bu (Ch _ _ []) (by kernel_rfl) [0,1,0,0,8,24,60,127,255,511,1023,2047] 4 100 Ay rfl rfl (by kernel_rfl) ?_
 refine Aw ?_
 obtain⟨y_18,hy_18,G⟩:=Ab G
 refine Ki [0] [0] [] false (B6 _ _ _ hy_18) ?_
 obtain⟨e_5,he_5,G⟩:=Ab G
 refine Aw ?_
 refine C1 rfl rfl (Fa lX Sq (by decide) (Jb Am.enc_len (B3 he_5) (o:=2) (by decide) rfl)) rfl rfl ?_
 refine C1 rfl rfl (Da Sq (Eo Am.enc_len (B3 he_5) (o:=2) (c:=.int .i64 e_5.KeyId) rfl rfl)) rfl rfl ?_
 refine Bi fun B=>?_
 exact⟨(y_18.2,(A7.mk y.1 (W (1 + y_2.1)) e_5.KeyId 0 (Am.mk (Ar.mk 0 0) 0 ([]:(List Ae))))),G,Av [(0,0),(1,1),(2,3)]⟩
 refine C9 ?_
 exact⟨(d_3,(A7.mk y.1 (W (1 + y_2.1)) (W (100 + y_16.1)) 0 (Am.mk (Ar.mk 0 0) 0 ([]:(List Ae))))),G,Av [(0,0),(1,1),(2,3)]⟩
 refine Bs (ι:=Bool) (fun (x122_4:Bool)=>mk [(0,.ptr 0 0),(4,.ptr 1 0),(7,.ptr 2 0),(24,.val (.int .i64 (W (1 + y_2.1)))),(122,.val (.bool x122_4))] [(0,.box [.sl 1 (As eI y_2.2.L),vk y_2.2.At] 71),(1,.box [.val (.int .i64 0),.val (.int .i64 0),.val (.int .i64 0),.val (.int .i64 0),.val (.int .i64 0),.val (.int .i64 0),.val (.int .i64 0),.val (.slice none 0 0)] 39),(2,.box [vk y.1,.val (.int .i64 (W (1 + y_2.1))),.val (.int .i64 0),.val (.int .i64 0),.val (.int .i64 0),.val (.int .i64 0),.val (.int .i64 0),.val (.slice none 0 0)] 39)] 3) (fun (x122_4:Bool)=>Bo.j4 y y_2 x122_4=some r) ?_ ?_
 refine Bk 36 52 B fun B=>?_
 refine Cr rfl G (fun h34 G=>?_) fun h34 G=>?_
 refine C9 ?_
 exact⟨decide ((W (1 + y_2.1))=7),G,Av [(0,0),(1,1),(2,3)]⟩
 refine Al (Ch _ _ []) 52 68 B rfl rfl ?_
 refine Bi fun B=>?_
 exact⟨decide ((W (1 + y_2.1))=8),G,Av [(0,0),(1,1),(2,3)]⟩
 rintro x122_4 G
 replace G:Bo.j4 y y_2 x122_4=some r:=G
 show B4 _ _ _ _ (mk _ _ _)
 unfold Bo.j4 at G
 refine Cr rfl G (fun h36 G=>?_) fun h36 G=>?_
 refine Al (Ch _ _ []) 3 43 Ay rfl rfl ?_
 refine Aw ?_
 obtain⟨y_19,hy_19,G⟩:=Ab G
 refine Ki [0] [0] [] false (B6 _ _ _ hy_19) ?_
 refine Bi fun B=>?_
 exact⟨(y_19.2,(A7.mk y.1 (W (1 + y_2.1)) (W (1 + y_19.1)) 0 (Am.mk (Ar.mk 0 0) 0 ([]:(List Ae))))),G,Av [(0,0),(1,1),(2,2)]⟩
 refine Bs (ι:=Bool) (fun (x129_5:Bool)=>mk [(0,.ptr 0 0),(4,.ptr 1 0),(7,.ptr 2 0),(24,.val (.int .i64 (W (1 + y_2.1)))),(129,.val (.bool x129_5))] [(0,.box [.sl 1 (As eI y_2.2.L),vk y_2.2.At] 71),(1,.box [.val (.int .i64 0),.val (.int .i64 0),.val (.int .i64 0),.val (.int .i64 0),.val (.int .i64 0),.val (.int .i64 0),.val (.int .i64 0),.val (.slice none 0 0)] 39),(2,.box [vk y.1,.val (.int .i64 (W (1 + y_2.1))),.val (.int .i64 0),.val (.int .i64 0),.val (.int .i64 0),.val (.int .i64 0),.val (.int .i64 0),.val (.slice none 0 0)] 39)] 3) (fun (x129_5:Bool)=>Bo.j5 y y_2 x129_5=some r) ?_ ?_
 refine Bk 3 19 Ay fun B=>?_
 refine Cr rfl G (fun h39 G=>?_) fun h39 G=>?_
 refine C9 ?_
 exact⟨decide ((W (1 + y_2.1))=9),G,Av [(0,0),(1,1),(2,2)]⟩
 refine Al (Ch _ _ []) 19 35 B rfl rfl ?_
 refine Bi fun B=>?_
 exact⟨decide ((W (1 + y_2.1))=10),G,Av [(0,0),(1,1),(2,2)]⟩
 rintro x129_5 G
 replace G:Bo.j5 y y_2 x129_5=some r:=G
 show B4 _ _ _ _ (mk _ _ _)
 unfold Bo.j5 at G
 refine Cr rfl G (fun h41 G=>?_) fun h41 G=>?_
 refine Al (Ch _ _ []) 3 43 Ay rfl rfl ?_
 refine Aw ?_
 obtain⟨y_20,hy_20,G⟩:=Ab G
 refine Ki [0] [0] [] false (B6 _ _ _ hy_20) ?_
 refine Bi fun B=>?_
 exact⟨(y_20.2,(A7.mk y.1 (W (1 + y_2.1)) (W (1 + y_20.1)) 0 (Am.mk (Ar.mk 0 0) 0 ([]:(List Ae))))),G,Av [(0,0),(1,1),(2,2)]⟩
 refine Bs (ι:=Bool) (fun (x136_6:Bool)=>mk [(0,.ptr 0 0),(4,.ptr 1 0),(7,.ptr 2 0),(136,.val (.bool x136_6))] [(0,.box [.sl 1 (As eI y_2.2.L),vk y_2.2.At] 71),(1,.box [.val (.int .i64 0),.val (.int .i64 0),.val (.int .i64 0),.val (.int .i64 0),.val (.int .i64 0),.val (.int .i64 0),.val (.int .i64 0),.val (.slice none 0 0)] 39),(2,.box [vk y.1,.val (.int .i64 (W (1 + y_2.1))),.val (.int .i64 0),.val (.int .i64 0),.val (.int .i64 0),.val (.int .i64 0),.val (.int .i64 0),.val (.slice none 0 0)] 39)] 3) (fun (x136_6:Bool)=>Bo.j6 y y_2 x136_6=some r) ?_ ?_
 refine Bk 3 19 Ay fun B=>?_
 refine Cr rfl G (fun h44 G=>?_) fun h44 G=>?_
 refine C9 ?_
 exact⟨decide ((W (1 + y_2.1))=11),G,Av [(0,0),(1,1),(2,2)]⟩
 refine Al (Ch _ _ []) 19 35 B rfl rfl ?_
 refine Bi fun B=>?_
 exact⟨decide ((W (1 + y_2.1))=12),G,Av [(0,0),(1,1),(2,2)]⟩
 rintro x136_6 G
 replace G:Bo.j6 y y_2 x136_6=some r:=G
 show B4 _ _ _ _ (mk _ _ _)
 unfold Bo.j6 at G
 refine Cr rfl G (fun h46 G=>?_) fun h46 G=>?_
 refine Al (Ch _ _ []) 3 35 Ay rfl rfl ?_
 refine Aw ?_
 obtain⟨y_21,hy_21,G⟩:=Ab G
 refine Ki [0] [0] [] false (B6 _ _ _ hy_21) ?_
 refine Bi fun B=>?_
 exact⟨(y_21.2,(A7.mk y.1 (W (1 + y_2.1)) y_21.1 0 (Am.mk (Ar.mk 0 0) 0 ([]:(List Ae))))),G,Av [(0,0),(1,1),(2,2)]⟩
 refine C9 ?_
 exact⟨(y_2.2,(A7.mk y.1 (W (1 + y_2.1)) 0 0 (Am.mk (Ar.mk 0 0) 0 ([]:(List Ae))))),G,Av [(0,0),(1,1),(2,2)]⟩
 rintro⟨b_7,c_7⟩ G
 replace G:Bo.j7 b_7 c_7=some r:=G
 show B4 _ _ _ _ (mk _ _ _)
 unfold Bo.j7 at G
 refine Bk 3 19 Ay fun B=>?_
 refine Fj ?_
 obtain rfl:=oi_ G
 exact Ip [(0,0)] ⟨rfl,rfl⟩
end Go.Proofs.YtkoflhimdenjaaaGreat
