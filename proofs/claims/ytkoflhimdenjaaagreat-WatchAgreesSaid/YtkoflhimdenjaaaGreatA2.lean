import Derived.Test.YtkoflhimdenjaaaGreatT1
import Derived.Test.YtkoflhimdenjaaaGreatA1
set_option linter.unusedVariables false
set_option linter.unusedSimpArgs false
set_option maxRecDepth 100000
set_option maxHeartbeats 1600000
namespace Go.Proofs.YtkoflhimdenjaaaGreat
open Go.RowKit
theorem Py (u:Ar) (r:Bool) (G:Hh u=some r):Fn Tryz.prog 120 0 [.agg [vk u.Alg,vk u.Bits]] [] (fun d' b'=>d'=.val (.bool r)/\b'=[]):=by
 unfold Hh at G
 refine Fn.of Tryz.func120 rfl rfl rfl fun w0 I ρ0=>?_
 show B4 _ ⟨w0,I,ρ0,0,0,11⟩ _ _ _
 refine Bk 0 16 Ay fun B=>?_
 refine Ca 16 88 B ?_
 refine Aw ?_
 obtain⟨y,hy,G⟩:=Ab G
 refine Dl (P6 _ _ hy) ?_
 refine Aw ?_
 rcases Dj G with ⟨h2,G⟩ | ⟨h2,G⟩
 refine Aw ?_
 obtain⟨y_2,hy_2,G⟩:=Ab G
 refine Dl (Rx _ _ hy_2) ?_
 exact Df
 exact Df
theorem Qc (c:Ae) (r:Int) (G:A9 c=some r):Fn Tryz.prog 88 0 [.agg (Ae.dv c)] [] (fun d' b'=>d'=vk r/\b'=[]):=by
 unfold A9 at G
 refine Fn.of Tryz.func88 rfl rfl rfl fun w0 I ρ0=>?_
 show B4 _ ⟨w0,I,ρ0,0,0,146⟩ _ _ _
 refine Bk 0 16 Ay fun B=>?_
 refine Ak <| Bs (ι:=Bool) (fun (x39_1:Bool)=>mk [(1,.ptr 0 0),(39,.val (.bool x39_1))] [(0,.box (Ae.dv c) 111)] 1) (fun (x39_1:Bool)=>A9.j1 c x39_1=some r) ?_ ?_
 refine Al (Ch _ _ []) 16 304 B rfl rfl ?_
 refine Aw ?_
 rcases Dj G with ⟨h2,G⟩ | ⟨h2,G⟩
 refine Bi fun B=>?_
 exact⟨true,G,Av [(0,0)]⟩
 refine Aw ?_
 rcases Dj G with ⟨h4,G⟩ | ⟨h4,G⟩
 refine Bi fun B=>?_
 exact⟨true,G,Av [(0,0)]⟩
 refine Aw ?_
 obtain⟨y,hy,G⟩:=Ab G
 refine Dl (Nv _ _ hy) ?_
 refine Aw ?_
 rcases Dj G with ⟨h6,G⟩ | ⟨h6,G⟩
 refine Bi fun B=>?_
 exact⟨true,G,Av [(0,0)]⟩
 refine Aw ?_
 obtain⟨y_2,hy_2,G⟩:=Ab G
 refine Dl (Nv _ _ hy_2) ?_
 refine Aw ?_
 rcases Dj G with ⟨h8,G⟩ | ⟨h8,G⟩
 refine Bi fun B=>?_
 exact⟨true,G,Av [(0,0)]⟩
 refine Aw ?_
 obtain⟨y_3,hy_3,G⟩:=Ab G
 refine Dl (Py _ _ hy_3) ?_
 refine Aw ?_
 rcases Dj G with ⟨h10,G⟩ | ⟨h10,G⟩
 refine Bi fun B=>?_
 exact⟨true,G,Av [(0,0)]⟩
 refine Aw ?_
 rcases Dj G with ⟨h12,G⟩ | ⟨h12,G⟩
 refine Bi fun B=>?_
 exact⟨true,G,Av [(0,0)]⟩
 refine Bi fun B=>?_
 exact⟨decide (2147483648 < c.KeyId),G,Av [(0,0)]⟩
 rintro x39_1 G
 replace G:A9.j1 c x39_1=some r:=G
 show B4 _ _ _ _ (mk _ _ _)
 unfold A9.j1 at G
 refine Cr rfl G (fun h15 G=>?_) fun h15 G=>?_
 refine Ca 1 9 Ay ?_
 exact Df
 refine C9 ?_
 refine Ak <| Bs (ι:=Bool) (fun (x67_2:Bool)=>mk [(1,.ptr 0 0),(67,.val (.bool x67_2))] [(0,.box (Ae.dv c) 111)] 1) (fun (x67_2:Bool)=>A9.j2 c x67_2=some r) ?_ ?_
 refine Al (Ch _ _ []) 1 225 Ay rfl rfl ?_
 refine Aw ?_
 obtain⟨y_4,hy_4,G⟩:=Ab G
 refine Dl (P6 _ _ hy_4) ?_
 refine Aw ?_
 rcases Dj G with ⟨h17,G⟩ | ⟨h17,G⟩
 refine Bi fun B=>?_
 exact⟨true,G,Av [(0,0)]⟩
 refine Aw ?_
 obtain⟨y_5,hy_5,G⟩:=Ab G
 refine Dl (Rx _ _ hy_5) ?_
 refine Aw ?_
 rcases Dj G with ⟨h19,G⟩ | ⟨h19,G⟩
 refine Bi fun B=>?_
 exact⟨true,G,Av [(0,0)]⟩
 refine Aw ?_
 rcases Dj G with ⟨h21,G⟩ | ⟨h21,G⟩
 refine Bi fun B=>?_
 exact⟨true,G,Av [(0,0)]⟩
 refine Aw ?_
 rcases Dj G with ⟨h23,G⟩ | ⟨h23,G⟩
 refine Bi fun B=>?_
 exact⟨true,G,Av [(0,0)]⟩
 refine Bi fun B=>?_
 exact⟨decide (40000 < c.To),G,Av [(0,0)]⟩
 rintro x67_2 G
 replace G:A9.j2 c x67_2=some r:=G
 show B4 _ _ _ _ (mk _ _ _)
 unfold A9.j2 at G
 refine Cr rfl G (fun h26 G=>?_) fun h26 G=>?_
 refine Ca 1 9 Ay ?_
 exact Df
 refine C9 ?_
 refine Ak <| Bs (ι:=Bool) (fun (x91_3:Bool)=>mk [(1,.ptr 0 0),(91,.val (.bool x91_3))] [(0,.box (Ae.dv c) 111)] 1) (fun (x91_3:Bool)=>A9.j3 c x91_3=some r) ?_ ?_
 refine Al (Ch _ _ []) 1 193 Ay rfl rfl ?_
 refine Aw ?_
 rcases Dj G with ⟨h28,G⟩ | ⟨h28,G⟩
 refine Bi fun B=>?_
 exact⟨true,G,Av [(0,0)]⟩
 refine Aw ?_
 rcases Dj G with ⟨h30,G⟩ | ⟨h30,G⟩
 refine Bi fun B=>?_
 exact⟨true,G,Av [(0,0)]⟩
 refine Aw ?_
 rcases Dj G with ⟨h32,G⟩ | ⟨h32,G⟩
 refine Aw ?_
 rcases Dj G with ⟨h33,G⟩ | ⟨h33,G⟩
 refine Bi fun B=>?_
 exact⟨true,G,Av [(0,0)]⟩
 refine Bi fun B=>?_
 exact⟨decide (8 < (c.Names.length:Int)),G,Av [(0,0)]⟩
 refine Bi fun B=>?_
 exact⟨decide (8 < (c.Names.length:Int)),G,Av [(0,0)]⟩
 rintro x91_3 G
 replace G:A9.j3 c x91_3=some r:=G
 show B4 _ _ _ _ (mk _ _ _)
 unfold A9.j3 at G
 refine Cr rfl G (fun h37 G=>?_) fun h37 G=>?_
 refine Ca 1 9 Ay ?_
 exact Df
 refine C9 ?_
 refine Ak <| Bk 1 9 Ay fun B=>?_
 refine Aq <| Jp (fun (i_4:Int)=>mk [(1,.ptr 0 0),(3,vk i_4)] [(0,.box (Ae.dv c) 111)] 1) G (Av [(0,0)]) ?_
 rintro i_4 m4 o4 G hn4
 replace G:A9.l4 c i_4=some o4:=G
 show B4 _ _ _ _ (mk _ _ _)
 unfold A9.l4 at G
 refine Ak <| Bk 1 41 Ay fun B=>?_
 refine Cr rfl G (fun h41 G=>?_) fun h41 G=>?_
 refine C9 ?_
 refine Ak <| Aq <| Bs (ι:=Bool) (fun (x123_5:Bool)=>mk [(1,.ptr 0 0),(3,vk i_4),(123,.val (.bool x123_5))] [(0,.box (Ae.dv c) 111)] 1) (fun (x123_5:Bool)=>A9.j5 i_4 x123_5=some o4) ?_ ?_
 refine Bu (Ch _ _ []) (by kernel_rfl) [0,1,0,7,15,31,63,127,255,511,1023,2047,4095,2047,10239,32767,65535,2047,133119,2047,919551,1968127,4194303,8388607,16777215] 41 241 B rfl rfl (by kernel_rfl) ?_
 refine Aw ?_
 obtain⟨e,he,G⟩:=Ab G
 refine Aw ?_
 refine Rg he ?_
 obtain⟨y_6,hy_6,G⟩:=Ab G
 refine Dl (Nv _ _ hy_6) ?_
 refine Aw ?_
 rcases Dj G with ⟨h42,G⟩ | ⟨h42,G⟩
 refine Bi fun B=>?_
 exact⟨true,G,Av [(0,0)]⟩
 refine Aw ?_
 rcases Dj G with ⟨h44,G⟩ | ⟨h44,G⟩
 refine Aw ?_
 obtain⟨e_2,he_2,G⟩:=Ab G
 refine Aw ?_
 refine Rg he_2 ?_
 refine Aw ?_
 refine Rg he ?_
 refine C1 (Dx rfl rfl h44) rfl lF rfl rfl ?_
 refine Bi fun B=>?_
 exact⟨!L4 (Iv e_2) (Iv e),G,Av [(0,0)]⟩
 refine Bi fun B=>?_
 exact⟨false,G,Av [(0,0)]⟩
 rintro x123_5 G
 replace G:A9.j5 i_4 x123_5=some o4:=G
 show B4 _ _ _ _ (mk _ _ _)
 unfold A9.j5 at G
 refine Cr rfl G (fun h47 G=>?_) fun h47 G=>?_
 refine Bk 1 9 Ay fun B=>?_
 refine Fj ?_
 replace G:=Ce G hn4
 exact Ts
 refine C9 ?_
 refine Al (Ch _ _ []) 1 25 Ay rfl rfl ?_
 refine Bi fun B=>?_
 obtain rfl:=oi_ G
 exact⟨(W (i_4 + 1),m4),aBj _,hn4,Av [(0,0)]⟩
 refine Jl ?_
 replace G:=Ce G hn4
 refine Ak <| Bs (ι:=Bool) (fun (x145_6:Bool)=>mk [(145,.val (.bool x145_6))] [] 0) (fun (x145_6:Bool)=>A9.j6 x145_6=some r) ?_ ?_
 refine Al (Ch _ _ []) 41 217 B rfl rfl ?_
 refine Aw ?_
 rcases Dj G with ⟨h50,G⟩ | ⟨h50,G⟩
 refine Bi fun B=>?_
 exact⟨true,G,Av []⟩
 refine Aw ?_
 rcases Dj G with ⟨h52,G⟩ | ⟨h52,G⟩
 refine Bi fun B=>?_
 exact⟨true,G,Av []⟩
 refine Aw ?_
 rcases Dj G with ⟨h54,G⟩ | ⟨h54,G⟩
 refine Bi fun B=>?_
 exact⟨true,G,Av []⟩
 refine Bi fun B=>?_
 exact⟨decide (4294967296<=c.Seal.Sum),G,Av []⟩
 rintro x145_6 G
 replace G:A9.j6 x145_6=some r:=G
 show B4 _ _ _ _ (mk _ _ _)
 unfold A9.j6 at G
 refine Cr rfl G (fun h57 G=>?_) fun h57 G=>?_
 refine Ca 0 8 Ay ?_
 exact Df
 refine C9 ?_
 refine Bk 0 8 Ay fun B=>?_
 exact K0
theorem Rq (s:ByteArray) (r:Ai) (G:Jt s=some r):Fn Tryz.prog 165 0 [ws s] [] (fun d' b'=>d'=.agg (Ai.dv r)/\b'=[]):=by
 unfold Jt at G
 refine Fn.of Tryz.func165 rfl rfl rfl fun w0 I ρ0=>?_
 show B4 _ ⟨w0,I,ρ0,0,0,6⟩ _ _ _
 refine Bk 0 8 Ay fun B=>?_
 refine Ca 8 40 B ?_
 refine Aw ?_
 refine C1 rfl rfl (fH S4 kT Yw) rfl rfl ?_
 refine Mv R5 hG bN ?_
 exact Df
theorem Kr (n:Int) (r:Ai) (G:Cq n=some r):Fn Tryz.prog 167 0 [vk n] [] (fun d' b'=>d'=.agg (Ai.dv r)/\b'=[]):=by
 unfold Cq at G
 refine Fn.of Tryz.func167 rfl rfl rfl fun w0 I ρ0=>?_
 show B4 _ ⟨w0,I,ρ0,0,0,45⟩ _ _ _
 refine Bk 0 8 Ay fun B=>?_
 refine Ca 8 40 B ?_
 refine Aw ?_
 refine C1 rfl rfl (Mo Ye Yw) rfl rfl ?_
 refine Kx L6 z5 vI ([(u8 n)]:List UInt8) e8 ?_
 refine Bi fun B=>?_
 refine Ak <| Ca 40 64 B ?_
 refine Aw ?_
 obtain⟨q,hq,G⟩:=Ab G
 refine C1 rfl rfl (Xs hq) rfl rfl ?_
 refine Bi fun B=>?_
 refine Aq <| Jp (fun ((x_1,b_1):Int×List UInt8)=>mk [(2,.ptr 0 0),(3,.row 1),(4,vk x_1)] [(0,.box [.val (.int .i64 0),.val (.slice none 0 0),.val (.bool false),.val (.slice none 0 0)] 170),(1,.row 5 1 (As e8 b_1))] 2) G (Av [(0,0),(1,24)]) ?_
 rintro⟨x_1,b_1⟩ m1 o1 G hn1
 replace G:Cq.l1 x_1 b_1=some o1:=G
 show B4 _ _ _ _ (mk _ _ _)
 unfold Cq.l1 at G
 refine Ak <| Bs (ι:=Bool) (fun (x35_2:Bool)=>mk [(2,.ptr 0 0),(3,.row 1),(4,vk x_1),(35,.val (.bool x35_2))] [(0,.box [.val (.int .i64 0),.val (.slice none 0 0),.val (.bool false),.val (.slice none 0 0)] 170),(1,.row 5 1 (As e8 b_1))] 2) (fun (x35_2:Bool)=>Cq.j2 x_1 b_1 x35_2=some o1) ?_ ?_
 refine Al (Ch _ _ []) 2 210 Ay rfl rfl ?_
 refine Aw ?_
 rcases Dj G with ⟨h4,G⟩ | ⟨h4,G⟩
 refine Aw ?_
 rcases Dj G with ⟨h5,G⟩ | ⟨h5,G⟩
 refine Bi fun B=>?_
 exact⟨true,G,Av [(0,0),(1,1)]⟩
 refine Aw ?_
 rcases Dj G with ⟨h7,G⟩ | ⟨h7,G⟩
 refine Aw ?_
 obtain⟨e,he,G⟩:=Ab G
 refine Aw ?_
 refine Gs (rd:=[1]) (Dx rfl rfl h7) rfl (.loadR1 ty5 (Eo Lf (B3 he) (o:=0) (c:=.int .u8 (e.toNat:Int)) rfl rfl)) rfl rfl ?_
 refine Aw ?_
 rcases Dj G with ⟨h8,G⟩ | ⟨h8,G⟩
 refine Bi fun B=>?_
 exact⟨true,G,Av [(0,0),(1,1)]⟩
 refine Aw ?_
 rcases Dj G with ⟨h10,G⟩ | ⟨h10,G⟩
 refine Aw ?_
 refine Gs (rd:=[1]) (Dx rfl rfl h10) rfl (.loadR1 ty5 (Eo Lf (B3 he) (o:=0) (c:=.int .u8 (e.toNat:Int)) rfl rfl)) rfl rfl ?_
 refine Bi fun B=>?_
 exact⟨decide ((e.toNat:Int) < 128),G,Av [(0,0),(1,1)]⟩
 refine Bi fun B=>?_
 exact⟨false,G,Av [(0,0),(1,1)]⟩
 refine Aw ?_
 rcases Dj G with ⟨h13,G⟩ | ⟨h13,G⟩
 refine Aw ?_
 obtain⟨e_2,he_2,G⟩:=Ab G
 refine Aw ?_
 refine Gs (rd:=[1]) (Dx rfl rfl h13) rfl (.loadR1 ty5 (Eo Lf (B3 he_2) (o:=0) (c:=.int .u8 (e_2.toNat:Int)) rfl rfl)) rfl rfl ?_
 refine Bi fun B=>?_
 exact⟨decide ((e_2.toNat:Int) < 128),G,Av [(0,0),(1,1)]⟩
 refine Bi fun B=>?_
 exact⟨false,G,Av [(0,0),(1,1)]⟩
 refine Aw ?_
 rcases Dj G with ⟨h16,G⟩ | ⟨h16,G⟩
 refine Aw ?_
 obtain⟨e_3,he_3,G⟩:=Ab G
 refine Aw ?_
 refine Gs (rd:=[1]) (Dx rfl rfl h16) rfl (.loadR1 ty5 (Eo Lf (B3 he_3) (o:=0) (c:=.int .u8 (e_3.toNat:Int)) rfl rfl)) rfl rfl ?_
 refine Aw ?_
 rcases Dj G with ⟨h17,G⟩ | ⟨h17,G⟩
 refine Bi fun B=>?_
 exact⟨true,G,Av [(0,0),(1,1)]⟩
 refine Aw ?_
 rcases Dj G with ⟨h19,G⟩ | ⟨h19,G⟩
 refine Aw ?_
 refine Gs (rd:=[1]) (Dx rfl rfl h19) rfl (.loadR1 ty5 (Eo Lf (B3 he_3) (o:=0) (c:=.int .u8 (e_3.toNat:Int)) rfl rfl)) rfl rfl ?_
 refine Bi fun B=>?_
 exact⟨decide ((e_3.toNat:Int) < 128),G,Av [(0,0),(1,1)]⟩
 refine Bi fun B=>?_
 exact⟨false,G,Av [(0,0),(1,1)]⟩
 refine Aw ?_
 rcases Dj G with ⟨h22,G⟩ | ⟨h22,G⟩
 refine Aw ?_
 obtain⟨e_4,he_4,G⟩:=Ab G
 refine Aw ?_
 refine Gs (rd:=[1]) (Dx rfl rfl h22) rfl (.loadR1 ty5 (Eo Lf (B3 he_4) (o:=0) (c:=.int .u8 (e_4.toNat:Int)) rfl rfl)) rfl rfl ?_
 refine Bi fun B=>?_
 exact⟨decide ((e_4.toNat:Int) < 128),G,Av [(0,0),(1,1)]⟩
 refine Bi fun B=>?_
 exact⟨false,G,Av [(0,0),(1,1)]⟩
 rintro x35_2 G
 replace G:Cq.j2 x_1 b_1 x35_2=some o1:=G
 show B4 _ _ _ _ (mk _ _ _)
 unfold Cq.j2 at G
 refine Cr rfl G (fun h25 G=>?_) fun h25 G=>?_
 refine C9 ?_
 refine Ak <| Aq <| Al (Ch _ _ []) 2 50 Ay rfl rfl ?_
 refine Aw ?_
 refine C1 rfl rfl (Mo Ye Yw) rfl rfl ?_
 refine Kx L6 z5 vI ([(u8 x_1)]:List UInt8) e8 ?_
 refine Aw ?_
 obtain⟨l,hl,G⟩:=Ab G
 refine Gs (rd:=[18,1]) rfl rfl (Dp L6 Lf .row rfl .row rfl hl rfl) rfl rfl ?_
 refine Bi fun B=>?_
 refine Al (Ch _ _ []) 50 74 B rfl rfl ?_
 refine Aw ?_
 obtain⟨q_2,hq_2,G⟩:=Ab G
 refine C1 rfl rfl (Xs hq_2) rfl rfl ?_
 refine Bi fun B=>?_
 obtain rfl:=oi_ G
 exact⟨((q_2,l),m1),aBj _,hn1,Av [(0,0),(1,34)]⟩
 refine Jl ?_
 replace G:=Ce G hn1
 refine Ca 2 26 Ay ?_
 refine Aw ?_
 refine Mv R5 hG bN ?_
 exact Df
theorem O3.F (rec:(List Ai)->Option ((List Ai))) (hrec:∀ (l:(List Ai)) (r:(List Ai)),rec l=some r->Fn Tryz.prog 198 0 [.sl 4 (As Ai.enc l)] [] (fun d' b'=>d'=.sl 4 (As Ai.enc r)/\b'=[])) (l:(List Ai)) (r:(List Ai)) (G:C0.F rec l=some r):Fn Tryz.prog 198 0 [.sl 4 (As Ai.enc l)] [] (fun d' b'=>d'=.sl 4 (As Ai.enc r)/\b'=[]):=by
 unfold C0.F at G
 refine Fn.of Tryz.func198 rfl rfl rfl fun w0 I ρ0=>?_
 show B4 _ ⟨w0,I,ρ0,0,0,30⟩ _ _ _
 refine Bk 0 8 Ay fun B=>?_
 refine Bk 8 16 B fun B=>?_
 refine Ak <| Bk 16 24 B fun B=>?_
 refine Aq <| Jp (fun ((i_1,out_1):Int×List Ai)=>mk [(0,.sl 4 (As Ai.enc l)),(3,.row 0),(4,vk i_1)] [(0,.row 170 4 (As Ai.enc out_1))] 1) G (Av []) ?_
 rintro⟨i_1,out_1⟩ m1 o1 G hn1
 replace G:C0.l1 rec l i_1 out_1=some o1:=G
 show B4 _ _ _ _ (mk _ _ _)
 unfold C0.l1 at G
 refine Ak <| Bk 1 33 Ay fun B=>?_
 refine Cr rfl G (fun h5 G=>?_) fun h5 G=>?_
 refine C9 ?_
 refine Ak <| Aq <| Ca 33 81 B ?_
 refine Aw ?_
 obtain⟨e,he,G⟩:=Ab G
 refine Aw ?_
 refine C1 rfl rfl (D4 gR (Hi Ai.enc_len (B3 he) (o:=0) (m:=4) (cs:=[.int .i64 e.Tag,.sl 1 (As e8 e.Bytes),.bool e.Nested,.sl 4 (As Ai.enc e.Elements)]) (by simp only [Ai.enc_eq]; rfl) (by decide) rfl) (E1 Ai.enc_len (B3 he) (o:=0) (m:=4) (by decide) rfl)) rfl rfl ?_
 refine Bi fun B=>?_
 refine Ca 81 129 B ?_
 refine C1 rfl rfl (H7 L6 z5 (by decide) rfl rfl rfl rfl vI (cs:=[]) .nil rfl (l:=([]:List UInt8)) (f:=e8) rfl) rfl rfl ?_
 refine Aw ?_
 obtain⟨l_2,hl_2,G⟩:=Ab G
 refine Gs (rd:=[81]) rfl rfl (Dp L6 Lf .row rfl .sl rfl hl_2 rfl) rfl rfl ?_
 refine Bi fun B=>?_
 refine Ca 129 169 B ?_
 refine Aw ?_
 obtain⟨y,hy,G⟩:=Ab G
 refine Dl (hrec _ _ hy) ?_
 refine Bi fun B=>?_
 refine Ey (σ':=mk [(0,.sl 4 (As Ai.enc l)),(3,.row 0),(4,vk i_1),(5,.ptr 1 0)] [(0,.row 170 4 (As Ai.enc out_1)),(1,.box [vk e.Tag,.sl 1 (As e8 l_2),.val (.bool e.Nested),.sl 4 (As Ai.enc y)] 170)] 2) (Av [(0,0),(1,65)]) ?_
 refine Al (Ch _ _ []) 2 42 Ay rfl rfl ?_
 refine Aw ?_
 refine C1 rfl rfl (H7 bI bN (by decide) rfl rfl rfl rfl mP (cs:=[.int .i64 e.Tag,.sl 1 (As e8 l_2),.bool e.Nested,.sl 4 (As Ai.enc y)]) (.cons .int (.cons .sl (.cons .bool (.cons .sl .nil)))) rfl (l:=([(Ai.mk e.Tag l_2 e.Nested y)]:List Ai)) (f:=Ai.enc) (by simp only [As,aJn,aKz,Ai.enc_eq]; rfl)) rfl rfl ?_
 obtain⟨l_3,hl_3,G⟩:=Ab G
 refine Gs (rd:=[0,18]) rfl rfl (Dp bI Ai.enc_len .row rfl .row rfl hl_3 rfl) rfl rfl ?_
 refine Bi fun B=>?_
 refine Al (Ch _ _ []) 42 66 B rfl rfl ?_
 refine Bi fun B=>?_
 obtain rfl:=oi_ G
 exact⟨((W (i_1 + 1),l_3),m1),aBj _,hn1,Av [(0,26)]⟩
 refine Jl ?_
 replace G:=Ce G hn1
 refine Bk 33 49 B fun B=>?_
 exact K0
theorem O3 (l:(List Ai)) (r:(List Ai)) (G:C0 l=some r):Fn Tryz.prog 198 0 [.sl 4 (As Ai.enc l)] [] (fun d' b'=>d'=.sl 4 (As Ai.enc r)/\b'=[]):=
 Tf (motive:=fun (x:(List Ai)) (r:(List Ai))=>Fn Tryz.prog 198 0 [.sl 4 (As Ai.enc x)] [] (fun d' b'=>d'=.sl 4 (As Ai.enc r)/\b'=[])) (fun rec hrec x r h=>O3.F _ (fun l r h=>hrec l r h) x r h) l r G
theorem R2 (l:(List Ai)) (r:Ai) (G:I3 l=some r):Fn Tryz.prog 166 0 [.sl 4 (As Ai.enc l)] [] (fun d' b'=>d'=.agg (Ai.dv r)/\b'=[]):=by
 unfold I3 at G
 refine Fn.of Tryz.func166 rfl rfl rfl fun w0 I ρ0=>?_
 show B4 _ ⟨w0,I,ρ0,0,0,6⟩ _ _ _
 refine Bk 0 8 Ay fun B=>?_
 refine Ca 8 40 B ?_
 refine Aw ?_
 obtain⟨y,hy,G⟩:=Ab G
 refine Dl (O3 _ _ hy) ?_
 refine Mv R5 hG bN ?_
 exact Df
theorem X4 (u:Ar) (r:Ai) (G:Ll u=some r):Fn Tryz.prog 168 0 [.agg [vk u.Alg,vk u.Bits]] [] (fun d' b'=>d'=.agg (Ai.dv r)/\b'=[]):=by
 unfold Ll at G
 refine Fn.of Tryz.func168 rfl rfl rfl fun w0 I ρ0=>?_
 show B4 _ ⟨w0,I,ρ0,0,0,11⟩ _ _ _
 refine Bk 0 16 Ay fun B=>?_
 refine Ak <| Bu (Ch _ _ [64]) (by kernel_rfl) [0,1,3,0,8,31,63,127,255] 16 88 B rfl rfl (by kernel_rfl) ?_
 refine Aw ?_
 obtain⟨y,hy,G⟩:=Ab G
 refine Dl (Kr _ _ hy) ?_
 refine Aw ?_
 obtain⟨y_2,hy_2,G⟩:=Ab G
 refine Dl (Kr _ _ hy_2) ?_
 refine aCb (rd:=[]) rfl rfl (H7 bI bN (by decide) rfl rfl rfl rfl mP (cs:=[.int .i64 y.Tag,.sl 1 (As e8 y.Bytes),.bool y.Nested,.sl 4 (As Ai.enc y.Elements),.int .i64 y_2.Tag,.sl 1 (As e8 y_2.Bytes),.bool y_2.Nested,.sl 4 (As Ai.enc y_2.Elements)]) (.cons .int (.cons .sl (.cons .bool (.cons .sl (.cons .int (.cons .sl (.cons .bool (.cons .sl .nil)))))))) rfl (l:=([y,y_2]:List Ai)) (f:=Ai.enc) (by simp only [As,aJn,aKz,Ai.enc_eq]; rfl)) rfl rfl rfl ?_
 obtain⟨y_3,hy_3,G⟩:=Ab G
 refine Dl (R2 _ _ hy_3) ?_
 exact Df
theorem gG (b:Bool) (r:Ai) (G:Nt b=some r):Fn Tryz.prog 169 0 [.val (.bool b)] [] (fun d' b'=>d'=.agg (Ai.dv r)/\b'=[]):=by
 unfold Nt at G
 refine Fn.of Tryz.func169 rfl rfl rfl fun w0 I ρ0=>?_
 show B4 _ ⟨w0,I,ρ0,0,0,8⟩ _ _ _
 refine Bk 0 8 Ay fun B=>?_
 refine Ak <| Bk 8 16 B fun B=>?_
 refine Cr rfl G (fun h3 G=>?_) fun h3 G=>?_
 refine Ca 16 40 B ?_
 refine Kx L6 z5 vI ([(255:UInt8)]:List UInt8) e8 ?_
 refine Mv R5 hG bN ?_
 exact Df
 refine C9 ?_
 refine Ca 16 40 B ?_
 refine Kx L6 z5 vI ([(0:UInt8)]:List UInt8) e8 ?_
 refine Mv R5 hG bN ?_
 exact Df
theorem eC (c:Ae) (r:Ai) (G:E0 c=some r):Fn Tryz.prog 122 0 [.agg (Ae.dv c)] [] (fun d' b'=>d'=.agg (Ai.dv r)/\b'=[]):=by
 unfold E0 at G
 refine Fn.of Tryz.func122 rfl rfl rfl fun w0 I ρ0=>?_
 show B4 _ ⟨w0,I,ρ0,0,0,55⟩ _ _ _
 refine Bk 0 16 Ay fun B=>?_
 refine Bk 16 24 B fun B=>?_
 refine Ak <| Bk 24 32 B fun B=>?_
 refine Aq <| Jp (fun ((i_1,names_1):Int×List Ai)=>mk [(1,.ptr 0 0),(2,.ptr 1 0),(3,.row 2),(4,vk i_1)] [(0,.box (Ae.dv c) 111),(1,.box [.val (.int .i64 0),.val (.slice none 0 0),.val (.bool false),.val (.slice none 0 0)] 170),(2,.row 170 4 (As Ai.enc names_1))] 3) G (Av [(0,0),(1,8)]) ?_
 rintro⟨i_1,names_1⟩ m1 o1 G hn1
 replace G:E0.l1 c i_1 names_1=some o1:=G
 show B4 _ _ _ _ (mk _ _ _)
 unfold E0.l1 at G
 refine Ak <| Bk 3 43 Ay fun B=>?_
 refine Cr rfl G (fun h5 G=>?_) fun h5 G=>?_
 refine C9 ?_
 refine Ak <| Aq <| Al (Ch _ _ []) 43 123 B rfl rfl ?_
 refine Aw ?_
 obtain⟨e,he,G⟩:=Ab G
 refine Aw ?_
 refine Rg he ?_
 obtain⟨y,hy,G⟩:=Ab G
 refine Dl (Rq _ _ hy) ?_
 refine C1 rfl rfl (H7 bI bN (by decide) rfl rfl rfl rfl mP (cs:=[.int .i64 y.Tag,.sl 1 (As e8 y.Bytes),.bool y.Nested,.sl 4 (As Ai.enc y.Elements)]) (.cons .int (.cons .sl (.cons .bool (.cons .sl .nil)))) rfl (l:=([y]:List Ai)) (f:=Ai.enc) (by simp only [As,aJn,aKz,Ai.enc_eq]; rfl)) rfl rfl ?_
 obtain⟨l,hl,G⟩:=Ab G
 refine Gs (rd:=[2,99]) rfl rfl (Dp bI Ai.enc_len .row rfl .row rfl hl rfl) rfl rfl ?_
 refine Bi fun B=>?_
 refine Al (Ch _ _ []) 123 147 B rfl rfl ?_
 refine Bi fun B=>?_
 obtain rfl:=oi_ G
 exact⟨((W (i_1 + 1),l),m1),aBj _,hn1,Av [(0,0),(1,1),(2,107)]⟩
 refine Jl ?_
 replace G:=Ce G hn1
 refine Ak <| Ey (σ':=mk [(1,.ptr 0 0),(2,.ptr 1 0),(3,.sl 4 (As Ai.enc names_1))] [(0,.box (Ae.dv c) 111),(1,.box [.val (.int .i64 0),.val (.slice none 0 0),.val (.bool false),.val (.slice none 0 0)] 170)] 2) (Av [(0,0),(1,1)]) ?_
 refine Bu (Ch _ _ [258]) (by kernel_rfl) [0,1,3,0,8,31,0,64,255,0,512,2047,0,4096,16383,0,32768,131071,0,262144,1048575,0,2097152,8388607,0,16777216,67108863,0,134217728,536870911,0,2147483647,4294967295,8589934591,17179869183] 2 282 Ay rfl rfl (by kernel_rfl) ?_
 refine Aw ?_
 obtain⟨y_12,hy_12,G⟩:=Ab G
 refine Dl (Kr _ _ hy_12) ?_
 refine Aw ?_
 obtain⟨y_13,hy_13,G⟩:=Ab G
 refine Dl (Rq _ _ hy_13) ?_
 refine Aw ?_
 obtain⟨y_14,hy_14,G⟩:=Ab G
 refine Dl (Rq _ _ hy_14) ?_
 refine Aw ?_
 obtain⟨y_15,hy_15,G⟩:=Ab G
 refine Dl (X4 _ _ hy_15) ?_
 refine Aw ?_
 obtain⟨y_16,hy_16,G⟩:=Ab G
 refine Dl (Kr _ _ hy_16) ?_
 refine Aw ?_
 obtain⟨y_17,hy_17,G⟩:=Ab G
 refine Dl (X4 _ _ hy_17) ?_
 refine Aw ?_
 obtain⟨y_18,hy_18,G⟩:=Ab G
 refine Dl (Kr _ _ hy_18) ?_
 refine Aw ?_
 obtain⟨y_19,hy_19,G⟩:=Ab G
 refine Dl (Kr _ _ hy_19) ?_
 refine Aw ?_
 obtain⟨y_20,hy_20,G⟩:=Ab G
 refine Dl (gG _ _ hy_20) ?_
 refine Aw ?_
 obtain⟨y_21,hy_21,G⟩:=Ab G
 refine Dl (Kr _ _ hy_21) ?_
 refine Aw ?_
 obtain⟨y_22,hy_22,G⟩:=Ab G
 refine Dl (R2 _ _ hy_22) ?_
 refine aCb (rd:=[]) rfl rfl (H7 bI bN (by decide) rfl rfl rfl rfl mP (cs:=[.int .i64 y_12.Tag,.sl 1 (As e8 y_12.Bytes),.bool y_12.Nested,.sl 4 (As Ai.enc y_12.Elements),.int .i64 y_13.Tag,.sl 1 (As e8 y_13.Bytes),.bool y_13.Nested,.sl 4 (As Ai.enc y_13.Elements),.int .i64 y_14.Tag,.sl 1 (As e8 y_14.Bytes),.bool y_14.Nested,.sl 4 (As Ai.enc y_14.Elements),.int .i64 y_15.Tag,.sl 1 (As e8 y_15.Bytes),.bool y_15.Nested,.sl 4 (As Ai.enc y_15.Elements),.int .i64 y_16.Tag,.sl 1 (As e8 y_16.Bytes),.bool y_16.Nested,.sl 4 (As Ai.enc y_16.Elements),.int .i64 y_17.Tag,.sl 1 (As e8 y_17.Bytes),.bool y_17.Nested,.sl 4 (As Ai.enc y_17.Elements),.int .i64 y_18.Tag,.sl 1 (As e8 y_18.Bytes),.bool y_18.Nested,.sl 4 (As Ai.enc y_18.Elements),.int .i64 y_19.Tag,.sl 1 (As e8 y_19.Bytes),.bool y_19.Nested,.sl 4 (As Ai.enc y_19.Elements),.int .i64 y_20.Tag,.sl 1 (As e8 y_20.Bytes),.bool y_20.Nested,.sl 4 (As Ai.enc y_20.Elements),.int .i64 y_21.Tag,.sl 1 (As e8 y_21.Bytes),.bool y_21.Nested,.sl 4 (As Ai.enc y_21.Elements),.int .i64 y_22.Tag,.sl 1 (As e8 y_22.Bytes),.bool y_22.Nested,.sl 4 (As Ai.enc y_22.Elements)]) (.cons .int (.cons .sl (.cons .bool (.cons .sl (.cons .int (.cons .sl (.cons .bool (.cons .sl (.cons .int (.cons .sl (.cons .bool (.cons .sl (.cons .int (.cons .sl (.cons .bool (.cons .sl (.cons .int (.cons .sl (.cons .bool (.cons .sl (.cons .int (.cons .sl (.cons .bool (.cons .sl (.cons .int (.cons .sl (.cons .bool (.cons .sl (.cons .int (.cons .sl (.cons .bool (.cons .sl (.cons .int (.cons .sl (.cons .bool (.cons .sl (.cons .int (.cons .sl (.cons .bool (.cons .sl (.cons .int (.cons .sl (.cons .bool (.cons .sl .nil)))))))))))))))))))))))))))))))))))))))))))) rfl (l:=([y_12,y_13,y_14,y_15,y_16,y_17,y_18,y_19,y_20,y_21,y_22]:List Ai)) (f:=Ai.enc) (by simp only [As,aJn,aKz,Ai.enc_eq]; rfl)) rfl rfl rfl ?_
 obtain⟨y_23,hy_23,G⟩:=Ab G
 refine Dl (R2 _ _ hy_23) ?_
 exact Df
theorem gZ (n:Int) (r:Bool) (G:Nb n=some r):Fn Tryz.prog 196 0 [vk n] [] (fun d' b'=>d'=.val (.bool r)/\b'=[]):=by
 unfold Nb at G
 refine Fn.of Tryz.func196 rfl rfl rfl fun w0 I ρ0=>?_
 show B4 _ ⟨w0,I,ρ0,0,0,14⟩ _ _ _
 refine Bk 0 8 Ay fun B=>?_
 refine Ca 8 104 B ?_
 refine Aw ?_
 rcases Dj G with ⟨h2,G⟩ | ⟨h2,G⟩
 refine Aw ?_
 rcases Dj G with ⟨h3,G⟩ | ⟨h3,G⟩
 refine Aw ?_
 obtain⟨q,hq,G⟩:=Ab G
 refine C1 (Dx rfl rfl h3) rfl (iC hq) rfl rfl ?_
 exact Df
 exact Df
 exact Df
theorem Ou.F (rec:Ai->Option (Bool)) (hrec:∀ (v:Ai) (r:Bool),rec v=some r->Fn Tryz.prog 162 0 [.agg (Ai.dv v)] [] (fun d' b'=>d'=.val (.bool r)/\b'=[])) (v:Ai) (r:Bool) (G:Bz.F rec v=some r):Fn Tryz.prog 162 0 [.agg (Ai.dv v)] [] (fun d' b'=>d'=.val (.bool r)/\b'=[]):=by
 unfold Bz.F at G
 refine Fn.of Tryz.func162 rfl rfl rfl fun w0 I ρ0=>?_
 show B4 _ ⟨w0,I,ρ0,0,0,53⟩ _ _ _
 refine Bk 0 16 Ay fun B=>?_
 refine Ak <| Bs (ι:=Bool) (fun (x38_1:Bool)=>mk [(1,.ptr 0 0),(38,.val (.bool x38_1))] [(0,.box (Ai.dv v) 170)] 1) (fun (x38_1:Bool)=>Bz.j1 rec v x38_1=some r) ?_ ?_
 refine Al (Ch _ _ []) 16 296 B rfl rfl ?_
 refine Aw ?_
 obtain⟨y,hy,G⟩:=Ab G
 refine Dl (gZ _ _ hy) ?_
 refine Aw ?_
 rcases Dj G with ⟨h2,G⟩ | ⟨h2,G⟩
 refine Bi fun B=>?_
 exact⟨true,G,Av [(0,0)]⟩
 refine Aw ?_
 obtain⟨q,hq,G⟩:=Ab G
 refine C1 (Dx rfl rfl h2) rfl (Sx hq) rfl rfl ?_
 obtain⟨q_2,hq_2,G⟩:=Ab G
 refine C1 (Dx rfl rfl h2) rfl (iC hq_2) rfl rfl ?_
 refine Aw ?_
 refine C1 (Dx rfl rfl h2) rfl (sZ aD4) rfl rfl ?_
 refine Aw ?_
 rcases Dj G with ⟨h4,G⟩ | ⟨h4,G⟩
 refine Bi fun B=>?_
 exact⟨true,G,Av [(0,0)]⟩
 refine Aw ?_
 rcases Dj G with ⟨h6,G⟩ | ⟨h6,G⟩
 refine Aw ?_
 rcases Dj G with ⟨h7,G⟩ | ⟨h7,G⟩
 refine Bi fun B=>?_
 exact⟨true,G,Av [(0,0)]⟩
 refine Bi fun B=>?_
 exact⟨false,G,Av [(0,0)]⟩
 refine Bi fun B=>?_
 exact⟨decide (0 < (v.Elements.length:Int)),G,Av [(0,0)]⟩
 rintro x38_1 G
 replace G:Bz.j1 rec v x38_1=some r:=G
 show B4 _ _ _ _ (mk _ _ _)
 unfold Bz.j1 at G
 refine Cr rfl G (fun h11 G=>?_) fun h11 G=>?_
 refine Ca 1 9 Ay ?_
 exact Df
 refine C9 ?_
 refine Ak <| Bk 1 9 Ay fun B=>?_
 refine Aq <| Jp (fun (i_2:Int)=>mk [(1,.ptr 0 0),(3,vk i_2)] [(0,.box (Ai.dv v) 170)] 1) G (Av [(0,0)]) ?_
 rintro i_2 m2 o2 G hn2
 replace G:Bz.l2 rec v i_2=some o2:=G
 show B4 _ _ _ _ (mk _ _ _)
 unfold Bz.l2 at G
 refine Ak <| Bk 1 41 Ay fun B=>?_
 refine Cr rfl G (fun h15 G=>?_) fun h15 G=>?_
 refine C9 ?_
 refine Ak <| Aq <| Ca 41 97 B ?_
 refine Aw ?_
 obtain⟨e,he,G⟩:=Ab G
 refine Aw ?_
 refine C1 rfl rfl (D4 gR (Hi Ai.enc_len (B3 he) (o:=0) (m:=4) (cs:=[.int .i64 e.Tag,.sl 1 (As e8 e.Bytes),.bool e.Nested,.sl 4 (As Ai.enc e.Elements)]) (by simp only [Ai.enc_eq]; rfl) (by decide) rfl) (E1 Ai.enc_len (B3 he) (o:=0) (m:=4) (by decide) rfl)) rfl rfl ?_
 obtain⟨y_2,hy_2,G⟩:=Ab G
 refine Dl (hrec _ _ hy_2) ?_
 refine Bi fun B=>?_
 refine Cr rfl G (fun h17 G=>?_) fun h17 G=>?_
 refine Bk 97 105 B fun B=>?_
 refine Fj ?_
 replace G:=Ce G hn2
 exact Ts
 refine C9 ?_
 refine Al (Ch _ _ []) 97 121 B rfl rfl ?_
 refine Bi fun B=>?_
 obtain rfl:=oi_ G
 exact⟨(W (i_2 + 1),m2),aBj _,hn2,Av [(0,0)]⟩
 refine Jl ?_
 replace G:=Ce G hn2
 refine Bk 41 49 B fun B=>?_
 exact K0
theorem Ou (v:Ai) (r:Bool) (G:Bz v=some r):Fn Tryz.prog 162 0 [.agg (Ai.dv v)] [] (fun d' b'=>d'=.val (.bool r)/\b'=[]):=
 Tf (motive:=fun (x:Ai) (r:Bool)=>Fn Tryz.prog 162 0 [.agg (Ai.dv x)] [] (fun d' b'=>d'=.val (.bool r)/\b'=[])) (fun rec hrec x r h=>Ou.F _ (fun v r h=>hrec v r h) x r h) v r G
theorem Qf.F (rec:Ai->Option (Int)) (hrec:∀ (v:Ai) (r:Int),rec v=some r->Fn Tryz.prog 163 0 [.agg (Ai.dv v)] [] (fun d' b'=>d'=vk r/\b'=[])) (v:Ai) (r:Int) (G:Db.F rec v=some r):Fn Tryz.prog 163 0 [.agg (Ai.dv v)] [] (fun d' b'=>d'=vk r/\b'=[]):=by
 unfold Db.F at G
 refine Fn.of Tryz.func163 rfl rfl rfl fun w0 I ρ0=>?_
 show B4 _ ⟨w0,I,ρ0,0,0,22⟩ _ _ _
 refine Bk 0 16 Ay fun B=>?_
 refine Bk 16 24 B fun B=>?_
 refine Ak <| Bk 24 32 B fun B=>?_
 refine Aq <| Jp (fun ((d_1,i_1):Int×Int)=>mk [(1,.ptr 0 0),(3,vk d_1),(4,vk i_1)] [(0,.box (Ai.dv v) 170)] 1) G (Av [(0,0)]) ?_
 rintro⟨d_1,i_1⟩ m1 o1 G hn1
 replace G:Db.l1 rec v d_1 i_1=some o1:=G
 show B4 _ _ _ _ (mk _ _ _)
 unfold Db.l1 at G
 refine Ak <| Bk 1 41 Ay fun B=>?_
 refine Cr rfl G (fun h5 G=>?_) fun h5 G=>?_
 refine C9 ?_
 refine Ak <| Aq <| Al (Ch _ _ []) 41 113 B rfl rfl ?_
 refine Aw ?_
 obtain⟨e,he,G⟩:=Ab G
 refine Aw ?_
 refine C1 rfl rfl (D4 gR (Hi Ai.enc_len (B3 he) (o:=0) (m:=4) (cs:=[.int .i64 e.Tag,.sl 1 (As e8 e.Bytes),.bool e.Nested,.sl 4 (As Ai.enc e.Elements)]) (by simp only [Ai.enc_eq]; rfl) (by decide) rfl) (E1 Ai.enc_len (B3 he) (o:=0) (m:=4) (by decide) rfl)) rfl rfl ?_
 obtain⟨y,hy,G⟩:=Ab G
 refine Dl (hrec _ _ hy) ?_
 refine C1 rfl rfl aF9 rfl rfl ?_
 refine Bi fun B=>?_
 refine Al (Ch _ _ []) 113 137 B rfl rfl ?_
 refine Bi fun B=>?_
 obtain rfl:=oi_ G
 exact⟨((max d_1 y,W (i_1 + 1)),m1),aBj _,hn1,Av [(0,0)]⟩
 refine Jl ?_
 replace G:=Ce G hn1
 refine Bk 41 65 B fun B=>?_
 exact K0
theorem Qf (v:Ai) (r:Int) (G:Db v=some r):Fn Tryz.prog 163 0 [.agg (Ai.dv v)] [] (fun d' b'=>d'=vk r/\b'=[]):=
 Tf (motive:=fun (x:Ai) (r:Int)=>Fn Tryz.prog 163 0 [.agg (Ai.dv x)] [] (fun d' b'=>d'=vk r/\b'=[])) (fun rec hrec x r h=>Qf.F _ (fun v r h=>hrec v r h) x r h) v r G
theorem Zu (n:Int) (r:(List UInt8)) (G:Eh n=some r):Fn Tryz.prog 197 0 [vk n] [] (fun d' b'=>d'=.sl 1 (As e8 r)/\b'=[]):=by
 unfold Eh at G
 refine Fn.of Tryz.func197 rfl rfl rfl fun w0 I ρ0=>?_
 show B4 _ ⟨w0,I,ρ0,0,0,26⟩ _ _ _
 refine Bk 0 8 Ay fun B=>?_
 refine Ak <| Bk 8 24 B fun B=>?_
 refine Cr rfl G (fun h3 G=>?_) fun h3 G=>?_
 refine Ca 24 56 B ?_
 refine Aw ?_
 refine C1 rfl rfl (Mo Ye Yw) rfl rfl ?_
 refine Kx L6 z5 vI ([(u8 n)]:List UInt8) e8 ?_
 exact Df
 refine C9 ?_
 refine Bk 24 32 B fun B=>?_
 refine Ak <| Aq <| Jp (fun ((n_1,b_1):Int×List UInt8)=>mk [(0,vk n_1),(3,.row 0)] [(0,.row 5 1 (As e8 b_1))] 1) G (Av []) ?_
 rintro⟨n_1,b_1⟩ m1 o1 G hn1
 replace G:Eh.l1 n_1 b_1=some o1:=G
 show B4 _ _ _ _ (mk _ _ _)
 unfold Eh.l1 at G
 refine Ak <| Bk 1 17 Ay fun B=>?_
 refine Cr rfl G (fun h7 G=>?_) fun h7 G=>?_
 refine C9 ?_
 refine Aq <| Ca 17 73 B ?_
 refine Aw ?_
 obtain⟨q,hq,G⟩:=Ab G
 refine C1 rfl rfl (iC hq) rfl rfl ?_
 refine C1 rfl rfl (Mo Ye Yw) rfl rfl ?_
 refine Kx L6 z5 vI ([(u8 q)]:List UInt8) e8 ?_
 refine Aw ?_
 obtain⟨l,hl,G⟩:=Ab G
 refine Gs (rd:=[41,0]) rfl rfl (Dp L6 Lf .row rfl .row rfl hl rfl) rfl rfl ?_
 refine Bi fun B=>?_
 refine Al (Ch _ _ []) 73 97 B rfl rfl ?_
 refine Aw ?_
 obtain⟨q_2,hq_2,G⟩:=Ab G
 refine C1 rfl rfl (Sx hq_2) rfl rfl ?_
 refine Bi fun B=>?_
 obtain rfl:=oi_ G
 exact⟨((q_2,l),m1),aBj _,hn1,Av [(0,57)]⟩
 refine Jl ?_
 replace G:=Ce G hn1
 refine Ca 17 81 B ?_
 refine Aw ?_
 refine C1 rfl rfl (Mo Ye Yw) rfl rfl ?_
 refine Kx L6 z5 vI ([(u8 (W (128 + (b_1.length:Int))))]:List UInt8) e8 ?_
 refine Aw ?_
 obtain⟨l_2,hl_2,G⟩:=Ab G
 refine Gs (rd:=[49,0]) rfl rfl (Dp L6 Lf .row rfl .row rfl hl_2 rfl) rfl rfl ?_
 exact Df
end Go.Proofs.YtkoflhimdenjaaaGreat
