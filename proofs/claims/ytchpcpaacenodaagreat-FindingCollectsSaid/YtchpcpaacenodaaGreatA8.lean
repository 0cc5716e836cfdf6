import Derived.Test.YtchpcpaacenodaaGreatT1
import Derived.Test.YtchpcpaacenodaaGreatA7
set_option linter.unusedVariables false
set_option linter.unusedSimpArgs false
set_option maxRecDepth 100000
set_option maxHeartbeats 1600000
namespace Go.Proofs.YtchpcpaacenodaaGreat
open Go.RowKit
theorem Qe (c:Af) (r:Int) (G:Ba c=some r):Fn Tryz.prog 110 0 [.agg (Af.dv c)] [] (fun d' b'=>d'=vk r/\b'=[]):=by
 unfold Ba at G
 refine Fn.of Tryz.func110 rfl rfl rfl fun w0 I ρ0=>?_
 show B3 _ ⟨w0,I,ρ0,0,0,146⟩ _ _ _
 refine Bf 0 16 Ay fun B=>?_
 refine Aj <| Bo (ι:=Bool) (fun (x39_1:Bool)=>mk [(1,.ptr 0 0),(39,.val (.bool x39_1))] [(0,.box (Af.dv c) 104)] 1) (fun (x39_1:Bool)=>Ba.j1 c x39_1=some r) ?_ ?_
 refine Ak (B6 _ _ []) 16 304 B rfl rfl ?_
 refine As ?_
 rcases Dm G with ⟨h2,G⟩ | ⟨h2,G⟩
 refine Bd fun B=>?_
 exact⟨true,G,Ar [(0,0)]⟩
 refine As ?_
 rcases Dm G with ⟨h4,G⟩ | ⟨h4,G⟩
 refine Bd fun B=>?_
 exact⟨true,G,Ar [(0,0)]⟩
 refine As ?_
 obtain⟨y,hy,G⟩:=Ab G
 refine Dh (Jx _ _ hy) ?_
 refine As ?_
 rcases Dm G with ⟨h6,G⟩ | ⟨h6,G⟩
 refine Bd fun B=>?_
 exact⟨true,G,Ar [(0,0)]⟩
 refine As ?_
 obtain⟨y_2,hy_2,G⟩:=Ab G
 refine Dh (Jx _ _ hy_2) ?_
 refine As ?_
 rcases Dm G with ⟨h8,G⟩ | ⟨h8,G⟩
 refine Bd fun B=>?_
 exact⟨true,G,Ar [(0,0)]⟩
 refine As ?_
 obtain⟨y_3,hy_3,G⟩:=Ab G
 refine Dh (L8 _ _ hy_3) ?_
 refine As ?_
 rcases Dm G with ⟨h10,G⟩ | ⟨h10,G⟩
 refine Bd fun B=>?_
 exact⟨true,G,Ar [(0,0)]⟩
 refine As ?_
 rcases Dm G with ⟨h12,G⟩ | ⟨h12,G⟩
 refine Bd fun B=>?_
 exact⟨true,G,Ar [(0,0)]⟩
 refine Bd fun B=>?_
 exact⟨decide (2147483648 < c.KeyId),G,Ar [(0,0)]⟩
 rintro x39_1 G
 replace G:Ba.j1 c x39_1=some r:=G
 show B3 _ _ _ _ (mk _ _ _)
 unfold Ba.j1 at G
 refine Cp rfl G (fun h15 G=>?_) fun h15 G=>?_
 refine Cc 1 9 Ay ?_
 exact De
 refine C8 ?_
 refine Aj <| Bo (ι:=Bool) (fun (x67_2:Bool)=>mk [(1,.ptr 0 0),(67,.val (.bool x67_2))] [(0,.box (Af.dv c) 104)] 1) (fun (x67_2:Bool)=>Ba.j2 c x67_2=some r) ?_ ?_
 refine Ak (B6 _ _ []) 1 225 Ay rfl rfl ?_
 refine As ?_
 obtain⟨y_4,hy_4,G⟩:=Ab G
 refine Dh (Mx _ _ hy_4) ?_
 refine As ?_
 rcases Dm G with ⟨h17,G⟩ | ⟨h17,G⟩
 refine Bd fun B=>?_
 exact⟨true,G,Ar [(0,0)]⟩
 refine As ?_
 obtain⟨y_5,hy_5,G⟩:=Ab G
 refine Dh (R6 _ _ hy_5) ?_
 refine As ?_
 rcases Dm G with ⟨h19,G⟩ | ⟨h19,G⟩
 refine Bd fun B=>?_
 exact⟨true,G,Ar [(0,0)]⟩
 refine As ?_
 rcases Dm G with ⟨h21,G⟩ | ⟨h21,G⟩
 refine Bd fun B=>?_
 exact⟨true,G,Ar [(0,0)]⟩
 refine As ?_
 rcases Dm G with ⟨h23,G⟩ | ⟨h23,G⟩
 refine Bd fun B=>?_
 exact⟨true,G,Ar [(0,0)]⟩
 refine Bd fun B=>?_
 exact⟨decide (40000 < c.To),G,Ar [(0,0)]⟩
 rintro x67_2 G
 replace G:Ba.j2 c x67_2=some r:=G
 show B3 _ _ _ _ (mk _ _ _)
 unfold Ba.j2 at G
 refine Cp rfl G (fun h26 G=>?_) fun h26 G=>?_
 refine Cc 1 9 Ay ?_
 exact De
 refine C8 ?_
 refine Aj <| Bo (ι:=Bool) (fun (x91_3:Bool)=>mk [(1,.ptr 0 0),(91,.val (.bool x91_3))] [(0,.box (Af.dv c) 104)] 1) (fun (x91_3:Bool)=>Ba.j3 c x91_3=some r) ?_ ?_
 refine Ak (B6 _ _ []) 1 193 Ay rfl rfl ?_
 refine As ?_
 rcases Dm G with ⟨h28,G⟩ | ⟨h28,G⟩
 refine Bd fun B=>?_
 exact⟨true,G,Ar [(0,0)]⟩
 refine As ?_
 rcases Dm G with ⟨h30,G⟩ | ⟨h30,G⟩
 refine Bd fun B=>?_
 exact⟨true,G,Ar [(0,0)]⟩
 refine As ?_
 rcases Dm G with ⟨h32,G⟩ | ⟨h32,G⟩
 refine As ?_
 rcases Dm G with ⟨h33,G⟩ | ⟨h33,G⟩
 refine Bd fun B=>?_
 exact⟨true,G,Ar [(0,0)]⟩
 refine Bd fun B=>?_
 exact⟨decide (8 < (c.Names.length:Int)),G,Ar [(0,0)]⟩
 refine Bd fun B=>?_
 exact⟨decide (8 < (c.Names.length:Int)),G,Ar [(0,0)]⟩
 rintro x91_3 G
 replace G:Ba.j3 c x91_3=some r:=G
 show B3 _ _ _ _ (mk _ _ _)
 unfold Ba.j3 at G
 refine Cp rfl G (fun h37 G=>?_) fun h37 G=>?_
 refine Cc 1 9 Ay ?_
 exact De
 refine C8 ?_
 refine Aj <| Bf 1 9 Ay fun B=>?_
 refine Ap <| Ji (fun (i_4:Int)=>mk [(1,.ptr 0 0),(3,vk i_4)] [(0,.box (Af.dv c) 104)] 1) G (Ar [(0,0)]) ?_
 rintro i_4 m4 o4 G hn4
 replace G:Ba.l4 c i_4=some o4:=G
 show B3 _ _ _ _ (mk _ _ _)
 unfold Ba.l4 at G
 refine Aj <| Bf 1 41 Ay fun B=>?_
 refine Cp rfl G (fun h41 G=>?_) fun h41 G=>?_
 refine C8 ?_
 refine Aj <| Ap <| Bo (ι:=Bool) (fun (x123_5:Bool)=>mk [(1,.ptr 0 0),(3,vk i_4),(123,.val (.bool x123_5))] [(0,.box (Af.dv c) 104)] 1) (fun (x123_5:Bool)=>Ba.j5 i_4 x123_5=some o4) ?_ ?_
 refine Bn (B6 _ _ []) (by kernel_rfl) [0,1,0,7,15,31,63,127,255,511,1023,2047,4095,2047,10239,32767,65535,2047,133119,2047,919551,1968127,4194303,8388607,16777215] 41 241 B rfl rfl (by kernel_rfl) ?_
 refine As ?_
 obtain⟨e,he,G⟩:=Ab G
 refine As ?_
 refine No he ?_
 obtain⟨y_6,hy_6,G⟩:=Ab G
 refine Dh (Jx _ _ hy_6) ?_
 refine As ?_
 rcases Dm G with ⟨h42,G⟩ | ⟨h42,G⟩
 refine Bd fun B=>?_
 exact⟨true,G,Ar [(0,0)]⟩
 refine As ?_
 rcases Dm G with ⟨h44,G⟩ | ⟨h44,G⟩
 refine As ?_
 obtain⟨e_2,he_2,G⟩:=Ab G
 refine As ?_
 refine No he_2 ?_
 refine As ?_
 refine No he ?_
 refine C0 (Eb rfl rfl h44) rfl gY rfl rfl ?_
 refine Bd fun B=>?_
 exact⟨!Kz (Hg e_2) (Hg e),G,Ar [(0,0)]⟩
 refine Bd fun B=>?_
 exact⟨false,G,Ar [(0,0)]⟩
 rintro x123_5 G
 replace G:Ba.j5 i_4 x123_5=some o4:=G
 show B3 _ _ _ _ (mk _ _ _)
 unfold Ba.j5 at G
 refine Cp rfl G (fun h47 G=>?_) fun h47 G=>?_
 refine Bf 1 9 Ay fun B=>?_
 refine E2 ?_
 replace G:=Cd G hn4
 exact Uq
 refine C8 ?_
 refine Ak (B6 _ _ []) 1 25 Ay rfl rfl ?_
 refine Bd fun B=>?_
 obtain rfl:=oi_ G
 exact⟨(W (i_4 + 1),m4),aCz _,hn4,Ar [(0,0)]⟩
 refine Je ?_
 replace G:=Cd G hn4
 refine Aj <| Bo (ι:=Bool) (fun (x145_6:Bool)=>mk [(145,.val (.bool x145_6))] [] 0) (fun (x145_6:Bool)=>Ba.j6 x145_6=some r) ?_ ?_
 refine Ak (B6 _ _ []) 41 217 B rfl rfl ?_
 refine As ?_
 rcases Dm G with ⟨h50,G⟩ | ⟨h50,G⟩
 refine Bd fun B=>?_
 exact⟨true,G,Ar []⟩
 refine As ?_
 rcases Dm G with ⟨h52,G⟩ | ⟨h52,G⟩
 refine Bd fun B=>?_
 exact⟨true,G,Ar []⟩
 refine As ?_
 rcases Dm G with ⟨h54,G⟩ | ⟨h54,G⟩
 refine Bd fun B=>?_
 exact⟨true,G,Ar []⟩
 refine Bd fun B=>?_
 exact⟨decide (4294967296<=c.Seal.Sum),G,Ar []⟩
 rintro x145_6 G
 replace G:Ba.j6 x145_6=some r:=G
 show B3 _ _ _ _ (mk _ _ _)
 unfold Ba.j6 at G
 refine Cp rfl G (fun h57 G=>?_) fun h57 G=>?_
 refine Cc 0 8 Ay ?_
 exact De
 refine C8 ?_
 refine Bf 0 8 Ay fun B=>?_
 exact Lf
theorem R5 (s:ByteArray) (r:Ah) (G:Jv s=some r):Fn Tryz.prog 158 0 [ws s] [] (fun d' b'=>d'=.agg (Ah.dv r)/\b'=[]):=by
 unfold Jv at G
 refine Fn.of Tryz.func158 rfl rfl rfl fun w0 I ρ0=>?_
 show B3 _ ⟨w0,I,ρ0,0,0,6⟩ _ _ _
 refine Bf 0 8 Ay fun B=>?_
 refine Cc 8 40 B ?_
 refine As ?_
 refine C0 rfl rfl (gQ Ti rL Ng) rfl rfl ?_
 refine Lq R3 hO cG ?_
 exact De
theorem Kv (n:Int) (r:Ah) (G:Ct n=some r):Fn Tryz.prog 160 0 [vk n] [] (fun d' b'=>d'=.agg (Ah.dv r)/\b'=[]):=by
 unfold Ct at G
 refine Fn.of Tryz.func160 rfl rfl rfl fun w0 I ρ0=>?_
 show B3 _ ⟨w0,I,ρ0,0,0,45⟩ _ _ _
 refine Bf 0 8 Ay fun B=>?_
 refine Cc 8 40 B ?_
 refine As ?_
 refine C0 rfl rfl (Fp Ni Ng) rfl rfl ?_
 refine I8 Mt z5 lG ([(u8 n)]:List UInt8) e8 ?_
 refine Bd fun B=>?_
 refine Aj <| Cc 40 64 B ?_
 refine As ?_
 obtain⟨q,hq,G⟩:=Ab G
 refine C0 rfl rfl (Oc hq) rfl rfl ?_
 refine Bd fun B=>?_
 refine Ap <| Ji (fun ((x_1,b_1):Int×List UInt8)=>mk [(2,.ptr 0 0),(3,.row 1),(4,vk x_1)] [(0,.box [.val (.int .i64 0),.val (.slice none 0 0),.val (.bool false),.val (.slice none 0 0)] 169),(1,.row 5 1 (Aq e8 b_1))] 2) G (Ar [(0,0),(1,24)]) ?_
 rintro⟨x_1,b_1⟩ m1 o1 G hn1
 replace G:Ct.l1 x_1 b_1=some o1:=G
 show B3 _ _ _ _ (mk _ _ _)
 unfold Ct.l1 at G
 refine Aj <| Bo (ι:=Bool) (fun (x35_2:Bool)=>mk [(2,.ptr 0 0),(3,.row 1),(4,vk x_1),(35,.val (.bool x35_2))] [(0,.box [.val (.int .i64 0),.val (.slice none 0 0),.val (.bool false),.val (.slice none 0 0)] 169),(1,.row 5 1 (Aq e8 b_1))] 2) (fun (x35_2:Bool)=>Ct.j2 x_1 b_1 x35_2=some o1) ?_ ?_
 refine Ak (B6 _ _ []) 2 210 Ay rfl rfl ?_
 refine As ?_
 rcases Dm G with ⟨h4,G⟩ | ⟨h4,G⟩
 refine As ?_
 rcases Dm G with ⟨h5,G⟩ | ⟨h5,G⟩
 refine Bd fun B=>?_
 exact⟨true,G,Ar [(0,0),(1,1)]⟩
 refine As ?_
 rcases Dm G with ⟨h7,G⟩ | ⟨h7,G⟩
 refine As ?_
 obtain⟨e,he,G⟩:=Ab G
 refine As ?_
 refine Fi (rd:=[1]) (Eb rfl rfl h7) rfl (.loadR1 ty5 (Ew Ke (Bq he) (o:=0) (c:=.int .u8 (e.toNat:Int)) rfl rfl)) rfl rfl ?_
 refine As ?_
 rcases Dm G with ⟨h8,G⟩ | ⟨h8,G⟩
 refine Bd fun B=>?_
 exact⟨true,G,Ar [(0,0),(1,1)]⟩
 refine As ?_
 rcases Dm G with ⟨h10,G⟩ | ⟨h10,G⟩
 refine As ?_
 refine Fi (rd:=[1]) (Eb rfl rfl h10) rfl (.loadR1 ty5 (Ew Ke (Bq he) (o:=0) (c:=.int .u8 (e.toNat:Int)) rfl rfl)) rfl rfl ?_
 refine Bd fun B=>?_
 exact⟨decide ((e.toNat:Int) < 128),G,Ar [(0,0),(1,1)]⟩
 refine Bd fun B=>?_
 exact⟨false,G,Ar [(0,0),(1,1)]⟩
 refine As ?_
 rcases Dm G with ⟨h13,G⟩ | ⟨h13,G⟩
 refine As ?_
 obtain⟨e_2,he_2,G⟩:=Ab G
 refine As ?_
 refine Fi (rd:=[1]) (Eb rfl rfl h13) rfl (.loadR1 ty5 (Ew Ke (Bq he_2) (o:=0) (c:=.int .u8 (e_2.toNat:Int)) rfl rfl)) rfl rfl ?_
 refine Bd fun B=>?_
 exact⟨decide ((e_2.toNat:Int) < 128),G,Ar [(0,0),(1,1)]⟩
 refine Bd fun B=>?_
 exact⟨false,G,Ar [(0,0),(1,1)]⟩
 refine As ?_
 rcases Dm G with ⟨h16,G⟩ | ⟨h16,G⟩
 refine As ?_
 obtain⟨e_3,he_3,G⟩:=Ab G
 refine As ?_
 refine Fi (rd:=[1]) (Eb rfl rfl h16) rfl (.loadR1 ty5 (Ew Ke (Bq he_3) (o:=0) (c:=.int .u8 (e_3.toNat:Int)) rfl rfl)) rfl rfl ?_
 refine As ?_
 rcases Dm G with ⟨h17,G⟩ | ⟨h17,G⟩
 refine Bd fun B=>?_
 exact⟨true,G,Ar [(0,0),(1,1)]⟩
 refine As ?_
 rcases Dm G with ⟨h19,G⟩ | ⟨h19,G⟩
 refine As ?_
 refine Fi (rd:=[1]) (Eb rfl rfl h19) rfl (.loadR1 ty5 (Ew Ke (Bq he_3) (o:=0) (c:=.int .u8 (e_3.toNat:Int)) rfl rfl)) rfl rfl ?_
 refine Bd fun B=>?_
 exact⟨decide ((e_3.toNat:Int) < 128),G,Ar [(0,0),(1,1)]⟩
 refine Bd fun B=>?_
 exact⟨false,G,Ar [(0,0),(1,1)]⟩
 refine As ?_
 rcases Dm G with ⟨h22,G⟩ | ⟨h22,G⟩
 refine As ?_
 obtain⟨e_4,he_4,G⟩:=Ab G
 refine As ?_
 refine Fi (rd:=[1]) (Eb rfl rfl h22) rfl (.loadR1 ty5 (Ew Ke (Bq he_4) (o:=0) (c:=.int .u8 (e_4.toNat:Int)) rfl rfl)) rfl rfl ?_
 refine Bd fun B=>?_
 exact⟨decide ((e_4.toNat:Int) < 128),G,Ar [(0,0),(1,1)]⟩
 refine Bd fun B=>?_
 exact⟨false,G,Ar [(0,0),(1,1)]⟩
 rintro x35_2 G
 replace G:Ct.j2 x_1 b_1 x35_2=some o1:=G
 show B3 _ _ _ _ (mk _ _ _)
 unfold Ct.j2 at G
 refine Cp rfl G (fun h25 G=>?_) fun h25 G=>?_
 refine C8 ?_
 refine Aj <| Ap <| Ak (B6 _ _ []) 2 50 Ay rfl rfl ?_
 refine As ?_
 refine C0 rfl rfl (Fp Ni Ng) rfl rfl ?_
 refine I8 Mt z5 lG ([(u8 x_1)]:List UInt8) e8 ?_
 refine As ?_
 obtain⟨l,hl,G⟩:=Ab G
 refine Fi (rd:=[18,1]) rfl rfl (Dk Mt Ke .row rfl .row rfl hl rfl) rfl rfl ?_
 refine Bd fun B=>?_
 refine Ak (B6 _ _ []) 50 74 B rfl rfl ?_
 refine As ?_
 obtain⟨q_2,hq_2,G⟩:=Ab G
 refine C0 rfl rfl (Oc hq_2) rfl rfl ?_
 refine Bd fun B=>?_
 obtain rfl:=oi_ G
 exact⟨((q_2,l),m1),aCz _,hn1,Ar [(0,0),(1,34)]⟩
 refine Je ?_
 replace G:=Cd G hn1
 refine Cc 2 26 Ay ?_
 refine As ?_
 refine Lq R3 hO cG ?_
 exact De
theorem O7.F (rec:(List Ah)->Option ((List Ah))) (hrec:∀ (l:(List Ah)) (r:(List Ah)),rec l=some r->Fn Tryz.prog 167 0 [.sl 4 (Aq Ah.enc l)] [] (fun d' b'=>d'=.sl 4 (Aq Ah.enc r)/\b'=[])) (l:(List Ah)) (r:(List Ah)) (G:C1.F rec l=some r):Fn Tryz.prog 167 0 [.sl 4 (Aq Ah.enc l)] [] (fun d' b'=>d'=.sl 4 (Aq Ah.enc r)/\b'=[]):=by
 unfold C1.F at G
 refine Fn.of Tryz.func167 rfl rfl rfl fun w0 I ρ0=>?_
 show B3 _ ⟨w0,I,ρ0,0,0,30⟩ _ _ _
 refine Bf 0 8 Ay fun B=>?_
 refine Bf 8 16 B fun B=>?_
 refine Aj <| Bf 16 24 B fun B=>?_
 refine Ap <| Ji (fun ((i_1,out_1):Int×List Ah)=>mk [(0,.sl 4 (Aq Ah.enc l)),(3,.row 0),(4,vk i_1)] [(0,.row 169 4 (Aq Ah.enc out_1))] 1) G (Ar []) ?_
 rintro⟨i_1,out_1⟩ m1 o1 G hn1
 replace G:C1.l1 rec l i_1 out_1=some o1:=G
 show B3 _ _ _ _ (mk _ _ _)
 unfold C1.l1 at G
 refine Aj <| Bf 1 33 Ay fun B=>?_
 refine Cp rfl G (fun h5 G=>?_) fun h5 G=>?_
 refine C8 ?_
 refine Aj <| Ap <| Cc 33 81 B ?_
 refine As ?_
 obtain⟨e,he,G⟩:=Ab G
 refine As ?_
 refine C0 rfl rfl (D5 iU (Gd Ah.enc_len (Bq he) (o:=0) (m:=4) (cs:=[.int .i64 e.Tag,.sl 1 (Aq e8 e.Bytes),.bool e.Nested,.sl 4 (Aq Ah.enc e.Elements)]) (by simp only [Ah.enc_eq]; rfl) (by decide) rfl) (Eg Ah.enc_len (Bq he) (o:=0) (m:=4) (by decide) rfl)) rfl rfl ?_
 refine Bd fun B=>?_
 refine Cc 81 129 B ?_
 refine C0 rfl rfl (Fu Mt z5 (by decide) rfl rfl rfl rfl lG (cs:=[]) .nil rfl (l:=([]:List UInt8)) (f:=e8) rfl) rfl rfl ?_
 refine As ?_
 obtain⟨l_2,hl_2,G⟩:=Ab G
 refine Fi (rd:=[81]) rfl rfl (Dk Mt Ke .row rfl .sl rfl hl_2 rfl) rfl rfl ?_
 refine Bd fun B=>?_
 refine Cc 129 169 B ?_
 refine As ?_
 obtain⟨y,hy,G⟩:=Ab G
 refine Dh (hrec _ _ hy) ?_
 refine Bd fun B=>?_
 refine Fw (σ':=mk [(0,.sl 4 (Aq Ah.enc l)),(3,.row 0),(4,vk i_1),(5,.ptr 1 0)] [(0,.row 169 4 (Aq Ah.enc out_1)),(1,.box [vk e.Tag,.sl 1 (Aq e8 l_2),.val (.bool e.Nested),.sl 4 (Aq Ah.enc y)] 169)] 2) (Ar [(0,0),(1,65)]) ?_
 refine Ak (B6 _ _ []) 2 42 Ay rfl rfl ?_
 refine As ?_
 refine C0 rfl rfl (Fu bP cG (by decide) rfl rfl rfl rfl oD (cs:=[.int .i64 e.Tag,.sl 1 (Aq e8 l_2),.bool e.Nested,.sl 4 (Aq Ah.enc y)]) (.cons .int (.cons .sl (.cons .bool (.cons .sl .nil)))) rfl (l:=([(Ah.mk e.Tag l_2 e.Nested y)]:List Ah)) (f:=Ah.enc) (by simp only [Aq,aIl,aJy,Ah.enc_eq]; rfl)) rfl rfl ?_
 obtain⟨l_3,hl_3,G⟩:=Ab G
 refine Fi (rd:=[0,18]) rfl rfl (Dk bP Ah.enc_len .row rfl .row rfl hl_3 rfl) rfl rfl ?_
 refine Bd fun B=>?_
 refine Ak (B6 _ _ []) 42 66 B rfl rfl ?_
 refine Bd fun B=>?_
 obtain rfl:=oi_ G
 exact⟨((W (i_1 + 1),l_3),m1),aCz _,hn1,Ar [(0,26)]⟩
 refine Je ?_
 replace G:=Cd G hn1
 refine Bf 33 49 B fun B=>?_
 exact Lf
theorem O7 (l:(List Ah)) (r:(List Ah)) (G:C1 l=some r):Fn Tryz.prog 167 0 [.sl 4 (Aq Ah.enc l)] [] (fun d' b'=>d'=.sl 4 (Aq Ah.enc r)/\b'=[]):=
 Tr (motive:=fun (x:(List Ah)) (r:(List Ah))=>Fn Tryz.prog 167 0 [.sl 4 (Aq Ah.enc x)] [] (fun d' b'=>d'=.sl 4 (Aq Ah.enc r)/\b'=[])) (fun rec hrec x r h=>O7.F _ (fun l r h=>hrec l r h) x r h) l r G
theorem Sh (l:(List Ah)) (r:Ah) (G:I7 l=some r):Fn Tryz.prog 159 0 [.sl 4 (Aq Ah.enc l)] [] (fun d' b'=>d'=.agg (Ah.dv r)/\b'=[]):=by
 unfold I7 at G
 refine Fn.of Tryz.func159 rfl rfl rfl fun w0 I ρ0=>?_
 show B3 _ ⟨w0,I,ρ0,0,0,6⟩ _ _ _
 refine Bf 0 8 Ay fun B=>?_
 refine Cc 8 40 B ?_
 refine As ?_
 obtain⟨y,hy,G⟩:=Ab G
 refine Dh (O7 _ _ hy) ?_
 refine Lq R3 hO cG ?_
 exact De
theorem Yh (u:Am) (r:Ah) (G:Lk u=some r):Fn Tryz.prog 161 0 [.agg [vk u.Alg,vk u.Bits]] [] (fun d' b'=>d'=.agg (Ah.dv r)/\b'=[]):=by
 unfold Lk at G
 refine Fn.of Tryz.func161 rfl rfl rfl fun w0 I ρ0=>?_
 show B3 _ ⟨w0,I,ρ0,0,0,11⟩ _ _ _
 refine Bf 0 16 Ay fun B=>?_
 refine Aj <| Bn (B6 _ _ [64]) (by kernel_rfl) [0,1,3,0,8,31,63,127,255] 16 88 B rfl rfl (by kernel_rfl) ?_
 refine As ?_
 obtain⟨y,hy,G⟩:=Ab G
 refine Dh (Kv _ _ hy) ?_
 refine As ?_
 obtain⟨y_2,hy_2,G⟩:=Ab G
 refine Dh (Kv _ _ hy_2) ?_
 refine aCr (rd:=[]) rfl rfl (Fu bP cG (by decide) rfl rfl rfl rfl oD (cs:=[.int .i64 y.Tag,.sl 1 (Aq e8 y.Bytes),.bool y.Nested,.sl 4 (Aq Ah.enc y.Elements),.int .i64 y_2.Tag,.sl 1 (Aq e8 y_2.Bytes),.bool y_2.Nested,.sl 4 (Aq Ah.enc y_2.Elements)]) (.cons .int (.cons .sl (.cons .bool (.cons .sl (.cons .int (.cons .sl (.cons .bool (.cons .sl .nil)))))))) rfl (l:=([y,y_2]:List Ah)) (f:=Ah.enc) (by simp only [Aq,aIl,aJy,Ah.enc_eq]; rfl)) rfl rfl rfl ?_
 obtain⟨y_3,hy_3,G⟩:=Ab G
 refine Dh (Sh _ _ hy_3) ?_
 exact De
theorem eN (b:Bool) (r:Ah) (G:N4 b=some r):Fn Tryz.prog 162 0 [.val (.bool b)] [] (fun d' b'=>d'=.agg (Ah.dv r)/\b'=[]):=by
 unfold N4 at G
 refine Fn.of Tryz.func162 rfl rfl rfl fun w0 I ρ0=>?_
 show B3 _ ⟨w0,I,ρ0,0,0,8⟩ _ _ _
 refine Bf 0 8 Ay fun B=>?_
 refine Aj <| Bf 8 16 B fun B=>?_
 refine Cp rfl G (fun h3 G=>?_) fun h3 G=>?_
 refine Cc 16 40 B ?_
 refine I8 Mt z5 lG ([(255:UInt8)]:List UInt8) e8 ?_
 refine Lq R3 hO cG ?_
 exact De
 refine C8 ?_
 refine Cc 16 40 B ?_
 refine I8 Mt z5 lG ([(0:UInt8)]:List UInt8) e8 ?_
 refine Lq R3 hO cG ?_
 exact De
theorem gK (c:Af) (r:Ah) (G:E9 c=some r):Fn Tryz.prog 144 0 [.agg (Af.dv c)] [] (fun d' b'=>d'=.agg (Ah.dv r)/\b'=[]):=by
 unfold E9 at G
 refine Fn.of Tryz.func144 rfl rfl rfl fun w0 I ρ0=>?_
 show B3 _ ⟨w0,I,ρ0,0,0,55⟩ _ _ _
 refine Bf 0 16 Ay fun B=>?_
 refine Bf 16 24 B fun B=>?_
 refine Aj <| Bf 24 32 B fun B=>?_
 refine Ap <| Ji (fun ((i_1,names_1):Int×List Ah)=>mk [(1,.ptr 0 0),(2,.ptr 1 0),(3,.row 2),(4,vk i_1)] [(0,.box (Af.dv c) 104),(1,.box [.val (.int .i64 0),.val (.slice none 0 0),.val (.bool false),.val (.slice none 0 0)] 169),(2,.row 169 4 (Aq Ah.enc names_1))] 3) G (Ar [(0,0),(1,8)]) ?_
 rintro⟨i_1,names_1⟩ m1 o1 G hn1
 replace G:E9.l1 c i_1 names_1=some o1:=G
 show B3 _ _ _ _ (mk _ _ _)
 unfold E9.l1 at G
 refine Aj <| Bf 3 43 Ay fun B=>?_
 refine Cp rfl G (fun h5 G=>?_) fun h5 G=>?_
 refine C8 ?_
 refine Aj <| Ap <| Ak (B6 _ _ []) 43 123 B rfl rfl ?_
 refine As ?_
 obtain⟨e,he,G⟩:=Ab G
 refine As ?_
 refine No he ?_
 obtain⟨y,hy,G⟩:=Ab G
 refine Dh (R5 _ _ hy) ?_
 refine C0 rfl rfl (Fu bP cG (by decide) rfl rfl rfl rfl oD (cs:=[.int .i64 y.Tag,.sl 1 (Aq e8 y.Bytes),.bool y.Nested,.sl 4 (Aq Ah.enc y.Elements)]) (.cons .int (.cons .sl (.cons .bool (.cons .sl .nil)))) rfl (l:=([y]:List Ah)) (f:=Ah.enc) (by simp only [Aq,aIl,aJy,Ah.enc_eq]; rfl)) rfl rfl ?_
 obtain⟨l,hl,G⟩:=Ab G
 refine Fi (rd:=[2,99]) rfl rfl (Dk bP Ah.enc_len .row rfl .row rfl hl rfl) rfl rfl ?_
 refine Bd fun B=>?_
 refine Ak (B6 _ _ []) 123 147 B rfl rfl ?_
 refine Bd fun B=>?_
 obtain rfl:=oi_ G
 exact⟨((W (i_1 + 1),l),m1),aCz _,hn1,Ar [(0,0),(1,1),(2,107)]⟩
 refine Je ?_
 replace G:=Cd G hn1
 refine Aj <| Fw (σ':=mk [(1,.ptr 0 0),(2,.ptr 1 0),(3,.sl 4 (Aq Ah.enc names_1))] [(0,.box (Af.dv c) 104),(1,.box [.val (.int .i64 0),.val (.slice none 0 0),.val (.bool false),.val (.slice none 0 0)] 169)] 2) (Ar [(0,0),(1,1)]) ?_
 refine Bn (B6 _ _ [258]) (by kernel_rfl) [0,1,3,0,8,31,0,64,255,0,512,2047,0,4096,16383,0,32768,131071,0,262144,1048575,0,2097152,8388607,0,16777216,67108863,0,134217728,536870911,0,2147483647,4294967295,8589934591,17179869183] 2 282 Ay rfl rfl (by kernel_rfl) ?_
 refine As ?_
 obtain⟨y_12,hy_12,G⟩:=Ab G
 refine Dh (Kv _ _ hy_12) ?_
 refine As ?_
 obtain⟨y_13,hy_13,G⟩:=Ab G
 refine Dh (R5 _ _ hy_13) ?_
 refine As ?_
 obtain⟨y_14,hy_14,G⟩:=Ab G
 refine Dh (R5 _ _ hy_14) ?_
 refine As ?_
 obtain⟨y_15,hy_15,G⟩:=Ab G
 refine Dh (Yh _ _ hy_15) ?_
 refine As ?_
 obtain⟨y_16,hy_16,G⟩:=Ab G
 refine Dh (Kv _ _ hy_16) ?_
 refine As ?_
 obtain⟨y_17,hy_17,G⟩:=Ab G
 refine Dh (Yh _ _ hy_17) ?_
 refine As ?_
 obtain⟨y_18,hy_18,G⟩:=Ab G
 refine Dh (Kv _ _ hy_18) ?_
 refine As ?_
 obtain⟨y_19,hy_19,G⟩:=Ab G
 refine Dh (Kv _ _ hy_19) ?_
 refine As ?_
 obtain⟨y_20,hy_20,G⟩:=Ab G
 refine Dh (eN _ _ hy_20) ?_
 refine As ?_
 obtain⟨y_21,hy_21,G⟩:=Ab G
 refine Dh (Kv _ _ hy_21) ?_
 refine As ?_
 obtain⟨y_22,hy_22,G⟩:=Ab G
 refine Dh (Sh _ _ hy_22) ?_
 refine aCr (rd:=[]) rfl rfl (Fu bP cG (by decide) rfl rfl rfl rfl oD (cs:=[.int .i64 y_12.Tag,.sl 1 (Aq e8 y_12.Bytes),.bool y_12.Nested,.sl 4 (Aq Ah.enc y_12.Elements),.int .i64 y_13.Tag,.sl 1 (Aq e8 y_13.Bytes),.bool y_13.Nested,.sl 4 (Aq Ah.enc y_13.Elements),.int .i64 y_14.Tag,.sl 1 (Aq e8 y_14.Bytes),.bool y_14.Nested,.sl 4 (Aq Ah.enc y_14.Elements),.int .i64 y_15.Tag,.sl 1 (Aq e8 y_15.Bytes),.bool y_15.Nested,.sl 4 (Aq Ah.enc y_15.Elements),.int .i64 y_16.Tag,.sl 1 (Aq e8 y_16.Bytes),.bool y_16.Nested,.sl 4 (Aq Ah.enc y_16.Elements),.int .i64 y_17.Tag,.sl 1 (Aq e8 y_17.Bytes),.bool y_17.Nested,.sl 4 (Aq Ah.enc y_17.Elements),.int .i64 y_18.Tag,.sl 1 (Aq e8 y_18.Bytes),.bool y_18.Nested,.sl 4 (Aq Ah.enc y_18.Elements),.int .i64 y_19.Tag,.sl 1 (Aq e8 y_19.Bytes),.bool y_19.Nested,.sl 4 (Aq Ah.enc y_19.Elements),.int .i64 y_20.Tag,.sl 1 (Aq e8 y_20.Bytes),.bool y_20.Nested,.sl 4 (Aq Ah.enc y_20.Elements),.int .i64 y_21.Tag,.sl 1 (Aq e8 y_21.Bytes),.bool y_21.Nested,.sl 4 (Aq Ah.enc y_21.Elements),.int .i64 y_22.Tag,.sl 1 (Aq e8 y_22.Bytes),.bool y_22.Nested,.sl 4 (Aq Ah.enc y_22.Elements)]) (.cons .int (.cons .sl (.cons .bool (.cons .sl (.cons .int (.cons .sl (.cons .bool (.cons .sl (.cons .int (.cons .sl (.cons .bool (.cons .sl (.cons .int (.cons .sl (.cons .bool (.cons .sl (.cons .int (.cons .sl (.cons .bool (.cons .sl (.cons .int (.cons .sl (.cons .bool (.cons .sl (.cons .int (.cons .sl (.cons .bool (.cons .sl (.cons .int (.cons .sl (.cons .bool (.cons .sl (.cons .int (.cons .sl (.cons .bool (.cons .sl (.cons .int (.cons .sl (.cons .bool (.cons .sl (.cons .int (.cons .sl (.cons .bool (.cons .sl .nil)))))))))))))))))))))))))))))))))))))))))))) rfl (l:=([y_12,y_13,y_14,y_15,y_16,y_17,y_18,y_19,y_20,y_21,y_22]:List Ah)) (f:=Ah.enc) (by simp only [Aq,aIl,aJy,Ah.enc_eq]; rfl)) rfl rfl rfl ?_
 obtain⟨y_23,hy_23,G⟩:=Ab G
 refine Dh (Sh _ _ hy_23) ?_
 exact De
theorem jM (n:Int) (r:Bool) (G:Nb n=some r):Fn Tryz.prog 165 0 [vk n] [] (fun d' b'=>d'=.val (.bool r)/\b'=[]):=by
 unfold Nb at G
 refine Fn.of Tryz.func165 rfl rfl rfl fun w0 I ρ0=>?_
 show B3 _ ⟨w0,I,ρ0,0,0,14⟩ _ _ _
 refine Bf 0 8 Ay fun B=>?_
 refine Cc 8 104 B ?_
 refine As ?_
 rcases Dm G with ⟨h2,G⟩ | ⟨h2,G⟩
 refine As ?_
 rcases Dm G with ⟨h3,G⟩ | ⟨h3,G⟩
 refine As ?_
 obtain⟨q,hq,G⟩:=Ab G
 refine C0 (Eb rfl rfl h3) rfl (jS hq) rfl rfl ?_
 exact De
 exact De
 exact De
theorem Pd.F (rec:Ah->Option (Bool)) (hrec:∀ (v:Ah) (r:Bool),rec v=some r->Fn Tryz.prog 155 0 [.agg (Ah.dv v)] [] (fun d' b'=>d'=.val (.bool r)/\b'=[])) (v:Ah) (r:Bool) (G:Bt.F rec v=some r):Fn Tryz.prog 155 0 [.agg (Ah.dv v)] [] (fun d' b'=>d'=.val (.bool r)/\b'=[]):=by
 unfold Bt.F at G
 refine Fn.of Tryz.func155 rfl rfl rfl fun w0 I ρ0=>?_
 show B3 _ ⟨w0,I,ρ0,0,0,53⟩ _ _ _
 refine Bf 0 16 Ay fun B=>?_
 refine Aj <| Bo (ι:=Bool) (fun (x38_1:Bool)=>mk [(1,.ptr 0 0),(38,.val (.bool x38_1))] [(0,.box (Ah.dv v) 169)] 1) (fun (x38_1:Bool)=>Bt.j1 rec v x38_1=some r) ?_ ?_
 refine Ak (B6 _ _ []) 16 296 B rfl rfl ?_
 refine As ?_
 obtain⟨y,hy,G⟩:=Ab G
 refine Dh (jM _ _ hy) ?_
 refine As ?_
 rcases Dm G with ⟨h2,G⟩ | ⟨h2,G⟩
 refine Bd fun B=>?_
 exact⟨true,G,Ar [(0,0)]⟩
 refine As ?_
 obtain⟨q,hq,G⟩:=Ab G
 refine C0 (Eb rfl rfl h2) rfl (Tj hq) rfl rfl ?_
 obtain⟨q_2,hq_2,G⟩:=Ab G
 refine C0 (Eb rfl rfl h2) rfl (jS hq_2) rfl rfl ?_
 refine As ?_
 refine C0 (Eb rfl rfl h2) rfl (aD4 aGw) rfl rfl ?_
 refine As ?_
 rcases Dm G with ⟨h4,G⟩ | ⟨h4,G⟩
 refine Bd fun B=>?_
 exact⟨true,G,Ar [(0,0)]⟩
 refine As ?_
 rcases Dm G with ⟨h6,G⟩ | ⟨h6,G⟩
 refine As ?_
 rcases Dm G with ⟨h7,G⟩ | ⟨h7,G⟩
 refine Bd fun B=>?_
 exact⟨true,G,Ar [(0,0)]⟩
 refine Bd fun B=>?_
 exact⟨false,G,Ar [(0,0)]⟩
 refine Bd fun B=>?_
 exact⟨decide (0 < (v.Elements.length:Int)),G,Ar [(0,0)]⟩
 rintro x38_1 G
 replace G:Bt.j1 rec v x38_1=some r:=G
 show B3 _ _ _ _ (mk _ _ _)
 unfold Bt.j1 at G
 refine Cp rfl G (fun h11 G=>?_) fun h11 G=>?_
 refine Cc 1 9 Ay ?_
 exact De
 refine C8 ?_
 refine Aj <| Bf 1 9 Ay fun B=>?_
 refine Ap <| Ji (fun (i_2:Int)=>mk [(1,.ptr 0 0),(3,vk i_2)] [(0,.box (Ah.dv v) 169)] 1) G (Ar [(0,0)]) ?_
 rintro i_2 m2 o2 G hn2
 replace G:Bt.l2 rec v i_2=some o2:=G
 show B3 _ _ _ _ (mk _ _ _)
 unfold Bt.l2 at G
 refine Aj <| Bf 1 41 Ay fun B=>?_
 refine Cp rfl G (fun h15 G=>?_) fun h15 G=>?_
 refine C8 ?_
 refine Aj <| Ap <| Cc 41 97 B ?_
 refine As ?_
 obtain⟨e,he,G⟩:=Ab G
 refine As ?_
 refine C0 rfl rfl (D5 iU (Gd Ah.enc_len (Bq he) (o:=0) (m:=4) (cs:=[.int .i64 e.Tag,.sl 1 (Aq e8 e.Bytes),.bool e.Nested,.sl 4 (Aq Ah.enc e.Elements)]) (by simp only [Ah.enc_eq]; rfl) (by decide) rfl) (Eg Ah.enc_len (Bq he) (o:=0) (m:=4) (by decide) rfl)) rfl rfl ?_
 obtain⟨y_2,hy_2,G⟩:=Ab G
 refine Dh (hrec _ _ hy_2) ?_
 refine Bd fun B=>?_
 refine Cp rfl G (fun h17 G=>?_) fun h17 G=>?_
 refine Bf 97 105 B fun B=>?_
 refine E2 ?_
 replace G:=Cd G hn2
 exact Uq
 refine C8 ?_
 refine Ak (B6 _ _ []) 97 121 B rfl rfl ?_
 refine Bd fun B=>?_
 obtain rfl:=oi_ G
 exact⟨(W (i_2 + 1),m2),aCz _,hn2,Ar [(0,0)]⟩
 refine Je ?_
 replace G:=Cd G hn2
 refine Bf 41 49 B fun B=>?_
 exact Lf
theorem Pd (v:Ah) (r:Bool) (G:Bt v=some r):Fn Tryz.prog 155 0 [.agg (Ah.dv v)] [] (fun d' b'=>d'=.val (.bool r)/\b'=[]):=
 Tr (motive:=fun (x:Ah) (r:Bool)=>Fn Tryz.prog 155 0 [.agg (Ah.dv x)] [] (fun d' b'=>d'=.val (.bool r)/\b'=[])) (fun rec hrec x r h=>Pd.F _ (fun v r h=>hrec v r h) x r h) v r G
theorem Qb.F (rec:Ah->Option (Int)) (hrec:∀ (v:Ah) (r:Int),rec v=some r->Fn Tryz.prog 156 0 [.agg (Ah.dv v)] [] (fun d' b'=>d'=vk r/\b'=[])) (v:Ah) (r:Int) (G:Dd.F rec v=some r):Fn Tryz.prog 156 0 [.agg (Ah.dv v)] [] (fun d' b'=>d'=vk r/\b'=[]):=by
 unfold Dd.F at G
 refine Fn.of Tryz.func156 rfl rfl rfl fun w0 I ρ0=>?_
 show B3 _ ⟨w0,I,ρ0,0,0,22⟩ _ _ _
 refine Bf 0 16 Ay fun B=>?_
 refine Bf 16 24 B fun B=>?_
 refine Aj <| Bf 24 32 B fun B=>?_
 refine Ap <| Ji (fun ((d_1,i_1):Int×Int)=>mk [(1,.ptr 0 0),(3,vk d_1),(4,vk i_1)] [(0,.box (Ah.dv v) 169)] 1) G (Ar [(0,0)]) ?_
 rintro⟨d_1,i_1⟩ m1 o1 G hn1
 replace G:Dd.l1 rec v d_1 i_1=some o1:=G
 show B3 _ _ _ _ (mk _ _ _)
 unfold Dd.l1 at G
 refine Aj <| Bf 1 41 Ay fun B=>?_
 refine Cp rfl G (fun h5 G=>?_) fun h5 G=>?_
 refine C8 ?_
 refine Aj <| Ap <| Ak (B6 _ _ []) 41 113 B rfl rfl ?_
 refine As ?_
 obtain⟨e,he,G⟩:=Ab G
 refine As ?_
 refine C0 rfl rfl (D5 iU (Gd Ah.enc_len (Bq he) (o:=0) (m:=4) (cs:=[.int .i64 e.Tag,.sl 1 (Aq e8 e.Bytes),.bool e.Nested,.sl 4 (Aq Ah.enc e.Elements)]) (by simp only [Ah.enc_eq]; rfl) (by decide) rfl) (Eg Ah.enc_len (Bq he) (o:=0) (m:=4) (by decide) rfl)) rfl rfl ?_
 obtain⟨y,hy,G⟩:=Ab G
 refine Dh (hrec _ _ hy) ?_
 refine C0 rfl rfl aFl rfl rfl ?_
 refine Bd fun B=>?_
 refine Ak (B6 _ _ []) 113 137 B rfl rfl ?_
 refine Bd fun B=>?_
 obtain rfl:=oi_ G
 exact⟨((max d_1 y,W (i_1 + 1)),m1),aCz _,hn1,Ar [(0,0)]⟩
 refine Je ?_
 replace G:=Cd G hn1
 refine Bf 41 65 B fun B=>?_
 exact Lf
theorem Qb (v:Ah) (r:Int) (G:Dd v=some r):Fn Tryz.prog 156 0 [.agg (Ah.dv v)] [] (fun d' b'=>d'=vk r/\b'=[]):=
 Tr (motive:=fun (x:Ah) (r:Int)=>Fn Tryz.prog 156 0 [.agg (Ah.dv x)] [] (fun d' b'=>d'=vk r/\b'=[])) (fun rec hrec x r h=>Qb.F _ (fun v r h=>hrec v r h) x r h) v r G
theorem aR (n:Int) (r:(List UInt8)) (G:Ex n=some r):Fn Tryz.prog 166 0 [vk n] [] (fun d' b'=>d'=.sl 1 (Aq e8 r)/\b'=[]):=by
 unfold Ex at G
 refine Fn.of Tryz.func166 rfl rfl rfl fun w0 I ρ0=>?_
 show B3 _ ⟨w0,I,ρ0,0,0,26⟩ _ _ _
 refine Bf 0 8 Ay fun B=>?_
 refine Aj <| Bf 8 24 B fun B=>?_
 refine Cp rfl G (fun h3 G=>?_) fun h3 G=>?_
 refine Cc 24 56 B ?_
 refine As ?_
 refine C0 rfl rfl (Fp Ni Ng) rfl rfl ?_
 refine I8 Mt z5 lG ([(u8 n)]:List UInt8) e8 ?_
 exact De
 refine C8 ?_
 refine Bf 24 32 B fun B=>?_
 refine Aj <| Ap <| Ji (fun ((n_1,b_1):Int×List UInt8)=>mk [(0,vk n_1),(3,.row 0)] [(0,.row 5 1 (Aq e8 b_1))] 1) G (Ar []) ?_
 rintro⟨n_1,b_1⟩ m1 o1 G hn1
 replace G:Ex.l1 n_1 b_1=some o1:=G
 show B3 _ _ _ _ (mk _ _ _)
 unfold Ex.l1 at G
 refine Aj <| Bf 1 17 Ay fun B=>?_
 refine Cp rfl G (fun h7 G=>?_) fun h7 G=>?_
 refine C8 ?_
 refine Ap <| Cc 17 73 B ?_
 refine As ?_
 obtain⟨q,hq,G⟩:=Ab G
 refine C0 rfl rfl (jS hq) rfl rfl ?_
 refine C0 rfl rfl (Fp Ni Ng) rfl rfl ?_
 refine I8 Mt z5 lG ([(u8 q)]:List UInt8) e8 ?_
 refine As ?_
 obtain⟨l,hl,G⟩:=Ab G
 refine Fi (rd:=[41,0]) rfl rfl (Dk Mt Ke .row rfl .row rfl hl rfl) rfl rfl ?_
 refine Bd fun B=>?_
 refine Ak (B6 _ _ []) 73 97 B rfl rfl ?_
 refine As ?_
 obtain⟨q_2,hq_2,G⟩:=Ab G
 refine C0 rfl rfl (Tj hq_2) rfl rfl ?_
 refine Bd fun B=>?_
 obtain rfl:=oi_ G
 exact⟨((q_2,l),m1),aCz _,hn1,Ar [(0,57)]⟩
 refine Je ?_
 replace G:=Cd G hn1
 refine Cc 17 81 B ?_
 refine As ?_
 refine C0 rfl rfl (Fp Ni Ng) rfl rfl ?_
 refine I8 Mt z5 lG ([(u8 (W (128 + (b_1.length:Int))))]:List UInt8) e8 ?_
 refine As ?_
 obtain⟨l_2,hl_2,G⟩:=Ab G
 refine Fi (rd:=[49,0]) rfl rfl (Dk Mt Ke .row rfl .row rfl hl_2 rfl) rfl rfl ?_
 exact De
end Go.Proofs.YtchpcpaacenodaaGreat
