import Derived.Test.YtchpcpaacenodaaGreatT1
import Derived.Test.YtchpcpaacenodaaGreatA6
set_option linter.unusedVariables false
set_option linter.unusedSimpArgs false
set_option maxRecDepth 100000
set_option maxHeartbeats 1600000
namespace Go.Proofs.YtchpcpaacenodaaGreat
open Go.RowKit
theorem Qd (code:Int) (r:A4×Int) (G:D8 code=some r):Fn Tryz.prog 53 0 [vk code] [] (fun d' b'=>d'=.tup [.agg (A4.dv r.1),vk r.2]/\b'=[]):=by
 unfold D8 at G
 refine Fn.of Tryz.func53 rfl rfl rfl fun w0 I ρ0=>?_
 show B3 _ ⟨w0,I,ρ0,0,0,16⟩ _ _ _
 refine Bf 0 16 Ay fun B=>?_
 refine Aj <| Bo (ι:=Bool) (fun (x9_1:Bool)=>mk [(0,vk code),(2,.ptr 0 0),(9,.val (.bool x9_1))] [(0,.box [.val (.int .i64 0),.val (.string (⟨#[]⟩:ByteArray)),.val (.int .i64 0),.val (.int .i64 0),.val (.int .i64 0),.val (.int .i64 0),.val (.int .i64 0),.val (.int .i64 0),.val (.int .i64 0),.val (.int .i64 0),.val (.int .i64 0),.val (.int .i64 0)] 94)] 1) (fun (x9_1:Bool)=>D8.j1 code x9_1=some r) ?_ ?_
 refine Ak (B6 _ _ []) 16 64 B rfl rfl ?_
 refine As ?_
 rcases Dm G with ⟨h2,G⟩ | ⟨h2,G⟩
 refine Bd fun B=>?_
 exact⟨true,G,Ar [(0,0)]⟩
 refine Bd fun B=>?_
 exact⟨decide (16 < code),G,Ar [(0,0)]⟩
 rintro x9_1 G
 replace G:D8.j1 code x9_1=some r:=G
 show B3 _ _ _ _ (mk _ _ _)
 unfold D8.j1 at G
 refine Cp rfl G (fun h5 G=>?_) fun h5 G=>?_
 refine Cc 1 25 Ay ?_
 refine Lq K2 Rx cB ?_
 exact De
 refine C8 ?_
 refine Cc 1 57 Ay ?_
 obtain⟨y,hy,G⟩:=Ab G
 refine Dh (aC _ hy) ?_
 refine As ?_
 obtain⟨e,he,G⟩:=Ab G
 refine As ?_
 refine gZ he ?_
 exact De
theorem Ys (b:Int) (r:Int) (G:D2 b=some r):Fn Tryz.prog 116 0 [vk b] [] (fun d' b'=>d'=vk r/\b'=[]):=by
 unfold D2 at G
 refine Fn.of Tryz.func116 rfl rfl rfl fun w0 I ρ0=>?_
 show B3 _ ⟨w0,I,ρ0,0,0,25⟩ _ _ _
 refine Bf 0 8 Ay fun B=>?_
 refine Aj <| Ap <| Bo (ι:=Bool) (fun (x3_1:Bool)=>mk [(0,vk b),(3,.val (.bool x3_1))] [] 0) (fun (x3_1:Bool)=>D2.j1 b x3_1=some r) ?_ ?_
 refine Ak (B6 _ _ []) 8 64 B rfl rfl ?_
 refine As ?_
 rcases Dm G with ⟨h2,G⟩ | ⟨h2,G⟩
 refine Bd fun B=>?_
 exact⟨true,G,Ar []⟩
 refine Bd fun B=>?_
 exact⟨decide (16384 < b),G,Ar []⟩
 rintro x3_1 G
 replace G:D2.j1 b x3_1=some r:=G
 show B3 _ _ _ _ (mk _ _ _)
 unfold D2.j1 at G
 refine Cp rfl G (fun h5 G=>?_) fun h5 G=>?_
 refine Cc 0 8 Ay ?_
 exact De
 refine Bf 0 24 Ay fun B=>?_
 refine Cp rfl G (fun h8 G=>?_) fun h8 G=>?_
 refine Cc 24 32 B ?_
 exact De
 refine Bf 24 48 B fun B=>?_
 refine Cp rfl G (fun h11 G=>?_) fun h11 G=>?_
 refine Cc 48 56 B ?_
 exact De
 refine Bf 48 72 B fun B=>?_
 refine Cp rfl G (fun h14 G=>?_) fun h14 G=>?_
 refine Cc 72 80 B ?_
 exact De
 refine Bf 72 96 B fun B=>?_
 refine Cp rfl G (fun h17 G=>?_) fun h17 G=>?_
 refine Cc 96 104 B ?_
 exact De
 refine Bf 96 120 B fun B=>?_
 refine Cp rfl G (fun h20 G=>?_) fun h20 G=>?_
 refine Cc 120 128 B ?_
 exact De
 refine C8 ?_
 refine Bf 120 128 B fun B=>?_
 exact Lf
theorem Kb (b:Int) (sizes:(List Int)) (strengths:(List Int)) (r:Int) (G:B7 b sizes strengths=some r):Fn Tryz.prog 117 0 [vk b,.sl 1 (Aq eI sizes),.sl 1 (Aq eI strengths)] [] (fun d' b'=>d'=vk r/\b'=[]):=by
 unfold B7 at G
 refine Fn.of Tryz.func117 rfl rfl rfl fun w0 I ρ0=>?_
 show B3 _ ⟨w0,I,ρ0,0,0,24⟩ _ _ _
 refine Bf 0 8 Ay fun B=>?_
 refine Aj <| Bf 8 16 B fun B=>?_
 refine Ap <| Ji (fun (i_1:Int)=>mk [(0,vk b),(1,.sl 1 (Aq eI sizes)),(2,.sl 1 (Aq eI strengths)),(7,vk i_1)] [] 0) G (Ar []) ?_
 rintro i_1 m1 o1 G hn1
 replace G:B7.l1 b sizes strengths i_1=some o1:=G
 show B3 _ _ _ _ (mk _ _ _)
 unfold B7.l1 at G
 refine Aj <| Bf 0 32 Ay fun B=>?_
 refine Cp rfl G (fun h4 G=>?_) fun h4 G=>?_
 refine C8 ?_
 refine Aj <| Ap <| Cc 32 80 B ?_
 refine As ?_
 obtain⟨e,he,G⟩:=Ab G
 refine As ?_
 refine No he ?_
 refine Bd fun B=>?_
 refine Cp rfl G (fun h6 G=>?_) fun h6 G=>?_
 refine Cc 80 120 B ?_
 refine As ?_
 obtain⟨e_2,he_2,G⟩:=Ab G
 refine As ?_
 refine No he_2 ?_
 refine Bd fun B=>?_
 refine E2 ?_
 replace G:=Cd G hn1
 exact Uq
 refine C8 ?_
 refine Ak (B6 _ _ []) 80 104 B rfl rfl ?_
 refine Bd fun B=>?_
 obtain rfl:=oi_ G
 exact⟨(W (i_1 + 1),m1),aCz _,hn1,Ar []⟩
 refine Je ?_
 replace G:=Cd G hn1
 refine Bf 32 40 B fun B=>?_
 exact Lf
theorem aE (alg:Int) (r:Int) (G:Ds alg=some r):Fn Tryz.prog 118 0 [vk alg] [] (fun d' b'=>d'=vk r/\b'=[]):=by
 unfold Ds at G
 refine Fn.of Tryz.func118 rfl rfl rfl fun w0 I ρ0=>?_
 show B3 _ ⟨w0,I,ρ0,0,0,21⟩ _ _ _
 refine Bf 0 8 Ay fun B=>?_
 refine Aj <| Bf 8 16 B fun B=>?_
 refine Ap <| Bf 16 32 B fun B=>?_
 refine Cp rfl G (fun h4 G=>?_) fun h4 G=>?_
 refine Cc 32 40 B ?_
 exact De
 refine Bf 32 48 B fun B=>?_
 refine Cp rfl G (fun h7 G=>?_) fun h7 G=>?_
 refine Cc 48 56 B ?_
 exact De
 refine Bo (ι:=Bool) (fun (x8_1:Bool)=>mk [(3,vk alg),(8,.val (.bool x8_1))] [] 0) (fun (x8_1:Bool)=>Ds.j1 alg x8_1=some r) ?_ ?_
 refine Bf 48 64 B fun B=>?_
 refine Cp rfl G (fun h10 G=>?_) fun h10 G=>?_
 refine C8 ?_
 exact⟨decide (alg=3),G,Ar []⟩
 refine Bf 64 80 B fun B=>?_
 refine Cp rfl G (fun h12 G=>?_) fun h12 G=>?_
 refine C8 ?_
 exact⟨decide (alg=8),G,Ar []⟩
 refine Ak (B6 _ _ []) 80 96 B rfl rfl ?_
 refine Bd fun B=>?_
 exact⟨decide (alg=21),G,Ar []⟩
 rintro x8_1 G
 replace G:Ds.j1 alg x8_1=some r:=G
 show B3 _ _ _ _ (mk _ _ _)
 unfold Ds.j1 at G
 refine Cp rfl G (fun h14 G=>?_) fun h14 G=>?_
 refine Cc 0 8 Ay ?_
 exact De
 refine Bf 0 16 Ay fun B=>?_
 refine Cp rfl G (fun h17 G=>?_) fun h17 G=>?_
 refine Cc 16 24 B ?_
 exact De
 refine Bo (ι:=Bool) (fun (x14_2:Bool)=>mk [(3,vk alg),(14,.val (.bool x14_2))] [] 0) (fun (x14_2:Bool)=>Ds.j2 alg x14_2=some r) ?_ ?_
 refine Bf 16 32 B fun B=>?_
 refine Cp rfl G (fun h20 G=>?_) fun h20 G=>?_
 refine C8 ?_
 exact⟨decide (alg=18),G,Ar []⟩
 refine Ak (B6 _ _ []) 32 48 B rfl rfl ?_
 refine Bd fun B=>?_
 exact⟨decide (alg=22),G,Ar []⟩
 rintro x14_2 G
 replace G:Ds.j2 alg x14_2=some r:=G
 show B3 _ _ _ _ (mk _ _ _)
 unfold Ds.j2 at G
 refine Cp rfl G (fun h22 G=>?_) fun h22 G=>?_
 refine Cc 0 8 Ay ?_
 exact De
 refine Bf 0 16 Ay fun B=>?_
 refine Cp rfl G (fun h25 G=>?_) fun h25 G=>?_
 refine Cc 16 24 B ?_
 exact De
 refine Bf 16 32 B fun B=>?_
 refine Cp rfl G (fun h28 G=>?_) fun h28 G=>?_
 refine Cc 32 40 B ?_
 exact De
 refine C8 ?_
 refine Bf 32 40 B fun B=>?_
 exact Lf
theorem Q7 (u:Am) (r:Int) (G:Aw u=some r):Fn Tryz.prog 78 0 [.agg [vk u.Alg,vk u.Bits]] [] (fun d' b'=>d'=vk r/\b'=[]):=by
 unfold Aw at G
 refine Fn.of Tryz.func78 rfl rfl rfl fun w0 I ρ0=>?_
 show B3 _ ⟨w0,I,ρ0,0,0,76⟩ _ _ _
 refine Bf 0 16 Ay fun B=>?_
 refine Bf 16 40 B fun B=>?_
 refine Aj <| Bf 40 56 B fun B=>?_
 refine Ap <| Bo (ι:=Bool) (fun (x8_1:Bool)=>mk [(1,.ptr 0 0),(3,vk u.Bits),(7,vk u.Alg),(8,.val (.bool x8_1))] [(0,.box [vk u.Alg,vk u.Bits] 28)] 1) (fun (x8_1:Bool)=>Aw.j1 u x8_1=some r) ?_ ?_
 refine Bf 56 72 B fun B=>?_
 refine Cp rfl G (fun h5 G=>?_) fun h5 G=>?_
 refine C8 ?_
 exact⟨decide (u.Alg=5),G,Ar [(0,0)]⟩
 refine Bf 72 88 B fun B=>?_
 refine Cp rfl G (fun h7 G=>?_) fun h7 G=>?_
 refine C8 ?_
 exact⟨decide (u.Alg=6),G,Ar [(0,0)]⟩
 refine Bf 88 104 B fun B=>?_
 refine Cp rfl G (fun h9 G=>?_) fun h9 G=>?_
 refine C8 ?_
 exact⟨decide (u.Alg=10),G,Ar [(0,0)]⟩
 refine Ak (B6 _ _ []) 104 120 B rfl rfl ?_
 refine Bd fun B=>?_
 exact⟨decide (u.Alg=11),G,Ar [(0,0)]⟩
 rintro x8_1 G
 replace G:Aw.j1 u x8_1=some r:=G
 show B3 _ _ _ _ (mk _ _ _)
 unfold Aw.j1 at G
 refine Cp rfl G (fun h11 G=>?_) fun h11 G=>?_
 refine Cc 1 25 Ay ?_
 refine As ?_
 obtain⟨y,hy,G⟩:=Ab G
 refine Dh (Ys _ _ hy) ?_
 exact De
 refine Bo (ι:=Bool) (fun (x15_2:Bool)=>mk [(1,.ptr 0 0),(3,vk u.Bits),(7,vk u.Alg),(15,.val (.bool x15_2))] [(0,.box [vk u.Alg,vk u.Bits] 28)] 1) (fun (x15_2:Bool)=>Aw.j2 u x15_2=some r) ?_ ?_
 refine Bf 1 17 Ay fun B=>?_
 refine Cp rfl G (fun h14 G=>?_) fun h14 G=>?_
 refine C8 ?_
 exact⟨decide (u.Alg=7),G,Ar [(0,0)]⟩
 refine Ak (B6 _ _ []) 17 33 B rfl rfl ?_
 refine Bd fun B=>?_
 exact⟨decide (u.Alg=12),G,Ar [(0,0)]⟩
 rintro x15_2 G
 replace G:Aw.j2 u x15_2=some r:=G
 show B3 _ _ _ _ (mk _ _ _)
 unfold Aw.j2 at G
 refine Cp rfl G (fun h16 G=>?_) fun h16 G=>?_
 refine Aj <| Bo (ι:=Bool) (fun (x35_3:Bool)=>mk [(3,vk u.Bits),(35,.val (.bool x35_3))] [] 0) (fun (x35_3:Bool)=>Aw.j3 u x35_3=some r) ?_ ?_
 refine Ak (B6 _ _ []) 1 145 Ay rfl rfl ?_
 refine As ?_
 rcases Dm G with ⟨h17,G⟩ | ⟨h17,G⟩
 refine Bd fun B=>?_
 exact⟨true,G,Ar []⟩
 refine As ?_
 rcases Dm G with ⟨h19,G⟩ | ⟨h19,G⟩
 refine Bd fun B=>?_
 exact⟨true,G,Ar []⟩
 refine As ?_
 rcases Dm G with ⟨h21,G⟩ | ⟨h21,G⟩
 refine Bd fun B=>?_
 exact⟨true,G,Ar []⟩
 refine As ?_
 rcases Dm G with ⟨h23,G⟩ | ⟨h23,G⟩
 refine Bd fun B=>?_
 exact⟨true,G,Ar []⟩
 refine Bd fun B=>?_
 exact⟨decide (u.Bits=521),G,Ar []⟩
 rintro x35_3 G
 replace G:Aw.j3 u x35_3=some r:=G
 show B3 _ _ _ _ (mk _ _ _)
 unfold Aw.j3 at G
 refine Cp rfl G (fun h26 G=>?_) fun h26 G=>?_
 refine Cc 0 24 Ay ?_
 refine As ?_
 obtain⟨q,hq,G⟩:=Ab G
 refine C0 rfl rfl (Tj hq) rfl rfl ?_
 exact De
 refine C8 ?_
 refine Bf 0 8 Ay fun B=>?_
 exact Lf
 refine Bf 1 17 Ay fun B=>?_
 refine Cp rfl G (fun h30 G=>?_) fun h30 G=>?_
 refine Cc 17 57 B ?_
 refine As ?_
 refine I8 Ee z3 I1 ([44,65,87]:List Int) eI ?_
 refine I8 Ee z3 I1 ([128,192,256]:List Int) eI ?_
 obtain⟨y_2,hy_2,G⟩:=Ab G
 refine F9 [25,33] [] [] true (Kb _ _ _ _ hy_2) ?_
 exact De
 refine Bf 17 33 B fun B=>?_
 refine Cp rfl G (fun h33 G=>?_) fun h33 G=>?_
 refine Cc 33 73 B ?_
 refine As ?_
 refine I8 Ee z3 I1 ([512,768,1024]:List Int) eI ?_
 refine I8 Ee z3 I1 ([128,192,256]:List Int) eI ?_
 obtain⟨y_3,hy_3,G⟩:=Ab G
 refine F9 [41,49] [] [] true (Kb _ _ _ _ hy_3) ?_
 exact De
 refine Bf 33 49 B fun B=>?_
 refine Cp rfl G (fun h36 G=>?_) fun h36 G=>?_
 refine Cc 49 89 B ?_
 refine As ?_
 refine I8 Ee z3 I1 ([40,128]:List Int) eI ?_
 refine I8 Ee z3 I1 ([40,60]:List Int) eI ?_
 obtain⟨y_4,hy_4,G⟩:=Ab G
 refine F9 [57,65] [] [] true (Kb _ _ _ _ hy_4) ?_
 exact De
 refine Bf 49 65 B fun B=>?_
 refine Cp rfl G (fun h39 G=>?_) fun h39 G=>?_
 refine Cc 65 105 B ?_
 refine As ?_
 refine I8 Ee z3 I1 ([112,168]:List Int) eI ?_
 refine I8 Ee z3 I1 ([80,112]:List Int) eI ?_
 obtain⟨y_5,hy_5,G⟩:=Ab G
 refine F9 [73,81] [] [] true (Kb _ _ _ _ hy_5) ?_
 exact De
 refine Bo (ι:=Bool) (fun (x62_4:Bool)=>mk [(1,.ptr 0 0),(3,vk u.Bits),(62,.val (.bool x62_4))] [(0,.box [vk u.Alg,vk u.Bits] 28)] 1) (fun (x62_4:Bool)=>Aw.j4 u x62_4=some r) ?_ ?_
 refine Bf 65 81 B fun B=>?_
 refine Cp rfl G (fun h42 G=>?_) fun h42 G=>?_
 refine C8 ?_
 exact⟨decide (u.Alg=16),G,Ar [(0,0)]⟩
 refine Ak (B6 _ _ []) 81 97 B rfl rfl ?_
 refine Bd fun B=>?_
 exact⟨decide (u.Alg=17),G,Ar [(0,0)]⟩
 rintro x62_4 G
 replace G:Aw.j4 u x62_4=some r:=G
 show B3 _ _ _ _ (mk _ _ _)
 unfold Aw.j4 at G
 refine Cp rfl G (fun h44 G=>?_) fun h44 G=>?_
 refine Cc 1 41 Ay ?_
 refine As ?_
 refine I8 Ee z3 I1 ([128,256]:List Int) eI ?_
 refine I8 Ee z3 I1 ([128,256]:List Int) eI ?_
 obtain⟨y_6,hy_6,G⟩:=Ab G
 refine F9 [9,17] [] [] true (Kb _ _ _ _ hy_6) ?_
 exact De
 refine C8 ?_
 refine Cc 1 65 Ay ?_
 refine As ?_
 refine I8 Ee z3 I1 ([0]:List Int) eI ?_
 refine As ?_
 obtain⟨y_7,hy_7,G⟩:=Ab G
 refine Dh (aE _ _ hy_7) ?_
 refine I8 Ee z3 I1 ([y_7]:List Int) eI ?_
 obtain⟨y_8,hy_8,G⟩:=Ab G
 refine F9 [9,41] [] [] true (Kb _ _ _ _ hy_8) ?_
 exact De
theorem Qs (code:Int) (r:Int) (G:If code=some r):Fn Tryz.prog 57 0 [vk code] [] (fun d' b'=>d'=vk r/\b'=[]):=by
 unfold If at G
 refine Fn.of Tryz.func57 rfl rfl rfl fun w0 I ρ0=>?_
 show B3 _ ⟨w0,I,ρ0,0,0,15⟩ _ _ _
 refine Bf 0 8 Ay fun B=>?_
 refine Cc 8 72 B ?_
 refine As ?_
 obtain⟨y,hy,G⟩:=Ab G
 refine Dh (Qd _ _ hy) ?_
 refine Bd fun B=>?_
 refine Aj <| Bf 72 88 B fun B=>?_
 refine Cp rfl G (fun h4 G=>?_) fun h4 G=>?_
 refine Cc 88 96 B ?_
 exact De
 refine C8 ?_
 refine Cc 88 120 B ?_
 refine As ?_
 obtain⟨y_2,hy_2,G⟩:=Ab G
 refine Dh (Q7 _ _ hy_2) ?_
 exact De
theorem fA (l:(List Int)) (r:(List Int)) (G:Dl l=some r):Fn Tryz.prog 34 0 [.sl 1 (Aq eI l)] [] (fun d' b'=>d'=.sl 1 (Aq eI r)/\b'=[]):=by
 unfold Dl at G
 refine Fn.of Tryz.func34 rfl rfl rfl fun w0 I ρ0=>?_
 show B3 _ ⟨w0,I,ρ0,0,0,48⟩ _ _ _
 refine Bf 0 8 Ay fun B=>?_
 refine Bf 8 16 B fun B=>?_
 refine Aj <| Bf 16 24 B fun B=>?_
 refine Ap <| Ji (fun ((i_1,out_1):Int×List Int)=>mk [(0,.sl 1 (Aq eI l)),(3,.row 0),(4,vk i_1)] [(0,.row 3 1 (Aq eI out_1))] 1) G (Ar []) ?_
 rintro⟨i_1,out_1⟩ m1 o1 G hn1
 replace G:Dl.l1 l i_1 out_1=some o1:=G
 show B3 _ _ _ _ (mk _ _ _)
 unfold Dl.l1 at G
 refine Aj <| Bf 1 33 Ay fun B=>?_
 refine Cp rfl G (fun h5 G=>?_) fun h5 G=>?_
 refine C8 ?_
 refine Aj <| Ap <| Bf 33 57 B fun B=>?_
 refine Aj <| Ap <| Ji (fun (k_2:Int)=>mk [(0,.sl 1 (Aq eI l)),(3,.row 0),(4,vk i_1),(5,vk k_2)] [(0,.row 3 1 (Aq eI out_1))] 1) G (Ar [(0,0)]) ?_
 rintro k_2 m2 o2 G hn2
 replace G:Dl.l2 l i_1 out_1 k_2=some o2:=G
 show B3 _ _ _ _ (mk _ _ _)
 unfold Dl.l2 at G
 refine Aj <| Bo (ι:=Bool) (fun (x29_3:Bool)=>mk [(0,.sl 1 (Aq eI l)),(3,.row 0),(4,vk i_1),(5,vk k_2),(29,.val (.bool x29_3))] [(0,.row 3 1 (Aq eI out_1))] 1) (fun (x29_3:Bool)=>Dl.j3 l i_1 out_1 k_2 x29_3=some o2) ?_ ?_
 refine Bn (B6 _ _ []) (by kernel_rfl) [0,1,3,7,7,23,63,127,255,7,7,1543,3591,8191,16383,32767] 1 129 Ay rfl rfl (by kernel_rfl) ?_
 refine As ?_
 rcases Dm G with ⟨h7,G⟩ | ⟨h7,G⟩
 refine As ?_
 obtain⟨e,he,G⟩:=Ab G
 refine As ?_
 refine Fi (rd:=[0]) (Eb rfl rfl h7) rfl (.loadR1 Yl (Ew Jo (Bq he) (o:=0) (c:=.int .i64 e) rfl rfl)) rfl rfl ?_
 obtain⟨y,hy,G⟩:=Ab G
 refine Dh (Qs _ _ hy) ?_
 refine As ?_
 obtain⟨e_2,he_2,G⟩:=Ab G
 refine As ?_
 refine No he_2 ?_
 obtain⟨y_2,hy_2,G⟩:=Ab G
 refine Dh (Qs _ _ hy_2) ?_
 refine Bd fun B=>?_
 exact⟨decide (y < y_2),G,Ar [(0,0)]⟩
 refine Bd fun B=>?_
 exact⟨false,G,Ar [(0,0)]⟩
 rintro x29_3 G
 replace G:Dl.j3 l i_1 out_1 k_2 x29_3=some o2:=G
 show B3 _ _ _ _ (mk _ _ _)
 unfold Dl.j3 at G
 refine Cp rfl G (fun h10 G=>?_) fun h10 G=>?_
 refine C8 ?_
 refine Ap <| Ak (B6 _ _ []) 1 25 Ay rfl rfl ?_
 refine Bd fun B=>?_
 obtain rfl:=oi_ G
 exact⟨(W (k_2 - 1),m2),aCz _,hn2,Ar [(0,0)]⟩
 refine Je ?_
 replace G:=Cd G hn2
 refine Bn (B6 _ _ []) (by kernel_rfl) [0,0,0,6,15,0,0,96,224,480,1023,0,0,6144,16383,32767] 1 129 Ay rfl rfl (by kernel_rfl) ?_
 refine C0 rfl rfl (Fu Ee z3 (by decide) rfl rfl rfl rfl I1 (cs:=[]) .nil rfl (l:=([]:List Int)) (f:=eI) rfl) rfl rfl ?_
 refine As ?_
 obtain⟨l_2,hl_2,G⟩:=Ab G
 refine Fi (rd:=[0]) rfl rfl (Xk Ee Jo hl_2) rfl rfl ?_
 obtain⟨l_3,hl_3,G⟩:=Ab G
 refine Fi (rd:=[1,0]) rfl rfl (Dk Ee Jo .row rfl (.part (Zn Jo (Ry hl_2))) (V2 Jo _ _ _ (Ry hl_2)) hl_3 rfl) rfl rfl ?_
 refine As ?_
 obtain⟨e_3,he_3,G⟩:=Ab G
 refine As ?_
 refine No he_3 ?_
 refine I8 Ee z3 I1 ([e_3]:List Int) eI ?_
 obtain⟨l_4,hl_4,G⟩:=Ab G
 refine Fi (rd:=[33,73]) rfl rfl (Dk Ee Jo .row rfl .row rfl hl_4 rfl) rfl rfl ?_
 refine As ?_
 obtain⟨l_5,hl_5,G⟩:=Ab G
 refine Fi (rd:=[0]) rfl rfl (Us Ee Jo hl_5) rfl rfl ?_
 obtain⟨l_6,hl_6,G⟩:=Ab G
 refine Fi (rd:=[81,0]) rfl rfl (Dk Ee Jo .row rfl (.part (Zn Jo (Ry hl_5))) (V2 Jo _ _ _ (Ry hl_5)) hl_6 rfl) rfl rfl ?_
 refine Bd fun B=>?_
 refine Ak (B6 _ _ []) 129 153 B rfl rfl ?_
 refine Bd fun B=>?_
 obtain rfl:=oi_ G
 exact⟨((W (i_1 + 1),l_6),m1),aCz _,hn1,Ar [(0,113)]⟩
 refine Je ?_
 replace G:=Cd G hn1
 refine Bf 33 49 B fun B=>?_
 exact Lf
theorem Vh (d:Ac) (r:(List Int)×Ac) (G:Dx d=some r):Fn Tryz.prog 13 1 [.ptr 0 0] [.box [.sl 1 (Aq eI d.L),vk d.At] 62] (fun d' b'=>d'=.sl 1 (Aq eI r.1)/\b'=[.box [.sl 1 (Aq eI r.2.L),vk r.2.At] 62]):=by
 unfold Dx at G
 refine Fn.of Tryz.func13 rfl rfl rfl fun w0 I ρ0=>?_
 show B3 _ ⟨w0,I,ρ0,1,1,29⟩ _ _ _
 refine Bf 1 9 Ay fun B=>?_
 refine Bf 9 17 B fun B=>?_
 refine Aj <| Cc 17 49 B ?_
 refine As ?_
 obtain⟨y,hy,G⟩:=Ab G
 refine F9 [0] [0] [] false (B5 _ _ _ hy) ?_
 refine Bd fun B=>?_
 refine Ap <| Ji (fun ((i_1,d_1,l_1):Int×Ac×List Int)=>mk [(0,.ptr 0 0),(3,.row 1),(4,vk i_1)] [(0,.box [.sl 1 (Aq eI d_1.L),vk d_1.At] 62),(1,.row 3 1 (Aq eI l_1))] 2) G (Ar [(0,0)]) ?_
 rintro⟨i_1,d_1,l_1⟩ m1 o1 G hn1
 replace G:Dx.l1 i_1 d_1 l_1=some o1:=G
 show B3 _ _ _ _ (mk _ _ _)
 unfold Dx.l1 at G
 refine Aj <| Bf 2 18 Ay fun B=>?_
 refine Cp rfl G (fun h5 G=>?_) fun h5 G=>?_
 refine C8 ?_
 refine Bo (ι:=Ac×List Int) (fun ((d_2,l_2):Ac×List Int)=>mk [(0,.ptr 0 0),(3,.row 1),(4,vk i_1)] [(0,.box [.sl 1 (Aq eI d_2.L),vk d_2.At] 62),(1,.row 3 1 (Aq eI l_2))] 2) (fun ((d_2,l_2):Ac×List Int)=>Dx.j2 i_1 d_2 l_2=some o1) ?_ ?_
 refine Ap <| Cc 18 50 B ?_
 refine As ?_
 obtain⟨y_2,hy_2,G⟩:=Ab G
 refine F9 [0] [0] [] false (B5 _ _ _ hy_2) ?_
 refine Bd fun B=>?_
 refine Cc 50 82 B ?_
 refine As ?_
 obtain⟨y_3,hy_3,G⟩:=Ab G
 refine F9 [1] [] [] true (Tf _ _ _ hy_3) ?_
 refine Bd fun B=>?_
 refine Cp rfl G (fun h8 G=>?_) fun h8 G=>?_
 refine Ak (B6 _ _ []) 82 122 B rfl rfl ?_
 refine As ?_
 refine I8 Ee z3 I1 ([W (1 + y_2.1)]:List Int) eI ?_
 obtain⟨l,hl,G⟩:=Ab G
 refine Fi (rd:=[1,98]) rfl rfl (Dk Ee Jo .row rfl .row rfl hl rfl) rfl rfl ?_
 refine Bd fun B=>?_
 exact⟨(y_2.2,l),G,Ar [(0,0),(1,106)]⟩
 refine C8 ?_
 exact⟨(y_2.2,l_1),G,Ar [(0,0),(1,1)]⟩
 rintro⟨d_2,l_2⟩ G
 replace G:Dx.j2 i_1 d_2 l_2=some o1:=G
 show B3 _ _ _ _ (mk _ _ _)
 unfold Dx.j2 at G
 refine Ak (B6 _ _ []) 2 26 Ay rfl rfl ?_
 refine Bd fun B=>?_
 obtain rfl:=oi_ G
 exact⟨((W (i_1 - 1),d_2,l_2),m1),aCz _,hn1,Ar [(0,0),(1,1)]⟩
 refine Je ?_
 replace G:=Cd G hn1
 refine Aj <| Cc 18 34 B ?_
 refine As ?_
 obtain⟨y_4,hy_4,G⟩:=Ab G
 refine F9 [0] [0] [] false (Ht _ _ _ hy_4) ?_
 refine Gh fun B=>?_
 refine Cp rfl G (fun h12 G=>?_) fun h12 G=>?_
 refine Fw (σ':=mk [(3,.sl 1 (Aq eI l_1))] [(0,.box [.sl 1 (Aq eI y_4.2.L),vk y_4.2.At] 62)] 1) (Ar [(0,0)]) ?_
 refine Ak (B6 _ _ []) 1 25 Ay rfl rfl ?_
 refine As ?_
 obtain⟨y_5,hy_5,G⟩:=Ab G
 refine Dh (fA _ _ hy_5) ?_
 refine Bd fun B=>?_
 refine Bf 25 41 B fun B=>?_
 refine E2 ?_
 obtain rfl:=oi_ G
 exact Gg [(0,0)] ⟨rfl,rfl⟩
 refine C8 ?_
 refine Bf 34 50 B fun B=>?_
 refine E2 ?_
 obtain rfl:=oi_ G
 exact Gg [(0,0)] ⟨rfl,rfl⟩
theorem T3 (d:Ac) (a:Int) (r:Int×Ac) (G:Cn d a=some r):Fn Tryz.prog 29 1 [.ptr 0 0,vk a] [.box [.sl 1 (Aq eI d.L),vk d.At] 62] (fun d' b'=>d'=vk r.1/\b'=[.box [.sl 1 (Aq eI r.2.L),vk r.2.At] 62]):=by
 unfold Cn at G
 refine Fn.of Tryz.func29 rfl rfl rfl fun w0 I ρ0=>?_
 show B3 _ ⟨w0,I,ρ0,1,1,46⟩ _ _ _
 refine Bf 1 9 Ay fun B=>?_
 refine Aj <| Bf 9 17 B fun B=>?_
 refine Ap <| Bo (ι:=Bool) (fun (x6_1:Bool)=>mk [(0,.ptr 0 0),(5,vk a),(6,.val (.bool x6_1))] [(0,.box [.sl 1 (Aq eI d.L),vk d.At] 62)] 1) (fun (x6_1:Bool)=>Cn.j1 d a x6_1=some r) ?_ ?_
 refine Bf 17 33 B fun B=>?_
 refine Cp rfl G (fun h4 G=>?_) fun h4 G=>?_
 refine C8 ?_
 exact⟨decide (a=5),G,Ar [(0,0)]⟩
 refine Bf 33 49 B fun B=>?_
 refine Cp rfl G (fun h6 G=>?_) fun h6 G=>?_
 refine C8 ?_
 exact⟨decide (a=6),G,Ar [(0,0)]⟩
 refine Bf 49 65 B fun B=>?_
 refine Cp rfl G (fun h8 G=>?_) fun h8 G=>?_
 refine C8 ?_
 exact⟨decide (a=10),G,Ar [(0,0)]⟩
 refine Ak (B6 _ _ []) 65 81 B rfl rfl ?_
 refine Bd fun B=>?_
 exact⟨decide (a=11),G,Ar [(0,0)]⟩
 rintro x6_1 G
 replace G:Cn.j1 d a x6_1=some r:=G
 show B3 _ _ _ _ (mk _ _ _)
 unfold Cn.j1 at G
 refine Cp rfl G (fun h10 G=>?_) fun h10 G=>?_
 refine Aj <| Ak (B6 _ _ [9]) 1 33 Ay rfl rfl ?_
 refine As ?_
 refine Ou Ee z3 I1 ([2048,1024,512,3072,1023,4096,16384]:List Int) eI ?_
 obtain⟨y,hy,G⟩:=Ab G
 refine F9 [0] [0] [] false (B4 _ _ _ hy) ?_
 refine Bd fun B=>?_
 refine E2 ?_
 obtain rfl:=oi_ G
 exact Gg [(0,0)] ⟨rfl,rfl⟩
 refine Bo (ι:=Bool) (fun (x14_2:Bool)=>mk [(0,.ptr 0 0),(5,vk a),(14,.val (.bool x14_2))] [(0,.box [.sl 1 (Aq eI d.L),vk d.At] 62)] 1) (fun (x14_2:Bool)=>Cn.j2 d a x14_2=some r) ?_ ?_
 refine Bf 1 17 Ay fun B=>?_
 refine Cp rfl G (fun h13 G=>?_) fun h13 G=>?_
 refine C8 ?_
 exact⟨decide (a=7),G,Ar [(0,0)]⟩
 refine Ak (B6 _ _ []) 17 33 B rfl rfl ?_
 refine Bd fun B=>?_
 exact⟨decide (a=12),G,Ar [(0,0)]⟩
 rintro x14_2 G
 replace G:Cn.j2 d a x14_2=some r:=G
 show B3 _ _ _ _ (mk _ _ _)
 unfold Cn.j2 at G
 refine Cp rfl G (fun h15 G=>?_) fun h15 G=>?_
 refine Aj <| Ak (B6 _ _ [9]) 1 33 Ay rfl rfl ?_
 refine As ?_
 refine Ou Ee z3 I1 ([256,160,224,384,521]:List Int) eI ?_
 obtain⟨y_2,hy_2,G⟩:=Ab G
 refine F9 [0] [0] [] false (B4 _ _ _ hy_2) ?_
 refine Bd fun B=>?_
 refine E2 ?_
 obtain rfl:=oi_ G
 exact Gg [(0,0)] ⟨rfl,rfl⟩
 refine Bf 1 17 Ay fun B=>?_
 refine Cp rfl G (fun h18 G=>?_) fun h18 G=>?_
 refine Aj <| Ak (B6 _ _ [25]) 17 49 B rfl rfl ?_
 refine As ?_
 refine Ou Ee z3 I1 ([65,44,87]:List Int) eI ?_
 obtain⟨y_3,hy_3,G⟩:=Ab G
 refine F9 [0] [0] [] false (B4 _ _ _ hy_3) ?_
 refine Bd fun B=>?_
 refine E2 ?_
 obtain rfl:=oi_ G
 exact Gg [(0,0)] ⟨rfl,rfl⟩
 refine Bf 17 33 B fun B=>?_
 refine Cp rfl G (fun h21 G=>?_) fun h21 G=>?_
 refine Aj <| Ak (B6 _ _ [41]) 33 65 B rfl rfl ?_
 refine As ?_
 refine Ou Ee z3 I1 ([768,512,1024]:List Int) eI ?_
 obtain⟨y_4,hy_4,G⟩:=Ab G
 refine F9 [0] [0] [] false (B4 _ _ _ hy_4) ?_
 refine Bd fun B=>?_
 refine E2 ?_
 obtain rfl:=oi_ G
 exact Gg [(0,0)] ⟨rfl,rfl⟩
 refine Bf 33 49 B fun B=>?_
 refine Cp rfl G (fun h24 G=>?_) fun h24 G=>?_
 refine Aj <| Ak (B6 _ _ [57]) 49 81 B rfl rfl ?_
 refine As ?_
 refine Ou Ee z3 I1 ([128,40]:List Int) eI ?_
 obtain⟨y_5,hy_5,G⟩:=Ab G
 refine F9 [0] [0] [] false (B4 _ _ _ hy_5) ?_
 refine Bd fun B=>?_
 refine E2 ?_
 obtain rfl:=oi_ G
 exact Gg [(0,0)] ⟨rfl,rfl⟩
 refine Bf 49 65 B fun B=>?_
 refine Cp rfl G (fun h27 G=>?_) fun h27 G=>?_
 refine Aj <| Ak (B6 _ _ [73]) 65 97 B rfl rfl ?_
 refine As ?_
 refine Ou Ee z3 I1 ([168,112]:List Int) eI ?_
 obtain⟨y_6,hy_6,G⟩:=Ab G
 refine F9 [0] [0] [] false (B4 _ _ _ hy_6) ?_
 refine Bd fun B=>?_
 refine E2 ?_
 obtain rfl:=oi_ G
 exact Gg [(0,0)] ⟨rfl,rfl⟩
 refine Bo (ι:=Bool) (fun (x40_3:Bool)=>mk [(0,.ptr 0 0),(40,.val (.bool x40_3))] [(0,.box [.sl 1 (Aq eI d.L),vk d.At] 62)] 1) (fun (x40_3:Bool)=>Cn.j3 d x40_3=some r) ?_ ?_
 refine Bf 65 81 B fun B=>?_
 refine Cp rfl G (fun h30 G=>?_) fun h30 G=>?_
 refine C8 ?_
 exact⟨decide (a=16),G,Ar [(0,0)]⟩
 refine Ak (B6 _ _ []) 81 97 B rfl rfl ?_
 refine Bd fun B=>?_
 exact⟨decide (a=17),G,Ar [(0,0)]⟩
 rintro x40_3 G
 replace G:Cn.j3 d x40_3=some r:=G
 show B3 _ _ _ _ (mk _ _ _)
 unfold Cn.j3 at G
 refine Cp rfl G (fun h32 G=>?_) fun h32 G=>?_
 refine Aj <| Ak (B6 _ _ [9]) 1 33 Ay rfl rfl ?_
 refine As ?_
 refine Ou Ee z3 I1 ([128,256]:List Int) eI ?_
 obtain⟨y_7,hy_7,G⟩:=Ab G
 refine F9 [0] [0] [] false (B4 _ _ _ hy_7) ?_
 refine Bd fun B=>?_
 refine E2 ?_
 obtain rfl:=oi_ G
 exact Gg [(0,0)] ⟨rfl,rfl⟩
 refine C8 ?_
 refine Bf 1 9 Ay fun B=>?_
 refine E2 ?_
 obtain rfl:=oi_ G
 exact Gg [(0,0)] ⟨rfl,rfl⟩
theorem bV (d:Ac) (r:Am×Ac) (G:Mu d=some r):Fn Tryz.prog 28 1 [.ptr 0 0] [.box [.sl 1 (Aq eI d.L),vk d.At] 62] (fun d' b'=>d'=.agg [vk r.1.Alg,vk r.1.Bits]/\b'=[.box [.sl 1 (Aq eI r.2.L),vk r.2.At] 62]):=by
 unfold Mu at G
 refine Fn.of Tryz.func28 rfl rfl rfl fun w0 I ρ0=>?_
 show B3 _ ⟨w0,I,ρ0,1,1,12⟩ _ _ _
 refine Bf 1 9 Ay fun B=>?_
 refine Aj <| Ak (B6 _ _ [17]) 9 41 B rfl rfl ?_
 refine As ?_
 refine Ou Ee z3 I1 ([5,7,5,6,8,9]:List Int) eI ?_
 obtain⟨y,hy,G⟩:=Ab G
 refine F9 [0] [0] [] false (B4 _ _ _ hy) ?_
 refine Bd fun B=>?_
 refine Cc 41 89 B ?_
 refine As ?_
 obtain⟨y_2,hy_2,G⟩:=Ab G
 refine F9 [0] [0] [] false (T3 _ _ _ hy_2) ?_
 refine Lq Hj Lc S6 ?_
 refine Bd fun B=>?_
 refine E2 ?_
 obtain rfl:=oi_ G
 exact Gg [(0,0)] ⟨rfl,rfl⟩
theorem gA (c:Af) (r:Af) (G:Ls c=some r):Fn Tryz.prog 123 0 [.agg (Af.dv c)] [] (fun d' b'=>d'=.agg (Af.dv r)/\b'=[]):=by
 unfold Ls at G
 refine Fn.of Tryz.func123 rfl rfl rfl fun w0 I ρ0=>?_
 show B3 _ ⟨w0,I,ρ0,0,0,9⟩ _ _ _
 refine Bf 0 16 Ay fun B=>?_
 refine Cc 16 64 B ?_
 refine C0 rfl rfl (Fu Xc z9 (by decide) rfl rfl rfl rfl qY (cs:=[]) .nil rfl (l:=([]:List ByteArray)) (f:=eS) rfl) rfl rfl ?_
 refine As ?_
 obtain⟨l,hl,G⟩:=Ab G
 refine Fi (rd:=[16]) rfl rfl (Dk Xc aK .row rfl .sl rfl hl rfl) rfl rfl ?_
 refine Bd fun B=>?_
 refine Bf 64 80 B fun B=>?_
 exact Lf
theorem Jx (s:ByteArray) (r:Bool) (G:Cj s=some r):Fn Tryz.prog 76 0 [ws s] [] (fun d' b'=>d'=.val (.bool r)/\b'=[]):=by
 unfold Cj at G
 refine Fn.of Tryz.func76 rfl rfl rfl fun w0 I ρ0=>?_
 show B3 _ ⟨w0,I,ρ0,0,0,28⟩ _ _ _
 refine Bf 0 8 Ay fun B=>?_
 refine Aj <| Bo (ι:=Bool) (fun (x11_1:Bool)=>mk [(0,ws s),(11,.val (.bool x11_1))] [] 0) (fun (x11_1:Bool)=>Cj.j1 s x11_1=some r) ?_ ?_
 refine Ak (B6 _ _ []) 8 72 B rfl rfl ?_
 refine As ?_
 refine C0 rfl rfl (P9 Ti) rfl rfl ?_
 refine As ?_
 rcases Dm G with ⟨h2,G⟩ | ⟨h2,G⟩
 refine Bd fun B=>?_
 exact⟨true,G,Ar []⟩
 refine As ?_
 refine C0 (Eb rfl rfl h2) rfl (P9 Ti) rfl rfl ?_
 refine Bd fun B=>?_
 exact⟨decide (32 < (s.size:Int)),G,Ar []⟩
 rintro x11_1 G
 replace G:Cj.j1 s x11_1=some r:=G
 show B3 _ _ _ _ (mk _ _ _)
 unfold Cj.j1 at G
 refine Cp rfl G (fun h5 G=>?_) fun h5 G=>?_
 refine Cc 0 8 Ay ?_
 exact De
 refine C8 ?_
 refine Aj <| Bf 0 8 Ay fun B=>?_
 refine Ap <| Ji (fun (i_2:Int)=>mk [(0,ws s),(3,vk i_2)] [] 0) G (Ar []) ?_
 rintro i_2 m2 o2 G hn2
 replace G:Cj.l2 s i_2=some o2:=G
 show B3 _ _ _ _ (mk _ _ _)
 unfold Cj.l2 at G
 refine Aj <| Cc 0 32 Ay ?_
 refine As ?_
 refine C0 rfl rfl (P9 Ti) rfl rfl ?_
 refine Bd fun B=>?_
 refine Cp rfl G (fun h9 G=>?_) fun h9 G=>?_
 refine C8 ?_
 refine Aj <| Ap <| Bo (ι:=Bool) (fun (x27_3:Bool)=>mk [(0,ws s),(3,vk i_2),(27,.val (.bool x27_3))] [] 0) (fun (x27_3:Bool)=>Cj.j3 i_2 x27_3=some o2) ?_ ?_
 refine Ak (B6 _ _ []) 32 112 B rfl rfl ?_
 refine As ?_
 obtain⟨c,hc,G⟩:=Ab G
 refine C0 rfl rfl (gR Ti hc) rfl rfl ?_
 refine As ?_
 rcases Dm G with ⟨h10,G⟩ | ⟨h10,G⟩
 refine Bd fun B=>?_
 exact⟨true,G,Ar []⟩
 refine As ?_
 obtain⟨c_2,hc_2,G⟩:=Ab G
 refine C0 (Eb rfl rfl h10) rfl (gR Ti hc_2) rfl rfl ?_
 refine Bd fun B=>?_
 exact⟨decide (126 < (c_2.toNat:Int)),G,Ar []⟩
 rintro x27_3 G
 replace G:Cj.j3 i_2 x27_3=some o2:=G
 show B3 _ _ _ _ (mk _ _ _)
 unfold Cj.j3 at G
 refine Cp rfl G (fun h13 G=>?_) fun h13 G=>?_
 refine Bf 0 8 Ay fun B=>?_
 refine E2 ?_
 replace G:=Cd G hn2
 exact Uq
 refine C8 ?_
 refine Ak (B6 _ _ []) 0 24 Ay rfl rfl ?_
 refine Bd fun B=>?_
 obtain rfl:=oi_ G
 exact⟨(W (i_2 + 1),m2),aCz _,hn2,Ar []⟩
 refine Je ?_
 replace G:=Cd G hn2
 refine Bf 32 40 B fun B=>?_
 exact Lf
theorem Mx (u:Am) (r:Bool) (G:Ib u=some r):Fn Tryz.prog 47 0 [.agg [vk u.Alg,vk u.Bits]] [] (fun d' b'=>d'=.val (.bool r)/\b'=[]):=by
 unfold Ib at G
 refine Fn.of Tryz.func47 rfl rfl rfl fun w0 I ρ0=>?_
 show B3 _ ⟨w0,I,ρ0,0,0,6⟩ _ _ _
 refine Bf 0 16 Ay fun B=>?_
 refine Cc 16 48 B ?_
 refine As ?_
 obtain⟨y,hy,G⟩:=Ab G
 refine Dh (Q7 _ _ hy) ?_
 exact De
theorem eJ  (r:(List Au)) (G:Si=some r):Fn Tryz.prog 111 0 [] [] (fun d' b'=>d'=.sl 2 (Aq Au.enc r)/\b'=[]):=by
 unfold Si at G
 refine Fn.of Tryz.func111 rfl rfl rfl fun w0 I ρ0=>?_
 show B3 _ ⟨w0,I,ρ0,0,0,25⟩ _ _ _
 refine Bf 0 8 Ay fun B=>?_
 refine Cc 8 208 B ?_
 refine C0 rfl rfl (.build (r:=[.val (.string (⟨#[]⟩:ByteArray)),.val (.int .i64 0)]) H8 Kp Nj (by kernel_rfl) rfl) rfl rfl ?_
 refine C0 rfl rfl (.build (r:=[.val (.string (⟨#[109,100,53]⟩:ByteArray)),.val (.int .i64 1)]) H8 Kp Nj (by kernel_rfl) rfl) rfl rfl ?_
 refine C0 rfl rfl (.build (r:=[.val (.string (⟨#[115,104,97,49]⟩:ByteArray)),.val (.int .i64 1)]) H8 Kp Nj (by kernel_rfl) rfl) rfl rfl ?_
 refine C0 rfl rfl (.build (r:=[.val (.string (⟨#[115,104,97,50,53,54]⟩:ByteArray)),.val (.int .i64 1)]) H8 Kp Nj (by kernel_rfl) rfl) rfl rfl ?_
 refine C0 rfl rfl (.build (r:=[.val (.string (⟨#[115,104,97,51,56,52]⟩:ByteArray)),.val (.int .i64 1)]) H8 Kp Nj (by kernel_rfl) rfl) rfl rfl ?_
 refine C0 rfl rfl (.build (r:=[.val (.string (⟨#[114,115,97]⟩:ByteArray)),.val (.int .i64 2)]) H8 Kp Nj (by kernel_rfl) rfl) rfl rfl ?_
 refine C0 rfl rfl (.build (r:=[.val (.string (⟨#[100,115,97]⟩:ByteArray)),.val (.int .i64 2)]) H8 Kp Nj (by kernel_rfl) rfl) rfl rfl ?_
 refine C0 rfl rfl (.build (r:=[.val (.string (⟨#[101,99,100,115,97]⟩:ByteArray)),.val (.int .i64 2)]) H8 Kp Nj (by kernel_rfl) rfl) rfl rfl ?_
 refine C0 rfl rfl (.build (r:=[.val (.string (⟨#[101,100,50,53,53,49,57]⟩:ByteArray)),.val (.int .i64 2)]) H8 Kp Nj (by kernel_rfl) rfl) rfl rfl ?_
 refine C0 rfl rfl (.build (r:=[.val (.string (⟨#[109,108,100,115,97]⟩:ByteArray)),.val (.int .i64 2)]) H8 Kp Nj (by kernel_rfl) rfl) rfl rfl ?_
 refine C0 rfl rfl (.build (r:=[.val (.string (⟨#[114,115,97,107,120]⟩:ByteArray)),.val (.int .i64 3)]) H8 Kp Nj (by kernel_rfl) rfl) rfl rfl ?_
 refine C0 rfl rfl (.build (r:=[.val (.string (⟨#[100,104,101]⟩:ByteArray)),.val (.int .i64 3)]) H8 Kp Nj (by kernel_rfl) rfl) rfl rfl ?_
 refine C0 rfl rfl (.build (r:=[.val (.string (⟨#[101,99,100,104,101]⟩:ByteArray)),.val (.int .i64 3)]) H8 Kp Nj (by kernel_rfl) rfl) rfl rfl ?_
 refine C0 rfl rfl (.build (r:=[.val (.string (⟨#[109,108,107,101,109]⟩:ByteArray)),.val (.int .i64 3)]) H8 Kp Nj (by kernel_rfl) rfl) rfl rfl ?_
 refine C0 rfl rfl (.build (r:=[.val (.string (⟨#[114,99,52]⟩:ByteArray)),.val (.int .i64 4)]) H8 Kp Nj (by kernel_rfl) rfl) rfl rfl ?_
 refine C0 rfl rfl (.build (r:=[.val (.string (⟨#[100,101,115,51]⟩:ByteArray)),.val (.int .i64 4)]) H8 Kp Nj (by kernel_rfl) rfl) rfl rfl ?_
 refine C0 rfl rfl (.build (r:=[.val (.string (⟨#[97,101,115,99,98,99]⟩:ByteArray)),.val (.int .i64 4)]) H8 Kp Nj (by kernel_rfl) rfl) rfl rfl ?_
 refine C0 rfl rfl (.build (r:=[.val (.string (⟨#[97,101,115,103,99,109]⟩:ByteArray)),.val (.int .i64 4)]) H8 Kp Nj (by kernel_rfl) rfl) rfl rfl ?_
 refine C0 rfl rfl (.build (r:=[.val (.string (⟨#[99,104,97,99,104,97]⟩:ByteArray)),.val (.int .i64 4)]) H8 Kp Nj (by kernel_rfl) rfl) rfl rfl ?_
 refine C0 rfl rfl (.build (r:=[.val (.string (⟨#[104,109,97,99,109,100,53]⟩:ByteArray)),.val (.int .i64 5)]) H8 Kp Nj (by kernel_rfl) rfl) rfl rfl ?_
 refine C0 rfl rfl (.build (r:=[.val (.string (⟨#[104,109,97,99,115,104,97,49]⟩:ByteArray)),.val (.int .i64 5)]) H8 Kp Nj (by kernel_rfl) rfl) rfl rfl ?_
 refine C0 rfl rfl (.build (r:=[.val (.string (⟨#[104,109,97,99,115,104,97,50,53,54]⟩:ByteArray)),.val (.int .i64 5)]) H8 Kp Nj (by kernel_rfl) rfl) rfl rfl ?_
 refine C0 rfl rfl (.build (r:=[.val (.string (⟨#[97,101,97,100]⟩:ByteArray)),.val (.int .i64 5)]) H8 Kp Nj (by kernel_rfl) rfl) rfl rfl ?_
 refine I8 aAd Nj aE7 ([(Au.mk (⟨#[]⟩:ByteArray) 0),(Au.mk (⟨#[109,100,53]⟩:ByteArray) 1),(Au.mk (⟨#[115,104,97,49]⟩:ByteArray) 1),(Au.mk (⟨#[115,104,97,50,53,54]⟩:ByteArray) 1),(Au.mk (⟨#[115,104,97,51,56,52]⟩:ByteArray) 1),(Au.mk (⟨#[114,115,97]⟩:ByteArray) 2),(Au.mk (⟨#[100,115,97]⟩:ByteArray) 2),(Au.mk (⟨#[101,99,100,115,97]⟩:ByteArray) 2),(Au.mk (⟨#[101,100,50,53,53,49,57]⟩:ByteArray) 2),(Au.mk (⟨#[109,108,100,115,97]⟩:ByteArray) 2),(Au.mk (⟨#[114,115,97,107,120]⟩:ByteArray) 3),(Au.mk (⟨#[100,104,101]⟩:ByteArray) 3),(Au.mk (⟨#[101,99,100,104,101]⟩:ByteArray) 3),(Au.mk (⟨#[109,108,107,101,109]⟩:ByteArray) 3),(Au.mk (⟨#[114,99,52]⟩:ByteArray) 4),(Au.mk (⟨#[100,101,115,51]⟩:ByteArray) 4),(Au.mk (⟨#[97,101,115,99,98,99]⟩:ByteArray) 4),(Au.mk (⟨#[97,101,115,103,99,109]⟩:ByteArray) 4),(Au.mk (⟨#[99,104,97,99,104,97]⟩:ByteArray) 4),(Au.mk (⟨#[104,109,97,99,109,100,53]⟩:ByteArray) 5),(Au.mk (⟨#[104,109,97,99,115,104,97,49]⟩:ByteArray) 5),(Au.mk (⟨#[104,109,97,99,115,104,97,50,53,54]⟩:ByteArray) 5),(Au.mk (⟨#[97,101,97,100]⟩:ByteArray) 5)]:List Au) Au.enc ?_
 exact De
theorem R6 (alg:Int) (r:Int) (G:E8 alg=some r):Fn Tryz.prog 74 0 [vk alg] [] (fun d' b'=>d'=vk r/\b'=[]):=by
 unfold E8 at G
 refine Fn.of Tryz.func74 rfl rfl rfl fun w0 I ρ0=>?_
 show B3 _ ⟨w0,I,ρ0,0,0,14⟩ _ _ _
 refine Bf 0 8 Ay fun B=>?_
 refine Aj <| Bo (ι:=Bool) (fun (x8_1:Bool)=>mk [(0,vk alg),(8,.val (.bool x8_1))] [] 0) (fun (x8_1:Bool)=>E8.j1 alg x8_1=some r) ?_ ?_
 refine Ak (B6 _ _ []) 8 56 B rfl rfl ?_
 refine As ?_
 rcases Dm G with ⟨h2,G⟩ | ⟨h2,G⟩
 refine Bd fun B=>?_
 exact⟨true,G,Ar []⟩
 refine Bd fun B=>?_
 exact⟨decide (22 < alg),G,Ar []⟩
 rintro x8_1 G
 replace G:E8.j1 alg x8_1=some r:=G
 show B3 _ _ _ _ (mk _ _ _)
 unfold E8.j1 at G
 refine Cp rfl G (fun h5 G=>?_) fun h5 G=>?_
 refine Cc 0 8 Ay ?_
 exact De
 refine C8 ?_
 refine Cc 0 48 Ay ?_
 obtain⟨y,hy,G⟩:=Ab G
 refine Dh (eJ _ hy) ?_
 refine As ?_
 obtain⟨e,he,G⟩:=Ab G
 refine As ?_
 refine C0 rfl rfl (Fo nN Yl (by decide) (H4 Au.enc_len (Bq he) (o:=1) (by decide) rfl)) rfl rfl ?_
 refine C0 rfl rfl (Do Yl (Ew Au.enc_len (Bq he) (o:=1) (c:=.int .i64 e.kind) rfl rfl)) rfl rfl ?_
 exact De
theorem L8 (u:Am) (r:Bool) (G:Fl u=some r):Fn Tryz.prog 109 0 [.agg [vk u.Alg,vk u.Bits]] [] (fun d' b'=>d'=.val (.bool r)/\b'=[]):=by
 unfold Fl at G
 refine Fn.of Tryz.func109 rfl rfl rfl fun w0 I ρ0=>?_
 show B3 _ ⟨w0,I,ρ0,0,0,11⟩ _ _ _
 refine Bf 0 16 Ay fun B=>?_
 refine Cc 16 88 B ?_
 refine As ?_
 obtain⟨y,hy,G⟩:=Ab G
 refine Dh (Mx _ _ hy) ?_
 refine As ?_
 rcases Dm G with ⟨h2,G⟩ | ⟨h2,G⟩
 refine As ?_
 obtain⟨y_2,hy_2,G⟩:=Ab G
 refine Dh (R6 _ _ hy_2) ?_
 exact De
 exact De
end Go.Proofs.YtchpcpaacenodaaGreat
