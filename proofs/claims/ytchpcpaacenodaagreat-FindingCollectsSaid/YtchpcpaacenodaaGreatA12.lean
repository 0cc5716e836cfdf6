import Derived.Test.YtchpcpaacenodaaGreatT1
import Derived.Test.YtchpcpaacenodaaGreatA6
import Derived.Test.YtchpcpaacenodaaGreatA7
import Derived.Test.YtchpcpaacenodaaGreatA8
import Derived.Test.YtchpcpaacenodaaGreatA11
set_option linter.unusedVariables false
set_option linter.unusedSimpArgs false
set_option maxRecDepth 100000
set_option maxHeartbeats 1600000
namespace Go.Proofs.YtchpcpaacenodaaGreat
open Go.RowKit
instance:FlC Aa.enc:=⟨fun x c hc=>by
 simp only [Aa.enc,List.mem_cons,List.not_mem_nil,or_false] at hc
 rcases hc with rfl | rfl | rfl | rfl | rfl | rfl | rfl | rfl | rfl | rfl | rfl<;> rfl⟩
theorem Qg (key:Am) (id:Int) (chain:(List Af)) (r:Bool) (G:C5 key id chain=some r):Fn Tryz.prog 73 0 [.agg [vk key.Alg,vk key.Bits],vk id,.sl 15 (Aq Af.enc chain)] [] (fun d' b'=>d'=.val (.bool r)/\b'=[]):=by
 unfold C5 at G
 refine Fn.of Tryz.func73 rfl rfl rfl fun w0 I ρ0=>?_
 show B3 _ ⟨w0,I,ρ0,0,0,55⟩ _ _ _
 refine Bf 0 16 Ay fun B=>?_
 refine Aj <| Bo (ι:=Bool) (fun (x23_1:Bool)=>mk [(1,vk id),(2,.sl 15 (Aq Af.enc chain)),(3,.ptr 0 0),(23,.val (.bool x23_1))] [(0,.box [vk key.Alg,vk key.Bits] 28)] 1) (fun (x23_1:Bool)=>C5.j1 key id chain x23_1=some r) ?_ ?_
 refine Ak (B6 _ _ []) 16 144 B rfl rfl ?_
 refine As ?_
 obtain⟨y,hy,G⟩:=Ab G
 refine Dh (L8 _ _ hy) ?_
 refine As ?_
 rcases Dm G with ⟨h2,G⟩ | ⟨h2,G⟩
 refine Bd fun B=>?_
 exact⟨true,G,Ar [(0,0)]⟩
 refine As ?_
 rcases Dm G with ⟨h4,G⟩ | ⟨h4,G⟩
 refine Bd fun B=>?_
 exact⟨true,G,Ar [(0,0)]⟩
 refine As ?_
 rcases Dm G with ⟨h6,G⟩ | ⟨h6,G⟩
 refine Bd fun B=>?_
 exact⟨true,G,Ar [(0,0)]⟩
 refine Bd fun B=>?_
 exact⟨decide (8 < (chain.length:Int)),G,Ar [(0,0)]⟩
 rintro x23_1 G
 replace G:C5.j1 key id chain x23_1=some r:=G
 show B3 _ _ _ _ (mk _ _ _)
 unfold C5.j1 at G
 refine Cp rfl G (fun h9 G=>?_) fun h9 G=>?_
 refine Cc 1 9 Ay ?_
 exact De
 refine C8 ?_
 refine Aj <| Bf 1 9 Ay fun B=>?_
 refine Ap <| Ji (fun (i_2:Int)=>mk [(1,vk id),(2,.sl 15 (Aq Af.enc chain)),(3,.ptr 0 0),(7,vk i_2)] [(0,.box [vk key.Alg,vk key.Bits] 28)] 1) G (Ar [(0,0)]) ?_
 rintro i_2 m2 o2 G hn2
 replace G:C5.l2 key id chain i_2=some o2:=G
 show B3 _ _ _ _ (mk _ _ _)
 unfold C5.l2 at G
 refine Aj <| Bf 1 33 Ay fun B=>?_
 refine Cp rfl G (fun h13 G=>?_) fun h13 G=>?_
 refine C8 ?_
 refine Aj <| Ap <| Cc 33 81 B ?_
 refine As ?_
 obtain⟨e,he,G⟩:=Ab G
 refine As ?_
 refine gZ he ?_
 obtain⟨y_2,hy_2,G⟩:=Ab G
 refine Dh (Qe _ _ hy_2) ?_
 refine Bd fun B=>?_
 refine Cp rfl G (fun h15 G=>?_) fun h15 G=>?_
 refine Bf 81 89 B fun B=>?_
 refine E2 ?_
 replace G:=Cd G hn2
 exact Uq
 refine C8 ?_
 refine Ak (B6 _ _ []) 81 105 B rfl rfl ?_
 refine Bd fun B=>?_
 obtain rfl:=oi_ G
 exact⟨(W (i_2 + 1),m2),aCz _,hn2,Ar [(0,0)]⟩
 refine Je ?_
 replace G:=Cd G hn2
 refine Aj <| Bn (B6 _ _ []) (by kernel_rfl) [0,1,3,7,15,31,63,127,15,511,1023,2047,4095,8191,16383,2047,65535,131071,262143,524287] 33 193 B rfl rfl (by kernel_rfl) ?_
 refine As ?_
 rcases Dm G with ⟨h18,G⟩ | ⟨h18,G⟩
 exact De
 refine As ?_
 obtain⟨e_2,he_2,G⟩:=Ab G
 refine As ?_
 refine C0 (Eb rfl rfl h18) rfl (Fo gU Vv (by decide) (H4 Af.enc_len (Bq he_2) (o:=3) (by decide) rfl)) rfl rfl ?_
 refine C0 (Eb rfl rfl h18) rfl (D5 Vv (Gd Af.enc_len (Bq he_2) (o:=3) (m:=2) (cs:=[.int .i64 e_2.Key.Alg,.int .i64 e_2.Key.Bits]) rfl (by decide) rfl) (Eg Af.enc_len (Bq he_2) (o:=3) (m:=2) (by decide) rfl)) rfl rfl ?_
 refine As ?_
 refine C0 (Eb rfl rfl h18) rfl (O6 e_2.Key key) rfl rfl ?_
 refine As ?_
 rcases Dm G with ⟨h20,G⟩ | ⟨h20,G⟩
 refine As ?_
 refine C0 (Eb rfl rfl h20) rfl (Fo fP Yl (by decide) (H4 Af.enc_len (Bq he_2) (o:=5) (by decide) rfl)) rfl rfl ?_
 refine C0 (Eb rfl rfl h20) rfl (Do Yl (Ew Af.enc_len (Bq he_2) (o:=5) (c:=.int .i64 e_2.KeyId) rfl rfl)) rfl rfl ?_
 exact De
 exact De
theorem cT (e:Av) (r:Int) (G:A8 e=some r):Fn Tryz.prog 40 0 [.agg (Av.dv e)] [] (fun d' b'=>d'=vk r/\b'=[]):=by
 unfold A8 at G
 refine Fn.of Tryz.func40 rfl rfl rfl fun w0 I ρ0=>?_
 show B3 _ ⟨w0,I,ρ0,0,0,176⟩ _ _ _
 refine Bf 0 16 Ay fun B=>?_
 refine Aj <| Bo (ι:=Bool) (fun (x47_1:Bool)=>mk [(1,.ptr 0 0),(47,.val (.bool x47_1))] [(0,.box (Av.dv e) 34)] 1) (fun (x47_1:Bool)=>A8.j1 e x47_1=some r) ?_ ?_
 refine Ak (B6 _ _ []) 16 328 B rfl rfl ?_
 refine As ?_
 obtain⟨y,hy,G⟩:=Ab G
 refine Dh (eQ _ _ hy) ?_
 refine As ?_
 rcases Dm G with ⟨h2,G⟩ | ⟨h2,G⟩
 refine Bd fun B=>?_
 exact⟨true,G,Ar [(0,0)]⟩
 refine As ?_
 rcases Dm G with ⟨h4,G⟩ | ⟨h4,G⟩
 refine Bd fun B=>?_
 exact⟨true,G,Ar [(0,0)]⟩
 refine As ?_
 rcases Dm G with ⟨h6,G⟩ | ⟨h6,G⟩
 refine Bd fun B=>?_
 exact⟨true,G,Ar [(0,0)]⟩
 refine As ?_
 rcases Dm G with ⟨h8,G⟩ | ⟨h8,G⟩
 refine Bd fun B=>?_
 exact⟨true,G,Ar [(0,0)]⟩
 refine As ?_
 rcases Dm G with ⟨h10,G⟩ | ⟨h10,G⟩
 refine Bd fun B=>?_
 exact⟨true,G,Ar [(0,0)]⟩
 refine As ?_
 rcases Dm G with ⟨h12,G⟩ | ⟨h12,G⟩
 refine Bd fun B=>?_
 exact⟨true,G,Ar [(0,0)]⟩
 refine Bd fun B=>?_
 exact⟨decide (16 < (e.Anchors.length:Int)),G,Ar [(0,0)]⟩
 rintro x47_1 G
 replace G:A8.j1 e x47_1=some r:=G
 show B3 _ _ _ _ (mk _ _ _)
 unfold A8.j1 at G
 refine Cp rfl G (fun h15 G=>?_) fun h15 G=>?_
 refine Cc 1 9 Ay ?_
 exact De
 refine C8 ?_
 refine Aj <| Bf 1 9 Ay fun B=>?_
 refine Ap <| Ji (fun (i_2:Int)=>mk [(1,.ptr 0 0),(3,vk i_2)] [(0,.box (Av.dv e) 34)] 1) G (Ar [(0,0)]) ?_
 rintro i_2 m2 o2 G hn2
 replace G:A8.l2 e i_2=some o2:=G
 show B3 _ _ _ _ (mk _ _ _)
 unfold A8.l2 at G
 refine Aj <| Bf 1 41 Ay fun B=>?_
 refine Cp rfl G (fun h19 G=>?_) fun h19 G=>?_
 refine C8 ?_
 refine Aj <| Ap <| Cc 41 137 B ?_
 refine As ?_
 obtain⟨e_2,he_2,G⟩:=Ab G
 refine As ?_
 refine No he_2 ?_
 obtain⟨y_2,hy_2,G⟩:=Ab G
 refine Dh (Qd _ _ hy_2) ?_
 refine Bd fun B=>?_
 refine Bo (ι:=Bool) (fun (x77_3:Bool)=>mk [(1,.ptr 0 0),(3,vk i_2),(77,.val (.bool x77_3))] [(0,.box (Av.dv e) 34)] 1) (fun (x77_3:Bool)=>A8.j3 i_2 x77_3=some o2) ?_ ?_
 refine Bn (B6 _ _ []) (by kernel_rfl) [0,1,3,7,15,7,63,7,135,7,903,1927,4095,8191] 137 249 B rfl rfl (by kernel_rfl) ?_
 refine As ?_
 rcases Dm G with ⟨h21,G⟩ | ⟨h21,G⟩
 refine Bd fun B=>?_
 exact⟨true,G,Ar [(0,0)]⟩
 refine As ?_
 obtain⟨l,hl,G⟩:=Ab G
 refine C0 (Eb rfl rfl h21) rfl (Ue Ee Jo hl) rfl rfl ?_
 refine As ?_
 refine No he_2 ?_
 obtain⟨y_3,hy_3,G⟩:=Ab G
 refine Dh (Tf _ _ _ hy_3) ?_
 refine Bd fun B=>?_
 exact⟨y_3,G,Ar [(0,0)]⟩
 rintro x77_3 G
 replace G:A8.j3 i_2 x77_3=some o2:=G
 show B3 _ _ _ _ (mk _ _ _)
 unfold A8.j3 at G
 refine Cp rfl G (fun h24 G=>?_) fun h24 G=>?_
 refine Bf 1 9 Ay fun B=>?_
 refine E2 ?_
 replace G:=Cd G hn2
 exact Uq
 refine C8 ?_
 refine Ak (B6 _ _ []) 1 25 Ay rfl rfl ?_
 refine Bd fun B=>?_
 obtain rfl:=oi_ G
 exact⟨(W (i_2 + 1),m2),aCz _,hn2,Ar [(0,0)]⟩
 refine Je ?_
 replace G:=Cd G hn2
 refine Aj <| Bf 41 49 B fun B=>?_
 refine Ap <| Ji (fun (i_4:Int)=>mk [(1,.ptr 0 0),(6,vk i_4)] [(0,.box (Av.dv e) 34)] 1) G (Ar [(0,0)]) ?_
 rintro i_4 m4 o4 G hn4
 replace G:A8.l4 e i_4=some o4:=G
 show B3 _ _ _ _ (mk _ _ _)
 unfold A8.l4 at G
 refine Aj <| Bf 1 41 Ay fun B=>?_
 refine Cp rfl G (fun h29 G=>?_) fun h29 G=>?_
 refine C8 ?_
 refine Aj <| Ap <| Aj <| Bn (B6 _ _ []) (by kernel_rfl) [0,1,0,7,15,31,0,64,0,448,960,1984,0,4096,0,28672,61440,126976,262143,524287] 41 201 B rfl rfl (by kernel_rfl) ?_
 refine As ?_
 obtain⟨e_3,he_3,G⟩:=Ab G
 refine As ?_
 refine C0 rfl rfl (Fo mI Vv (by decide) (H4 A9.enc_len (Bq he_3) (o:=0) (by decide) rfl)) rfl rfl ?_
 refine C0 rfl rfl (D5 Vv (Gd A9.enc_len (Bq he_3) (o:=0) (m:=2) (cs:=[.int .i64 e_3.Key.Alg,.int .i64 e_3.Key.Bits]) rfl (by decide) rfl) (Eg A9.enc_len (Bq he_3) (o:=0) (m:=2) (by decide) rfl)) rfl rfl ?_
 refine As ?_
 refine C0 rfl rfl (Fo lL Yl (by decide) (H4 A9.enc_len (Bq he_3) (o:=2) (by decide) rfl)) rfl rfl ?_
 refine C0 rfl rfl (Do Yl (Ew A9.enc_len (Bq he_3) (o:=2) (c:=.int .i64 e_3.KeyId) rfl rfl)) rfl rfl ?_
 refine As ?_
 refine C0 rfl rfl (Fo qS mD (by decide) (H4 A9.enc_len (Bq he_3) (o:=3) (by decide) rfl)) rfl rfl ?_
 refine C0 rfl rfl (Do mD (Ew A9.enc_len (Bq he_3) (o:=3) (c:=.sl 15 (Aq Af.enc e_3.Chain)) rfl rfl)) rfl rfl ?_
 obtain⟨y_4,hy_4,G⟩:=Ab G
 refine Dh (Qg _ _ _ _ hy_4) ?_
 refine Bd fun B=>?_
 refine Cp rfl G (fun h31 G=>?_) fun h31 G=>?_
 refine Bf 201 209 B fun B=>?_
 refine E2 ?_
 replace G:=Cd G hn4
 exact Uq
 refine C8 ?_
 refine Ak (B6 _ _ []) 201 225 B rfl rfl ?_
 refine Bd fun B=>?_
 obtain rfl:=oi_ G
 exact⟨(W (i_4 + 1),m4),aCz _,hn4,Ar [(0,0)]⟩
 refine Je ?_
 replace G:=Cd G hn4
 refine Aj <| Bf 41 49 B fun B=>?_
 refine Ap <| Ji (fun (i_5:Int)=>mk [(1,.ptr 0 0),(7,vk i_5)] [(0,.box (Av.dv e) 34)] 1) G (Ar [(0,0)]) ?_
 rintro i_5 m5 o5 G hn5
 replace G:A8.l5 e i_5=some o5:=G
 show B3 _ _ _ _ (mk _ _ _)
 unfold A8.l5 at G
 refine Aj <| Bf 1 41 Ay fun B=>?_
 refine Cp rfl G (fun h36 G=>?_) fun h36 G=>?_
 refine C8 ?_
 refine Aj <| Ap <| Bo (ι:=Bool) (fun (x143_6:Bool)=>mk [(1,.ptr 0 0),(7,vk i_5),(143,.val (.bool x143_6))] [(0,.box (Av.dv e) 34)] 1) (fun (x143_6:Bool)=>A8.j6 i_5 x143_6=some o5) ?_ ?_
 refine Bn (B6 _ _ []) (by kernel_rfl) [0,1,0,7,15,31,63,127,255,127,1023,2047,4095,8191,16383,32767,65535,131071,262143,524287,262143,1310719,4194303,8388607,262143,17039359,262143,117702655,251920383,536870911,1073741823,2147483647] 41 297 B rfl rfl (by kernel_rfl) ?_
 refine As ?_
 obtain⟨e_4,he_4,G⟩:=Ab G
 refine As ?_
 refine No he_4 ?_
 refine As ?_
 rcases Dm G with ⟨h37,G⟩ | ⟨h37,G⟩
 refine Bd fun B=>?_
 exact⟨true,G,Ar [(0,0)]⟩
 refine As ?_
 refine No he_4 ?_
 refine As ?_
 rcases Dm G with ⟨h39,G⟩ | ⟨h39,G⟩
 refine Bd fun B=>?_
 exact⟨true,G,Ar [(0,0)]⟩
 refine As ?_
 rcases Dm G with ⟨h41,G⟩ | ⟨h41,G⟩
 refine As ?_
 obtain⟨e_5,he_5,G⟩:=Ab G
 refine As ?_
 refine No he_5 ?_
 refine As ?_
 refine No he_4 ?_
 refine Bd fun B=>?_
 exact⟨decide (e_4<=e_5),G,Ar [(0,0)]⟩
 refine Bd fun B=>?_
 exact⟨false,G,Ar [(0,0)]⟩
 rintro x143_6 G
 replace G:A8.j6 i_5 x143_6=some o5:=G
 show B3 _ _ _ _ (mk _ _ _)
 unfold A8.j6 at G
 refine Cp rfl G (fun h44 G=>?_) fun h44 G=>?_
 refine Bf 1 9 Ay fun B=>?_
 refine E2 ?_
 replace G:=Cd G hn5
 exact Uq
 refine C8 ?_
 refine Ak (B6 _ _ []) 1 25 Ay rfl rfl ?_
 refine Bd fun B=>?_
 obtain rfl:=oi_ G
 exact⟨(W (i_5 + 1),m5),aCz _,hn5,Ar [(0,0)]⟩
 refine Je ?_
 replace G:=Cd G hn5
 refine Aj <| Bf 41 49 B fun B=>?_
 refine Ap <| Ji (fun (i_7:Int)=>mk [(1,.ptr 0 0),(8,vk i_7)] [(0,.box (Av.dv e) 34)] 1) G (Ar [(0,0)]) ?_
 rintro i_7 m7 o7 G hn7
 replace G:A8.l7 e i_7=some o7:=G
 show B3 _ _ _ _ (mk _ _ _)
 unfold A8.l7 at G
 refine Aj <| Bf 1 41 Ay fun B=>?_
 refine Cp rfl G (fun h49 G=>?_) fun h49 G=>?_
 refine C8 ?_
 refine Aj <| Ap <| Bo (ι:=Bool) (fun (x175_8:Bool)=>mk [(1,.ptr 0 0),(8,vk i_7),(175,.val (.bool x175_8))] [(0,.box (Av.dv e) 34)] 1) (fun (x175_8:Bool)=>A8.j8 i_7 x175_8=some o7) ?_ ?_
 refine Bn (B6 _ _ []) (by kernel_rfl) [0,1,0,7,15,31,63,127,255,511,1023,2047,4095,2047,10239,32767,65535,2047,133119,2047,919551,1968127,4194303,8388607,16777215] 41 241 B rfl rfl (by kernel_rfl) ?_
 refine As ?_
 obtain⟨e_6,he_6,G⟩:=Ab G
 refine As ?_
 refine No he_6 ?_
 obtain⟨y_5,hy_5,G⟩:=Ab G
 refine Dh (R6 _ _ hy_5) ?_
 refine As ?_
 rcases Dm G with ⟨h50,G⟩ | ⟨h50,G⟩
 refine Bd fun B=>?_
 exact⟨true,G,Ar [(0,0)]⟩
 refine As ?_
 rcases Dm G with ⟨h52,G⟩ | ⟨h52,G⟩
 refine As ?_
 obtain⟨e_7,he_7,G⟩:=Ab G
 refine As ?_
 refine No he_7 ?_
 refine As ?_
 refine No he_6 ?_
 refine Bd fun B=>?_
 exact⟨decide (e_6<=e_7),G,Ar [(0,0)]⟩
 refine Bd fun B=>?_
 exact⟨false,G,Ar [(0,0)]⟩
 rintro x175_8 G
 replace G:A8.j8 i_7 x175_8=some o7:=G
 show B3 _ _ _ _ (mk _ _ _)
 unfold A8.j8 at G
 refine Cp rfl G (fun h55 G=>?_) fun h55 G=>?_
 refine Bf 1 9 Ay fun B=>?_
 refine E2 ?_
 replace G:=Cd G hn7
 exact Uq
 refine C8 ?_
 refine Ak (B6 _ _ []) 1 25 Ay rfl rfl ?_
 refine Bd fun B=>?_
 obtain rfl:=oi_ G
 exact⟨(W (i_7 + 1),m7),aCz _,hn7,Ar [(0,0)]⟩
 refine Je ?_
 replace G:=Cd G hn7
 refine Bf 41 49 B fun B=>?_
 exact Lf
theorem Jp (f:Aa) (kind:Int) (n:Int) (r:Aa) (G:He f kind n=some r):Fn Tryz.prog 41 0 [.agg (Aa.dv f),vk kind,vk n] [] (fun d' b'=>d'=.agg (Aa.dv r)/\b'=[]):=by
 unfold He at G
 refine Fn.of Tryz.func41 rfl rfl rfl fun w0 I ρ0=>?_
 show B3 _ ⟨w0,I,ρ0,0,0,12⟩ _ _ _
 refine Bf 0 16 Ay fun B=>?_
 refine Bf 16 64 B fun B=>?_
 refine Bf 64 80 B fun B=>?_
 exact Lf
theorem Li (f:Aa) (kind:Int) (u:Am) (n:Int) (r:Aa) (G:Js f kind u n=some r):Fn Tryz.prog 42 0 [.agg (Aa.dv f),vk kind,.agg [vk u.Alg,vk u.Bits],vk n] [] (fun d' b'=>d'=.agg (Aa.dv r)/\b'=[]):=by
 unfold Js at G
 refine Fn.of Tryz.func42 rfl rfl rfl fun w0 I ρ0=>?_
 show B3 _ ⟨w0,I,ρ0,0,0,16⟩ _ _ _
 refine Bf 0 24 Ay fun B=>?_
 refine Aj <| Bn (B6 _ _ []) (by kernel_rfl) [0,0,0,1,9,27,59,127,255] 24 96 B rfl rfl (by kernel_rfl) ?_
 refine Bd fun B=>?_
 refine Bf 96 112 B fun B=>?_
 exact Lf
theorem Qf (a:ByteArray) (b:ByteArray) (r:Int) (G:Jb a b=some r):Fn Tryz.prog 140 0 [ws a,ws b] [] (fun d' b'=>d'=vk r/\b'=[]):=by
 unfold Jb at G
 refine Fn.of Tryz.func140 rfl rfl rfl fun w0 I ρ0=>?_
 show B3 _ ⟨w0,I,ρ0,0,0,11⟩ _ _ _
 refine Bf 0 8 Ay fun B=>?_
 refine Aj <| Cc 8 32 B ?_
 refine As ?_
 refine C0 rfl rfl aCw rfl rfl ?_
 refine Gh fun B=>?_
 refine Cp rfl G (fun h3 G=>?_) fun h3 G=>?_
 refine Cc 32 40 B ?_
 exact De
 refine C8 ?_
 refine Aj <| Cc 32 56 B ?_
 refine As ?_
 refine C0 rfl rfl aA7 rfl rfl ?_
 refine Gh fun B=>?_
 refine Cp rfl G (fun h6 G=>?_) fun h6 G=>?_
 refine Cc 56 64 B ?_
 exact De
 refine C8 ?_
 refine Bf 56 64 B fun B=>?_
 exact Lf
theorem Sa (a:(List Int)) (b:(List Int)) (r:Int) (G:D3 a b=some r):Fn Tryz.prog 141 0 [.sl 1 (Aq eI a),.sl 1 (Aq eI b)] [] (fun d' b'=>d'=vk r/\b'=[]):=by
 unfold D3 at G
 refine Fn.of Tryz.func141 rfl rfl rfl fun w0 I ρ0=>?_
 show B3 _ ⟨w0,I,ρ0,0,0,30⟩ _ _ _
 refine Bf 0 8 Ay fun B=>?_
 refine Aj <| Bf 8 16 B fun B=>?_
 refine Ap <| Ji (fun (i_1:Int)=>mk [(0,.sl 1 (Aq eI a)),(1,.sl 1 (Aq eI b)),(5,vk i_1)] [] 0) G (Ar []) ?_
 rintro i_1 m1 o1 G hn1
 replace G:D3.l1 a b i_1=some o1:=G
 show B3 _ _ _ _ (mk _ _ _)
 unfold D3.l1 at G
 refine Aj <| Bf 0 32 Ay fun B=>?_
 refine Cp rfl G (fun h4 G=>?_) fun h4 G=>?_
 refine C8 ?_
 refine Aj <| Ap <| Aj <| Aj <| Bn (B6 _ _ []) (by kernel_rfl) [0,0,3,7,0,0,48,112,255] 32 104 B rfl rfl (by kernel_rfl) ?_
 refine As ?_
 obtain⟨e,he,G⟩:=Ab G
 refine As ?_
 refine No he ?_
 refine As ?_
 obtain⟨e_2,he_2,G⟩:=Ab G
 refine As ?_
 refine No he_2 ?_
 refine Bd fun B=>?_
 refine Cp rfl G (fun h6 G=>?_) fun h6 G=>?_
 refine Bf 104 112 B fun B=>?_
 refine E2 ?_
 replace G:=Cd G hn1
 exact Uq
 refine C8 ?_
 refine Aj <| Bn (B6 _ _ []) (by kernel_rfl) [0,0,3,7,0,0,48,112,255] 104 176 B rfl rfl (by kernel_rfl) ?_
 refine As ?_
 refine No he ?_
 refine As ?_
 refine No he_2 ?_
 refine Bd fun B=>?_
 refine Cp rfl G (fun h9 G=>?_) fun h9 G=>?_
 refine Bf 176 184 B fun B=>?_
 refine E2 ?_
 replace G:=Cd G hn1
 exact Uq
 refine C8 ?_
 refine Ak (B6 _ _ []) 176 200 B rfl rfl ?_
 refine Bd fun B=>?_
 obtain rfl:=oi_ G
 exact⟨(W (i_1 + 1),m1),aCz _,hn1,Ar []⟩
 refine Je ?_
 replace G:=Cd G hn1
 refine Bf 32 40 B fun B=>?_
 exact Lf
theorem Vj (a:Aa) (b:Aa) (r:Int) (G:J9 a b=some r):Fn Tryz.prog 112 0 [.agg (Aa.dv a),.agg (Aa.dv b)] [] (fun d' b'=>d'=vk r/\b'=[]):=by
 unfold J9 at G
 refine Fn.of Tryz.func112 rfl rfl rfl fun w0 I ρ0=>?_
 show B3 _ ⟨w0,I,ρ0,0,0,85⟩ _ _ _
 refine Bf 0 24 Ay fun B=>?_
 refine Aj <| Cc 24 72 B ?_
 refine As ?_
 obtain⟨y,hy,G⟩:=Ab G
 refine Dh (Qf _ _ _ hy) ?_
 refine Bd fun B=>?_
 refine Bf 72 88 B fun B=>?_
 refine Cp rfl G (fun h4 G=>?_) fun h4 G=>?_
 refine Cc 88 104 B ?_
 exact De
 refine C8 ?_
 refine Aj <| Cc 88 184 B ?_
 refine As ?_
 refine I8 Ee z3 I1 ([a.Machine,a.Day]:List Int) eI ?_
 refine As ?_
 refine I8 Ee z3 I1 ([b.Machine,b.Day]:List Int) eI ?_
 obtain⟨y_2,hy_2,G⟩:=Ab G
 refine F9 [120,160] [] [] true (Sa _ _ _ hy_2) ?_
 refine Bd fun B=>?_
 refine Bf 184 200 B fun B=>?_
 refine Cp rfl G (fun h8 G=>?_) fun h8 G=>?_
 refine Cc 200 216 B ?_
 exact De
 refine C8 ?_
 refine Aj <| Cc 200 248 B ?_
 refine As ?_
 obtain⟨y_3,hy_3,G⟩:=Ab G
 refine Dh (Qf _ _ _ hy_3) ?_
 refine Bd fun B=>?_
 refine Bf 248 264 B fun B=>?_
 refine Cp rfl G (fun h12 G=>?_) fun h12 G=>?_
 refine Cc 264 280 B ?_
 exact De
 refine C8 ?_
 refine Aj <| Cc 264 456 B ?_
 refine As ?_
 refine I8 Ee z3 I1 ([a.Kind,a.Use.Alg,a.Use.Bits,a.Number]:List Int) eI ?_
 refine As ?_
 refine I8 Ee z3 I1 ([b.Kind,b.Use.Alg,b.Use.Bits,b.Number]:List Int) eI ?_
 obtain⟨y_4,hy_4,G⟩:=Ab G
 refine F9 [344,432] [] [] true (Sa _ _ _ hy_4) ?_
 refine Bd fun B=>?_
 refine Bf 456 472 B fun B=>?_
 refine Cp rfl G (fun h16 G=>?_) fun h16 G=>?_
 refine Cc 472 488 B ?_
 exact De
 refine C8 ?_
 refine Aj <| Cc 472 520 B ?_
 refine As ?_
 obtain⟨y_5,hy_5,G⟩:=Ab G
 refine Dh (Qf _ _ _ hy_5) ?_
 refine Bd fun B=>?_
 refine Bf 520 536 B fun B=>?_
 refine Cp rfl G (fun h20 G=>?_) fun h20 G=>?_
 refine Cc 536 552 B ?_
 exact De
 refine C8 ?_
 refine Cc 536 632 B ?_
 refine As ?_
 refine I8 Ee z3 I1 ([a.Source,a.Confidence]:List Int) eI ?_
 refine As ?_
 refine I8 Ee z3 I1 ([b.Source,b.Confidence]:List Int) eI ?_
 obtain⟨y_6,hy_6,G⟩:=Ab G
 refine F9 [568,608] [] [] true (Sa _ _ _ hy_6) ?_
 exact De
theorem Zc (l:List Aa) (f:Aa) (r:(List Aa)) (G:Cs l f=some r):Fn Tryz.prog 75 0 [.row 0,.agg (Aa.dv f)] [.row 30 11 (Aq Aa.enc l)] (fun d' b'=>d'=.row 0/\b'=[.row 30 11 (Aq Aa.enc r)]):=by
 unfold Cs at G
 refine Fn.of Tryz.func75 rfl rfl rfl fun w0 I ρ0=>?_
 show B3 _ ⟨w0,I,ρ0,0,1,47⟩ _ _ _
 refine Bf 1 17 Ay fun B=>?_
 refine Bf 17 41 B fun B=>?_
 refine Aj <| Ap <| Ji (fun (k_1:Int)=>mk [(0,.row 0),(3,.ptr 1 0),(5,vk k_1)] [(0,.row 30 11 (Aq Aa.enc l)),(1,.box (Aa.dv f) 30)] 2) G (Ar [(0,0),(1,1)]) ?_
 rintro k_1 m1 o1 G hn1
 replace G:Cs.l1 l f k_1=some o1:=G
 show B3 _ _ _ _ (mk _ _ _)
 unfold Cs.l1 at G
 refine Aj <| Bo (ι:=Bool) (fun (x19_2:Bool)=>mk [(0,.row 0),(3,.ptr 1 0),(5,vk k_1),(19,.val (.bool x19_2))] [(0,.row 30 11 (Aq Aa.enc l)),(1,.box (Aa.dv f) 30)] 2) (fun (x19_2:Bool)=>Cs.j2 l f k_1 x19_2=some o1) ?_ ?_
 refine Bn (B6 _ _ []) (by kernel_rfl) [0,1,3,7,7,23,63,127,7,511,1023,2047] 2 98 Ay rfl rfl (by kernel_rfl) ?_
 refine As ?_
 rcases Dm G with ⟨h3,G⟩ | ⟨h3,G⟩
 refine As ?_
 obtain⟨e,he,G⟩:=Ab G
 refine As ?_
 refine Ln he ?_
 refine As ?_
 obtain⟨y,hy,G⟩:=Ab G
 refine Dh (Vj _ _ _ hy) ?_
 refine Bd fun B=>?_
 exact⟨decide (0 < y),G,Ar [(0,0),(1,1)]⟩
 refine Bd fun B=>?_
 exact⟨false,G,Ar [(0,0),(1,1)]⟩
 rintro x19_2 G
 replace G:Cs.j2 l f k_1 x19_2=some o1:=G
 show B3 _ _ _ _ (mk _ _ _)
 unfold Cs.j2 at G
 refine Cp rfl G (fun h6 G=>?_) fun h6 G=>?_
 refine C8 ?_
 refine Ap <| Ak (B6 _ _ []) 2 26 Ay rfl rfl ?_
 refine Bd fun B=>?_
 obtain rfl:=oi_ G
 exact⟨(W (k_1 - 1),m1),aCz _,hn1,Ar [(0,0),(1,1)]⟩
 refine Je ?_
 replace G:=Cd G hn1
 refine Aj <| Bo (ι:=Bool) (fun (x33_3:Bool)=>mk [(0,.row 0),(3,.ptr 1 0),(5,vk k_1),(33,.val (.bool x33_3))] [(0,.row 30 11 (Aq Aa.enc l)),(1,.box (Aa.dv f) 30)] 2) (fun (x33_3:Bool)=>Cs.j3 l f k_1 x33_3=some r) ?_ ?_
 refine Bn (B6 _ _ []) (by kernel_rfl) [0,1,3,7,7,23,63,127,7,511,1023,2047] 2 98 Ay rfl rfl (by kernel_rfl) ?_
 refine As ?_
 rcases Dm G with ⟨h8,G⟩ | ⟨h8,G⟩
 refine As ?_
 obtain⟨e_2,he_2,G⟩:=Ab G
 refine As ?_
 refine Ln he_2 ?_
 refine As ?_
 obtain⟨y_2,hy_2,G⟩:=Ab G
 refine Dh (Vj _ _ _ hy_2) ?_
 refine Bd fun B=>?_
 exact⟨decide (y_2=0),G,Ar [(0,0),(1,1)]⟩
 refine Bd fun B=>?_
 exact⟨false,G,Ar [(0,0),(1,1)]⟩
 rintro x33_3 G
 replace G:Cs.j3 l f k_1 x33_3=some r:=G
 show B3 _ _ _ _ (mk _ _ _)
 unfold Cs.j3 at G
 refine Cp rfl G (fun h11 G=>?_) fun h11 G=>?_
 refine Bf 2 18 Ay fun B=>?_
 refine E2 ?_
 obtain rfl:=oi_ G
 exact Gg [(0,0)] ⟨rfl,rfl⟩
 refine C8 ?_
 refine Aj <| Bn (B6 _ _ []) (by kernel_rfl) [0,0,0,6,15,0,32,127,0,0,768,2047,4095] 2 106 Ay rfl rfl (by kernel_rfl) ?_
 refine C0 rfl rfl (Fu Kl fD (by decide) rfl rfl rfl rfl I6 (cs:=[]) .nil rfl (l:=([]:List Aa)) (f:=Aa.enc) rfl) rfl rfl ?_
 refine As ?_
 obtain⟨l_2,hl_2,G⟩:=Ab G
 refine Fi (rd:=[0]) rfl rfl (Xk Kl Aa.enc_len hl_2) rfl rfl ?_
 obtain⟨l_3,hl_3,G⟩:=Ab G
 refine Fi (rd:=[2,0]) rfl rfl (Dk Kl Aa.enc_len .row rfl (.part (Zn Aa.enc_len (Ry hl_2))) (V2 Aa.enc_len _ _ _ (Ry hl_2)) hl_3 rfl) rfl rfl ?_
 refine As ?_
 refine I8 Kl fD I6 ([f]:List Aa) Aa.enc ?_
 obtain⟨l_4,hl_4,G⟩:=Ab G
 refine Fi (rd:=[34,50]) rfl rfl (Dk Kl Aa.enc_len .row rfl .row rfl hl_4 rfl) rfl rfl ?_
 refine As ?_
 obtain⟨l_5,hl_5,G⟩:=Ab G
 refine Fi (rd:=[0]) rfl rfl (Us Kl Aa.enc_len hl_5) rfl rfl ?_
 obtain⟨l_6,hl_6,G⟩:=Ab G
 refine Fi (rd:=[58,0]) rfl rfl (Dk Kl Aa.enc_len .row rfl (.part (Zn Aa.enc_len (Ry hl_5))) (V2 Aa.enc_len _ _ _ (Ry hl_5)) hl_6 rfl) rfl rfl ?_
 refine Bd fun B=>?_
 refine E2 ?_
 obtain rfl:=oi_ G
 exact Gg [(0,90)] ⟨rfl,rfl⟩
theorem Ky (l:(List Aa)) (r:(List Aa)×Int) (G:Cr l=some r):Fn Tryz.prog 43 0 [.sl 11 (Aq Aa.enc l)] [] (fun d' b'=>d'=.tup [.row 0,vk r.2]/\b'=[.row 30 11 (Aq Aa.enc r.1)]):=by
 unfold Cr at G
 refine Fn.of Tryz.func43 rfl rfl rfl fun w0 I ρ0=>?_
 show B3 _ ⟨w0,I,ρ0,0,0,38⟩ _ _ _
 refine Bf 0 16 Ay fun B=>?_
 refine Aj <| Bf 16 24 B fun B=>?_
 refine Ap <| Ji (fun (i_1:Int)=>mk [(0,.sl 11 (Aq Aa.enc l)),(4,vk i_1)] [] 0) G (Ar []) ?_
 rintro i_1 m1 o1 G hn1
 replace G:Cr.l1 l i_1=some o1:=G
 show B3 _ _ _ _ (mk _ _ _)
 unfold Cr.l1 at G
 refine Aj <| Bf 0 32 Ay fun B=>?_
 refine Cp rfl G (fun h4 G=>?_) fun h4 G=>?_
 refine C8 ?_
 refine Aj <| Ap <| Cc 32 80 B ?_
 refine As ?_
 obtain⟨e,he,G⟩:=Ab G
 refine As ?_
 refine gZ he ?_
 obtain⟨y,hy,G⟩:=Ab G
 refine Dh (Ve _ _ hy) ?_
 refine Bd fun B=>?_
 refine Bf 80 96 B fun B=>?_
 refine Cp rfl G (fun h7 G=>?_) fun h7 G=>?_
 refine Bf 96 120 B fun B=>?_
 refine E2 ?_
 replace G:=Cd G hn1
 exact Uq
 refine C8 ?_
 refine Ak (B6 _ _ []) 96 120 B rfl rfl ?_
 refine Bd fun B=>?_
 obtain rfl:=oi_ G
 exact⟨(W (i_1 + 1),m1),aCz _,hn1,Ar []⟩
 refine Je ?_
 replace G:=Cd G hn1
 refine Bf 32 40 B fun B=>?_
 refine Aj <| Bf 40 48 B fun B=>?_
 refine Ap <| Ji (fun ((i_2,out_2):Int×List Aa)=>mk [(0,.sl 11 (Aq Aa.enc l)),(6,.row 0),(7,vk i_2)] [(0,.row 30 11 (Aq Aa.enc out_2))] 1) G (Ar []) ?_
 rintro⟨i_2,out_2⟩ m2 o2 G hn2
 replace G:Cr.l2 l i_2 out_2=some o2:=G
 show B3 _ _ _ _ (mk _ _ _)
 unfold Cr.l2 at G
 refine Aj <| Bf 1 33 Ay fun B=>?_
 refine Cp rfl G (fun h13 G=>?_) fun h13 G=>?_
 refine C8 ?_
 refine Aj <| Ap <| Cc 33 89 B ?_
 refine As ?_
 obtain⟨e_2,he_2,G⟩:=Ab G
 refine As ?_
 refine gZ he_2 ?_
 obtain⟨y_2,hy_2,G⟩:=Ab G
 refine F0 (rd:=[0]) (ps:=[]) (gs:=[0]) false rfl (Zc _ _ _ hy_2) rfl rfl (.cons (.rowK rfl) (.cons (.agg (.cons .val (.cons .val (.cons .val (.cons .val (.cons .val (.cons .val (.cons .val (.cons .val (.cons .val (.cons .val (.cons .val .nil)))))))))))) .nil)) ⟨_,_,_,rfl,.head _,rfl,rfl⟩ rfl (by intro h; cases h) rfl (by intro h; first | (cases h; done) | exact⟨_,_,⟨rfl,rfl⟩,by simp,by simp⟩) ?_
 rintro _ _ ⟨rfl,rfl⟩
 refine Bd fun B=>?_
 refine Bf 89 113 B fun B=>?_
 refine Cp rfl G (fun h16 G=>?_) fun h16 G=>?_
 refine Bf 113 129 B fun B=>?_
 refine E2 ?_
 replace G:=Cd G hn2
 exact Uq
 refine C8 ?_
 refine Ak (B6 _ _ []) 113 137 B rfl rfl ?_
 refine Bd fun B=>?_
 obtain rfl:=oi_ G
 exact⟨((W (i_2 + 1),y_2),m2),aCz _,hn2,Ar [(0,73)]⟩
 refine Je ?_
 replace G:=Cd G hn2
 refine Bf 33 57 B fun B=>?_
 refine E2 ?_
 obtain rfl:=oi_ G
 exact Gg [(0,0)] ⟨rfl,rfl⟩
theorem Tp (at':Aa) (e:Av) (r:(List Aa)×Int) (G:Bw at' e=some r):Fn Tryz.prog 17 0 [.agg (Aa.dv at'),.agg (Av.dv e)] [] (fun d' b'=>d'=.tup [.sl 11 (Aq Aa.enc r.1),vk r.2]/\b'=[]):=by
 unfold Bw at G
 refine Fn.of Tryz.func17 rfl rfl rfl fun w0 I ρ0=>?_
 show B3 _ ⟨w0,I,ρ0,0,0,116⟩ _ _ _
 refine Bf 0 32 Ay fun B=>?_
 refine Cc 32 96 B ?_
 refine As ?_
 obtain⟨y,hy,G⟩:=Ab G
 refine Dh (Ny _ _ hy) ?_
 refine Bd fun B=>?_
 refine Aj <| Bf 96 112 B fun B=>?_
 refine Cp rfl G (fun h4 G=>?_) fun h4 G=>?_
 refine Cc 112 136 B ?_
 exact De
 refine C8 ?_
 refine Aj <| Cc 112 136 B ?_
 refine As ?_
 obtain⟨y_2,hy_2,G⟩:=Ab G
 refine Dh (cT _ _ hy_2) ?_
 refine Bd fun B=>?_
 refine Bf 136 152 B fun B=>?_
 refine Cp rfl G (fun h8 G=>?_) fun h8 G=>?_
 refine Cc 152 176 B ?_
 exact De
 refine C8 ?_
 refine Aj <| Bn (B6 _ _ []) (by kernel_rfl) [0,0,2,7,0,0,32,127,255,511] 152 232 B rfl rfl (by kernel_rfl) ?_
 refine As ?_
 obtain⟨y_3,hy_3,G⟩:=Ab G
 refine Dh (Jp _ _ _ _ hy_3) ?_
 refine As ?_
 obtain⟨y_4,hy_4,G⟩:=Ab G
 refine Dh (Jp _ _ _ _ hy_4) ?_
 refine I8 Kl fD I6 ([y_3,y_4]:List Aa) Aa.enc ?_
 refine Bd fun B=>?_
 refine Aj <| Bf 232 240 B fun B=>?_
 refine Ap <| Ji (fun ((i_1,l_1):Int×List Aa)=>mk [(3,.ptr 0 0),(6,.ptr 1 0),(9,.row 2),(10,vk i_1)] [(0,.box (Av.dv e) 34),(1,.box (Aa.dv y.1) 30),(2,.row 30 11 (Aq Aa.enc l_1))] 3) G (Ar [(0,8),(1,72),(2,216)]) ?_
 rintro⟨i_1,l_1⟩ m1 o1 G hn1
 replace G:Bw.l1 e y i_1 l_1=some o1:=G
 show B3 _ _ _ _ (mk _ _ _)
 unfold Bw.l1 at G
 refine Aj <| Bf 3 43 Ay fun B=>?_
 refine Cp rfl G (fun h13 G=>?_) fun h13 G=>?_
 refine C8 ?_
 refine Aj <| Ap <| Bn (B6 _ _ []) (by kernel_rfl) [0,0,0,4,0,28,60,126,254,511,1023] 43 131 B rfl rfl (by kernel_rfl) ?_
 refine As ?_
 obtain⟨e_2,he_2,G⟩:=Ab G
 refine As ?_
 refine No he_2 ?_
 obtain⟨y_5,hy_5,G⟩:=Ab G
 refine Dh (Jp _ _ _ _ hy_5) ?_
 refine I8 Kl fD I6 ([y_5]:List Aa) Aa.enc ?_
 obtain⟨l,hl,G⟩:=Ab G
 refine Fi (rd:=[2,107]) rfl rfl (Dk Kl Aa.enc_len .row rfl .row rfl hl rfl) rfl rfl ?_
 refine Bd fun B=>?_
 refine Ak (B6 _ _ []) 131 155 B rfl rfl ?_
 refine Bd fun B=>?_
 obtain rfl:=oi_ G
 exact⟨((W (i_1 + 1),l),m1),aCz _,hn1,Ar [(0,0),(1,1),(2,115)]⟩
 refine Je ?_
 replace G:=Cd G hn1
 refine Aj <| Bf 43 51 B fun B=>?_
 refine Ap <| Ji (fun ((i_2,l_2):Int×List Aa)=>mk [(3,.ptr 0 0),(6,.ptr 1 0),(9,.row 2),(11,vk i_2)] [(0,.box (Av.dv e) 34),(1,.box (Aa.dv y.1) 30),(2,.row 30 11 (Aq Aa.enc l_2))] 3) G (Ar [(0,0),(1,1),(2,2)]) ?_
 rintro⟨i_2,l_2⟩ m2 o2 G hn2
 replace G:Bw.l2 e y i_2 l_2=some o2:=G
 show B3 _ _ _ _ (mk _ _ _)
 unfold Bw.l2 at G
 refine Aj <| Bf 3 43 Ay fun B=>?_
 refine Cp rfl G (fun h18 G=>?_) fun h18 G=>?_
 refine C8 ?_
 refine Aj <| Ap <| Bn (B6 _ _ []) (by kernel_rfl) [0,0,0,4,0,28,60,124,0,256,0,1792,3840,7936,16382,32766,65535,131071] 43 187 B rfl rfl (by kernel_rfl) ?_
 refine As ?_
 obtain⟨e_3,he_3,G⟩:=Ab G
 refine As ?_
 refine C0 rfl rfl (Fo mI Vv (by decide) (H4 A9.enc_len (Bq he_3) (o:=0) (by decide) rfl)) rfl rfl ?_
 refine C0 rfl rfl (D5 Vv (Gd A9.enc_len (Bq he_3) (o:=0) (m:=2) (cs:=[.int .i64 e_3.Key.Alg,.int .i64 e_3.Key.Bits]) rfl (by decide) rfl) (Eg A9.enc_len (Bq he_3) (o:=0) (m:=2) (by decide) rfl)) rfl rfl ?_
 refine As ?_
 refine C0 rfl rfl (Fo lL Yl (by decide) (H4 A9.enc_len (Bq he_3) (o:=2) (by decide) rfl)) rfl rfl ?_
 refine C0 rfl rfl (Do Yl (Ew A9.enc_len (Bq he_3) (o:=2) (c:=.int .i64 e_3.KeyId) rfl rfl)) rfl rfl ?_
 obtain⟨y_6,hy_6,G⟩:=Ab G
 refine Dh (Li _ _ _ _ _ hy_6) ?_
 refine I8 Kl fD I6 ([y_6]:List Aa) Aa.enc ?_
 obtain⟨l_3,hl_3,G⟩:=Ab G
 refine Fi (rd:=[2,163]) rfl rfl (Dk Kl Aa.enc_len .row rfl .row rfl hl_3 rfl) rfl rfl ?_
 refine Bd fun B=>?_
 refine Ak (B6 _ _ []) 187 211 B rfl rfl ?_
 refine Bd fun B=>?_
 obtain rfl:=oi_ G
 exact⟨((W (i_2 + 1),l_3),m2),aCz _,hn2,Ar [(0,0),(1,1),(2,171)]⟩
 refine Je ?_
 replace G:=Cd G hn2
 refine Aj <| Bf 43 51 B fun B=>?_
 refine Ap <| Ji (fun ((i_3,l_3_2):Int×List Aa)=>mk [(3,.ptr 0 0),(6,.ptr 1 0),(9,.row 2),(12,vk i_3)] [(0,.box (Av.dv e) 34),(1,.box (Aa.dv y.1) 30),(2,.row 30 11 (Aq Aa.enc l_3_2))] 3) G (Ar [(0,0),(1,1),(2,2)]) ?_
 rintro⟨i_3,l_3_2⟩ m3 o3 G hn3
 replace G:Bw.l3 e y i_3 l_3_2=some o3:=G
 show B3 _ _ _ _ (mk _ _ _)
 unfold Bw.l3 at G
 refine Aj <| Bf 3 43 Ay fun B=>?_
 refine Cp rfl G (fun h23 G=>?_) fun h23 G=>?_
 refine C8 ?_
 refine Aj <| Ap <| Bn (B6 _ _ []) (by kernel_rfl) [0,0,0,4,0,28,60,126,254,511,1023] 43 131 B rfl rfl (by kernel_rfl) ?_
 refine As ?_
 obtain⟨e_4,he_4,G⟩:=Ab G
 refine As ?_
 refine No he_4 ?_
 obtain⟨y_7,hy_7,G⟩:=Ab G
 refine Dh (Jp _ _ _ _ hy_7) ?_
 refine I8 Kl fD I6 ([y_7]:List Aa) Aa.enc ?_
 obtain⟨l_4,hl_4,G⟩:=Ab G
 refine Fi (rd:=[2,107]) rfl rfl (Dk Kl Aa.enc_len .row rfl .row rfl hl_4 rfl) rfl rfl ?_
 refine Bd fun B=>?_
 refine Ak (B6 _ _ []) 131 155 B rfl rfl ?_
 refine Bd fun B=>?_
 obtain rfl:=oi_ G
 exact⟨((W (i_3 + 1),l_4),m3),aCz _,hn3,Ar [(0,0),(1,1),(2,115)]⟩
 refine Je ?_
 replace G:=Cd G hn3
 refine Aj <| Bf 43 51 B fun B=>?_
 refine Ap <| Ji (fun ((i_4,l_4_2):Int×List Aa)=>mk [(3,.ptr 0 0),(6,.ptr 1 0),(9,.row 2),(13,vk i_4)] [(0,.box (Av.dv e) 34),(1,.box (Aa.dv y.1) 30),(2,.row 30 11 (Aq Aa.enc l_4_2))] 3) G (Ar [(0,0),(1,1),(2,2)]) ?_
 rintro⟨i_4,l_4_2⟩ m4 o4 G hn4
 replace G:Bw.l4 e y i_4 l_4_2=some o4:=G
 show B3 _ _ _ _ (mk _ _ _)
 unfold Bw.l4 at G
 refine Aj <| Bf 3 43 Ay fun B=>?_
 refine Cp rfl G (fun h28 G=>?_) fun h28 G=>?_
 refine C8 ?_
 refine Aj <| Ap <| Bn (B6 _ _ []) (by kernel_rfl) [0,0,0,4,0,28,60,124,254,510,1023,2047] 43 139 B rfl rfl (by kernel_rfl) ?_
 refine As ?_
 obtain⟨e_5,he_5,G⟩:=Ab G
 refine As ?_
 refine No he_5 ?_
 refine Lq Hj Lc S6 ?_
 obtain⟨y_8,hy_8,G⟩:=Ab G
 refine Dh (Li _ _ _ _ _ hy_8) ?_
 refine I8 Kl fD I6 ([y_8]:List Aa) Aa.enc ?_
 obtain⟨l_5,hl_5,G⟩:=Ab G
 refine Fi (rd:=[2,115]) rfl rfl (Dk Kl Aa.enc_len .row rfl .row rfl hl_5 rfl) rfl rfl ?_
 refine Bd fun B=>?_
 refine Ak (B6 _ _ []) 139 163 B rfl rfl ?_
 refine Bd fun B=>?_
 obtain rfl:=oi_ G
 exact⟨((W (i_4 + 1),l_5),m4),aCz _,hn4,Ar [(0,0),(1,1),(2,123)]⟩
 refine Je ?_
 replace G:=Cd G hn4
 refine Cc 43 91 B ?_
 refine As ?_
 obtain⟨y_9,hy_9,G⟩:=Ab G
 refine F0 (rd:=[2]) (ps:=[]) (gs:=[]) true rfl (Ky _ _ hy_9) rfl rfl (.cons (.row rfl (.head _) rfl) .nil) rfl rfl (by rintro - _ _ ⟨rfl,rfl⟩; exact⟨by simp [Jf,K5],fb_⟩) rfl (by intro h; first | (cases h; done) | exact⟨_,_,⟨rfl,rfl⟩,by simp,by simp⟩) ?_
 rintro _ _ ⟨rfl,rfl⟩
 exact De
end Go.Proofs.YtchpcpaacenodaaGreat
