import Derived.Test.YtchpcpaacenodaaGreatT1
import Derived.Test.YtchpcpaacenodaaGreatA1
set_option linter.unusedVariables false
set_option linter.unusedSimpArgs false
set_option maxRecDepth 100000
set_option maxHeartbeats 1600000
namespace Go.Proofs.YtchpcpaacenodaaGreat
open Go.RowKit
theorem Ki (n:Int) (r:Bool) (G:E4 n=some r):Fn Tryz.prog 65 0 [vk n] [] (fun d' b'=>d'=.val (.bool r)/\b'=[]):=by
 unfold E4 at G
 refine Fn.of Tryz.func65 rfl rfl rfl fun w0 I ρ0=>?_
 show B3 _ ⟨w0,I,ρ0,0,0,9⟩ _ _ _
 refine Bf 0 8 Ay fun B=>?_
 refine Cc 8 64 B ?_
 refine As ?_
 rcases Dm G with ⟨h2,G⟩ | ⟨h2,G⟩
 exact De
 exact De
theorem U1 (l:(List ByteArray)) (r:Bool) (G:B9 l=some r):Fn Tryz.prog 146 0 [.sl 1 (Aq eS l)] [] (fun d' b'=>d'=.val (.bool r)/\b'=[]):=by
 unfold B9 at G
 refine Fn.of Tryz.func146 rfl rfl rfl fun w0 I ρ0=>?_
 show B3 _ ⟨w0,I,ρ0,0,0,32⟩ _ _ _
 refine Bf 0 8 Ay fun B=>?_
 refine Aj <| Bf 8 32 B fun B=>?_
 refine Ap <| Ji (fun (x7_1:Int)=>mk [(0,.sl 1 (Aq eS l)),(5,.sl 1 (Aq eS l)),(6,.val (.int .i64 (l.length:Int))),(7,vk x7_1)] [] 0) G (Ar []) ?_
 rintro x7_1 m1 o1 G hn1
 replace G:B9.l1 l x7_1=some o1:=G
 show B3 _ _ _ _ (mk _ _ _)
 unfold B9.l1 at G
 refine Bf 0 8 Ay fun B=>?_
 refine Aj <| Cp rfl G (fun h4 G=>?_) fun h4 G=>?_
 refine C8 ?_
 refine Aj <| Ap <| Cc 8 48 B ?_
 refine As ?_
 obtain⟨e,he,G⟩:=Ab G
 refine As ?_
 refine No he ?_
 refine Bd fun B=>?_
 refine Bo (ι:=Bool) (fun (x27_2:Bool)=>mk [(0,.sl 1 (Aq eS l)),(5,.sl 1 (Aq eS l)),(6,.val (.int .i64 (l.length:Int))),(7,vk x7_1),(27,.val (.bool x27_2))] [] 0) (fun (x27_2:Bool)=>B9.j2 x7_1 x27_2=some o1) ?_ ?_
 refine Ak (B6 _ _ []) 48 176 B rfl rfl ?_
 refine As ?_
 obtain⟨y,hy,G⟩:=Ab G
 refine Dh (Hx _ _ hy) ?_
 refine As ?_
 rcases Dm G with ⟨h6,G⟩ | ⟨h6,G⟩
 refine Bd fun B=>?_
 exact⟨true,G,Ar []⟩
 refine As ?_
 rcases Dm G with ⟨h8,G⟩ | ⟨h8,G⟩
 refine As ?_
 obtain⟨e_2,he_2,G⟩:=Ab G
 refine As ?_
 refine No he_2 ?_
 refine As ?_
 refine C0 (Eb rfl rfl h8) rfl gY rfl rfl ?_
 refine Bd fun B=>?_
 exact⟨!Kz (Hg e_2) (Hg e),G,Ar []⟩
 refine Bd fun B=>?_
 exact⟨false,G,Ar []⟩
 rintro x27_2 G
 replace G:B9.j2 x7_1 x27_2=some o1:=G
 show B3 _ _ _ _ (mk _ _ _)
 unfold B9.j2 at G
 refine Cp rfl G (fun h11 G=>?_) fun h11 G=>?_
 refine Bf 0 8 Ay fun B=>?_
 refine E2 ?_
 replace G:=Cd G hn1
 exact Uq
 refine C8 ?_
 refine Ak (B6 _ _ []) 0 16 Ay rfl rfl ?_
 refine Bd fun B=>?_
 obtain rfl:=oi_ G
 exact⟨(W (x7_1 + 1),m1),aCz _,hn1,Ar []⟩
 refine Je ?_
 replace G:=Cd G hn1
 refine Bf 8 40 B fun B=>?_
 exact Lf
theorem Qr (u:Am) (kind:Int) (r:Bool) (G:Ih u kind=some r):Fn Tryz.prog 147 0 [.agg [vk u.Alg,vk u.Bits],vk kind] [] (fun d' b'=>d'=.val (.bool r)/\b'=[]):=by
 unfold Ih at G
 refine Fn.of Tryz.func147 rfl rfl rfl fun w0 I ρ0=>?_
 show B3 _ ⟨w0,I,ρ0,0,0,14⟩ _ _ _
 refine Bf 0 16 Ay fun B=>?_
 refine Cc 16 96 B ?_
 refine As ?_
 obtain⟨y,hy,G⟩:=Ab G
 refine Dh (J3 _ _ hy) ?_
 refine As ?_
 rcases Dm G with ⟨h2,G⟩ | ⟨h2,G⟩
 refine As ?_
 obtain⟨y_2,hy_2,G⟩:=Ab G
 refine Dh (L5 _ _ hy_2) ?_
 exact De
 exact De
theorem Wi (n:Int) (r:Bool) (G:I4 n=some r):Fn Tryz.prog 148 0 [vk n] [] (fun d' b'=>d'=.val (.bool r)/\b'=[]):=by
 unfold I4 at G
 refine Fn.of Tryz.func148 rfl rfl rfl fun w0 I ρ0=>?_
 show B3 _ ⟨w0,I,ρ0,0,0,9⟩ _ _ _
 refine Bf 0 8 Ay fun B=>?_
 refine Cc 8 64 B ?_
 refine As ?_
 rcases Dm G with ⟨h2,G⟩ | ⟨h2,G⟩
 exact De
 exact De
theorem U2 (c:Af) (r:Bool) (G:Bi c=some r):Fn Tryz.prog 127 0 [.agg (Af.dv c)] [] (fun d' b'=>d'=.val (.bool r)/\b'=[]):=by
 unfold Bi at G
 refine Fn.of Tryz.func127 rfl rfl rfl fun w0 I ρ0=>?_
 show B3 _ ⟨w0,I,ρ0,0,0,91⟩ _ _ _
 refine Bf 0 16 Ay fun B=>?_
 refine Aj <| Bo (ι:=Bool) (fun (x28_1:Bool)=>mk [(1,.ptr 0 0),(28,.val (.bool x28_1))] [(0,.box (Af.dv c) 104)] 1) (fun (x28_1:Bool)=>Bi.j1 c x28_1=some r) ?_ ?_
 refine Ak (B6 _ _ []) 16 224 B rfl rfl ?_
 refine As ?_
 rcases Dm G with ⟨h2,G⟩ | ⟨h2,G⟩
 refine Bd fun B=>?_
 exact⟨true,G,Ar [(0,0)]⟩
 refine As ?_
 rcases Dm G with ⟨h4,G⟩ | ⟨h4,G⟩
 refine Bd fun B=>?_
 exact⟨true,G,Ar [(0,0)]⟩
 refine As ?_
 obtain⟨y,hy,G⟩:=Ab G
 refine Dh (Hx _ _ hy) ?_
 refine As ?_
 rcases Dm G with ⟨h6,G⟩ | ⟨h6,G⟩
 refine Bd fun B=>?_
 exact⟨true,G,Ar [(0,0)]⟩
 refine As ?_
 obtain⟨y_2,hy_2,G⟩:=Ab G
 refine Dh (Hx _ _ hy_2) ?_
 refine As ?_
 rcases Dm G with ⟨h8,G⟩ | ⟨h8,G⟩
 refine Bd fun B=>?_
 exact⟨true,G,Ar [(0,0)]⟩
 refine As ?_
 obtain⟨y_3,hy_3,G⟩:=Ab G
 refine Dh (U1 _ _ hy_3) ?_
 refine Bd fun B=>?_
 exact⟨!y_3,G,Ar [(0,0)]⟩
 rintro x28_1 G
 replace G:Bi.j1 c x28_1=some r:=G
 show B3 _ _ _ _ (mk _ _ _)
 unfold Bi.j1 at G
 refine Cp rfl G (fun h11 G=>?_) fun h11 G=>?_
 refine Cc 1 9 Ay ?_
 exact De
 refine C8 ?_
 refine Aj <| Bo (ι:=Bool) (fun (x58_2:Bool)=>mk [(1,.ptr 0 0),(58,.val (.bool x58_2))] [(0,.box (Af.dv c) 104)] 1) (fun (x58_2:Bool)=>Bi.j2 c x58_2=some r) ?_ ?_
 refine Ak (B6 _ _ []) 1 241 Ay rfl rfl ?_
 refine As ?_
 obtain⟨y_4,hy_4,G⟩:=Ab G
 refine Dh (Qr _ _ _ hy_4) ?_
 refine As ?_
 rcases Dm G with ⟨h13,G⟩ | ⟨h13,G⟩
 refine Bd fun B=>?_
 exact⟨true,G,Ar [(0,0)]⟩
 refine As ?_
 obtain⟨y_5,hy_5,G⟩:=Ab G
 refine Dh (Ki _ _ hy_5) ?_
 refine As ?_
 rcases Dm G with ⟨h15,G⟩ | ⟨h15,G⟩
 refine Bd fun B=>?_
 exact⟨true,G,Ar [(0,0)]⟩
 refine As ?_
 obtain⟨y_6,hy_6,G⟩:=Ab G
 refine Dh (Qr _ _ _ hy_6) ?_
 refine As ?_
 rcases Dm G with ⟨h17,G⟩ | ⟨h17,G⟩
 refine Bd fun B=>?_
 exact⟨true,G,Ar [(0,0)]⟩
 refine As ?_
 obtain⟨y_7,hy_7,G⟩:=Ab G
 refine Dh (Ki _ _ hy_7) ?_
 refine As ?_
 rcases Dm G with ⟨h19,G⟩ | ⟨h19,G⟩
 refine Bd fun B=>?_
 exact⟨true,G,Ar [(0,0)]⟩
 refine As ?_
 obtain⟨y_8,hy_8,G⟩:=Ab G
 refine Dh (Wi _ _ hy_8) ?_
 refine Bd fun B=>?_
 exact⟨!y_8,G,Ar [(0,0)]⟩
 rintro x58_2 G
 replace G:Bi.j2 c x58_2=some r:=G
 show B3 _ _ _ _ (mk _ _ _)
 unfold Bi.j2 at G
 refine Cp rfl G (fun h22 G=>?_) fun h22 G=>?_
 refine Cc 1 9 Ay ?_
 exact De
 refine C8 ?_
 refine Aj <| Bo (ι:=Bool) (fun (x73_3:Bool)=>mk [(1,.ptr 0 0),(73,.val (.bool x73_3))] [(0,.box (Af.dv c) 104)] 1) (fun (x73_3:Bool)=>Bi.j3 c x73_3=some r) ?_ ?_
 refine Ak (B6 _ _ []) 1 121 Ay rfl rfl ?_
 refine As ?_
 rcases Dm G with ⟨h24,G⟩ | ⟨h24,G⟩
 refine Bd fun B=>?_
 exact⟨true,G,Ar [(0,0)]⟩
 refine As ?_
 rcases Dm G with ⟨h26,G⟩ | ⟨h26,G⟩
 refine Bd fun B=>?_
 exact⟨true,G,Ar [(0,0)]⟩
 refine Bd fun B=>?_
 exact⟨decide (40000 < c.To),G,Ar [(0,0)]⟩
 rintro x73_3 G
 replace G:Bi.j3 c x73_3=some r:=G
 show B3 _ _ _ _ (mk _ _ _)
 unfold Bi.j3 at G
 refine Cp rfl G (fun h29 G=>?_) fun h29 G=>?_
 refine Cc 1 9 Ay ?_
 exact De
 refine C8 ?_
 refine Cc 1 145 Ay ?_
 refine As ?_
 rcases Dm G with ⟨h31,G⟩ | ⟨h31,G⟩
 refine As ?_
 rcases Dm G with ⟨h32,G⟩ | ⟨h32,G⟩
 refine As ?_
 rcases Dm G with ⟨h33,G⟩ | ⟨h33,G⟩
 exact De
 exact De
 exact De
 exact De
theorem U7 (c:Af) (r:Int) (G:H2 c=some r):Fn Tryz.prog 88 0 [.agg (Af.dv c)] [] (fun d' b'=>d'=vk r/\b'=[]):=by
 unfold H2 at G
 refine Fn.of Tryz.func88 rfl rfl rfl fun w0 I ρ0=>?_
 show B3 _ ⟨w0,I,ρ0,0,0,6⟩ _ _ _
 refine Bf 0 16 Ay fun B=>?_
 refine Aj <| Cc 16 40 B ?_
 refine As ?_
 obtain⟨y,hy,G⟩:=Ab G
 refine Dh (U2 _ _ hy) ?_
 refine Bd fun B=>?_
 refine Cp rfl G (fun h3 G=>?_) fun h3 G=>?_
 refine Cc 40 48 B ?_
 exact De
 refine C8 ?_
 refine Bf 40 48 B fun B=>?_
 exact Lf
theorem Ml (key:Am) (id:Int) (l:(List Af)) (r:Bool) (G:Bx key id l=some r):Fn Tryz.prog 61 0 [.agg [vk key.Alg,vk key.Bits],vk id,.sl 15 (Aq Af.enc l)] [] (fun d' b'=>d'=.val (.bool r)/\b'=[]):=by
 unfold Bx at G
 refine Fn.of Tryz.func61 rfl rfl rfl fun w0 I ρ0=>?_
 show B3 _ ⟨w0,I,ρ0,0,0,57⟩ _ _ _
 refine Bf 0 16 Ay fun B=>?_
 refine Aj <| Bo (ι:=Bool) (fun (x27_1:Bool)=>mk [(1,vk id),(2,.sl 15 (Aq Af.enc l)),(3,.ptr 0 0),(27,.val (.bool x27_1))] [(0,.box [vk key.Alg,vk key.Bits] 28)] 1) (fun (x27_1:Bool)=>Bx.j1 key id l x27_1=some r) ?_ ?_
 refine Ak (B6 _ _ []) 16 168 B rfl rfl ?_
 refine As ?_
 obtain⟨y,hy,G⟩:=Ab G
 refine Dh (J3 _ _ hy) ?_
 refine As ?_
 rcases Dm G with ⟨h2,G⟩ | ⟨h2,G⟩
 refine Bd fun B=>?_
 exact⟨true,G,Ar [(0,0)]⟩
 refine As ?_
 obtain⟨y_2,hy_2,G⟩:=Ab G
 refine Dh (L5 _ _ hy_2) ?_
 refine As ?_
 rcases Dm G with ⟨h4,G⟩ | ⟨h4,G⟩
 refine Bd fun B=>?_
 exact⟨true,G,Ar [(0,0)]⟩
 refine As ?_
 obtain⟨y_3,hy_3,G⟩:=Ab G
 refine Dh (Ki _ _ hy_3) ?_
 refine As ?_
 rcases Dm G with ⟨h6,G⟩ | ⟨h6,G⟩
 refine Bd fun B=>?_
 exact⟨true,G,Ar [(0,0)]⟩
 refine Bd fun B=>?_
 exact⟨decide (8 < (l.length:Int)),G,Ar [(0,0)]⟩
 rintro x27_1 G
 replace G:Bx.j1 key id l x27_1=some r:=G
 show B3 _ _ _ _ (mk _ _ _)
 unfold Bx.j1 at G
 refine Cp rfl G (fun h9 G=>?_) fun h9 G=>?_
 refine Cc 1 9 Ay ?_
 exact De
 refine C8 ?_
 refine Aj <| Bf 1 25 Ay fun B=>?_
 refine Ap <| Ji (fun (x30_2:Int)=>mk [(1,vk id),(2,.sl 15 (Aq Af.enc l)),(3,.ptr 0 0),(28,.sl 15 (Aq Af.enc l)),(29,.val (.int .i64 (l.length:Int))),(30,vk x30_2)] [(0,.box [vk key.Alg,vk key.Bits] 28)] 1) G (Ar [(0,0)]) ?_
 rintro x30_2 m2 o2 G hn2
 replace G:Bx.l2 key id l x30_2=some o2:=G
 show B3 _ _ _ _ (mk _ _ _)
 unfold Bx.l2 at G
 refine Bf 1 9 Ay fun B=>?_
 refine Aj <| Cp rfl G (fun h13 G=>?_) fun h13 G=>?_
 refine C8 ?_
 refine Aj <| Ap <| Cc 9 41 B ?_
 obtain⟨e,he,G⟩:=Ab G
 refine As ?_
 refine gZ he ?_
 refine Bd fun B=>?_
 refine Cc 41 65 B ?_
 refine As ?_
 obtain⟨y_4,hy_4,G⟩:=Ab G
 refine Dh (U7 _ _ hy_4) ?_
 refine Bd fun B=>?_
 refine Cp rfl G (fun h16 G=>?_) fun h16 G=>?_
 refine Bf 65 73 B fun B=>?_
 refine E2 ?_
 replace G:=Cd G hn2
 exact Uq
 refine C8 ?_
 refine Ak (B6 _ _ []) 65 81 B rfl rfl ?_
 refine Bd fun B=>?_
 obtain rfl:=oi_ G
 exact⟨(W (x30_2 + 1),m2),aCz _,hn2,Ar [(0,0)]⟩
 refine Je ?_
 replace G:=Cd G hn2
 refine Aj <| Bn (B6 _ _ []) (by kernel_rfl) [0,1,3,7,15,31,63,127,15,511,1023,2047,4095,8191,16383,2047,65535,131071,262143,524287] 9 169 B rfl rfl (by kernel_rfl) ?_
 refine As ?_
 rcases Dm G with ⟨h19,G⟩ | ⟨h19,G⟩
 exact De
 refine As ?_
 obtain⟨e_2,he_2,G⟩:=Ab G
 refine As ?_
 refine C0 (Eb rfl rfl h19) rfl (Fo gU Vv (by decide) (H4 Af.enc_len (Bq he_2) (o:=3) (by decide) rfl)) rfl rfl ?_
 refine C0 (Eb rfl rfl h19) rfl (D5 Vv (Gd Af.enc_len (Bq he_2) (o:=3) (m:=2) (cs:=[.int .i64 e_2.Key.Alg,.int .i64 e_2.Key.Bits]) rfl (by decide) rfl) (Eg Af.enc_len (Bq he_2) (o:=3) (m:=2) (by decide) rfl)) rfl rfl ?_
 refine As ?_
 refine C0 (Eb rfl rfl h19) rfl (O6 e_2.Key key) rfl rfl ?_
 refine As ?_
 rcases Dm G with ⟨h21,G⟩ | ⟨h21,G⟩
 refine As ?_
 refine C0 (Eb rfl rfl h21) rfl (Fo fP Yl (by decide) (H4 Af.enc_len (Bq he_2) (o:=5) (by decide) rfl)) rfl rfl ?_
 refine C0 (Eb rfl rfl h21) rfl (Do Yl (Ew Af.enc_len (Bq he_2) (o:=5) (c:=.int .i64 e_2.KeyId) rfl rfl)) rfl rfl ?_
 exact De
 exact De
theorem Xy (l:(List Ax)) (r:Int) (G:Bz l=some r):Fn Tryz.prog 44 0 [.sl 6 (Aq Ax.enc l)] [] (fun d' b'=>d'=vk r/\b'=[]):=by
 unfold Bz at G
 refine Fn.of Tryz.func44 rfl rfl rfl fun w0 I ρ0=>?_
 show B3 _ ⟨w0,I,ρ0,0,0,45⟩ _ _ _
 refine Bf 0 8 Ay fun B=>?_
 refine Aj <| Bf 8 32 B fun B=>?_
 refine Ap <| Ji (fun (x7_1:Int)=>mk [(0,.sl 6 (Aq Ax.enc l)),(5,.sl 6 (Aq Ax.enc l)),(6,.val (.int .i64 (l.length:Int))),(7,vk x7_1)] [] 0) G (Ar []) ?_
 rintro x7_1 m1 o1 G hn1
 replace G:Bz.l1 l x7_1=some o1:=G
 show B3 _ _ _ _ (mk _ _ _)
 unfold Bz.l1 at G
 refine Bf 0 8 Ay fun B=>?_
 refine Aj <| Cp rfl G (fun h4 G=>?_) fun h4 G=>?_
 refine C8 ?_
 refine Aj <| Ap <| Cc 8 56 B ?_
 refine As ?_
 obtain⟨e,he,G⟩:=Ab G
 refine As ?_
 refine gZ he ?_
 refine Bd fun B=>?_
 refine Bo (ι:=Bool) (fun (x40_2:Bool)=>mk [(0,.sl 6 (Aq Ax.enc l)),(5,.sl 6 (Aq Ax.enc l)),(6,.val (.int .i64 (l.length:Int))),(7,vk x7_1),(40,.val (.bool x40_2))] [] 0) (fun (x40_2:Bool)=>Bz.j2 x7_1 x40_2=some o1) ?_ ?_
 refine Bn (B6 _ _ []) (by kernel_rfl) [0,1,3,7,15,31,63,127,255,255,767,2047,4095,8191,255,16639,65535,131071,262143,524287,1048575,2097151,1048575,5242879,1048575,17825791,67108863,134217727,268435455] 56 288 B rfl rfl (by kernel_rfl) ?_
 refine As ?_
 obtain⟨y,hy,G⟩:=Ab G
 refine Dh (Hx _ _ hy) ?_
 refine As ?_
 rcases Dm G with ⟨h6,G⟩ | ⟨h6,G⟩
 refine Bd fun B=>?_
 exact⟨true,G,Ar []⟩
 refine As ?_
 rcases Dm G with ⟨h8,G⟩ | ⟨h8,G⟩
 refine As ?_
 obtain⟨e_2,he_2,G⟩:=Ab G
 refine As ?_
 refine C0 (Eb rfl rfl h8) rfl (Fo aP sE (by decide) (H4 Ax.enc_len (Bq he_2) (o:=0) (by decide) rfl)) rfl rfl ?_
 refine C0 (Eb rfl rfl h8) rfl (Do sE (Ew Ax.enc_len (Bq he_2) (o:=0) (c:=.str e_2.Alias) rfl rfl)) rfl rfl ?_
 refine As ?_
 refine C0 (Eb rfl rfl h8) rfl gY rfl rfl ?_
 refine As ?_
 rcases Dm G with ⟨h9,G⟩ | ⟨h9,G⟩
 refine Bd fun B=>?_
 exact⟨true,G,Ar []⟩
 refine As ?_
 obtain⟨y_2,hy_2,G⟩:=Ab G
 refine Dh (Ml _ _ _ _ hy_2) ?_
 refine Bd fun B=>?_
 exact⟨!y_2,G,Ar []⟩
 refine As ?_
 obtain⟨y_3,hy_3,G⟩:=Ab G
 refine Dh (Ml _ _ _ _ hy_3) ?_
 refine Bd fun B=>?_
 exact⟨!y_3,G,Ar []⟩
 rintro x40_2 G
 replace G:Bz.j2 x7_1 x40_2=some o1:=G
 show B3 _ _ _ _ (mk _ _ _)
 unfold Bz.j2 at G
 refine Cp rfl G (fun h13 G=>?_) fun h13 G=>?_
 refine Bf 0 8 Ay fun B=>?_
 refine E2 ?_
 replace G:=Cd G hn1
 exact Uq
 refine C8 ?_
 refine Ak (B6 _ _ []) 0 16 Ay rfl rfl ?_
 refine Bd fun B=>?_
 obtain rfl:=oi_ G
 exact⟨(W (x7_1 + 1),m1),aCz _,hn1,Ar []⟩
 refine Je ?_
 replace G:=Cd G hn1
 refine Aj <| Bf 8 32 B fun B=>?_
 refine Cp rfl G (fun h17 G=>?_) fun h17 G=>?_
 refine Cc 32 40 B ?_
 exact De
 refine C8 ?_
 refine Bf 32 40 B fun B=>?_
 exact Lf
theorem D9 (p:Dv) (kind:Int) (u:Am) (number:Int) (r:Dv) (G:Cw p kind u number=some r):Fn Tryz.prog 37 1 [.ptr 0 0,vk kind,.agg [vk u.Alg,vk u.Bits],vk number] [.box [vk p.at_.Source,ws p.at_.Host,vk p.at_.Machine,vk p.at_.Day,vk p.at_.Confidence,vk p.at_.Kind,ws p.at_.Subject,vk p.at_.Use.Alg,vk p.at_.Use.Bits,vk p.at_.Number,ws p.at_.Text,.row 1] 82,.row 30 11 (Aq Aa.enc p.l)] (fun d' b'=>d'=.tup []/\b'=[.box [vk r.at_.Source,ws r.at_.Host,vk r.at_.Machine,vk r.at_.Day,vk r.at_.Confidence,vk r.at_.Kind,ws r.at_.Subject,vk r.at_.Use.Alg,vk r.at_.Use.Bits,vk r.at_.Number,ws r.at_.Text,.row 1] 82,.row 30 11 (Aq Aa.enc r.l)]):=by
 unfold Cw at G
 refine Fn.of Tryz.func37 rfl rfl rfl fun w0 I ρ0=>?_
 show B3 _ ⟨w0,I,ρ0,1,2,29⟩ _ _ _
 refine Bf 2 10 Ay fun B=>?_
 refine Bf 10 58 B fun B=>?_
 refine Aj <| Bn (B6 _ _ []) (by kernel_rfl) [0,0,0,1,9,27,59,127,255] 58 130 B rfl rfl (by kernel_rfl) ?_
 refine Bd fun B=>?_
 refine Bn (B6 _ _ []) (by kernel_rfl) [0,0,2,6,14,0,32,126,255,511,1023] 130 218 B rfl rfl (by kernel_rfl) ?_
 refine As ?_
 refine I8 Kl fD I6 ([(Aa.mk p.at_.Source p.at_.Host p.at_.Machine p.at_.Day p.at_.Confidence kind p.at_.Subject u number p.at_.Text)]:List Aa) Aa.enc ?_
 obtain⟨l,hl,G⟩:=Ab G
 refine Fi (rd:=[1,178]) rfl rfl (Dk Kl Aa.enc_len .row rfl .row rfl hl rfl) rfl rfl ?_
 refine Bd fun B=>?_
 obtain rfl:=oi_ G
 exact Gg [(0,0),(1,186)] ⟨rfl,rfl⟩
theorem Mo (s:(List Aa)) (r:(List Aa)) (G:Co s=some r):Fn Tryz.prog 67 0 [.sl 11 (Aq Aa.enc s)] [] (fun d' b'=>d'=.row 0/\b'=[.row 30 11 (Aq Aa.enc r)]):=by
 unfold Co at G
 refine Fn.of Tryz.func67 rfl rfl rfl fun w0 I ρ0=>?_
 show B3 _ ⟨w0,I,ρ0,0,0,8⟩ _ _ _
 refine Bf 0 8 Ay fun B=>?_
 refine Aj <| Bo (ι:=Bool) (fun (x4_1:Bool)=>mk [(0,.sl 11 (Aq Aa.enc s)),(4,.val (.bool x4_1))] [] 0) (fun (x4_1:Bool)=>Co.j1 s x4_1=some r) ?_ ?_
 refine Ak (B6 _ _ []) 8 24 B rfl rfl ?_
 refine As ?_
 refine wR rfl rfl ⟨_,aF9⟩ rfl ?_
 intro bz hz2
 rcases bz with _ | _
 replace G:=aA6 G
 refine Gh fun B=>?_
 exact⟨false,G,Ar []⟩
 replace G:=aBc ((mG Aa.enc_len (by decide) (hz2 rfl))) G
 refine Gh fun B=>?_
 exact⟨true,G,Ar []⟩
 rintro x4_1 G
 replace G:Co.j1 s x4_1=some r:=G
 show B3 _ _ _ _ (mk _ _ _)
 unfold Co.j1 at G
 refine Cp rfl G (fun h5 G=>?_) fun h5 G=>?_
 refine Cc 0 8 Ay ?_
 exact De
 refine C8 ?_
 refine Cc 0 32 Ay ?_
 refine C0 rfl rfl (Fu Kl fD (by decide) rfl rfl rfl rfl I6 (cs:=[]) .nil rfl (l:=([]:List Aa)) (f:=Aa.enc) rfl) rfl rfl ?_
 refine As ?_
 obtain⟨l,hl,G⟩:=Ab G
 refine Fi (rd:=[0]) rfl rfl (Dk Kl Aa.enc_len .row rfl .sl rfl hl rfl) rfl rfl ?_
 refine Bd fun B=>?_
 refine E2 ?_
 obtain rfl:=oi_ G
 exact Gg [(0,16)] ⟨rfl,rfl⟩
theorem We (x':Int) (r:Int) (G:Bp x'=some r):Fn Tryz.prog 137 0 [.val (.int .u64 x')] [] (fun d' b'=>d'=vk r/\b'=[]):=by
 unfold Bp at G
 refine Fn.of Tryz.func137 rfl rfl rfl fun w0 I ρ0=>?_
 show B3 _ ⟨w0,I,ρ0,0,0,25⟩ _ _ _
 refine Bf 0 8 Ay fun B=>?_
 refine Bo (ι:=Int×Int) (fun ((x_1,n_1):Int×Int)=>mk [(0,.val (.int .u64 x_1)),(2,vk n_1)] [] 0) (fun ((x_1,n_1):Int×Int)=>Bp.j1 x_1 n_1=some r) ?_ ?_
 refine Bf 8 24 B fun B=>?_
 refine Cp rfl G (fun h3 G=>?_) fun h3 G=>?_
 refine Cc 24 48 B ?_
 refine As ?_
 obtain⟨q,hq,G⟩:=Ab G
 refine C0 rfl rfl (Oc hq) rfl rfl ?_
 refine Bd fun B=>?_
 refine Ak (B6 _ _ []) 48 56 B rfl rfl ?_
 refine Bd fun B=>?_
 exact⟨(q,32),G,Ar []⟩
 refine C8 ?_
 exact⟨(x',0),G,Ar []⟩
 rintro⟨x_1,n_1⟩ G
 replace G:Bp.j1 x_1 n_1=some r:=G
 show B3 _ _ _ _ (mk _ _ _)
 unfold Bp.j1 at G
 refine Bo (ι:=Int×Int) (fun ((x_2,n_2):Int×Int)=>mk [(0,.val (.int .u64 x_2)),(2,vk n_2)] [] 0) (fun ((x_2,n_2):Int×Int)=>Bp.j2 x_2 n_2=some r) ?_ ?_
 refine Bf 0 16 Ay fun B=>?_
 refine Cp rfl G (fun h7 G=>?_) fun h7 G=>?_
 refine Cc 16 40 B ?_
 refine As ?_
 obtain⟨q_2,hq_2,G⟩:=Ab G
 refine C0 rfl rfl (Oc hq_2) rfl rfl ?_
 refine Bd fun B=>?_
 refine Ak (B6 _ _ []) 40 64 B rfl rfl ?_
 refine Bd fun B=>?_
 exact⟨(q_2,W (n_1 + 16)),G,Ar []⟩
 refine C8 ?_
 exact⟨(x_1,n_1),G,Ar []⟩
 rintro⟨x_2,n_2⟩ G
 replace G:Bp.j2 x_2 n_2=some r:=G
 show B3 _ _ _ _ (mk _ _ _)
 unfold Bp.j2 at G
 refine Bo (ι:=Int×Int) (fun ((x_3,n_3):Int×Int)=>mk [(0,.val (.int .u64 x_3)),(2,vk n_3)] [] 0) (fun ((x_3,n_3):Int×Int)=>Bp.j3 x_3 n_3=some r) ?_ ?_
 refine Bf 0 16 Ay fun B=>?_
 refine Cp rfl G (fun h11 G=>?_) fun h11 G=>?_
 refine Cc 16 40 B ?_
 refine As ?_
 obtain⟨q_3,hq_3,G⟩:=Ab G
 refine C0 rfl rfl (Oc hq_3) rfl rfl ?_
 refine Bd fun B=>?_
 refine Ak (B6 _ _ []) 40 64 B rfl rfl ?_
 refine Bd fun B=>?_
 exact⟨(q_3,W (n_2 + 8)),G,Ar []⟩
 refine C8 ?_
 exact⟨(x_2,n_2),G,Ar []⟩
 rintro⟨x_3,n_3⟩ G
 replace G:Bp.j3 x_3 n_3=some r:=G
 show B3 _ _ _ _ (mk _ _ _)
 unfold Bp.j3 at G
 refine Cc 0 56 Ay ?_
 refine As ?_
 refine C0 rfl rfl (Fp aC1 Ng) rfl rfl ?_
 obtain⟨c,hc,G⟩:=Ab G
 refine C0 rfl rfl (gR Ti hc) rfl rfl ?_
 refine C0 rfl rfl (pR (u:=c) Ng Ni) rfl rfl ?_
 exact De
theorem S0 (x':Int) (r:Int) (G:Hu x'=some r):Fn Tryz.prog 91 0 [.val (.int .u64 x')] [] (fun d' b'=>d'=vk r/\b'=[]):=by
 unfold Hu at G
 refine Fn.of Tryz.func91 rfl rfl rfl fun w0 I ρ0=>?_
 show B3 _ ⟨w0,I,ρ0,0,0,8⟩ _ _ _
 refine Bf 0 8 Ay fun B=>?_
 refine Aj <| qF (fun h=>?_) (fun h=>?_)
 exact absurd h (by first | decide | exact fun h=>nomatch (show false=true from h) | exact fun h=>nomatch (show true=false from h))
 refine C8 ?_
 refine Cc 8 32 B ?_
 refine As ?_
 obtain⟨y,hy,G⟩:=Ab G
 refine Dh (We _ _ hy) ?_
 exact De
theorem R8 (c0:Aa) (c1:Aa) (r:(Aa×Aa)) (G:H6 c0 c1=some r):Fn Tryz.prog 95 0 [.val (.func (.func 98) #[] #[]),.elt (((Aa.ec c0):List C).drop 0),.elt (((Aa.ec c1):List C).drop 0)] [] (fun d' b'=>d'=.clo 96 0 [.elt (([.raw (.func (.func 98) #[] #[])]:List C).drop 0),.elt (((Aa.ec r.1):List C).drop 0),.elt (((Aa.ec r.2):List C).drop 0)]/\b'=[]):=by
 unfold H6 at G
 refine Fn.of Tryz.func95 rfl rfl rfl fun w0 I ρ0=>?_
 show B3 _ ⟨w0,I,ρ0,0,0,6⟩ _ _ _
 refine Bf 0 16 Ay fun B=>?_
 refine Aj <| Fw (σ':=mk [(1,.elt (((Aa.ec c0):List C).drop 0)),(2,.elt (((Aa.ec c1):List C).drop 0)),(3,.elt (([.raw (.func (.func 98) #[] #[])]:List C).drop 0))] [] 0) ((by exact Ru.lists [] rfl rfl ⟨⟨_,rfl,.elt _⟩,⟨_,rfl,.elt _⟩,⟨_,rfl,.frzb (ks:=[none]) rfl (.cons .func .nil) (Gz rfl)⟩,trivial⟩ trivial)) ?_
 refine Ak (B6 _ _ []) 0 16 Ay rfl rfl ?_
 exact De
theorem R1 (c0:Aa) (c1:Aa) (r:(Aa×Aa)) (G:H9 c0 c1=some r):Fn Tryz.prog 92 0 [.val (.func (.func 99) #[] #[]),.elt (((Aa.ec c0):List C).drop 0),.elt (((Aa.ec c1):List C).drop 0)] [] (fun d' b'=>d'=.clo 93 0 [.elt (([.raw (.func (.func 99) #[] #[])]:List C).drop 0),.elt (((Aa.ec r.1):List C).drop 0),.elt (((Aa.ec r.2):List C).drop 0)]/\b'=[]):=by
 unfold H9 at G
 refine Fn.of Tryz.func92 rfl rfl rfl fun w0 I ρ0=>?_
 show B3 _ ⟨w0,I,ρ0,0,0,6⟩ _ _ _
 refine Bf 0 16 Ay fun B=>?_
 refine Aj <| Fw (σ':=mk [(1,.elt (((Aa.ec c0):List C).drop 0)),(2,.elt (((Aa.ec c1):List C).drop 0)),(3,.elt (([.raw (.func (.func 99) #[] #[])]:List C).drop 0))] [] 0) ((by exact Ru.lists [] rfl rfl ⟨⟨_,rfl,.elt _⟩,⟨_,rfl,.elt _⟩,⟨_,rfl,.frzb (ks:=[none]) rfl (.cons .func .nil) (Gz rfl)⟩,trivial⟩ trivial)) ?_
 refine Ak (B6 _ _ []) 0 16 Ay rfl rfl ?_
 exact De
theorem Qw (c0:Aa) (c1:Aa) (r:(Aa×Aa)) (G:Hm c0 c1=some r):Fn Tryz.prog 92 0 [.val (.func (.func 100) #[] #[]),.elt (((Aa.ec c0):List C).drop 0),.elt (((Aa.ec c1):List C).drop 0)] [] (fun d' b'=>d'=.clo 93 0 [.elt (([.raw (.func (.func 100) #[] #[])]:List C).drop 0),.elt (((Aa.ec r.1):List C).drop 0),.elt (((Aa.ec r.2):List C).drop 0)]/\b'=[]):=by
 unfold Hm at G
 refine Fn.of Tryz.func92 rfl rfl rfl fun w0 I ρ0=>?_
 show B3 _ ⟨w0,I,ρ0,0,0,6⟩ _ _ _
 refine Bf 0 16 Ay fun B=>?_
 refine Aj <| Fw (σ':=mk [(1,.elt (((Aa.ec c0):List C).drop 0)),(2,.elt (((Aa.ec c1):List C).drop 0)),(3,.elt (([.raw (.func (.func 100) #[] #[])]:List C).drop 0))] [] 0) ((by exact Ru.lists [] rfl rfl ⟨⟨_,rfl,.elt _⟩,⟨_,rfl,.elt _⟩,⟨_,rfl,.frzb (ks:=[none]) rfl (.cons .func .nil) (Gz rfl)⟩,trivial⟩ trivial)) ?_
 refine Ak (B6 _ _ []) 0 16 Ay rfl rfl ?_
 exact De
theorem Qq (c0:Aa) (c1:Aa) (r:(Aa×Aa)) (G:Hk c0 c1=some r):Fn Tryz.prog 95 0 [.val (.func (.func 101) #[] #[]),.elt (((Aa.ec c0):List C).drop 0),.elt (((Aa.ec c1):List C).drop 0)] [] (fun d' b'=>d'=.clo 96 0 [.elt (([.raw (.func (.func 101) #[] #[])]:List C).drop 0),.elt (((Aa.ec r.1):List C).drop 0),.elt (((Aa.ec r.2):List C).drop 0)]/\b'=[]):=by
 unfold Hk at G
 refine Fn.of Tryz.func95 rfl rfl rfl fun w0 I ρ0=>?_
 show B3 _ ⟨w0,I,ρ0,0,0,6⟩ _ _ _
 refine Bf 0 16 Ay fun B=>?_
 refine Aj <| Fw (σ':=mk [(1,.elt (((Aa.ec c0):List C).drop 0)),(2,.elt (((Aa.ec c1):List C).drop 0)),(3,.elt (([.raw (.func (.func 101) #[] #[])]:List C).drop 0))] [] 0) ((by exact Ru.lists [] rfl rfl ⟨⟨_,rfl,.elt _⟩,⟨_,rfl,.elt _⟩,⟨_,rfl,.frzb (ks:=[none]) rfl (.cons .func .nil) (Gz rfl)⟩,trivial⟩ trivial)) ?_
 refine Ak (B6 _ _ []) 0 16 Ay rfl rfl ?_
 exact De
theorem Q4 (c0:Aa) (c1:Aa) (r:(Aa×Aa)) (G:Hi c0 c1=some r):Fn Tryz.prog 92 0 [.val (.func (.func 102) #[] #[]),.elt (((Aa.ec c0):List C).drop 0),.elt (((Aa.ec c1):List C).drop 0)] [] (fun d' b'=>d'=.clo 93 0 [.elt (([.raw (.func (.func 102) #[] #[])]:List C).drop 0),.elt (((Aa.ec r.1):List C).drop 0),.elt (((Aa.ec r.2):List C).drop 0)]/\b'=[]):=by
 unfold Hi at G
 refine Fn.of Tryz.func92 rfl rfl rfl fun w0 I ρ0=>?_
 show B3 _ ⟨w0,I,ρ0,0,0,6⟩ _ _ _
 refine Bf 0 16 Ay fun B=>?_
 refine Aj <| Fw (σ':=mk [(1,.elt (((Aa.ec c0):List C).drop 0)),(2,.elt (((Aa.ec c1):List C).drop 0)),(3,.elt (([.raw (.func (.func 102) #[] #[])]:List C).drop 0))] [] 0) ((by exact Ru.lists [] rfl rfl ⟨⟨_,rfl,.elt _⟩,⟨_,rfl,.elt _⟩,⟨_,rfl,.frzb (ks:=[none]) rfl (.cons .func .nil) (Gz rfl)⟩,trivial⟩ trivial)) ?_
 refine Ak (B6 _ _ []) 0 16 Ay rfl rfl ?_
 exact De
theorem Rf (c0:Aa) (c1:Aa) (r:(Aa×Aa)) (G:Hq c0 c1=some r):Fn Tryz.prog 92 0 [.val (.func (.func 103) #[] #[]),.elt (((Aa.ec c0):List C).drop 0),.elt (((Aa.ec c1):List C).drop 0)] [] (fun d' b'=>d'=.clo 93 0 [.elt (([.raw (.func (.func 103) #[] #[])]:List C).drop 0),.elt (((Aa.ec r.1):List C).drop 0),.elt (((Aa.ec r.2):List C).drop 0)]/\b'=[]):=by
 unfold Hq at G
 refine Fn.of Tryz.func92 rfl rfl rfl fun w0 I ρ0=>?_
 show B3 _ ⟨w0,I,ρ0,0,0,6⟩ _ _ _
 refine Bf 0 16 Ay fun B=>?_
 refine Aj <| Fw (σ':=mk [(1,.elt (((Aa.ec c0):List C).drop 0)),(2,.elt (((Aa.ec c1):List C).drop 0)),(3,.elt (([.raw (.func (.func 103) #[] #[])]:List C).drop 0))] [] 0) ((by exact Ru.lists [] rfl rfl ⟨⟨_,rfl,.elt _⟩,⟨_,rfl,.elt _⟩,⟨_,rfl,.frzb (ks:=[none]) rfl (.cons .func .nil) (Gz rfl)⟩,trivial⟩ trivial)) ?_
 refine Ak (B6 _ _ []) 0 16 Ay rfl rfl ?_
 exact De
theorem Rk (c0:Aa) (c1:Aa) (r:(Aa×Aa)) (G:Hp c0 c1=some r):Fn Tryz.prog 92 0 [.val (.func (.func 104) #[] #[]),.elt (((Aa.ec c0):List C).drop 0),.elt (((Aa.ec c1):List C).drop 0)] [] (fun d' b'=>d'=.clo 93 0 [.elt (([.raw (.func (.func 104) #[] #[])]:List C).drop 0),.elt (((Aa.ec r.1):List C).drop 0),.elt (((Aa.ec r.2):List C).drop 0)]/\b'=[]):=by
 unfold Hp at G
 refine Fn.of Tryz.func92 rfl rfl rfl fun w0 I ρ0=>?_
 show B3 _ ⟨w0,I,ρ0,0,0,6⟩ _ _ _
 refine Bf 0 16 Ay fun B=>?_
 refine Aj <| Fw (σ':=mk [(1,.elt (((Aa.ec c0):List C).drop 0)),(2,.elt (((Aa.ec c1):List C).drop 0)),(3,.elt (([.raw (.func (.func 104) #[] #[])]:List C).drop 0))] [] 0) ((by exact Ru.lists [] rfl rfl ⟨⟨_,rfl,.elt _⟩,⟨_,rfl,.elt _⟩,⟨_,rfl,.frzb (ks:=[none]) rfl (.cons .func .nil) (Gz rfl)⟩,trivial⟩ trivial)) ?_
 refine Ak (B6 _ _ []) 0 16 Ay rfl rfl ?_
 exact De
theorem Rc (c0:Aa) (c1:Aa) (r:(Aa×Aa)) (G:Hl c0 c1=some r):Fn Tryz.prog 92 0 [.val (.func (.func 105) #[] #[]),.elt (((Aa.ec c0):List C).drop 0),.elt (((Aa.ec c1):List C).drop 0)] [] (fun d' b'=>d'=.clo 93 0 [.elt (([.raw (.func (.func 105) #[] #[])]:List C).drop 0),.elt (((Aa.ec r.1):List C).drop 0),.elt (((Aa.ec r.2):List C).drop 0)]/\b'=[]):=by
 unfold Hl at G
 refine Fn.of Tryz.func92 rfl rfl rfl fun w0 I ρ0=>?_
 show B3 _ ⟨w0,I,ρ0,0,0,6⟩ _ _ _
 refine Bf 0 16 Ay fun B=>?_
 refine Aj <| Fw (σ':=mk [(1,.elt (((Aa.ec c0):List C).drop 0)),(2,.elt (((Aa.ec c1):List C).drop 0)),(3,.elt (([.raw (.func (.func 105) #[] #[])]:List C).drop 0))] [] 0) ((by exact Ru.lists [] rfl rfl ⟨⟨_,rfl,.elt _⟩,⟨_,rfl,.elt _⟩,⟨_,rfl,.frzb (ks:=[none]) rfl (.cons .func .nil) (Gz rfl)⟩,trivial⟩ trivial)) ?_
 refine Ak (B6 _ _ []) 0 16 Ay rfl rfl ?_
 exact De
theorem Qy (c0:Aa) (c1:Aa) (r:(Aa×Aa)) (G:Hr c0 c1=some r):Fn Tryz.prog 95 0 [.val (.func (.func 106) #[] #[]),.elt (((Aa.ec c0):List C).drop 0),.elt (((Aa.ec c1):List C).drop 0)] [] (fun d' b'=>d'=.clo 96 0 [.elt (([.raw (.func (.func 106) #[] #[])]:List C).drop 0),.elt (((Aa.ec r.1):List C).drop 0),.elt (((Aa.ec r.2):List C).drop 0)]/\b'=[]):=by
 unfold Hr at G
 refine Fn.of Tryz.func95 rfl rfl rfl fun w0 I ρ0=>?_
 show B3 _ ⟨w0,I,ρ0,0,0,6⟩ _ _ _
 refine Bf 0 16 Ay fun B=>?_
 refine Aj <| Fw (σ':=mk [(1,.elt (((Aa.ec c0):List C).drop 0)),(2,.elt (((Aa.ec c1):List C).drop 0)),(3,.elt (([.raw (.func (.func 106) #[] #[])]:List C).drop 0))] [] 0) ((by exact Ru.lists [] rfl rfl ⟨⟨_,rfl,.elt _⟩,⟨_,rfl,.elt _⟩,⟨_,rfl,.frzb (ks:=[none]) rfl (.cons .func .nil) (Gz rfl)⟩,trivial⟩ trivial)) ?_
 refine Ak (B6 _ _ []) 0 16 Ay rfl rfl ?_
 exact De
theorem Rl (c0:Aa) (c1:Aa) (r:(Aa×Aa)) (G:Hn c0 c1=some r):Fn Tryz.prog 92 0 [.val (.func (.func 107) #[] #[]),.elt (((Aa.ec c0):List C).drop 0),.elt (((Aa.ec c1):List C).drop 0)] [] (fun d' b'=>d'=.clo 93 0 [.elt (([.raw (.func (.func 107) #[] #[])]:List C).drop 0),.elt (((Aa.ec r.1):List C).drop 0),.elt (((Aa.ec r.2):List C).drop 0)]/\b'=[]):=by
 unfold Hn at G
 refine Fn.of Tryz.func92 rfl rfl rfl fun w0 I ρ0=>?_
 show B3 _ ⟨w0,I,ρ0,0,0,6⟩ _ _ _
 refine Bf 0 16 Ay fun B=>?_
 refine Aj <| Fw (σ':=mk [(1,.elt (((Aa.ec c0):List C).drop 0)),(2,.elt (((Aa.ec c1):List C).drop 0)),(3,.elt (([.raw (.func (.func 107) #[] #[])]:List C).drop 0))] [] 0) ((by exact Ru.lists [] rfl rfl ⟨⟨_,rfl,.elt _⟩,⟨_,rfl,.elt _⟩,⟨_,rfl,.frzb (ks:=[none]) rfl (.cons .func .nil) (Gz rfl)⟩,trivial⟩ trivial)) ?_
 refine Ak (B6 _ _ []) 0 16 Ay rfl rfl ?_
 exact De
end Go.Proofs.YtchpcpaacenodaaGreat
