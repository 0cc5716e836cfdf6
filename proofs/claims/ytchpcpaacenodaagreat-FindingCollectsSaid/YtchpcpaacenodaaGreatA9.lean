import Derived.Test.YtchpcpaacenodaaGreatT1
import Derived.Test.YtchpcpaacenodaaGreatA6
import Derived.Test.YtchpcpaacenodaaGreatA7
import Derived.Test.YtchpcpaacenodaaGreatA8
set_option linter.unusedVariables false
set_option linter.unusedSimpArgs false
set_option maxRecDepth 100000
set_option maxHeartbeats 40000000
namespace Go.Proofs.YtchpcpaacenodaaGreat
open Go.RowKit
theorem Ub.F (rec:Ah->Option ((List UInt8))) (hrec:∀ (v:Ah) (r:(List UInt8)),rec v=some r->Fn Tryz.prog 157 0 [.agg (Ah.dv v)] [] (fun d' b'=>d'=.sl 1 (Aq e8 r)/\b'=[])) (v:Ah) (r:(List UInt8)) (G:Dz.F rec v=some r):Fn Tryz.prog 157 0 [.agg (Ah.dv v)] [] (fun d' b'=>d'=.sl 1 (Aq e8 r)/\b'=[]):=by
 unfold Dz.F at G
 refine Fn.of Tryz.func157 rfl rfl rfl fun w0 I ρ0=>?_
 show B3 _ ⟨w0,I,ρ0,0,0,34⟩ _ _ _
 refine Bf 0 16 Ay fun B=>?_
 refine Cc 16 56 B ?_
 refine C0 rfl rfl (Fu Mt z5 (by decide) rfl rfl rfl rfl lG (cs:=[]) .nil rfl (l:=([]:List UInt8)) (f:=e8) rfl) rfl rfl ?_
 refine As ?_
 obtain⟨l,hl,G⟩:=Ab G
 refine Fi (rd:=[16]) rfl rfl (Dk Mt Ke .row rfl .sl rfl hl rfl) rfl rfl ?_
 refine Bd fun B=>?_
 refine Aj <| Bf 56 64 B fun B=>?_
 refine Ap <| Ji (fun ((i_1,b_1):Int×List UInt8)=>mk [(1,.ptr 0 0),(3,.row 1),(4,vk i_1)] [(0,.box (Ah.dv v) 169),(1,.row 5 1 (Aq e8 b_1))] 2) G (Ar [(0,0),(1,40)]) ?_
 rintro⟨i_1,b_1⟩ m1 o1 G hn1
 replace G:Dz.l1 rec v i_1 b_1=some o1:=G
 show B3 _ _ _ _ (mk _ _ _)
 unfold Dz.l1 at G
 refine Aj <| Bf 2 42 Ay fun B=>?_
 refine Cp rfl G (fun h5 G=>?_) fun h5 G=>?_
 refine C8 ?_
 refine Aj <| Ap <| Ak (B6 _ _ []) 42 114 B rfl rfl ?_
 refine As ?_
 obtain⟨e,he,G⟩:=Ab G
 refine As ?_
 refine C0 rfl rfl (D5 iU (Gd Ah.enc_len (Bq he) (o:=0) (m:=4) (cs:=[.int .i64 e.Tag,.sl 1 (Aq e8 e.Bytes),.bool e.Nested,.sl 4 (Aq Ah.enc e.Elements)]) (by simp only [Ah.enc_eq]; rfl) (by decide) rfl) (Eg Ah.enc_len (Bq he) (o:=0) (m:=4) (by decide) rfl)) rfl rfl ?_
 obtain⟨y,hy,G⟩:=Ab G
 refine Dh (hrec _ _ hy) ?_
 obtain⟨l_2,hl_2,G⟩:=Ab G
 refine Fi (rd:=[1]) rfl rfl (Dk Mt Ke .row rfl .sl rfl hl_2 rfl) rfl rfl ?_
 refine Bd fun B=>?_
 refine Ak (B6 _ _ []) 114 138 B rfl rfl ?_
 refine Bd fun B=>?_
 obtain rfl:=oi_ G
 exact⟨((W (i_1 + 1),l_2),m1),aCz _,hn1,Ar [(0,0),(1,98)]⟩
 refine Je ?_
 replace G:=Cd G hn1
 refine Aj <| Bn (B6 _ _ []) (by kernel_rfl) [0,1,3,7,0,16,48,127,0,511,1023] 42 130 B rfl rfl (by kernel_rfl) ?_
 refine As ?_
 refine C0 rfl rfl (Fp Ni Ng) rfl rfl ?_
 refine I8 Mt z5 lG ([(u8 v.Tag)]:List UInt8) e8 ?_
 refine As ?_
 obtain⟨y_2,hy_2,G⟩:=Ab G
 refine Dh (aR _ _ hy_2) ?_
 obtain⟨l_3,hl_3,G⟩:=Ab G
 refine Fi (rd:=[66]) rfl rfl (Dk Mt Ke .row rfl .sl rfl hl_3 rfl) rfl rfl ?_
 refine As ?_
 obtain⟨l_4,hl_4,G⟩:=Ab G
 refine Fi (rd:=[98,1]) rfl rfl (Dk Mt Ke .row rfl .row rfl hl_4 rfl) rfl rfl ?_
 exact De
theorem Ub (v:Ah) (r:(List UInt8)) (G:Dz v=some r):Fn Tryz.prog 157 0 [.agg (Ah.dv v)] [] (fun d' b'=>d'=.sl 1 (Aq e8 r)/\b'=[]):=
 Tr (motive:=fun (x:Ah) (r:(List UInt8))=>Fn Tryz.prog 157 0 [.agg (Ah.dv x)] [] (fun d' b'=>d'=.sl 1 (Aq e8 r)/\b'=[])) (fun rec hrec x r h=>Ub.F _ (fun v r h=>hrec v r h) x r h) v r G
theorem bU (v:Ah) (r:(List UInt8)×Int) (G:Ks v=some r):Fn Tryz.prog 143 0 [.agg (Ah.dv v)] [] (fun d' b'=>d'=.tup [.sl 1 (Aq e8 r.1),vk r.2]/\b'=[]):=by
 unfold Ks at G
 refine Fn.of Tryz.func143 rfl rfl rfl fun w0 I ρ0=>?_
 show B3 _ ⟨w0,I,ρ0,0,0,17⟩ _ _ _
 refine Bf 0 24 Ay fun B=>?_
 refine Aj <| Cc 24 48 B ?_
 refine As ?_
 obtain⟨y,hy,G⟩:=Ab G
 refine Dh (Pd _ _ hy) ?_
 refine Bd fun B=>?_
 refine Cp rfl G (fun h3 G=>?_) fun h3 G=>?_
 refine Cc 48 64 B ?_
 exact De
 refine C8 ?_
 refine Aj <| Cc 48 72 B ?_
 refine As ?_
 obtain⟨y_2,hy_2,G⟩:=Ab G
 refine Dh (Qb _ _ hy_2) ?_
 refine Bd fun B=>?_
 refine Cp rfl G (fun h6 G=>?_) fun h6 G=>?_
 refine Cc 72 88 B ?_
 exact De
 refine C8 ?_
 refine Cc 72 96 B ?_
 refine As ?_
 obtain⟨y_3,hy_3,G⟩:=Ab G
 refine Dh (Ub _ _ hy_3) ?_
 refine Bd fun B=>?_
 refine Aj <| Bf 96 120 B fun B=>?_
 refine Cp rfl G (fun h10 G=>?_) fun h10 G=>?_
 refine Cc 120 136 B ?_
 exact De
 refine C8 ?_
 refine Bf 120 144 B fun B=>?_
 exact Lf
theorem cR (c:Af) (r:(List UInt8)×Int) (G:Ka c=some r):Fn Tryz.prog 124 0 [.agg (Af.dv c)] [] (fun d' b'=>d'=.tup [.sl 1 (Aq e8 r.1),vk r.2]/\b'=[]):=by
 unfold Ka at G
 refine Fn.of Tryz.func124 rfl rfl rfl fun w0 I ρ0=>?_
 show B3 _ ⟨w0,I,ρ0,0,0,12⟩ _ _ _
 refine Bf 0 24 Ay fun B=>?_
 refine Aj <| Cc 24 48 B ?_
 refine As ?_
 obtain⟨y,hy,G⟩:=Ab G
 refine Dh (Qe _ _ hy) ?_
 refine Bd fun B=>?_
 refine Cp rfl G (fun h3 G=>?_) fun h3 G=>?_
 refine Cc 48 64 B ?_
 exact De
 refine C8 ?_
 refine Cc 48 104 B ?_
 refine As ?_
 obtain⟨y_2,hy_2,G⟩:=Ab G
 refine Dh (gK _ _ hy_2) ?_
 obtain⟨y_3,hy_3,G⟩:=Ab G
 refine Dh (bU _ _ hy_3) ?_
 exact De
theorem jV (b:(List UInt8)) (r:Int) (G:Fz b=some r):Fn Tryz.prog 125 0 [.sl 1 (Aq e8 b)] [] (fun d' b'=>d'=vk r/\b'=[]):=by
 unfold Fz at G
 refine Fn.of Tryz.func125 rfl rfl rfl fun w0 I ρ0=>?_
 show B3 _ ⟨w0,I,ρ0,0,0,21⟩ _ _ _
 refine Bf 0 8 Ay fun B=>?_
 refine Bf 8 16 B fun B=>?_
 refine Aj <| Bf 16 24 B fun B=>?_
 refine Ap <| Ji (fun ((h_1,i_1):Int×Int)=>mk [(0,.sl 1 (Aq e8 b)),(3,.val (.int .u32 h_1)),(4,vk i_1)] [] 0) G (Ar []) ?_
 rintro⟨h_1,i_1⟩ m1 o1 G hn1
 replace G:Fz.l1 b h_1 i_1=some o1:=G
 show B3 _ _ _ _ (mk _ _ _)
 unfold Fz.l1 at G
 refine Aj <| Bf 0 32 Ay fun B=>?_
 refine Cp rfl G (fun h5 G=>?_) fun h5 G=>?_
 refine C8 ?_
 refine Aj <| Ap <| Ak (B6 _ _ []) 32 104 B rfl rfl ?_
 refine As ?_
 obtain⟨e,he,G⟩:=Ab G
 refine As ?_
 refine No he ?_
 refine C0 rfl rfl (Zq Ng qV) rfl rfl ?_
 refine C0 rfl rfl fE rfl rfl ?_
 refine C0 rfl rfl aCe rfl rfl ?_
 refine Bd fun B=>?_
 refine Ak (B6 _ _ []) 104 128 B rfl rfl ?_
 refine Bd fun B=>?_
 obtain rfl:=oi_ G
 exact⟨((IntKind.wrap .u32 ((Rq .u32 h_1 (IntKind.wrap .u32 (e.toNat:Int))) * 16777619),W (i_1 + 1)),m1),aCz _,hn1,Ar []⟩
 refine Je ?_
 replace G:=Cd G hn1
 refine Cc 32 56 B ?_
 refine As ?_
 refine C0 rfl rfl (bC qV Ni) rfl rfl ?_
 exact De
theorem fW (c:Af) (key:Int) (r:Af×Int) (G:Fm c key=some r):Fn Tryz.prog 85 0 [.agg (Af.dv c),vk key] [] (fun d' b'=>d'=.tup [.agg (Af.dv r.1),vk r.2]/\b'=[]):=by
 unfold Fm at G
 refine Fn.of Tryz.func85 rfl rfl rfl fun w0 I ρ0=>?_
 show B3 _ ⟨w0,I,ρ0,0,0,35⟩ _ _ _
 refine Bf 0 24 Ay fun B=>?_
 refine Cc 24 48 B ?_
 refine As ?_
 obtain⟨y,hy,G⟩:=Ab G
 refine Dh (gA _ _ hy) ?_
 refine Bd fun B=>?_
 refine Cc 48 72 B ?_
 refine Lq eV zW aDz ?_
 refine Bd fun B=>?_
 refine Aj <| Bo (ι:=Bool) (fun (x22_1:Bool)=>mk [(1,vk key),(2,.ptr 0 0),(4,.ptr 1 0),(22,.val (.bool x22_1))] [(0,.box [vk y.Serial,ws y.Issuer,ws y.Subject,vk y.Key.Alg,vk y.Key.Bits,vk y.KeyId,vk y.Hash.Alg,vk y.Hash.Bits,vk y.From,vk y.To,.val (.bool y.Authority),vk y.Path,.sl 1 (Aq eS y.Names),.val (.int .i64 0),.val (.int .i64 0)] 104),(1,.box [.val (.int .i64 0),.val (.string (⟨#[]⟩:ByteArray)),.val (.string (⟨#[]⟩:ByteArray)),.val (.int .i64 0),.val (.int .i64 0),.val (.int .i64 0),.val (.int .i64 0),.val (.int .i64 0),.val (.int .i64 0),.val (.int .i64 0),.val (.bool false),.val (.int .i64 0),.val (.slice none 0 0),.val (.int .i64 0),.val (.int .i64 0)] 104)] 2) (fun (x22_1:Bool)=>Fm.j1 key y x22_1=some r) ?_ ?_
 refine Ak (B6 _ _ []) 72 160 B rfl rfl ?_
 refine As ?_
 obtain⟨y_2,hy_2,G⟩:=Ab G
 refine Dh (Qe _ _ hy_2) ?_
 refine As ?_
 rcases Dm G with ⟨h4,G⟩ | ⟨h4,G⟩
 refine Bd fun B=>?_
 exact⟨true,G,Ar [(0,0),(1,8)]⟩
 refine As ?_
 rcases Dm G with ⟨h6,G⟩ | ⟨h6,G⟩
 refine Bd fun B=>?_
 exact⟨true,G,Ar [(0,0),(1,8)]⟩
 refine Bd fun B=>?_
 exact⟨decide (2147483648 < key),G,Ar [(0,0),(1,8)]⟩
 rintro x22_1 G
 replace G:Fm.j1 key y x22_1=some r:=G
 show B3 _ _ _ _ (mk _ _ _)
 unfold Fm.j1 at G
 refine Cp rfl G (fun h9 G=>?_) fun h9 G=>?_
 refine Cc 2 26 Ay ?_
 refine Lq L9 zZ vC ?_
 exact De
 refine C8 ?_
 refine Cc 2 58 Ay ?_
 refine As ?_
 obtain⟨y_3,hy_3,G⟩:=Ab G
 refine Dh (cR _ _ hy_3) ?_
 refine Bd fun B=>?_
 refine Cc 58 106 B ?_
 refine As ?_
 obtain⟨y_4,hy_4,G⟩:=Ab G
 refine Dh (jV _ _ hy_4) ?_
 refine Lq eV zW aDz ?_
 refine Bd fun B=>?_
 refine Bf 106 130 B fun B=>?_
 exact Lf
theorem Pn (d:Ac) (issuer:ByteArray) (subject:ByteArray) (key:Am) (id:Int) (signer:Int) (authority:Bool) (r:Af×Ac) (G:Ch d issuer subject key id signer authority=some r):Fn Tryz.prog 56 1 [.ptr 0 0,ws issuer,ws subject,.agg [vk key.Alg,vk key.Bits],vk id,vk signer,.val (.bool authority)] [.box [.sl 1 (Aq eI d.L),vk d.At] 62] (fun d' b'=>d'=.agg (Af.dv r.1)/\b'=[.box [.sl 1 (Aq eI r.2.L),vk r.2.At] 62]):=by
 unfold Ch at G
 refine Fn.of Tryz.func56 rfl rfl rfl fun w0 I ρ0=>?_
 show B3 _ ⟨w0,I,ρ0,1,1,58⟩ _ _ _
 refine Bf 1 17 Ay fun B=>?_
 refine Aj <| Bn (B6 _ _ [73,105,129]) (by kernel_rfl) [0,1,0,0,0,0,0,0,195,451,0,0,3523,0,0,32195,0,131071,0,524287] 17 177 B rfl rfl (by kernel_rfl) ?_
 refine As ?_
 obtain⟨y,hy,G⟩:=Ab G
 refine F9 [0] [0] [] false (B5 _ _ _ hy) ?_
 refine As ?_
 refine Ou Ee z3 I1 ([3,2,4,1]:List Int) eI ?_
 obtain⟨y_2,hy_2,G⟩:=Ab G
 refine F9 [0] [0] [] false (B4 _ _ _ hy_2) ?_
 refine Lq Hj Lc S6 ?_
 refine As ?_
 refine Ou Ee z3 I1 ([0,5,10]:List Int) eI ?_
 obtain⟨y_3,hy_3,G⟩:=Ab G
 refine F9 [0] [0] [] false (B4 _ _ _ hy_3) ?_
 refine As ?_
 refine Ou Ee z3 I1 ([1000,100,50,20]:List Int) eI ?_
 obtain⟨y_4,hy_4,G⟩:=Ab G
 refine F9 [0] [0] [] false (B4 _ _ _ hy_4) ?_
 refine As ?_
 refine Lq L9 zZ vC ?_
 refine Bd fun B=>?_
 refine Bo (ι:=Ac×Int) (fun ((d_1,c_1):Ac×Int)=>mk [(0,.ptr 0 0),(2,ws subject),(5,vk signer),(14,.ptr 1 0),(15,.ptr 2 0)] [(0,.box [.sl 1 (Aq eI d_1.L),vk d_1.At] 62),(1,.box [.val (.int .i64 0),.val (.string (⟨#[]⟩:ByteArray)),.val (.string (⟨#[]⟩:ByteArray)),.val (.int .i64 0),.val (.int .i64 0),.val (.int .i64 0),.val (.int .i64 0),.val (.int .i64 0),.val (.int .i64 0),.val (.int .i64 0),.val (.bool false),.val (.int .i64 0),.val (.slice none 0 0),.val (.int .i64 0),.val (.int .i64 0)] 104),(2,.box [vk y.1,ws issuer,ws subject,vk key.Alg,vk key.Bits,vk id,vk y_2.1,.val (.int .i64 0),vk y_3.1,vk y_4.1,.val (.bool authority),vk c_1,.val (.slice none 0 0),.val (.int .i64 0),.val (.int .i64 0)] 104)] 3) (fun ((d_1,c_1):Ac×Int)=>Ch.j1 issuer subject key id signer authority y y_2 y_3 y_4 d_1 c_1=some r) ?_ ?_
 refine Bf 177 185 B fun B=>?_
 refine Cp rfl G (fun h4 G=>?_) fun h4 G=>?_
 refine Ak (B6 _ _ [193]) 185 225 B rfl rfl ?_
 refine As ?_
 refine Ou Ee z3 I1 ([3,0,1]:List Int) eI ?_
 obtain⟨y_5,hy_5,G⟩:=Ab G
 refine F9 [0] [0] [] false (B4 _ _ _ hy_5) ?_
 refine Bd fun B=>?_
 exact⟨(y_5.2,y_5.1),G,Ar [(0,0),(1,9),(2,161)]⟩
 refine C8 ?_
 exact⟨(y_4.2,0),G,Ar [(0,0),(1,9),(2,161)]⟩
 rintro⟨d_1,c_1⟩ G
 replace G:Ch.j1 issuer subject key id signer authority y y_2 y_3 y_4 d_1 c_1=some r:=G
 show B3 _ _ _ _ (mk _ _ _)
 unfold Ch.j1 at G
 refine Cc 3 35 Ay ?_
 refine As ?_
 refine I8 Xc z9 qY ([subject]:List ByteArray) eS ?_
 refine Bd fun B=>?_
 refine Bo (ι:=Ac×List ByteArray) (fun ((b_2,l_2):Ac×List ByteArray)=>mk [(5,vk signer),(14,.ptr 1 0),(15,.ptr 2 0)] [(0,.box [.sl 1 (Aq eI b_2.L),vk b_2.At] 62),(1,.box [.val (.int .i64 0),.val (.string (⟨#[]⟩:ByteArray)),.val (.string (⟨#[]⟩:ByteArray)),.val (.int .i64 0),.val (.int .i64 0),.val (.int .i64 0),.val (.int .i64 0),.val (.int .i64 0),.val (.int .i64 0),.val (.int .i64 0),.val (.bool false),.val (.int .i64 0),.val (.slice none 0 0),.val (.int .i64 0),.val (.int .i64 0)] 104),(2,.box [vk y.1,ws issuer,ws subject,vk key.Alg,vk key.Bits,vk id,vk y_2.1,.val (.int .i64 0),vk y_3.1,vk y_4.1,.val (.bool authority),vk c_1,.row 3,.val (.int .i64 0),.val (.int .i64 0)] 104),(3,.row 9 1 (Aq eS l_2))] 4) (fun ((b_2,l_2):Ac×List ByteArray)=>Ch.j2 issuer subject key id signer authority y y_2 y_3 y_4 c_1 b_2 l_2=some r) ?_ ?_
 refine Cc 35 51 B ?_
 refine As ?_
 obtain⟨y_6,hy_6,G⟩:=Ab G
 refine F9 [0] [0] [] false (Ht _ _ _ hy_6) ?_
 refine Gh fun B=>?_
 refine Cp rfl G (fun h8 G=>?_) fun h8 G=>?_
 refine Ak (B6 _ _ []) 51 115 B rfl rfl ?_
 refine As ?_
 obtain⟨s,hs,G⟩:=Ab G
 refine C0 rfl rfl (aEe hs) rfl rfl ?_
 refine I8 Xc z9 qY ([s]:List ByteArray) eS ?_
 obtain⟨l,hl,G⟩:=Ab G
 refine Fi (rd:=[11,83]) rfl rfl (Dk Xc aK .row rfl .row rfl hl rfl) rfl rfl ?_
 refine Bd fun B=>?_
 exact⟨(y_6.2,l),G,Ar [(0,0),(1,1),(2,2),(3,91)]⟩
 refine C8 ?_
 exact⟨(y_6.2,([subject]:List ByteArray)),G,Ar [(0,0),(1,1),(2,2),(3,11)]⟩
 rintro⟨b_2,l_2⟩ G
 replace G:Ch.j2 issuer subject key id signer authority y y_2 y_3 y_4 c_1 b_2 l_2=some r:=G
 show B3 _ _ _ _ (mk _ _ _)
 unfold Ch.j2 at G
 refine Aj <| Fw (σ':=mk [(5,vk signer),(14,.ptr 1 0),(15,.ptr 2 0)] [(0,.box [.sl 1 (Aq eI b_2.L),vk b_2.At] 62),(1,.box [.val (.int .i64 0),.val (.string (⟨#[]⟩:ByteArray)),.val (.string (⟨#[]⟩:ByteArray)),.val (.int .i64 0),.val (.int .i64 0),.val (.int .i64 0),.val (.int .i64 0),.val (.int .i64 0),.val (.int .i64 0),.val (.int .i64 0),.val (.bool false),.val (.int .i64 0),.val (.slice none 0 0),.val (.int .i64 0),.val (.int .i64 0)] 104),(2,.box [vk y.1,ws issuer,ws subject,vk key.Alg,vk key.Bits,vk id,vk y_2.1,.val (.int .i64 0),vk y_3.1,vk y_4.1,.val (.bool authority),vk c_1,.sl 1 (Aq eS l_2),.val (.int .i64 0),.val (.int .i64 0)] 104)] 3) (Ar [(0,0),(1,1),(2,2)]) ?_
 refine Ak (B6 _ _ []) 3 59 Ay rfl rfl ?_
 refine As ?_
 obtain⟨y_7,hy_7,G⟩:=Ab G
 refine Dh (fW _ _ _ hy_7) ?_
 refine Bd fun B=>?_
 refine Bf 59 75 B fun B=>?_
 refine E2 ?_
 obtain rfl:=oi_ G
 exact Gg [(0,0)] ⟨rfl,rfl⟩
theorem R7 (d:Ac) (name:ByteArray) (key:Am) (id:Int) (r:(List Af)×Ac) (G:Fv d name key id=some r):Fn Tryz.prog 30 1 [.ptr 0 0,ws name,.agg [vk key.Alg,vk key.Bits],vk id] [.box [.sl 1 (Aq eI d.L),vk d.At] 62] (fun d' b'=>d'=.sl 15 (Aq Af.enc r.1)/\b'=[.box [.sl 1 (Aq eI r.2.L),vk r.2.At] 62]):=by
 unfold Fv at G
 refine Fn.of Tryz.func30 rfl rfl rfl fun w0 I ρ0=>?_
 show B3 _ ⟨w0,I,ρ0,1,1,56⟩ _ _ _
 refine Bf 1 17 Ay fun B=>?_
 refine Aj <| Ak (B6 _ _ [25]) 17 49 B rfl rfl ?_
 refine As ?_
 refine Ou Ee z3 I1 ([1,0,2]:List Int) eI ?_
 obtain⟨y,hy,G⟩:=Ab G
 refine F9 [0] [0] [] false (B4 _ _ _ hy) ?_
 refine Bd fun B=>?_
 refine Cc 49 89 B ?_
 refine As ?_
 obtain⟨y_2,hy_2,G⟩:=Ab G
 refine F9 [0] [0] [] false (B5 _ _ _ hy_2) ?_
 refine Bd fun B=>?_
 refine Bf 89 97 B fun B=>?_
 refine Aj <| Bf 97 105 B fun B=>?_
 refine Ap <| Ji (fun ((signer_1,issuer_1,i_1,d_1,above_1):Int×ByteArray×Int×Ac×List Af)=>mk [(0,.ptr 0 0),(1,ws name),(3,vk id),(6,.ptr 1 0),(9,vk y.1),(10,vk signer_1),(11,ws issuer_1),(12,.row 2),(13,vk i_1)] [(0,.box [.sl 1 (Aq eI d_1.L),vk d_1.At] 62),(1,.box [vk key.Alg,vk key.Bits] 28),(2,.row 104 15 (Aq Af.enc above_1))] 3) G (Ar [(0,0),(1,1)]) ?_
 rintro⟨signer_1,issuer_1,i_1,d_1,above_1⟩ m1 o1 G hn1
 replace G:Fv.l1 name key id y signer_1 issuer_1 i_1 d_1 above_1=some o1:=G
 show B3 _ _ _ _ (mk _ _ _)
 unfold Fv.l1 at G
 refine Aj <| Bf 3 27 Ay fun B=>?_
 refine Cp rfl G (fun h7 G=>?_) fun h7 G=>?_
 refine C8 ?_
 refine Aj <| Ap <| Cc 27 67 B ?_
 refine I8 Xc z9 qY ([(⟨#[99,97]⟩:ByteArray),(⟨#[99,98]⟩:ByteArray),(⟨#[99,99]⟩:ByteArray)]:List ByteArray) eS ?_
 refine As ?_
 obtain⟨e,he,G⟩:=Ab G
 refine As ?_
 refine Fi (rd:=[27]) rfl rfl (.loadR1 sE (Ew aK (Bq he) (o:=0) (c:=.str e) rfl rfl)) rfl rfl ?_
 refine Bd fun B=>?_
 refine Cc 67 147 B ?_
 refine As ?_
 refine Lq Hj Lc S6 ?_
 refine As ?_
 obtain⟨y_3,hy_3,G⟩:=Ab G
 refine F9 [0] [0] [] false (Pn _ _ _ _ _ _ _ _ hy_3) ?_
 refine Bd fun B=>?_
 refine Cc 147 187 B ?_
 refine As ?_
 refine I8 tQ vC zO ([y_3.1]:List Af) Af.enc ?_
 refine As ?_
 obtain⟨l,hl,G⟩:=Ab G
 refine Fi (rd:=[155,2]) rfl rfl (Dk tQ Af.enc_len .row rfl .row rfl hl rfl) rfl rfl ?_
 refine Bd fun B=>?_
 refine Ak (B6 _ _ []) 187 227 B rfl rfl ?_
 refine Bd fun B=>?_
 refine Ak (B6 _ _ []) 227 251 B rfl rfl ?_
 refine Bd fun B=>?_
 obtain rfl:=oi_ G
 exact⟨((W (11 + i_1),e,W (i_1 + 1),y_3.2,l),m1),aCz _,hn1,Ar [(0,0),(1,1),(2,171)]⟩
 refine Je ?_
 replace G:=Cd G hn1
 refine Cc 27 115 B ?_
 refine As ?_
 obtain⟨y_4,hy_4,G⟩:=Ab G
 refine F9 [0] [0] [] false (Pn _ _ _ _ _ _ _ _ hy_4) ?_
 refine I8 tQ vC zO ([y_4.1]:List Af) Af.enc ?_
 refine As ?_
 obtain⟨l_2,hl_2,G⟩:=Ab G
 refine Fi (rd:=[83,2]) rfl rfl (Dk tQ Af.enc_len .row rfl .row rfl hl_2 rfl) rfl rfl ?_
 refine Bd fun B=>?_
 refine E2 ?_
 obtain rfl:=oi_ G
 exact Gg [(0,0)] ⟨rfl,rfl⟩
theorem Yw (d:Ac) (name:ByteArray) (r:Av×Ac) (G:Bu d name=some r):Fn Tryz.prog 9 1 [.ptr 0 0,ws name] [.box [.sl 1 (Aq eI d.L),vk d.At] 62] (fun d' b'=>d'=.agg (Av.dv r.1)/\b'=[.box [.sl 1 (Aq eI r.2.L),vk r.2.At] 62]):=by
 unfold Bu at G
 refine Fn.of Tryz.func9 rfl rfl rfl fun w0 I ρ0=>?_
 show B3 _ ⟨w0,I,ρ0,1,1,100⟩ _ _ _
 refine Bf 1 9 Ay fun B=>?_
 refine Aj <| Ak (B6 _ _ [25]) 9 113 B rfl rfl ?_
 refine As ?_
 refine Ou Ee z3 I1 ([1,1,2,3]:List Int) eI ?_
 obtain⟨y,hy,G⟩:=Ab G
 refine F9 [0] [0] [] false (B4 _ _ _ hy) ?_
 refine As ?_
 obtain⟨y_2,hy_2,G⟩:=Ab G
 refine F9 [0] [0] [] false (Vh _ _ hy_2) ?_
 refine As ?_
 obtain⟨y_3,hy_3,G⟩:=Ab G
 refine F9 [0] [0] [] false (Ht _ _ _ hy_3) ?_
 refine As ?_
 obtain⟨y_4,hy_4,G⟩:=Ab G
 refine F9 [0] [0] [] false (Ht _ _ _ hy_4) ?_
 refine Lq Yf aHk z34 ?_
 refine Bd fun B=>?_
 refine Aj <| Bn (B6 _ _ []) (by kernel_rfl) [0,1,0,0,8,24,60,127,255,511] 113 193 B rfl rfl (by kernel_rfl) ?_
 refine As ?_
 obtain⟨y_5,hy_5,G⟩:=Ab G
 refine F9 [0] [0] [] false (B5 _ _ _ hy_5) ?_
 refine Bd fun B=>?_
 refine Bo (ι:=List Int×Int×Int×Int) (fun ((d_1,d_1_2,e_1,e_1_2):List Int×Int×Int×Int)=>mk [(0,.ptr 0 0),(1,ws name),(4,.ptr 1 0),(5,.ptr 2 0)] [(0,.box [.sl 1 (Aq eI d_1),vk d_1_2] 62),(1,.box [.val (.string (⟨#[]⟩:ByteArray)),.val (.int .i64 0),.val (.int .i64 0),.val (.slice none 0 0),.val (.bool false),.val (.slice none 0 0),.val (.slice none 0 0),.val (.slice none 0 0),.val (.bool false)] 34),(2,.box [ws name,vk e_1,vk e_1_2,.sl 1 (Aq eI y_2.1),.val (.bool y_3.1),.val (.slice none 0 0),.val (.slice none 0 0),.val (.slice none 0 0),.val (.bool y_4.1)] 34)] 3) (fun ((d_1,d_1_2,e_1,e_1_2):List Int×Int×Int×Int)=>Bu.j1 name y_2 y_3 y_4 d_1 d_1_2 e_1 e_1_2=some r) ?_ ?_
 refine Cc 193 217 B ?_
 refine As ?_
 obtain⟨y_6,hy_6,G⟩:=Ab G
 refine F9 [0] [0] [] false (B5 _ _ _ hy_6) ?_
 refine Bd fun B=>?_
 refine Cp rfl G (fun h5 G=>?_) fun h5 G=>?_
 refine Ak (B6 _ _ [225]) 217 273 B rfl rfl ?_
 refine As ?_
 refine Ou Ee z3 I1 ([3,4,2]:List Int) eI ?_
 obtain⟨y_7,hy_7,G⟩:=Ab G
 refine F9 [0] [0] [] false (B4 _ _ _ hy_7) ?_
 refine Bd fun B=>?_
 exact⟨(y_7.2.L,y_7.2.At,1,y_7.1),G,Ar [(0,0),(1,1),(2,97)]⟩
 refine C8 ?_
 exact⟨(y_6.2.L,y_6.2.At,y.1,W (y.1 + y_5.1)),G,Ar [(0,0),(1,1),(2,97)]⟩
 rintro⟨d_1,d_1_2,e_1,e_1_2⟩ G
 replace G:Bu.j1 name y_2 y_3 y_4 d_1 d_1_2 e_1 e_1_2=some r:=G
 show B3 _ _ _ _ (mk _ _ _)
 unfold Bu.j1 at G
 refine Aj <| Aj <| Ak (B6 _ _ [11]) 3 35 Ay rfl rfl ?_
 refine As ?_
 refine Ou Ee z3 I1 ([1,2,1,3,0]:List Int) eI ?_
 obtain⟨y_8,hy_8,G⟩:=Ab G
 refine F9 [0] [0] [] false (B4 _ _ _ hy_8) ?_
 refine Bd fun B=>?_
 refine Ap <| Ji (fun ((i_2,d_2,d_2_2,l_2):Int×List Int×Int×List A9)=>mk [(0,.ptr 0 0),(1,ws name),(4,.ptr 1 0),(5,.ptr 2 0),(6,vk i_2)] [(0,.box [.sl 1 (Aq eI d_2),vk d_2_2] 62),(1,.box [.val (.string (⟨#[]⟩:ByteArray)),.val (.int .i64 0),.val (.int .i64 0),.val (.slice none 0 0),.val (.bool false),.val (.slice none 0 0),.val (.slice none 0 0),.val (.slice none 0 0),.val (.bool false)] 34),(2,.box [ws name,vk e_1,vk e_1_2,.sl 1 (Aq eI y_2.1),.val (.bool y_3.1),.row 3,.val (.slice none 0 0),.val (.slice none 0 0),.val (.bool y_4.1)] 34),(3,.row 67 4 (Aq A9.enc l_2))] 4) G (Ar [(0,0),(1,1),(2,2)]) ?_
 rintro⟨i_2,d_2,d_2_2,l_2⟩ m2 o2 G hn2
 replace G:Bu.l2 name y_2 y_3 y_4 e_1 e_1_2 i_2 d_2 d_2_2 l_2=some o2:=G
 show B3 _ _ _ _ (mk _ _ _)
 unfold Bu.l2 at G
 refine Aj <| Bf 4 20 Ay fun B=>?_
 refine Cp rfl G (fun h9 G=>?_) fun h9 G=>?_
 refine C8 ?_
 refine Aj <| Ap <| Cc 20 52 B ?_
 refine As ?_
 obtain⟨y_9,hy_9,G⟩:=Ab G
 refine F9 [0] [0] [] false (bV _ _ hy_9) ?_
 refine Bd fun B=>?_
 refine Bo (ι:=List Int×Int×Int×Int) (fun ((d_3,d_3_2,key_3,key_3_2):List Int×Int×Int×Int)=>mk [(0,.ptr 0 0),(1,ws name),(4,.ptr 1 0),(5,.ptr 2 0),(6,vk i_2),(7,.ptr 3 0)] [(0,.box [.sl 1 (Aq eI d_3),vk d_3_2] 62),(1,.box [.val (.string (⟨#[]⟩:ByteArray)),.val (.int .i64 0),.val (.int .i64 0),.val (.slice none 0 0),.val (.bool false),.val (.slice none 0 0),.val (.slice none 0 0),.val (.slice none 0 0),.val (.bool false)] 34),(2,.box [ws name,vk e_1,vk e_1_2,.sl 1 (Aq eI y_2.1),.val (.bool y_3.1),.row 4,.val (.slice none 0 0),.val (.slice none 0 0),.val (.bool y_4.1)] 34),(3,.box [vk key_3,vk key_3_2] 28),(4,.row 67 4 (Aq A9.enc l_2))] 5) (fun ((d_3,d_3_2,key_3,key_3_2):List Int×Int×Int×Int)=>Bu.j3 name i_2 l_2 d_3 d_3_2 key_3 key_3_2=some o2) ?_ ?_
 refine Cc 52 76 B ?_
 refine As ?_
 obtain⟨y_10,hy_10,G⟩:=Ab G
 refine F9 [0] [0] [] false (B5 _ _ _ hy_10) ?_
 refine Bd fun B=>?_
 refine Cp rfl G (fun h12 G=>?_) fun h12 G=>?_
 refine Aj <| Ak (B6 _ _ [84]) 76 116 B rfl rfl ?_
 refine As ?_
 refine Ou Ee z3 I1 ([5,7]:List Int) eI ?_
 obtain⟨y_11,hy_11,G⟩:=Ab G
 refine F9 [0] [0] [] false (B4 _ _ _ hy_11) ?_
 refine Lq Hj Lc S6 ?_
 refine Bd fun B=>?_
 refine Ak (B6 _ _ []) 116 164 B rfl rfl ?_
 refine As ?_
 obtain⟨y_12,hy_12,G⟩:=Ab G
 refine F9 [0] [0] [] false (T3 _ _ _ hy_12) ?_
 refine Bd fun B=>?_
 exact⟨(y_12.2.L,y_12.2.At,y_11.1,y_12.1),G,Ar [(0,0),(1,1),(2,2),(3,36),(4,3)]⟩
 refine C8 ?_
 exact⟨(y_10.2.L,y_10.2.At,y_9.1.Alg,y_9.1.Bits),G,Ar [(0,0),(1,1),(2,2),(3,36),(4,3)]⟩
 rintro⟨d_3,d_3_2,key_3,key_3_2⟩ G
 replace G:Bu.j3 name i_2 l_2 d_3 d_3_2 key_3 key_3_2=some o2:=G
 show B3 _ _ _ _ (mk _ _ _)
 unfold Bu.j3 at G
 refine Cc 5 37 Ay ?_
 refine As ?_
 obtain⟨y_13,hy_13,G⟩:=Ab G
 refine F9 [0] [0] [] false (B5 _ _ _ hy_13) ?_
 refine Bd fun B=>?_
 refine Cc 37 77 B ?_
 refine As ?_
 refine Lq dH aAm wE ?_
 refine Bd fun B=>?_
 refine Bo (ι:=List Int×Int×List Af) (fun ((d_4,d_4_2,x_4):List Int×Int×List Af)=>mk [(0,.ptr 0 0),(1,ws name),(4,.ptr 1 0),(5,.ptr 2 0),(6,vk i_2),(9,.ptr 3 0)] [(0,.box [.sl 1 (Aq eI d_4),vk d_4_2] 62),(1,.box [.val (.string (⟨#[]⟩:ByteArray)),.val (.int .i64 0),.val (.int .i64 0),.val (.slice none 0 0),.val (.bool false),.val (.slice none 0 0),.val (.slice none 0 0),.val (.slice none 0 0),.val (.bool false)] 34),(2,.box [ws name,vk e_1,vk e_1_2,.sl 1 (Aq eI y_2.1),.val (.bool y_3.1),.row 4,.val (.slice none 0 0),.val (.slice none 0 0),.val (.bool y_4.1)] 34),(3,.box [vk key_3,vk key_3_2,.val (.int .i64 (W (100 + y_13.1))),.sl 15 (Aq Af.enc x_4)] 67),(4,.row 67 4 (Aq A9.enc l_2))] 5) (fun ((d_4,d_4_2,x_4):List Int×Int×List Af)=>Bu.j4 i_2 l_2 key_3 key_3_2 y_13 d_4 d_4_2 x_4=some o2) ?_ ?_
 refine Cc 77 101 B ?_
 refine As ?_
 obtain⟨y_14,hy_14,G⟩:=Ab G
 refine F9 [0] [0] [] false (Ht _ _ _ hy_14) ?_
 refine Bd fun B=>?_
 refine Cp rfl G (fun h18 G=>?_) fun h18 G=>?_
 refine Ak (B6 _ _ []) 101 157 B rfl rfl ?_
 refine As ?_
 obtain⟨y_15,hy_15,G⟩:=Ab G
 refine F9 [0] [0] [] false (R7 _ _ _ _ _ hy_15) ?_
 refine Bd fun B=>?_
 exact⟨(y_15.2.L,y_15.2.At,y_15.1),G,Ar [(0,0),(1,1),(2,2),(3,61),(4,4)]⟩
 refine C8 ?_
 exact⟨(y_14.2.L,y_14.2.At,([]:List Af)),G,Ar [(0,0),(1,1),(2,2),(3,61),(4,4)]⟩
 rintro⟨d_4,d_4_2,x_4⟩ G
 replace G:Bu.j4 i_2 l_2 key_3 key_3_2 y_13 d_4 d_4_2 x_4=some o2:=G
 show B3 _ _ _ _ (mk _ _ _)
 unfold Bu.j4 at G
 refine Ak (B6 _ _ []) 5 61 Ay rfl rfl ?_
 refine As ?_
 refine I8 Zs wE tB ([(A9.mk (Am.mk key_3 key_3_2) (W (100 + y_13.1)) x_4)]:List A9) A9.enc ?_
 obtain⟨l,hl,G⟩:=Ab G
 refine Fi (rd:=[4,29]) rfl rfl (Dk Zs A9.enc_len .row rfl .row rfl hl rfl) rfl rfl ?_
 refine Bd fun B=>?_
 refine Ak (B6 _ _ []) 61 85 B rfl rfl ?_
 refine Bd fun B=>?_
 obtain rfl:=oi_ G
 exact⟨((W (i_2 - 1),d_4,d_4_2,l),m2),aCz _,hn2,Ar [(0,0),(1,1),(2,2),(3,37)]⟩
 refine Je ?_
 replace G:=Cd G hn2
 refine Aj <| Ak (B6 _ _ [20,28,36,44]) 20 108 B rfl rfl ?_
 refine Ou Ee z3 I1 ([1,2]:List Int) eI ?_
 refine Ou Ee z3 I1 ([1,2]:List Int) eI ?_
 refine Ou Ee z3 I1 ([1]:List Int) eI ?_
 refine Ou Ee z3 I1 ([2,11]:List Int) eI ?_
 refine I8 aAj z22 aEu ([([1,2]:List Int),([1,2]:List Int),([1]:List Int),([2,11]:List Int),([]:(List Int))]:List (List Int)) (eL 1 eI) ?_
 refine As ?_
 obtain⟨y_16,hy_16,G⟩:=Ab G
 refine F9 [0] [0] [] false (B5 _ _ _ hy_16) ?_
 obtain⟨e,he,G⟩:=Ab G
 refine As ?_
 refine Fi (rd:=[52]) rfl rfl (.loadR1 aDu (Ew (kL _ _) (Bq he) (o:=0) (c:=.sl 1 (Aq eI e)) rfl rfl)) rfl rfl ?_
 refine Bd fun B=>?_
 refine Aj <| Ak (B6 _ _ [108,116,124]) 108 188 B rfl rfl ?_
 refine Ou Ee z3 I1 ([1,2,3,4]:List Int) eI ?_
 refine Ou Ee z3 I1 ([2,3,4]:List Int) eI ?_
 refine Ou Ee z3 I1 ([3,4]:List Int) eI ?_
 refine I8 aAj z22 aEu ([([1,2,3,4]:List Int),([2,3,4]:List Int),([3,4]:List Int)]:List (List Int)) (eL 1 eI) ?_
 refine As ?_
 obtain⟨y_17,hy_17,G⟩:=Ab G
 refine F9 [0] [0] [] false (B5 _ _ _ hy_17) ?_
 obtain⟨e_2,he_2,G⟩:=Ab G
 refine As ?_
 refine Fi (rd:=[132]) rfl rfl (.loadR1 aDu (Ew (kL _ _) (Bq he_2) (o:=0) (c:=.sl 1 (Aq eI e_2)) rfl rfl)) rfl rfl ?_
 refine Bd fun B=>?_
 refine Bf 188 204 B fun B=>?_
 refine E2 ?_
 obtain rfl:=oi_ G
 exact Gg [(0,0)] ⟨rfl,rfl⟩
theorem fS (d:Ac) (alias:ByteArray) (name:ByteArray) (id:Int) (r:Ax×Ac) (G:Gr d alias name id=some r):Fn Tryz.prog 31 1 [.ptr 0 0,ws alias,ws name,vk id] [.box [.sl 1 (Aq eI d.L),vk d.At] 62] (fun d' b'=>d'=.agg (Ax.dv r.1)/\b'=[.box [.sl 1 (Aq eI r.2.L),vk r.2.At] 62]):=by
 unfold Gr at G
 refine Fn.of Tryz.func31 rfl rfl rfl fun w0 I ρ0=>?_
 show B3 _ ⟨w0,I,ρ0,1,1,28⟩ _ _ _
 refine Bf 1 9 Ay fun B=>?_
 refine Cc 9 81 B ?_
 refine As ?_
 obtain⟨y,hy,G⟩:=Ab G
 refine F9 [0] [0] [] false (bV _ _ hy) ?_
 refine As ?_
 obtain⟨y_2,hy_2,G⟩:=Ab G
 refine F9 [0] [0] [] false (Ht _ _ _ hy_2) ?_
 refine Lq aQ aA9 z50 ?_
 refine Bd fun B=>?_
 refine Bo (ι:=Ac×List Af) (fun ((b_1,e_1):Ac×List Af)=>mk [(8,.ptr 1 0),(9,.ptr 2 0)] [(0,.box [.sl 1 (Aq eI b_1.L),vk b_1.At] 62),(1,.box [.val (.string (⟨#[]⟩:ByteArray)),.val (.int .i64 0),.val (.int .i64 0),.val (.int .i64 0),.val (.bool false),.val (.slice none 0 0)] 50),(2,.box [ws alias,vk y.1.Alg,vk y.1.Bits,vk id,.val (.bool y_2.1),.sl 15 (Aq Af.enc e_1)] 50)] 3) (fun ((b_1,e_1):Ac×List Af)=>Gr.j1 alias id y y_2 b_1 e_1=some r) ?_ ?_
 refine Cc 81 105 B ?_
 refine As ?_
 obtain⟨y_3,hy_3,G⟩:=Ab G
 refine F9 [0] [0] [] false (Ht _ _ _ hy_3) ?_
 refine Bd fun B=>?_
 refine Cp rfl G (fun h4 G=>?_) fun h4 G=>?_
 refine Ak (B6 _ _ []) 105 169 B rfl rfl ?_
 refine As ?_
 obtain⟨y_4,hy_4,G⟩:=Ab G
 refine F9 [0] [0] [] false (R7 _ _ _ _ _ hy_4) ?_
 refine Bd fun B=>?_
 exact⟨(y_4.2,y_4.1),G,Ar [(0,0),(1,1),(2,65)]⟩
 refine C8 ?_
 exact⟨(y_3.2,([]:List Af)),G,Ar [(0,0),(1,1),(2,65)]⟩
 rintro⟨b_1,e_1⟩ G
 replace G:Gr.j1 alias id y y_2 b_1 e_1=some r:=G
 show B3 _ _ _ _ (mk _ _ _)
 unfold Gr.j1 at G
 refine Bf 3 19 Ay fun B=>?_
 refine E2 ?_
 obtain rfl:=oi_ G
 exact Gg [(0,0)] ⟨rfl,rfl⟩
theorem Ya (d:Ac) (name:ByteArray) (r:(List Ax)×Ac) (G:Gn d name=some r):Fn Tryz.prog 10 1 [.ptr 0 0,ws name] [.box [.sl 1 (Aq eI d.L),vk d.At] 62] (fun d' b'=>d'=.row 1/\b'=[.box [.sl 1 (Aq eI r.2.L),vk r.2.At] 62,.row 50 6 (Aq Ax.enc r.1)]):=by
 unfold Gn at G
 refine Fn.of Tryz.func10 rfl rfl rfl fun w0 I ρ0=>?_
 show B3 _ ⟨w0,I,ρ0,1,1,34⟩ _ _ _
 refine Bf 1 9 Ay fun B=>?_
 refine Bf 9 17 B fun B=>?_
 refine Aj <| Cc 17 49 B ?_
 refine As ?_
 obtain⟨y,hy,G⟩:=Ab G
 refine F9 [0] [0] [] false (B5 _ _ _ hy) ?_
 refine Bd fun B=>?_
 refine Ap <| Ji (fun ((i_1,d_1,l_1):Int×Ac×List Ax)=>mk [(0,.ptr 0 0),(1,ws name),(5,.row 1),(6,vk i_1)] [(0,.box [.sl 1 (Aq eI d_1.L),vk d_1.At] 62),(1,.row 50 6 (Aq Ax.enc l_1))] 2) G (Ar [(0,0)]) ?_
 rintro⟨i_1,d_1,l_1⟩ m1 o1 G hn1
 replace G:Gn.l1 name i_1 d_1 l_1=some o1:=G
 show B3 _ _ _ _ (mk _ _ _)
 unfold Gn.l1 at G
 refine Aj <| Bf 2 18 Ay fun B=>?_
 refine Cp rfl G (fun h5 G=>?_) fun h5 G=>?_
 refine C8 ?_
 refine Aj <| Ap <| Bf 18 42 B fun B=>?_
 refine Bn (B6 _ _ []) (by kernel_rfl) [0,0,0,0,12,28,0,0,128,0,512,1536,3968,8190,16382,32767,65535] 42 178 B rfl rfl (by kernel_rfl) ?_
 refine As ?_
 refine I8 Xc z9 qY ([(⟨#[107,49]⟩:ByteArray),(⟨#[107,50]⟩:ByteArray),(⟨#[107,51]⟩:ByteArray),(⟨#[107,52]⟩:ByteArray)]:List ByteArray) eS ?_
 refine As ?_
 obtain⟨e,he,G⟩:=Ab G
 refine As ?_
 refine Fi (rd:=[58]) rfl rfl (.loadR1 sE (Ew aK (Bq he) (o:=0) (c:=.str e) rfl rfl)) rfl rfl ?_
 refine As ?_
 obtain⟨y_2,hy_2,G⟩:=Ab G
 refine F9 [0] [0] [] false (B5 _ _ _ hy_2) ?_
 refine As ?_
 obtain⟨y_3,hy_3,G⟩:=Ab G
 refine F9 [0] [0] [] false (fS _ _ _ _ _ hy_3) ?_
 refine I8 yO z50 aFe ([y_3.1]:List Ax) Ax.enc ?_
 obtain⟨l,hl,G⟩:=Ab G
 refine Fi (rd:=[1,154]) rfl rfl (Dk yO Ax.enc_len .row rfl .row rfl hl rfl) rfl rfl ?_
 refine Bd fun B=>?_
 refine Ak (B6 _ _ []) 178 202 B rfl rfl ?_
 refine Bd fun B=>?_
 obtain rfl:=oi_ G
 exact⟨((W (i_1 - 1),y_3.2,l),m1),aCz _,hn1,Ar [(0,0),(1,162)]⟩
 refine Je ?_
 replace G:=Cd G hn1
 refine Bf 18 34 B fun B=>?_
 refine E2 ?_
 obtain rfl:=oi_ G
 exact Gg [(0,0),(1,1)] ⟨rfl,rfl⟩
theorem lZ (d:Ac) (r:Am×Ac) (G:Oy d=some r):Fn Tryz.prog 12 1 [.ptr 0 0] [.box [.sl 1 (Aq eI d.L),vk d.At] 62] (fun d' b'=>d'=.agg [vk r.1.Alg,vk r.1.Bits]/\b'=[.box [.sl 1 (Aq eI r.2.L),vk r.2.At] 62]):=by
 unfold Oy at G
 refine Fn.of Tryz.func12 rfl rfl rfl fun w0 I ρ0=>?_
 show B3 _ ⟨w0,I,ρ0,1,1,12⟩ _ _ _
 refine Bf 1 9 Ay fun B=>?_
 refine Cc 9 41 B ?_
 refine As ?_
 obtain⟨y,hy,G⟩:=Ab G
 refine F9 [0] [0] [] false (B5 _ _ _ hy) ?_
 refine Bd fun B=>?_
 refine Cc 41 89 B ?_
 refine As ?_
 obtain⟨y_2,hy_2,G⟩:=Ab G
 refine F9 [0] [0] [] false (T3 _ _ _ hy_2) ?_
 refine Lq Hj Lc S6 ?_
 refine Bd fun B=>?_
 refine E2 ?_
 obtain rfl:=oi_ G
 exact Gg [(0,0)] ⟨rfl,rfl⟩
theorem lQ (d:Ac) (e:Av) (r:Av×Ac) (G:E7 d e=some r):Fn Tryz.prog 15 1 [.ptr 0 0,.agg (Av.dv e)] [.box [.sl 1 (Aq eI d.L),vk d.At] 62] (fun d' b'=>d'=.agg (Av.dv r.1)/\b'=[.box [.sl 1 (Aq eI r.2.L),vk r.2.At] 62]):=by
 unfold E7 at G
 refine Fn.of Tryz.func15 rfl rfl rfl fun w0 I ρ0=>?_
 show B3 _ ⟨w0,I,ρ0,1,1,75⟩ _ _ _
 refine Bf 1 17 Ay fun B=>?_
 refine Bo (ι:=List Int×Int×ByteArray×Int×Int×List Int×List A9×List Int×List Int) (fun ((b_1,b_1_2,e_1,e_1_2,e_1_3,e_1_4,e_1_5,e_1_6,e_1_7):List Int×Int×ByteArray×Int×Int×List Int×List A9×List Int×List Int)=>mk [(3,.ptr 1 0),(4,.ptr 2 0)] [(0,.box [.sl 1 (Aq eI b_1),vk b_1_2] 62),(1,.box [ws e_1,vk e_1_2,vk e_1_3,.sl 1 (Aq eI e_1_4),.val (.bool e.OwnOrder),.sl 4 (Aq A9.enc e_1_5),.sl 1 (Aq eI e_1_6),.sl 1 (Aq eI e_1_7),.val (.bool e.Fallback)] 34),(2,.box [.val (.string (⟨#[]⟩:ByteArray)),.val (.int .i64 0),.val (.int .i64 0),.val (.slice none 0 0),.val (.bool false),.val (.slice none 0 0),.val (.slice none 0 0),.val (.slice none 0 0),.val (.bool false)] 34)] 3) (fun ((b_1,b_1_2,e_1,e_1_2,e_1_3,e_1_4,e_1_5,e_1_6,e_1_7):List Int×Int×ByteArray×Int×Int×List Int×List A9×List Int×List Int)=>E7.j1 e b_1 b_1_2 e_1 e_1_2 e_1_3 e_1_4 e_1_5 e_1_6 e_1_7=some r) ?_ ?_
 refine Cc 17 33 B ?_
 refine As ?_
 obtain⟨y,hy,G⟩:=Ab G
 refine F9 [0] [0] [] false (B5 _ _ _ hy) ?_
 refine Gh fun B=>?_
 refine Ap <| Bf 33 49 B fun B=>?_
 refine Cp rfl G (fun h4 G=>?_) fun h4 G=>?_
 refine Ak (B6 _ _ [57]) 49 89 B rfl rfl ?_
 refine As ?_
 refine Ou Xc z9 qY ([(⟨#[]⟩:ByteArray),(⟨#[97,32,98]⟩:ByteArray),(⟨#[120]⟩:ByteArray)]:List ByteArray) eS ?_
 obtain⟨y_2,hy_2,G⟩:=Ab G
 refine F9 [0] [0] [] false (Ig _ _ _ hy_2) ?_
 refine Bd fun B=>?_
 exact⟨(y_2.2.L,y_2.2.At,y_2.1,e.Least,e.Most,e.Suites,e.Identities,e.Anchors,e.Hashes),G,Ar [(0,0),(1,1),(2,9)]⟩
 refine Bf 49 65 B fun B=>?_
 refine Cp rfl G (fun h7 G=>?_) fun h7 G=>?_
 refine Ak (B6 _ _ [97]) 65 129 B rfl rfl ?_
 refine As ?_
 refine Ou Ee z3 I1 ([0,5,W (e.Most + 1)]:List Int) eI ?_
 obtain⟨y_3,hy_3,G⟩:=Ab G
 refine F9 [0] [0] [] false (B4 _ _ _ hy_3) ?_
 refine Bd fun B=>?_
 exact⟨(y_3.2.L,y_3.2.At,e.Name,y_3.1,e.Most,e.Suites,e.Identities,e.Anchors,e.Hashes),G,Ar [(0,0),(1,1),(2,9)]⟩
 refine Bf 65 81 B fun B=>?_
 refine Cp rfl G (fun h10 G=>?_) fun h10 G=>?_
 refine Ak (B6 _ _ [89]) 81 121 B rfl rfl ?_
 refine As ?_
 refine Ou Ee z3 I1 ([5,0]:List Int) eI ?_
 obtain⟨y_4,hy_4,G⟩:=Ab G
 refine F9 [0] [0] [] false (B4 _ _ _ hy_4) ?_
 refine Bd fun B=>?_
 exact⟨(y_4.2.L,y_4.2.At,e.Name,e.Least,y_4.1,e.Suites,e.Identities,e.Anchors,e.Hashes),G,Ar [(0,0),(1,1),(2,9)]⟩
 refine Bf 81 97 B fun B=>?_
 refine Cp rfl G (fun h13 G=>?_) fun h13 G=>?_
 refine Ak (B6 _ _ [137]) 97 185 B rfl rfl ?_
 refine C0 rfl rfl (Fu Ee z3 (by decide) rfl rfl rfl rfl I1 (cs:=[]) .nil rfl (l:=([]:List Int)) (f:=eI) rfl) rfl rfl ?_
 refine As ?_
 obtain⟨l,hl,G⟩:=Ab G
 refine Fi (rd:=[97]) rfl rfl (Dk Ee Jo .row rfl .sl rfl hl rfl) rfl rfl ?_
 refine As ?_
 refine Ou Ee z3 I1 ([17,0,3,3]:List Int) eI ?_
 obtain⟨y_5,hy_5,G⟩:=Ab G
 refine F9 [0] [0] [] false (B4 _ _ _ hy_5) ?_
 refine I8 Ee z3 I1 ([y_5.1]:List Int) eI ?_
 obtain⟨l_2,hl_2,G⟩:=Ab G
 refine Fi (rd:=[121,153]) rfl rfl (Dk Ee Jo .row rfl .row rfl hl_2 rfl) rfl rfl ?_
 refine Bd fun B=>?_
 exact⟨(y_5.2.L,y_5.2.At,e.Name,e.Least,e.Most,l_2,e.Identities,e.Anchors,e.Hashes),G,Ar [(0,0),(1,1),(2,9)]⟩
 refine Bf 97 113 B fun B=>?_
 refine Cp rfl G (fun h16 G=>?_) fun h16 G=>?_
 refine Ak (B6 _ _ []) 113 137 B rfl rfl ?_
 refine I8 Ee z3 I1 ([2,1]:List Int) eI ?_
 refine Bd fun B=>?_
 exact⟨(y.2.L,y.2.At,e.Name,e.Least,e.Most,e.Suites,e.Identities,([2,1]:List Int),e.Hashes),G,Ar [(0,0),(1,1),(2,9)]⟩
 refine Bf 113 129 B fun B=>?_
 refine Cp rfl G (fun h19 G=>?_) fun h19 G=>?_
 refine Ak (B6 _ _ [137]) 129 177 B rfl rfl ?_
 refine As ?_
 refine Ou Ee z3 I1 ([5,3,0]:List Int) eI ?_
 obtain⟨y_6,hy_6,G⟩:=Ab G
 refine F9 [0] [0] [] false (B4 _ _ _ hy_6) ?_
 refine I8 Ee z3 I1 ([y_6.1]:List Int) eI ?_
 refine Bd fun B=>?_
 exact⟨(y_6.2.L,y_6.2.At,e.Name,e.Least,e.Most,e.Suites,e.Identities,e.Anchors,([y_6.1]:List Int)),G,Ar [(0,0),(1,1),(2,9)]⟩
 refine Bf 129 145 B fun B=>?_
 refine Cp rfl G (fun h22 G=>?_) fun h22 G=>?_
 refine Ak (B6 _ _ []) 145 225 B rfl rfl ?_
 refine C0 rfl rfl (Fu Zs wE (by decide) rfl rfl rfl rfl tB (cs:=[]) .nil rfl (l:=([]:List A9)) (f:=A9.enc) rfl) rfl rfl ?_
 refine As ?_
 obtain⟨l_3,hl_3,G⟩:=Ab G
 refine Fi (rd:=[145]) rfl rfl (Dk Zs A9.enc_len .row rfl .sl rfl hl_3 rfl) rfl rfl ?_
 refine Lq Hj Lc S6 ?_
 refine Lq dH aAm wE ?_
 refine I8 Zs wE tB ([(A9.mk (Am.mk 1 0) 0 ([]:(List Af)))]:List A9) A9.enc ?_
 obtain⟨l_4,hl_4,G⟩:=Ab G
 refine Fi (rd:=[169,193]) rfl rfl (Dk Zs A9.enc_len .row rfl .row rfl hl_4 rfl) rfl rfl ?_
 refine Bd fun B=>?_
 exact⟨(y.2.L,y.2.At,e.Name,e.Least,e.Most,e.Suites,l_4,e.Anchors,e.Hashes),G,Ar [(0,0),(1,1),(2,9)]⟩
 refine Ak (B6 _ _ []) 145 249 B rfl rfl ?_
 refine C0 rfl rfl (Fu Zs wE (by decide) rfl rfl rfl rfl tB (cs:=[]) .nil rfl (l:=([]:List A9)) (f:=A9.enc) rfl) rfl rfl ?_
 refine As ?_
 obtain⟨l_5,hl_5,G⟩:=Ab G
 refine Fi (rd:=[145]) rfl rfl (Dk Zs A9.enc_len .row rfl .sl rfl hl_5 rfl) rfl rfl ?_
 refine Lq Hj Lc S6 ?_
 refine As ?_
 refine Lq Hj Lc S6 ?_
 obtain⟨y_7,hy_7,G⟩:=Ab G
 refine F9 [0] [0] [] false (R7 _ _ _ _ _ hy_7) ?_
 refine Lq dH aAm wE ?_
 refine I8 Zs wE tB ([(A9.mk (Am.mk 5 2048) 7 y_7.1)]:List A9) A9.enc ?_
 obtain⟨l_6,hl_6,G⟩:=Ab G
 refine Fi (rd:=[169,217]) rfl rfl (Dk Zs A9.enc_len .row rfl .row rfl hl_6 rfl) rfl rfl ?_
 refine Bd fun B=>?_
 exact⟨(y_7.2.L,y_7.2.At,e.Name,e.Least,e.Most,e.Suites,l_6,e.Anchors,e.Hashes),G,Ar [(0,0),(1,1),(2,9)]⟩
 rintro⟨b_1,b_1_2,e_1,e_1_2,e_1_3,e_1_4,e_1_5,e_1_6,e_1_7⟩ G
 replace G:E7.j1 e b_1 b_1_2 e_1 e_1_2 e_1_3 e_1_4 e_1_5 e_1_6 e_1_7=some r:=G
 show B3 _ _ _ _ (mk _ _ _)
 unfold E7.j1 at G
 refine Bf 3 19 Ay fun B=>?_
 refine E2 ?_
 obtain rfl:=oi_ G
 exact Gg [(0,0)] ⟨rfl,rfl⟩
end Go.Proofs.YtchpcpaacenodaaGreat
