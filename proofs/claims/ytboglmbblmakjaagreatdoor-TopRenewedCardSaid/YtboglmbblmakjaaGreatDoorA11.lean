import Derived.Test.YtboglmbblmakjaaGreatDoorT1
import Derived.Test.YtboglmbblmakjaaGreatDoorEU
import Derived.Test.YtboglmbblmakjaaGreatDoorA7
import Derived.Test.YtboglmbblmakjaaGreatDoorA8
import Derived.Test.YtboglmbblmakjaaGreatDoorA9
import Derived.Test.YtboglmbblmakjaaGreatDoorA10
set_option linter.unusedVariables false
set_option linter.unusedSimpArgs false
set_option maxRecDepth 100000
set_option maxHeartbeats 40000000
namespace Go.Proofs.YtboglmbblmakjaaGreatDoor
open Go.RowKit
theorem bL {p u purpose day r} (G:G4 p u purpose day=some r):Fn Tryz.prog 35 0 [.agg [.sl 6 (Ac Al.enc p.Rules),.sl 2 (Ac Bk.enc p.Keeps)],.agg [vk u.Alg,vk u.Bits],vk purpose,vk day] [] (fun d' b'=>d'=.tup [.val (.bool r.1),vk r.2.1,vk r.2.2]/\b'=[]):=by
 unfold G4 at G
 refine Ea 0 30 Tryz.func35 fun _ _ _=>?_
 refine Qg (.l 5 (.e 1)) fun _ _ _ B G=>?_
 refine Ar <| Ca (E4 _ _ []) (by kernel_rfl) [0,0,0,0,15,0,0,0,0,511,1023,2047,4095] 104 208 B rfl rfl (by kernel_rfl) ?_
 exact C6
instance bB5:Wk 35:=⟨_,@bL⟩
theorem Zk {s r} (G:E3 s=some r):Fn Tryz.prog 114 0 [.sl 1 (Ac eI s)] [] (fun d' b'=>d'=.sl 1 (Ac eI r)/\b'=[]):=by
 unfold E3 at G
 refine Ea 0 8 Tryz.func114 fun _ _ _=>?_
 refine Cb 1 fun B G=>?_
 refine Ar <| Ba (ι:=Bool) (fun (x4_1:Bool)=>mk [(0,.sl 1 (Ac eI s)),(4,.val (.bool x4_1))] [] 0) (fun (x4_1:Bool)=>E3.j1 s x4_1=some r) ?_ ?_
 refine Cb 1 fun B G=>?_
 refine Yk rfl rfl ⟨_,aK4⟩ rfl ?_
 intro bz hz2
 rcases bz with _ | _
 replace G:=cR G
 exact C6
 replace G:=eC ((Rj R7 (by decide) (hz2 rfl))) G
 exact C6
 rintro x4_1 G
 unfold E3.j1 at G
 refine E6 (.l 0 (.e 2)) fun _ B G=>?_
 refine Ex rfl rfl (Fm Hz z3 (by decide) rfl rfl rfl rfl Pp (cs:=[]) .nil rfl (l:=([]:List Int)) (f:=eI) rfl) rfl rfl ?_
 exact C6
instance aZa:Wk 114:=⟨_,@Zk⟩
theorem Lv {s r} (G:Ei s=some r):Fn Tryz.prog 115 0 [.sl 4 (Ac Av.enc s)] [] (fun d' b'=>d'=.row 0/\b'=[.row 86 4 (Ac Av.enc r)]):=by
 unfold Ei at G
 refine Ea 0 8 Tryz.func115 fun _ _ _=>?_
 refine Cb 1 fun B G=>?_
 refine Ar <| Ba (ι:=Bool) (fun (x4_1:Bool)=>mk [(0,.sl 4 (Ac Av.enc s)),(4,.val (.bool x4_1))] [] 0) (fun (x4_1:Bool)=>Ei.j1 s x4_1=some r) ?_ ?_
 refine Cb 1 fun B G=>?_
 refine Yk rfl rfl ⟨_,aKr⟩ rfl ?_
 intro bz hz2
 rcases bz with _ | _
 replace G:=cR G
 exact C6
 replace G:=eC ((Rj Av.enc_len (by decide) (hz2 rfl))) G
 exact C6
 rintro x4_1 G
 unfold Ei.j1 at G
 refine E6 (.l 0 (.e 2)) fun _ B G=>?_
 refine Ex rfl rfl (Fm aOu z86 (by decide) rfl rfl rfl rfl aN2 (cs:=[]) .nil rfl (l:=([]:List Av)) (f:=Av.enc) rfl) rfl rfl ?_
 exact C6
instance aZf:Wk 115:=⟨_,@Lv⟩
theorem Kn {s r} (G:D2 s=some r):Fn Tryz.prog 168 0 [.sl 15 (Ac Ab.enc s)] [] (fun d' b'=>d'=.row 0/\b'=[.row 148 15 (Ac Ab.enc r)]):=by
 unfold D2 at G
 refine Ea 0 8 Tryz.func168 fun _ _ _=>?_
 refine Cb 1 fun B G=>?_
 refine Ar <| Ba (ι:=Bool) (fun (x4_1:Bool)=>mk [(0,.sl 15 (Ac Ab.enc s)),(4,.val (.bool x4_1))] [] 0) (fun (x4_1:Bool)=>D2.j1 s x4_1=some r) ?_ ?_
 refine Cb 1 fun B G=>?_
 refine Yk rfl rfl ⟨_,aKy⟩ rfl ?_
 intro bz hz2
 rcases bz with _ | _
 replace G:=cR G
 exact C6
 replace G:=eC ((Rj Ab.enc_len (by decide) (hz2 rfl))) G
 exact C6
 rintro x4_1 G
 unfold D2.j1 at G
 refine E6 (.l 0 (.e 2)) fun _ B G=>?_
 refine Ex rfl rfl (Fm aN6 aBn (by decide) rfl rfl rfl rfl aKg (cs:=[]) .nil rfl (l:=([]:List Ab)) (f:=Ab.enc) rfl) rfl rfl ?_
 exact C6
instance aZq:Wk 168:=⟨_,@Kn⟩
theorem Wr {s r} (G:Fy s=some r):Fn Tryz.prog 169 0 [.sl 1 (Ac eS s)] [] (fun d' b'=>d'=.sl 1 (Ac eS r)/\b'=[]):=by
 unfold Fy at G
 refine Ea 0 8 Tryz.func169 fun _ _ _=>?_
 refine Cb 1 fun B G=>?_
 refine Ar <| Ba (ι:=Bool) (fun (x4_1:Bool)=>mk [(0,.sl 1 (Ac eS s)),(4,.val (.bool x4_1))] [] 0) (fun (x4_1:Bool)=>Fy.j1 s x4_1=some r) ?_ ?_
 refine Cb 1 fun B G=>?_
 refine Yk rfl rfl ⟨_,aKu⟩ rfl ?_
 intro bz hz2
 rcases bz with _ | _
 replace G:=cR G
 exact C6
 replace G:=eC ((Rj jO (by decide) (hz2 rfl))) G
 exact C6
 rintro x4_1 G
 unfold Fy.j1 at G
 refine E6 (.l 0 (.e 2)) fun _ B G=>?_
 refine Ex rfl rfl (Fm eE z9 (by decide) rfl rfl rfl rfl ck9 (cs:=[]) .nil rfl (l:=([]:List ByteArray)) (f:=eS) rfl) rfl rfl ?_
 exact C6
instance aX3:Wk 169:=⟨_,@Wr⟩
theorem Wq {x' r} (G:Ek x'=some r):Fn Tryz.prog 116 0 [.agg (Av.dv x')] [] (fun d' b'=>d'=.agg (Av.dv r)/\b'=[]):=by
 unfold Ek at G
 refine Ea 0 27 Tryz.func116 fun _ _ _=>?_
 refine Cb 2 fun B G=>?_
 obtain⟨y,hy,G⟩:=Af G
 refine Gt (rd:=[]) (ps:=[]) (gs:=[]) false rfl (Kn hy) rfl rfl (.cons .sl .nil) rfl rfl (by intro h; cases h) rfl (by intro h; first | (cases h; done) | exact⟨_,_,⟨rfl,rfl⟩,by simp,by simp⟩) ?_
 rintro _ _ ⟨rfl,rfl⟩
 refine Cb 3 fun B G=>?_
 refine Ip (fun ((x12_1,l_1):Int×List Ab)=>mk [(1,.ptr 0 0),(2,.ptr 1 0),(10,.row 2),(11,.val (.int .i64 (y.length:Int))),(12,vk x12_1)] [(0,.box [vk x'.Key.Alg,vk x'.Key.Bits,vk x'.KeyId,.row 2] 86),(1,.box [.val (.int .i64 0),.val (.int .i64 0),.val (.int .i64 0),.val (.slice none 0 0)] 86),(2,.row 148 15 (Ac Ab.enc l_1))] 3) G (B5 [(0,0),(1,8),(2,32)]) ?_
 rintro⟨x12_1,l_1⟩ m1 o1 G hn1
 unfold Ek.l1 at G
 refine E6 (.r 2 (.e 6)) fun _ e he B G=>?_
 refine Ca (E4 _ _ []) (by kernel_rfl) [0,1,0,0,8,24,63,127,255] 59 131 B rfl rfl (by kernel_rfl) ?_
 refine Cb 1 fun y_2 _ B G=>?_
 refine Lk (rd:=[2]) rfl rfl (Qu aT5 rfl (Fh Ab.enc_len (Cf he) (o:=12) (m:=1) (by decide) rfl) aVi (cs':=[.sl 1 (Ac eS y_2)]) (.cons .sl .nil) (My Ab.enc_len (Cf he) (o:=12) (x':=(Ab.mk e.Serial e.Issuer e.Subject e.Key e.KeyId e.Hash e.From e.To e.Authority e.Path y_2 e.Seal)) (aC1 rfl) rfl rfl)) rfl rfl ?_
 exact C6
instance aY4:Wk 116:=⟨_,@Wq⟩
theorem Ww {e r} (G:Em e=some r):Fn Tryz.prog 70 0 [.agg (Ad.dv e)] [] (fun d' b'=>d'=.agg (Ad.dv r)/\b'=[]):=by
 unfold Em at G
 refine Ea 0 37 Tryz.func70 fun _ _ _=>?_
 refine Cb 1 fun B G=>?_
 refine Ar <| Ca (E4 _ _ []) (by kernel_rfl) [0,1,3,0,8,31,0,64,255,0,512,2047,1759,8191,16383,32767,65535,131071,262143,524287] 16 176 B rfl rfl (by kernel_rfl) ?_
 refine Cb 3 fun y _ y_2 _ y_3 _ B G=>?_
 obtain⟨y_4,hy_4,G⟩:=Af G
 refine Gt (rd:=[]) (ps:=[]) (gs:=[]) false rfl (Lv hy_4) rfl rfl (.cons .sl .nil) rfl rfl (by intro h; cases h) rfl (by intro h; first | (cases h; done) | exact⟨_,_,⟨rfl,rfl⟩,by simp,by simp⟩) ?_
 rintro _ _ ⟨rfl,rfl⟩
 refine Cb 3 fun B G=>?_
 refine Ip (fun ((x24_1,l_1):Int×List Av)=>mk [(1,.ptr 0 0),(2,.ptr 1 0),(22,.row 2),(23,.val (.int .i64 (y_4.length:Int))),(24,vk x24_1)] [(0,.box [ws e.Name,vk e.Least,vk e.Most,.sl 1 (Ac eI y),.val (.bool e.OwnOrder),.row 2,.sl 1 (Ac eI y_2),.sl 1 (Ac eI y_3),.val (.bool e.Fallback)] 83),(1,.box [.val (.string (⟨#[]⟩:ByteArray)),.val (.int .i64 0),.val (.int .i64 0),.val (.slice none 0 0),.val (.bool false),.val (.slice none 0 0),.val (.slice none 0 0),.val (.slice none 0 0),.val (.bool false)] 83),(2,.row 86 4 (Ac Av.enc l_1))] 3) G (B5 [(0,0),(1,8),(2,104)]) ?_
 rintro⟨x24_1,l_1⟩ m1 o1 G hn1
 unfold Em.l1 at G
 refine E6 (.r 2 (.e 6)) fun _ _ he_2 B G=>?_
 refine Ca (E4 _ _ []) (by kernel_rfl) [0,1,0,0,8,31,63] 59 115 B rfl rfl (by kernel_rfl) ?_
 refine Cb 1 fun y_5 _ B G=>?_
 refine sR_ aN2 he_2 (x':=y_5) ?_
 exact C6
instance bB9:Wk 70:=⟨_,@Ww⟩
theorem Y1 {e r} (G:En e=some r):Fn Tryz.prog 36 0 [.agg (Ak.dv e)] [] (fun d' b'=>d'=.agg [.sl 9 (Ac Ad.enc r.Endpoints),.sl 2 (Ac Bi.enc r.Edges),.row 0]/\b'=[.row 47 5 (Ac Aq.enc r.Items)]):=by
 unfold En at G
 refine Ea 0 48 Tryz.func36 fun _ _ _=>?_
 refine Mn 0 16 Gu fun B=>?_
 refine Q1 16 72 B ?_
 refine Ex rfl rfl (Fm aCq z98 (by decide) rfl rfl rfl rfl aNd (cs:=[]) .nil rfl (l:=([]:List Bi)) (f:=Bi.enc) rfl) rfl rfl ?_
 refine Il ?_
 obtain⟨l,hl,G⟩:=Af G
 refine Lk (rd:=[16]) rfl rfl (Od aCq Bi.enc_len .row rfl .sl rfl hl rfl) rfl rfl ?_
 refine Ox eN aB1 z31 ?_
 refine Jp fun B=>?_
 refine Ar <| Mn 72 104 B fun B=>?_
 refine Da <| Ip (fun ((x16_1,l_1):Int×List Ad)=>mk [(1,.ptr 0 0),(2,.ptr 1 0),(3,.ptr 2 0),(14,.sl 9 (Ac Ad.enc e.Endpoints)),(15,.val (.int .i64 (e.Endpoints.length:Int))),(16,vk x16_1)] [(0,.box (Ak.dv e) 31),(1,.box [.val (.slice none 0 0),.val (.slice none 0 0),.val (.slice none 0 0)] 31),(2,.box [.row 3,.row 4,.val (.slice none 0 0)] 31),(3,.row 83 9 (Ac Ad.enc l_1)),(4,.row 98 2 (Ac Bi.enc l))] 5) G (B5 [(0,0),(1,8),(2,56),(4,40)]) ?_
 rintro⟨x16_1,l_1⟩ m1 o1 G hn1
 unfold En.l1 at G
 try dsimp only at G
 refine X5 rfl ?_
 refine Mn 5 13 Gu fun B=>?_
 refine Ar <| Ji rfl G (fun h5 G=>?_) fun h5 G=>?_
 refine Ts ?_
 refine Ar <| Da <| Q1 13 45 B ?_
 obtain⟨e_2,he_2,G⟩:=Af G
 refine Il ?_
 refine lE_ he_2 ?_
 refine Jp fun B=>?_
 refine Ca (E4 _ _ []) (by kernel_rfl) [0,1,0,4,12,31,63,127] 45 109 B rfl rfl (by kernel_rfl) ?_
 refine Il ?_
 obtain⟨y,hy,G⟩:=Af G
 refine P9 (Ww hy) ?_
 refine Kv aGj z83 aRg ([y]:List Ad) Ad.enc ?_
 obtain⟨l_2,hl_2,G⟩:=Af G
 refine Lk (rd:=[3,77]) rfl rfl (Od aGj Ad.enc_len .row rfl .row rfl hl_2 rfl) rfl rfl ?_
 refine Jp fun B=>?_
 refine B7 (E4 _ _ []) 109 125 B rfl rfl ?_
 refine Jp fun B=>?_
 obtain rfl:=oi_ G
 exact⟨((W (x16_1 + 1),l_2),m1),aKf _,hn1,B5 [(0,0),(1,1),(2,2),(3,85),(4,4)]⟩
 refine iC ?_
 replace G:=Lt G hn1
 refine Ar <| Mn 13 45 B fun B=>?_
 refine Da <| Ip (fun ((x31_2,l_2_2):Int×List Aq)=>mk [(2,.ptr 0 0),(3,.ptr 1 0),(29,.sl 5 (Ac Aq.enc e.Items)),(30,.val (.int .i64 (e.Items.length:Int))),(31,vk x31_2)] [(0,.box [.val (.slice none 0 0),.val (.slice none 0 0),.val (.slice none 0 0)] 31),(1,.box [.row 2,.row 3,.row 4] 31),(2,.row 83 9 (Ac Ad.enc l_1)),(3,.row 98 2 (Ac Bi.enc l)),(4,.row 47 5 (Ac Aq.enc l_2_2))] 5) G (B5 [(0,1),(1,2),(2,3),(3,4)]) ?_
 rintro⟨x31_2,l_2_2⟩ m2 o2 G hn2
 unfold En.l2 at G
 try dsimp only at G
 refine X5 rfl ?_
 refine Mn 5 13 Gu fun B=>?_
 refine Ar <| Ji rfl G (fun h11 G=>?_) fun h11 G=>?_
 refine Ts ?_
 refine Ar <| Da <| Q1 13 45 B ?_
 obtain⟨e_3,he_3,G⟩:=Af G
 refine Il ?_
 refine lE_ he_3 ?_
 refine Jp fun B=>?_
 refine Q1 45 93 B ?_
 refine Ex rfl rfl (Fm wG z52 (by decide) rfl rfl rfl rfl yQ (cs:=[]) .nil rfl (l:=([]:List A1)) (f:=A1.enc) rfl) rfl rfl ?_
 refine Il ?_
 obtain⟨l_3,hl_3,G⟩:=Af G
 refine Lk (rd:=[45]) rfl rfl (Od wG A1.enc_len .row rfl .sl rfl hl_3 rfl) rfl rfl ?_
 refine Jp fun B=>?_
 refine Gs (σ':=mk [(2,.ptr 0 0),(3,.ptr 1 0),(7,.ptr 2 0),(29,.sl 5 (Ac Aq.enc e.Items)),(30,.val (.int .i64 (e.Items.length:Int))),(31,vk x31_2)] [(0,.box [.val (.slice none 0 0),.val (.slice none 0 0),.val (.slice none 0 0)] 31),(1,.box [.row 3,.row 4,.row 5] 31),(2,.box [ws e_3.Name,vk e_3.Kind,vk e_3.Purpose,.sl 3 (Ac A1.enc l_3),vk e_3.Until] 47),(3,.row 83 9 (Ac Ad.enc l_1)),(4,.row 98 2 (Ac Bi.enc l)),(5,.row 47 5 (Ac Aq.enc l_2_2))] 6) (B5 [(0,0),(1,1),(2,29),(3,2),(4,3),(5,4)]) ?_
 refine B7 (E4 _ _ []) 6 62 Gu rfl rfl ?_
 refine Il ?_
 refine Kv aHa z47 aPm ([(Aq.mk e_3.Name e_3.Kind e_3.Purpose l_3 e_3.Until)]:List Aq) Aq.enc ?_
 obtain⟨l_4,hl_4,G⟩:=Af G
 refine Lk (rd:=[5,30]) rfl rfl (Od aHa Aq.enc_len .row rfl .row rfl hl_4 rfl) rfl rfl ?_
 refine Jp fun B=>?_
 refine B7 (E4 _ _ []) 62 78 B rfl rfl ?_
 refine Jp fun B=>?_
 obtain rfl:=oi_ G
 exact⟨((W (x31_2 + 1),l_4),m2),aKf _,hn2,B5 [(0,0),(1,1),(2,3),(3,4),(4,38)]⟩
 refine iC ?_
 replace G:=Lt G hn2
 refine Mn 13 29 B fun B=>?_
 refine tQ ?_
 obtain rfl:=oi_ G
 exact Q5 [(0,4)] ⟨rfl,rfl⟩
instance bCe:Wk 36:=⟨_,@Y1⟩
theorem tF {e p j r} (G:I2 e p j=some r):Fn Tryz.prog 11 0 [.agg (Ak.dv e),.agg [.sl 6 (Ac Al.enc p.Rules),.sl 2 (Ac Bk.enc p.Keeps)],.agg (L1.dv j)] [] (fun d' b'=>d'=.tup [.agg (Ak.dv r.1),vk r.2]/\b'=[]):=by
 unfold I2 at G
 refine Ea 0 81 Tryz.func11 fun _ _ _=>?_
 refine Cb 5 fun _ _ B G=>?_
 refine Ji rfl G (fun _ G=>?_) fun _ G=>?_
 refine Cb 1 fun B G=>?_
 refine Ox eN aB1 z31 ?_
 exact C6
 refine Cb 1 fun B G=>?_
 refine Ar <| Ba (ι:=Bool) (fun (x32_1:Bool)=>mk [(3,.ptr 0 0),(4,.ptr 1 0),(5,.ptr 2 0),(6,.ptr 3 0),(32,.val (.bool x32_1))] [(0,.box (Ak.dv e) 31),(1,.box [.sl 6 (Ac Al.enc p.Rules),.sl 2 (Ac Bk.enc p.Keeps)] 39),(2,.box (L1.dv j) 56),(3,.box [.val (.slice none 0 0),.val (.slice none 0 0),.val (.slice none 0 0)] 31)] 4) (fun (x32_1:Bool)=>I2.j1 e p j x32_1=some r) ?_ ?_
 exact C6
 rintro x32_1 G
 unfold I2.j1 at G
 try dsimp only at G
 refine X5 rfl ?_
 refine Ji rfl G (fun _ G=>?_) fun _ G=>?_
 refine Cb 1 fun B G=>?_
 refine Ox eN aB1 z31 ?_
 exact C6
 refine Cb 1 fun B G=>?_
 refine Ar <| Ca (E4 _ _ []) (by kernel_rfl) [0,0,2,0,8,30,62,0,128,384,0,1024,3072,8191,16383,32767,32767,0,196607,524287] 4 164 Gu rfl rfl (by kernel_rfl) ?_
 refine Cb 5 fun _ _ y_2 _ B G=>?_
 refine Ji rfl G (fun _ G=>?_) fun _ G=>?_
 refine Cb 1 fun B G=>?_
 refine Ox eN aB1 z31 ?_
 exact C6
 refine Cb 5 fun _ _ B G=>?_
 refine Ji rfl G (fun _ G=>?_) fun _ G=>?_
 refine Cb 1 fun B G=>?_
 refine Ox eN aB1 z31 ?_
 exact C6
 refine Cb 2 fun B G=>?_
 obtain⟨y_4,hy_4,G⟩:=Af G
 refine Gt (rd:=[]) (ps:=[]) (gs:=[]) false rfl (Y1 hy_4) rfl rfl (.cons (.agg (.cons .sl (.cons .sl (.cons .sl .nil)))) .nil) rfl rfl (by intro h; cases h) rfl (by intro h; first | (cases h; done) | exact⟨_,_,⟨rfl,rfl⟩,by simp,by simp⟩) ?_
 rintro _ _ ⟨rfl,rfl⟩
 refine Cb 2 fun _ he_3 B G=>?_
 refine sR_ aPm he_3 (x':=y_2.1) ?_
 exact C6
instance bDi:Wk 11:=⟨_,@tF⟩
theorem aY {x' r} (G:B9 x'=some r):Fn Tryz.prog 73 0 [.agg (Ap.dv x')] [] (fun d' b'=>d'=vk r/\b'=[]):=by
 unfold B9 at G
 refine Ea 0 89 Tryz.func73 fun _ _ _=>?_
 refine Cb 1 fun B G=>?_
 refine Ar <| Ba (ι:=Bool) (fun (x24_1:Bool)=>mk [(1,.ptr 0 0),(24,.val (.bool x24_1))] [(0,.box (Ap.dv x') 177)] 1) (fun (x24_1:Bool)=>B9.j1 x' x24_1=some r) ?_ ?_
 exact C6
 rintro x24_1 G
 unfold B9.j1 at G
 refine E6 (.l 0 (.e 1)) fun _ B G=>?_
 refine Ar <| Ba (ι:=Bool) (fun (x49_2:Bool)=>mk [(1,.ptr 0 0),(49,.val (.bool x49_2))] [(0,.box (Ap.dv x') 177)] 1) (fun (x49_2:Bool)=>B9.j2 x' x49_2=some r) ?_ ?_
 exact C6
 rintro x49_2 G
 unfold B9.j2 at G
 refine E6 (.l 0 (.e 4)) fun _ B G=>?_
 refine Ip (fun (x53_3:Int)=>mk [(1,.ptr 0 0),(51,.sl 2 (Ac E9.enc x'.Seals)),(52,.val (.int .i64 (x'.Seals.length:Int))),(53,vk x53_3)] [(0,.box (Ap.dv x') 177)] 1) G (B5 [(0,0)]) ?_
 rintro x53_3 m3 o3 G hn3
 unfold B9.l3 at G
 refine E6 (.r 2 (.e 6)) fun _ e _ B G=>?_
 refine Ba (ι:=Bool) (fun (x87_4:Bool)=>mk [(1,.ptr 0 0),(51,.sl 2 (Ac E9.enc x'.Seals)),(52,.val (.int .i64 (x'.Seals.length:Int))),(53,vk x53_3),(87,.val (.bool x87_4))] [(0,.box (Ap.dv x') 177)] 1) (fun (x87_4:Bool)=>B9.j4 x53_3 x87_4=some o3) ?_ ?_
 refine Ca (E4 _ _ []) (by kernel_rfl) [0,1,3,7,15,31,63,127,255,511,1023,2047,4095,8191,16383,32767,65535,131071,262143,524287,262143,1310719,4194303,8388607,16777215,262143,33816575,134217727,268435455,536870911] 57 297 B rfl rfl (by kernel_rfl) ?_
 exact C6
 rintro x87_4 G
 unfold B9.j4 at G
 exact Ik
instance bDw:Wk 73:=⟨_,@aY⟩
theorem Pb {x' r} (G:H0 x'=some r):Fn Tryz.prog 72 0 [.agg (Ap.dv x')] [] (fun d' b'=>d'=.val (.bool r)/\b'=[]):=by
 unfold H0 at G
 refine Ea 0 6 Tryz.func72 fun _ _ _=>?_
 exact C6
instance bDx:Wk 72:=⟨_,@Pb⟩
theorem Ms {s:(List Ap)} {f:Ap->Option (Bool)} (hf_f:∀ (x0:Ap) (y:Bool),f x0=some y->Fn Tryz.prog 72 0 [.agg (Ap.dv x0)] [] (fun d' b'=>d'=.val (.bool y)/\b'=[])) {r:Int} (G:Bl s f=some r):Fn Tryz.prog 117 0 [.sl 7 (Ac Ap.enc s),.clo 72 0 []] [] (fun d' b'=>d'=vk r/\b'=[]):=by
 unfold Bl at G
 refine Ea 0 19 Tryz.func117 fun _ _ _=>?_
 refine Cb 4 fun B G=>?_
 refine Ip (fun (x8_1:Int)=>mk [(0,.sl 7 (Ac Ap.enc s)),(1,.clo 72 0 []),(7,.val (.int .i64 (s.length:Int))),(8,vk x8_1)] [] 0) G (B5 []) ?_
 rintro x8_1 m1 o1 G hn1
 unfold Bl.l1 at G
 refine E6 (.r 2 (.e 7)) fun _ e _ B G=>?_
 obtain⟨y,hy,G⟩:=Af G
 refine F5 (rd:=[]) (ps:=[]) (gs:=[]) false rfl rfl (hf_f e _ hy) rfl rfl (.cons (.agg (.cons .val (.cons .val (.cons .val (.cons .val (.cons .val (.cons .val (.cons .sl .nil)))))))) .nil) rfl rfl (by intro h; cases h) rfl rfl rfl rfl ?_
 exact C6
theorem Lz {s:(List Ap)} {f:Ap->Option (Bool)} (hf_f:∀ (x0:Ap) (y:Bool),f x0=some y->Fn Tryz.prog 72 0 [.agg (Ap.dv x0)] [] (fun d' b'=>d'=.val (.bool y)/\b'=[])) {r:Bool} (G:C1 s f=some r):Fn Tryz.prog 71 0 [.sl 7 (Ac Ap.enc s),.clo 72 0 []] [] (fun d' b'=>d'=.val (.bool r)/\b'=[]):=by
 unfold C1 at G
 refine Ea 0 9 Tryz.func71 fun _ _ _=>?_
 refine Cb 2 fun B G=>?_
 obtain⟨y,hy,G⟩:=Af G
 refine P9 (@Ms s f hf_f _ hy) ?_
 exact C6
theorem Wn {v day r} (G:El v day=some r):Fn Tryz.prog 37 0 [.agg (Fs.dv v),vk day] [] (fun d' b'=>d'=vk r/\b'=[]):=by
 unfold El at G
 refine Ea 0 40 Tryz.func37 fun _ _ _=>?_
 refine Qg (.l 5 (.l 5 (.e 4))) fun _ _ _ _ _ _ B G=>?_
 obtain⟨y_3,hy_3,G⟩:=Af G
 refine P9 (@Lz v.exceptions (fun x0=>H0 x0) (fun x0 yy hh=>@Pb x0 yy hh) _ hy_3) ?_
 refine Qg (.l 0 (.e 0)) fun _ B G=>?_
 refine Ba (ι:=Bool) (fun (x23_1:Bool)=>mk [(23,.val (.bool x23_1))] [] 0) (fun (x23_1:Bool)=>El.j1 x23_1=some r) ?_ ?_
 exact C6
 rintro x23_1 G
 unfold El.j1 at G
 exact Ik
instance bBa:Wk 37:=⟨_,@Wn⟩
theorem aU {client server r} (G:Jv client server=some r):Fn Tryz.prog 119 0 [.agg (Ad.dv client),.agg (Ad.dv server)] [] (fun d' b'=>d'=.val (.bool r)/\b'=[]):=by
 unfold Jv at G
 refine Ea 0 13 Tryz.func119 fun _ _ _=>?_
 exact C6
instance bA3:Wk 119:=⟨_,@aU⟩
theorem Px {t r} (G:L3 t=some r):Fn Tryz.prog 171 0 [.agg (Cw.dv t)] [] (fun d' b'=>d'=.sl 1 (Ac eI r)/\b'=[]):=by
 unfold L3 at G
 refine Ea 0 6 Tryz.func171 fun _ _ _=>?_
 exact C6
instance aYt:Wk 171:=⟨_,@Px⟩
theorem Pw {x' c0 r} (G:Gh x' c0=some r):Fn Tryz.prog 213 0 [.agg (Av.dv x'),.elt (((Am.ec c0):List C).drop 0)] [] (fun d' b'=>d'=.val (.bool r)/\b'=[]):=by
 unfold Gh at G
 refine Ea 0 17 Tryz.func213 fun _ _ _=>?_
 refine Cb 2 fun B G=>?_
 refine Ex rfl rfl (Ja oY aO1 (by decide) (aC1 rfl)) rfl rfl ?_
 refine Ex rfl rfl (Ja uP Z4 (by decide) (aC1 rfl)) rfl rfl ?_
 refine Ex rfl rfl (Eb Z4 (c:=.int .i64 c0.Sign.Alg) rfl) rfl rfl ?_
 refine Qg (.l 0 (.e 0)) fun h2 B G=>?_
 refine Ex (Mq rfl rfl h2) rfl (Ja oY aO1 (by decide) (aC1 rfl)) rfl rfl ?_
 refine Ex (Mq rfl rfl h2) rfl (Ja uP Z4 (by decide) (aC1 rfl)) rfl rfl ?_
 refine Ex (Mq rfl rfl h2) rfl (Eb Z4 (c:=.int .i64 c0.Sign.Alg) rfl) rfl rfl ?_
 exact C6
instance aYy:Wk 213:=⟨_,@Pw⟩
theorem Ky {s:(List Av)} {f:Av->Option (Bool)} {f_c0:Am} (hf_f:∀ (x0:Av) (y:Bool),f x0=some y->Fn Tryz.prog 213 0 [.agg (Av.dv x0),.elt (((Am.ec f_c0):List C).drop 0)] [] (fun d' b'=>d'=.val (.bool y)/\b'=[])) {r:Int} (G:B4 s f=some r):Fn Tryz.prog 212 0 [.sl 4 (Ac Av.enc s),.clo 213 0 [.elt (((Am.ec f_c0):List C).drop 0)]] [] (fun d' b'=>d'=vk r/\b'=[]):=by
 unfold B4 at G
 refine Ea 0 19 Tryz.func212 fun _ _ _=>?_
 refine Cb 4 fun B G=>?_
 refine Ip (fun (x8_1:Int)=>mk [(0,.sl 4 (Ac Av.enc s)),(1,.clo 213 0 [.elt (((Am.ec f_c0):List C).drop 0)]),(7,.val (.int .i64 (s.length:Int))),(8,vk x8_1)] [] 0) G (B5 []) ?_
 rintro x8_1 m1 o1 G hn1
 unfold B4.l1 at G
 refine E6 (.r 2 (.e 7)) fun _ e _ B G=>?_
 obtain⟨y,hy,G⟩:=Af G
 refine F5 (rd:=[]) (ps:=[]) (gs:=[]) false rfl rfl (hf_f e _ hy) rfl rfl (.cons (.agg (.cons .val (.cons .val (.cons .val (.cons .sl .nil))))) (.cons .elt .nil)) rfl rfl (by intro h; cases h) rfl rfl rfl rfl ?_
 exact C6
end Go.Proofs.YtboglmbblmakjaaGreatDoor
