import Derived.Test.YtboglmbblmakjaaGreatDoorT1
import Derived.Test.YtboglmbblmakjaaGreatDoorEU
import Derived.Test.YtboglmbblmakjaaGreatDoorA3
import Derived.Test.YtboglmbblmakjaaGreatDoorA4
set_option linter.unusedVariables false
set_option linter.unusedSimpArgs false
set_option maxRecDepth 100000
set_option maxHeartbeats 40000000
namespace Go.Proofs.YtboglmbblmakjaaGreatDoor
open Go.RowKit
theorem jG {n r} (G:Ge n=some r):Fn Tryz.prog 234 0 [vk n] [] (fun d' b'=>d'=.sl 1 (Ac e8 r)/\b'=[]):=by
 unfold Ge at G
 refine Ea 0 26 Tryz.func234 fun _ _ _=>?_
 refine Cb 3 fun B G=>?_
 refine Ji rfl G (fun _ G=>?_) fun _ G=>?_
 refine Cb 2 fun B G=>?_
 refine Kv Pz z5 nT ([(u8 n)]:List UInt8) e8 ?_
 exact C6
 refine Cb 4 fun B G=>?_
 refine Ip (fun ((n_1,b_1):Int×List UInt8)=>mk [(0,vk n_1),(3,.row 0)] [(0,.row 5 1 (Ac e8 b_1))] 1) G (B5 []) ?_
 rintro⟨n_1,b_1⟩ m1 o1 G hn1
 unfold Ge.l1 at G
 refine Q4 2 fun B G=>?_
 refine Ji rfl G (fun _ G=>?_) fun _ G=>?_
 refine Cb 5 fun q _ B G=>?_
 refine Kv Pz z5 nT ([(u8 q)]:List UInt8) e8 ?_
 exact C6
 refine Cb 3 fun B G=>?_
 refine Kv Pz z5 nT ([(u8 (W (128 + (b_1.length:Int))))]:List UInt8) e8 ?_
 exact C6
instance aXy:Wk 234:=⟨_,@jG⟩
theorem X3.F (rec:Aa->Option ((List UInt8))) (hrec:∀ (v:Aa) (r:(List UInt8)),rec v=some r->Fn Tryz.prog 203 0 [.agg (Aa.dv v)] [] (fun d' b'=>d'=.sl 1 (Ac e8 r)/\b'=[])) {v:Aa} {r:(List UInt8)} (G:Fc.F rec v=some r):Fn Tryz.prog 203 0 [.agg (Aa.dv v)] [] (fun d' b'=>d'=.sl 1 (Ac e8 r)/\b'=[]):=by
 unfold Fc.F at G
 refine Ea 0 34 Tryz.func203 fun _ _ _=>?_
 refine Cb 2 fun B G=>?_
 refine Ex rfl rfl (Fm Pz z5 (by decide) rfl rfl rfl rfl nT (cs:=[]) .nil rfl (l:=([]:List UInt8)) (f:=e8) rfl) rfl rfl ?_
 refine Cb 4 fun _ _ B G=>?_
 refine Ip (fun ((i_1,b_1):Int×List UInt8)=>mk [(1,.ptr 0 0),(3,.row 1),(4,vk i_1)] [(0,.box (Aa.dv v) 276),(1,.row 5 1 (Ac e8 b_1))] 2) G (B5 [(0,0),(1,40)]) ?_
 rintro⟨i_1,b_1⟩ m1 o1 G hn1
 unfold Fc.l1 at G
 refine Q4 2 fun B G=>?_
 refine Ji rfl G (fun _ G=>?_) fun _ G=>?_
 refine Cb 5 fun e he B G=>?_
 refine Ex rfl rfl (Kr Z7 (K9 Aa.enc_len (Cf he) (o:=0) (m:=4) (cs:=[.int .i64 e.Tag,.sl 1 (Ac e8 e.Bytes),.bool e.Nested,.sl 4 (Ac Aa.enc e.Elements)]) (by simp only [Aa.enc_eq]; rfl) (by decide) rfl) (Fh Aa.enc_len (Cf he) (o:=0) (m:=4) (by decide) rfl)) rfl rfl ?_
 obtain⟨y,hy,G⟩:=Af G
 refine P9 (hrec _ _ hy) ?_
 exact C6
 refine Cb 1 fun B G=>?_
 refine Ar <| Ca (E4 _ _ []) (by kernel_rfl) [0,1,3,7,0,16,48,127,0,511,1023] 42 130 B rfl rfl (by kernel_rfl) ?_
 refine Cb 1 fun B G=>?_
 refine Kv Pz z5 nT ([(u8 v.Tag)]:List UInt8) e8 ?_
 exact C6
theorem X3 {v:Aa} {r:(List UInt8)} (G:Fc v=some r):Fn Tryz.prog 203 0 [.agg (Aa.dv v)] [] (fun d' b'=>d'=.sl 1 (Ac e8 r)/\b'=[]):=
 Ro (motive:=fun (x:Aa) (r:(List UInt8))=>Fn Tryz.prog 203 0 [.agg (Aa.dv x)] [] (fun d' b'=>d'=.sl 1 (Ac e8 r)/\b'=[])) (fun rec hrec x r h=>@X3.F _ (fun v r h=>hrec v r h) x r h) v r G
instance bAn:Wk 203:=⟨_,@X3⟩
theorem jP {v r} (G:N0 v=some r):Fn Tryz.prog 158 0 [.agg (Aa.dv v)] [] (fun d' b'=>d'=.tup [.sl 1 (Ac e8 r.1),vk r.2]/\b'=[]):=by
 unfold N0 at G
 refine Ea 0 17 Tryz.func158 fun _ _ _=>?_
 exact C6
instance bAm:Wk 158:=⟨_,@jP⟩
theorem lG {c r} (G:Nh c=some r):Fn Tryz.prog 98 0 [.agg (Ab.dv c)] [] (fun d' b'=>d'=.tup [.sl 1 (Ac e8 r.1),vk r.2]/\b'=[]):=by
 unfold Nh at G
 refine Ea 0 12 Tryz.func98 fun _ _ _=>?_
 exact C6
instance bCk:Wk 98:=⟨_,@lG⟩
theorem sO {b r} (G:Ib b=some r):Fn Tryz.prog 99 0 [.sl 1 (Ac e8 b)] [] (fun d' b'=>d'=vk r/\b'=[]):=by
 unfold Ib at G
 refine Ea 0 21 Tryz.func99 fun _ _ _=>?_
 refine Cb 5 fun B G=>?_
 refine Ip (fun ((h_1,i_1):Int×Int)=>mk [(0,.sl 1 (Ac e8 b)),(3,.val (.int .u32 h_1)),(4,vk i_1)] [] 0) G (B5 []) ?_
 rintro⟨h_1,i_1⟩ m1 o1 G hn1
 unfold Ib.l1 at G
 exact Ik
instance bBg:Wk 99:=⟨_,@sO⟩
theorem oM {c key r} (G:Hk c key=some r):Fn Tryz.prog 54 0 [.agg (Ab.dv c),vk key] [] (fun d' b'=>d'=.tup [.agg (Ab.dv r.1),vk r.2]/\b'=[]):=by
 unfold Hk at G
 refine Ea 0 35 Tryz.func54 fun _ _ _=>?_
 refine Cb 4 fun y _ B G=>?_
 refine Ox kR aDs aHv ?_
 refine Cb 0 fun B G=>?_
 refine Ar <| Ba (ι:=Bool) (fun (x22_1:Bool)=>mk [(1,vk key),(2,.ptr 0 0),(4,.ptr 1 0),(22,.val (.bool x22_1))] [(0,.box [vk y.Serial,ws y.Issuer,ws y.Subject,vk y.Key.Alg,vk y.Key.Bits,vk y.KeyId,vk y.Hash.Alg,vk y.Hash.Bits,vk y.From,vk y.To,.val (.bool y.Authority),vk y.Path,.sl 1 (Ac eS y.Names),.val (.int .i64 0),.val (.int .i64 0)] 148),(1,.box [.val (.int .i64 0),.val (.string (⟨#[]⟩:ByteArray)),.val (.string (⟨#[]⟩:ByteArray)),.val (.int .i64 0),.val (.int .i64 0),.val (.int .i64 0),.val (.int .i64 0),.val (.int .i64 0),.val (.int .i64 0),.val (.int .i64 0),.val (.bool false),.val (.int .i64 0),.val (.slice none 0 0),.val (.int .i64 0),.val (.int .i64 0)] 148)] 2) (fun (x22_1:Bool)=>Hk.j1 key y x22_1=some r) ?_ ?_
 exact C6
 rintro x22_1 G
 unfold Hk.j1 at G
 try dsimp only at G
 refine X5 rfl ?_
 refine Ji rfl G (fun _ G=>?_) fun _ G=>?_
 refine Cb 1 fun B G=>?_
 refine Ox Qq aKt aBn ?_
 exact C6
 refine Cb 5 fun _ _ _ _ B G=>?_
 refine Ox kR aDs aHv ?_
 exact C6
instance bDq:Wk 54:=⟨_,@oM⟩
theorem eZ {name key id anchor to r} (G:Pu name key id anchor to=some r):Fn Tryz.prog 22 0 [ws name,.agg [vk key.Alg,vk key.Bits],vk id,vk anchor,vk to] [] (fun d' b'=>d'=.agg (Av.dv r)/\b'=[]):=by
 unfold Pu at G
 refine Ea 0 32 Tryz.func22 fun _ _ _=>?_
 refine Cb 2 fun B G=>?_
 refine Ox T3 fW tL ?_
 refine Cb 0 fun B G=>?_
 refine Kv eE z9 ck9 ([name]:List ByteArray) eS ?_
 refine Ox Qq aKt aBn ?_
 refine Cb 0 fun B G=>?_
 refine Ar <| Gs (σ':=mk [(2,vk id),(3,vk anchor),(6,.ptr 0 0),(10,.ptr 1 0),(11,.ptr 2 0)] [(0,.box [vk key.Alg,vk key.Bits] 49),(1,.box [.val (.int .i64 0),.val (.int .i64 0),.val (.int .i64 0),.val (.slice none 0 0)] 86),(2,.box [vk id,.val (.string (⟨#[114,111,111,116]⟩:ByteArray)),ws name,vk key.Alg,vk key.Bits,vk id,.val (.int .i64 3),.val (.int .i64 0),.val (.int .i64 0),vk to,.val (.bool false),.val (.int .i64 0),.sl 1 (Ac eS ([name]:List ByteArray)),.val (.int .i64 0),.val (.int .i64 0)] 148)] 3) (B5 [(0,0),(1,8),(2,88)]) ?_
 refine Cb 3 fun y _ B G=>?_
 refine Kv aN6 aBn aKg ([y.1]:List Ab) Ab.enc ?_
 refine Ox xR aW0 z86 ?_
 exact C6
instance bDv:Wk 22:=⟨_,@eZ⟩
theorem Vh {d l r} (G:L7 d l=some r):Fn Tryz.prog 25 1 [.ptr 0 0,.sl 1 (Ac eS l)] [.box [.sl 1 (Ac eI d.L),vk d.At] 90] (fun d' b'=>d'=ws r.1/\b'=[.box [.sl 1 (Ac eI r.2.L),vk r.2.At] 90]):=by
 unfold L7 at G
 refine Ea 1 12 Tryz.func25 fun _ _ _=>?_
 exact C6
instance bA8:Wk 25:=⟨_,@Vh⟩
theorem eJ {d name r} (G:Kk d name=some r):Fn Tryz.prog 24 1 [.ptr 0 0,ws name] [.box [.sl 1 (Ac eI d.L),vk d.At] 90] (fun d' b'=>d'=.agg (Aq.dv r.1)/\b'=[.box [.sl 1 (Ac eI r.2.L),vk r.2.At] 90]):=by
 unfold Kk at G
 refine Ea 1 62 Tryz.func24 fun _ _ _=>?_
 refine Cb 4 fun y _ y_2 _ B G=>?_
 refine Ox Y8 aE1 z47 ?_
 refine Cb 6 fun _ _ _ _ B G=>?_
 refine Ip (fun ((day_1,i_1,d_1,l_1):Int×Int×Ae×List A1)=>mk [(0,.ptr 0 0),(4,.ptr 1 0),(5,.ptr 2 0),(6,vk day_1),(7,vk i_1)] [(0,.box [.sl 1 (Ac eI d_1.L),vk d_1.At] 90),(1,.box [.val (.string (⟨#[]⟩:ByteArray)),.val (.int .i64 0),.val (.int .i64 0),.val (.slice none 0 0),.val (.int .i64 0)] 47),(2,.box [ws name,.val (.int .i64 (W (1 + y.1))),.val (.int .i64 (W (1 + y_2.1))),.row 3,.val (.int .i64 0)] 47),(3,.row 52 3 (Ac A1.enc l_1))] 4) G (B5 [(0,0),(1,1),(2,73)]) ?_
 rintro⟨day_1,i_1,d_1,l_1⟩ m1 o1 G hn1
 unfold Kk.l1 at G
 refine Q4 2 fun B G=>?_
 refine Ji rfl G (fun _ G=>?_) fun _ G=>?_
 refine Cb 4 fun B G=>?_
 refine Ox T3 fW tL ?_
 refine Ox T3 fW tL ?_
 refine Ox T3 fW tL ?_
 refine Ox T3 fW tL ?_
 refine Ox T3 fW tL ?_
 refine Ox T3 fW tL ?_
 refine Kv aJb tL aNx ([(Ah.mk 2 0),(Ah.mk 1 0),(Ah.mk 5 2048),(Ah.mk 16 128),(Ah.mk 3 0),(Ah.mk 15 168)]:List Ah) Ah.enc ?_
 refine Cb 4 fun _ _ e _ B G=>?_
 refine Ox tE aMh z52 ?_
 refine Kv wG z52 yQ ([(A1.mk e day_1)]:List A1) A1.enc ?_
 refine Cb 1 fun l _ B G=>?_
 refine B7 (E4 _ _ [220]) 196 252 B rfl rfl ?_
 refine Cb 0 fun B G=>?_
 refine wP Hz z3 Pp ([5,30,0,100]:List Int) eI ?_
 exact C6
 refine Cb 1 fun B G=>?_
 refine Ar <| Ca (E4 _ _ [68]) (by kernel_rfl) [0,1,3,7,15,0,0,96,255,511,1023] 20 108 B rfl rfl (by kernel_rfl) ?_
 refine Cb 2 fun _ _ B G=>?_
 refine wP Hz z3 Pp ([50,300,0,3000]:List Int) eI ?_
 exact C6
instance bDa:Wk 24:=⟨_,@eJ⟩
theorem nY {d r} (G:Bp d=some r):Fn Tryz.prog 7 1 [.ptr 0 0] [.box [.sl 1 (Ac eI d.L),vk d.At] 90] (fun d' b'=>d'=.agg (Ak.dv r.1)/\b'=[.box [.sl 1 (Ac eI r.2.L),vk r.2.At] 90]):=by
 unfold Bp at G
 refine Ea 1 122 Tryz.func7 fun _ _ _=>?_
 refine Mn 1 9 Gu fun B=>?_
 refine Mn 9 17 B fun B=>?_
 refine Q1 17 65 B ?_
 refine Kv eE z9 ck9 ([(⟨#[97,112,112]⟩:ByteArray),(⟨#[100,98]⟩:ByteArray),(⟨#[119,101,98]⟩:ByteArray)]:List ByteArray) eS ?_
 refine Il ?_
 obtain⟨y,hy,G⟩:=Af G
 refine dO [0] [0] [] false (L6 hy) ?_
 refine Il ?_
 obtain⟨l,hl,G⟩:=Af G
 refine Lk (rd:=[17]) rfl rfl (mY eE jO hl) rfl rfl ?_
 refine Jp fun B=>?_
 refine Ar <| Q1 65 89 B ?_
 refine Il ?_
 refine Ex rfl rfl (.len eE.elem .part) rfl rfl ?_
 refine Jp fun B=>?_
 refine Da <| Ip (fun ((x18_1,d_1,l_1):Int×Ae×List Ad)=>mk [(0,.ptr 0 0),(2,.ptr 1 0),(3,.ptr 2 0),(4,.part 3 (((0:Int).toNat) * 1) ((W (2 + y.1):Int).toNat - (0:Int).toNat)),(16,.part 3 (((0:Int).toNat) * 1) ((W (2 + y.1):Int).toNat - (0:Int).toNat)),(17,.val (.int .i64 ((((W (2 + y.1):Int).toNat - (0:Int).toNat):Nat):Int))),(18,vk x18_1)] [(0,.box [.sl 1 (Ac eI d_1.L),vk d_1.At] 90),(1,.box [.val (.slice none 0 0),.val (.slice none 0 0),.val (.slice none 0 0)] 31),(2,.box [.row 4,.val (.slice none 0 0),.val (.slice none 0 0)] 31),(3,.row 9 1 (Ac eS ([(⟨#[97,112,112]⟩:ByteArray),(⟨#[100,98]⟩:ByteArray),(⟨#[119,101,98]⟩:ByteArray)]:List ByteArray))),(4,.row 83 9 (Ac Ad.enc l_1))] 5) G (B5 [(0,0),(1,1),(2,9),(3,17)]) ?_
 rintro⟨x18_1,d_1,l_1⟩ m1 o1 G hn1
 unfold Bp.l1 at G
 try dsimp only at G
 refine X5 rfl ?_
 refine Mn 5 13 Gu fun B=>?_
 refine Ar <| Ji rfl G (fun h6 G=>?_) fun h6 G=>?_
 refine Ts ?_
 refine Ar <| Da <| Q1 13 53 B ?_
 refine Il ?_
 obtain⟨e,he,G⟩:=Af G
 refine Lk (rd:=[3]) rfl rfl (nW eE (L0 he) (Cf he)) rfl rfl ?_
 refine Lk (rd:=[3]) rfl rfl (.loadR1 ty9 (G3 jO (gN (a:=(0:Int).toNat) (Cf he)) (o:=0) (c:=.str e) rfl rfl)) rfl rfl ?_
 refine Jp fun B=>?_
 refine Ar <| Ca (E4 _ _ [69,85,93,101]) (by kernel_rfl) [0,0,0,6,0,0,0,112,0,270,1022,2046,0,4878,0,0,0,78606,262143,0,1048575] 53 221 B rfl rfl (by kernel_rfl) ?_
 refine Il ?_
 refine wP Hz z3 Pp ([3,3,4]:List Int) eI ?_
 obtain⟨y_2,hy_2,G⟩:=Af G
 refine dO [0] [0] [] false (X0 hy_2) ?_
 refine wP Hz z3 Pp ([10,8,2]:List Int) eI ?_
 refine wP Hz z3 Pp ([8,2]:List Int) eI ?_
 refine wP Hz z3 Pp ([2,10,8,3]:List Int) eI ?_
 refine Kv aTo z22 aU0 ([([10,8,2]:List Int),([8,2]:List Int),([2,10,8,3]:List Int)]:List (List Int)) (eL 1 eI) ?_
 refine Il ?_
 obtain⟨y_3,hy_3,G⟩:=Af G
 refine dO [0] [0] [] false (L6 hy_3) ?_
 obtain⟨e_2,he_2,G⟩:=Af G
 refine Il ?_
 refine Lk (rd:=[109]) rfl rfl (.loadR1 iT (G3 (vO _ _) (Cf he_2) (o:=0) (c:=.sl 1 (Ac eI e_2)) rfl rfl)) rfl rfl ?_
 refine Il ?_
 obtain⟨y_4,hy_4,G⟩:=Af G
 refine dO [0] [0] [] false (Sd hy_4) ?_
 refine Kv Hz z3 Pp ([1]:List Int) eI ?_
 refine Kv Hz z3 Pp ([2,3]:List Int) eI ?_
 refine Il ?_
 obtain⟨y_5,hy_5,G⟩:=Af G
 refine dO [0] [0] [] false (Sd hy_5) ?_
 refine Ox W9 aRa z83 ?_
 refine Jp fun B=>?_
 refine Ba (ι:=List Int) (fun (x_2:List Int)=>mk [(0,.ptr 0 0),(2,.ptr 1 0),(3,.ptr 2 0),(4,.part 3 (((0:Int).toNat) * 1) ((W (2 + y.1):Int).toNat - (0:Int).toNat)),(5,vk x18_1),(6,ws e),(7,.ptr 4 0),(16,.part 3 (((0:Int).toNat) * 1) ((W (2 + y.1):Int).toNat - (0:Int).toNat)),(17,.val (.int .i64 ((((W (2 + y.1):Int).toNat - (0:Int).toNat):Nat):Int))),(18,vk x18_1)] [(0,.box [.sl 1 (Ac eI y_5.2.L),vk y_5.2.At] 90),(1,.box [.val (.slice none 0 0),.val (.slice none 0 0),.val (.slice none 0 0)] 31),(2,.box [.row 5,.val (.slice none 0 0),.val (.slice none 0 0)] 31),(3,.row 9 1 (Ac eS ([(⟨#[97,112,112]⟩:ByteArray),(⟨#[100,98]⟩:ByteArray),(⟨#[119,101,98]⟩:ByteArray)]:List ByteArray))),(4,.box [ws e,.val (.int .i64 1),vk y_2.1,.sl 1 (Ac eI x_2),.val (.bool y_4.1),.val (.slice none 0 0),.row 6,.row 7,.val (.bool y_5.1)] 83),(5,.row 83 9 (Ac Ad.enc l_1)),(6,.row 3 1 (Ac eI ([1]:List Int))),(7,.row 3 1 (Ac eI ([2,3]:List Int)))] 8) (fun (x_2:List Int)=>Bp.j2 x18_1 l_1 e y_2 y_4 y_5 x_2=some o1) ?_ ?_
 refine Mn 221 245 B fun B=>?_
 refine Ji rfl G (fun h10 G=>?_) fun h10 G=>?_
 refine B7 (E4 _ _ []) 245 293 B rfl rfl ?_
 refine Kv Hz z3 Pp ([14]:List Int) eI ?_
 refine Il ?_
 obtain⟨l_2,hl_2,G⟩:=Af G
 refine Lk (rd:=[245]) rfl rfl (Od Hz R7 .row rfl .sl rfl hl_2 rfl) rfl rfl ?_
 refine Jp fun B=>?_
 exact⟨l_2,G,B5 [(0,0),(1,1),(2,2),(3,3),(4,205),(5,4),(6,165),(7,173)]⟩
 refine Ts ?_
 exact⟨e_2,G,B5 [(0,0),(1,1),(2,2),(3,3),(4,205),(5,4),(6,165),(7,173)]⟩
 rintro x_2 G
 unfold Bp.j2 at G
 try dsimp only at G
 refine X5 rfl ?_
 refine Q1 8 72 Gu ?_
 refine Il ?_
 obtain⟨y_6,hy_6,G⟩:=Af G
 refine P9 (iS hy_6) ?_
 refine Il ?_
 obtain⟨y_7,hy_7,G⟩:=Af G
 refine P9 (eZ hy_7) ?_
 refine Kv aOu z86 aN2 ([y_7]:List Av) Av.enc ?_
 refine Jp fun B=>?_
 refine Gs (σ':=mk [(0,.ptr 0 0),(2,.ptr 1 0),(3,.ptr 2 0),(4,.part 3 (((0:Int).toNat) * 1) ((W (2 + y.1):Int).toNat - (0:Int).toNat)),(7,.ptr 4 0),(16,.part 3 (((0:Int).toNat) * 1) ((W (2 + y.1):Int).toNat - (0:Int).toNat)),(17,.val (.int .i64 ((((W (2 + y.1):Int).toNat - (0:Int).toNat):Nat):Int))),(18,vk x18_1)] [(0,.box [.sl 1 (Ac eI y_5.2.L),vk y_5.2.At] 90),(1,.box [.val (.slice none 0 0),.val (.slice none 0 0),.val (.slice none 0 0)] 31),(2,.box [.row 5,.val (.slice none 0 0),.val (.slice none 0 0)] 31),(3,.row 9 1 (Ac eS ([(⟨#[97,112,112]⟩:ByteArray),(⟨#[100,98]⟩:ByteArray),(⟨#[119,101,98]⟩:ByteArray)]:List ByteArray))),(4,.box [ws e,.val (.int .i64 1),vk y_2.1,.sl 1 (Ac eI x_2),.val (.bool y_4.1),.sl 4 (Ac Av.enc ([y_7]:List Av)),.row 6,.row 7,.val (.bool y_5.1)] 83),(5,.row 83 9 (Ac Ad.enc l_1)),(6,.row 3 1 (Ac eI ([1]:List Int))),(7,.row 3 1 (Ac eI ([2,3]:List Int)))] 8) (B5 [(0,0),(1,1),(2,2),(3,3),(4,4),(5,5),(6,6),(7,7)]) ?_
 refine Gs (σ':=mk [(0,.ptr 0 0),(2,.ptr 1 0),(3,.ptr 2 0),(4,.part 3 (((0:Int).toNat) * 1) ((W (2 + y.1):Int).toNat - (0:Int).toNat)),(7,.ptr 4 0),(16,.part 3 (((0:Int).toNat) * 1) ((W (2 + y.1):Int).toNat - (0:Int).toNat)),(17,.val (.int .i64 ((((W (2 + y.1):Int).toNat - (0:Int).toNat):Nat):Int))),(18,vk x18_1)] [(0,.box [.sl 1 (Ac eI y_5.2.L),vk y_5.2.At] 90),(1,.box [.val (.slice none 0 0),.val (.slice none 0 0),.val (.slice none 0 0)] 31),(2,.box [.row 5,.val (.slice none 0 0),.val (.slice none 0 0)] 31),(3,.row 9 1 (Ac eS ([(⟨#[97,112,112]⟩:ByteArray),(⟨#[100,98]⟩:ByteArray),(⟨#[119,101,98]⟩:ByteArray)]:List ByteArray))),(4,.box [ws e,.val (.int .i64 1),vk y_2.1,.sl 1 (Ac eI x_2),.val (.bool y_4.1),.sl 4 (Ac Av.enc ([y_7]:List Av)),.sl 1 (Ac eI ([1]:List Int)),.row 6,.val (.bool y_5.1)] 83),(5,.row 83 9 (Ac Ad.enc l_1)),(6,.row 3 1 (Ac eI ([2,3]:List Int)))] 7) (B5 [(0,0),(1,1),(2,2),(3,3),(4,4),(5,5),(6,7)]) ?_
 refine Gs (σ':=mk [(0,.ptr 0 0),(2,.ptr 1 0),(3,.ptr 2 0),(4,.part 3 (((0:Int).toNat) * 1) ((W (2 + y.1):Int).toNat - (0:Int).toNat)),(7,.ptr 4 0),(16,.part 3 (((0:Int).toNat) * 1) ((W (2 + y.1):Int).toNat - (0:Int).toNat)),(17,.val (.int .i64 ((((W (2 + y.1):Int).toNat - (0:Int).toNat):Nat):Int))),(18,vk x18_1)] [(0,.box [.sl 1 (Ac eI y_5.2.L),vk y_5.2.At] 90),(1,.box [.val (.slice none 0 0),.val (.slice none 0 0),.val (.slice none 0 0)] 31),(2,.box [.row 5,.val (.slice none 0 0),.val (.slice none 0 0)] 31),(3,.row 9 1 (Ac eS ([(⟨#[97,112,112]⟩:ByteArray),(⟨#[100,98]⟩:ByteArray),(⟨#[119,101,98]⟩:ByteArray)]:List ByteArray))),(4,.box [ws e,.val (.int .i64 1),vk y_2.1,.sl 1 (Ac eI x_2),.val (.bool y_4.1),.sl 4 (Ac Av.enc ([y_7]:List Av)),.sl 1 (Ac eI ([1]:List Int)),.sl 1 (Ac eI ([2,3]:List Int)),.val (.bool y_5.1)] 83),(5,.row 83 9 (Ac Ad.enc l_1))] 6) (B5 [(0,0),(1,1),(2,2),(3,3),(4,4),(5,5)]) ?_
 refine B7 (E4 _ _ []) 6 62 Gu rfl rfl ?_
 refine Il ?_
 refine Kv aGj z83 aRg ([(Ad.mk e 1 y_2.1 x_2 y_4.1 ([y_7]:List Av) ([1]:List Int) ([2,3]:List Int) y_5.1)]:List Ad) Ad.enc ?_
 obtain⟨l_3,hl_3,G⟩:=Af G
 refine Lk (rd:=[5,30]) rfl rfl (Od aGj Ad.enc_len .row rfl .row rfl hl_3 rfl) rfl rfl ?_
 refine Jp fun B=>?_
 refine B7 (E4 _ _ []) 62 78 B rfl rfl ?_
 refine Jp fun B=>?_
 obtain rfl:=oi_ G
 exact⟨((W (x18_1 + 1),y_5.2,l_3),m1),aKf _,hn1,B5 [(0,0),(1,1),(2,2),(3,3),(4,38)]⟩
 refine iC ?_
 replace G:=Lt G hn1
 refine Ar <| Q1 13 37 B ?_
 refine Il ?_
 refine Ex rfl rfl (.len eE.elem .part) rfl rfl ?_
 refine Jp fun B=>?_
 refine Da <| Ip (fun ((x66_6,d_6,l_6):Int×Ae×List Bi)=>mk [(0,.ptr 0 0),(2,.ptr 1 0),(3,.ptr 2 0),(4,.part 3 (((0:Int).toNat) * 1) ((W (2 + y.1):Int).toNat - (0:Int).toNat)),(65,.val (.int .i64 ((((W (2 + y.1):Int).toNat - (0:Int).toNat):Nat):Int))),(66,vk x66_6)] [(0,.box [.sl 1 (Ac eI d_6.L),vk d_6.At] 90),(1,.box [.val (.slice none 0 0),.val (.slice none 0 0),.val (.slice none 0 0)] 31),(2,.box [.row 4,.row 5,.val (.slice none 0 0)] 31),(3,.row 9 1 (Ac eS ([(⟨#[97,112,112]⟩:ByteArray),(⟨#[100,98]⟩:ByteArray),(⟨#[119,101,98]⟩:ByteArray)]:List ByteArray))),(4,.row 83 9 (Ac Ad.enc l_1)),(5,.row 98 2 (Ac Bi.enc l_6))] 6) G (B5 [(0,0),(1,1),(2,2),(3,3),(4,4)]) ?_
 rintro⟨x66_6,d_6,l_6⟩ m6 o6 G hn6
 unfold Bp.l6 at G
 try dsimp only at G
 refine X5 rfl ?_
 refine Mn 6 14 Gu fun B=>?_
 refine Ar <| Ji rfl G (fun h17 G=>?_) fun h17 G=>?_
 refine Ts ?_
 refine Ar <| Da <| Mn 14 30 B fun B=>?_
 refine Q1 30 54 B ?_
 refine Il ?_
 refine Ex rfl rfl (.len eE.elem .part) rfl rfl ?_
 refine Jp fun B=>?_
 refine Da <| Ip (fun ((x71_7,d_7,l_7):Int×Ae×List Bi)=>mk [(0,.ptr 0 0),(2,.ptr 1 0),(3,.ptr 2 0),(4,.part 3 (((0:Int).toNat) * 1) ((W (2 + y.1):Int).toNat - (0:Int).toNat)),(8,vk x66_6),(65,.val (.int .i64 ((((W (2 + y.1):Int).toNat - (0:Int).toNat):Nat):Int))),(66,vk x66_6),(70,.val (.int .i64 ((((W (2 + y.1):Int).toNat - (0:Int).toNat):Nat):Int))),(71,vk x71_7)] [(0,.box [.sl 1 (Ac eI d_7.L),vk d_7.At] 90),(1,.box [.val (.slice none 0 0),.val (.slice none 0 0),.val (.slice none 0 0)] 31),(2,.box [.row 4,.row 5,.val (.slice none 0 0)] 31),(3,.row 9 1 (Ac eS ([(⟨#[97,112,112]⟩:ByteArray),(⟨#[100,98]⟩:ByteArray),(⟨#[119,101,98]⟩:ByteArray)]:List ByteArray))),(4,.row 83 9 (Ac Ad.enc l_1)),(5,.row 98 2 (Ac Bi.enc l_7))] 6) G (B5 [(0,0),(1,1),(2,2),(3,3),(4,4),(5,5)]) ?_
 rintro⟨x71_7,d_7,l_7⟩ m7 o7 G hn7
 unfold Bp.l7 at G
 try dsimp only at G
 refine X5 rfl ?_
 refine Mn 6 14 Gu fun B=>?_
 refine Ar <| Ji rfl G (fun h21 G=>?_) fun h21 G=>?_
 refine Ts ?_
 refine Ba (ι:=Ae×List Bi) (fun ((d_9,l_9):Ae×List Bi)=>mk [(0,.ptr 0 0),(2,.ptr 1 0),(3,.ptr 2 0),(4,.part 3 (((0:Int).toNat) * 1) ((W (2 + y.1):Int).toNat - (0:Int).toNat)),(8,vk x66_6),(65,.val (.int .i64 ((((W (2 + y.1):Int).toNat - (0:Int).toNat):Nat):Int))),(66,vk x66_6),(70,.val (.int .i64 ((((W (2 + y.1):Int).toNat - (0:Int).toNat):Nat):Int))),(71,vk x71_7)] [(0,.box [.sl 1 (Ac eI d_9.L),vk d_9.At] 90),(1,.box [.val (.slice none 0 0),.val (.slice none 0 0),.val (.slice none 0 0)] 31),(2,.box [.row 4,.row 5,.val (.slice none 0 0)] 31),(3,.row 9 1 (Ac eS ([(⟨#[97,112,112]⟩:ByteArray),(⟨#[100,98]⟩:ByteArray),(⟨#[119,101,98]⟩:ByteArray)]:List ByteArray))),(4,.row 83 9 (Ac Ad.enc l_1)),(5,.row 98 2 (Ac Bi.enc l_9))] 6) (fun ((d_9,l_9):Ae×List Bi)=>Bp.j9 x71_7 d_9 l_9=some o7) ?_ ?_
 refine Da <| Mn 14 30 B fun B=>?_
 refine Ba (ι:=Bool×Ae) (fun ((x87_8,d_8):Bool×Ae)=>mk [(0,.ptr 0 0),(2,.ptr 1 0),(3,.ptr 2 0),(4,.part 3 (((0:Int).toNat) * 1) ((W (2 + y.1):Int).toNat - (0:Int).toNat)),(8,vk x66_6),(9,vk x71_7),(65,.val (.int .i64 ((((W (2 + y.1):Int).toNat - (0:Int).toNat):Nat):Int))),(66,vk x66_6),(70,.val (.int .i64 ((((W (2 + y.1):Int).toNat - (0:Int).toNat):Nat):Int))),(71,vk x71_7),(87,.val (.bool x87_8))] [(0,.box [.sl 1 (Ac eI d_8.L),vk d_8.At] 90),(1,.box [.val (.slice none 0 0),.val (.slice none 0 0),.val (.slice none 0 0)] 31),(2,.box [.row 4,.row 5,.val (.slice none 0 0)] 31),(3,.row 9 1 (Ac eS ([(⟨#[97,112,112]⟩:ByteArray),(⟨#[100,98]⟩:ByteArray),(⟨#[119,101,98]⟩:ByteArray)]:List ByteArray))),(4,.row 83 9 (Ac Ad.enc l_1)),(5,.row 98 2 (Ac Bi.enc l_7))] 6) (fun ((x87_8,d_8):Bool×Ae)=>Bp.j8 x66_6 x71_7 l_7 x87_8 d_8=some o7) ?_ ?_
 refine B7 (E4 _ _ []) 30 142 B rfl rfl ?_
 refine Il ?_
 rcases bc_ G with ⟨h23,G⟩ | ⟨h23,G⟩
 refine Il ?_
 obtain⟨y_8,hy_8,G⟩:=Af G
 refine dO [0] [0] [] false (L6 hy_8) ?_
 refine Il ?_
 rcases bc_ G with ⟨h24,G⟩ | ⟨h24,G⟩
 refine Jp fun B=>?_
 exact⟨(decide ((l_7.length:Int) < 3),y_8.2),G,B5 [(0,0),(1,1),(2,2),(3,3),(4,4),(5,5)]⟩
 refine Jp fun B=>?_
 exact⟨(false,y_8.2),G,B5 [(0,0),(1,1),(2,2),(3,3),(4,4),(5,5)]⟩
 refine Jp fun B=>?_
 exact⟨(false,d_7),G,B5 [(0,0),(1,1),(2,2),(3,3),(4,4),(5,5)]⟩
 rintro⟨x87_8,d_8⟩ G
 unfold Bp.j8 at G
 try dsimp only at G
 refine X5 rfl ?_
 refine Ji rfl G (fun h28 G=>?_) fun h28 G=>?_
 refine B7 (E4 _ _ []) 6 78 Gu rfl rfl ?_
 refine Il ?_
 refine Ox wY aRb z98 ?_
 refine Kv aCq z98 aNd ([(Bi.mk x66_6 x71_7)]:List Bi) Bi.enc ?_
 obtain⟨l_4,hl_4,G⟩:=Af G
 refine Lk (rd:=[5,46]) rfl rfl (Od aCq Bi.enc_len .row rfl .row rfl hl_4 rfl) rfl rfl ?_
 refine Jp fun B=>?_
 exact⟨(d_8,l_4),G,B5 [(0,0),(1,1),(2,2),(3,3),(4,4),(5,54)]⟩
 refine Ts ?_
 exact⟨(d_8,l_7),G,B5 [(0,0),(1,1),(2,2),(3,3),(4,4),(5,5)]⟩
 rintro⟨d_9,l_9⟩ G
 unfold Bp.j9 at G
 try dsimp only at G
 refine X5 rfl ?_
 refine B7 (E4 _ _ []) 6 22 Gu rfl rfl ?_
 refine Jp fun B=>?_
 obtain rfl:=oi_ G
 exact⟨((W (x71_7 + 1),d_9,l_9),m7),aKf _,hn7,B5 [(0,0),(1,1),(2,2),(3,3),(4,4),(5,5)]⟩
 refine iC ?_
 replace G:=Lt G hn7
 refine B7 (E4 _ _ []) 14 30 B rfl rfl ?_
 refine Jp fun B=>?_
 obtain rfl:=oi_ G
 exact⟨((W (x66_6 + 1),d_7,l_7),m6),aKf _,hn6,B5 [(0,0),(1,1),(2,2),(3,3),(4,4),(5,5)]⟩
 refine iC ?_
 replace G:=Lt G hn6
 refine Ba (ι:=List Bi) (fun (l_10:List Bi)=>mk [(0,.ptr 0 0),(2,.ptr 1 0),(3,.ptr 2 0)] [(0,.box [.sl 1 (Ac eI d_6.L),vk d_6.At] 90),(1,.box [.val (.slice none 0 0),.val (.slice none 0 0),.val (.slice none 0 0)] 31),(2,.box [.row 3,.row 4,.val (.slice none 0 0)] 31),(3,.row 83 9 (Ac Ad.enc l_1)),(4,.row 98 2 (Ac Bi.enc l_10))] 5) (fun (l_10:List Bi)=>Bp.j10 l_1 d_6 l_10=some r) ?_ ?_
 refine Mn 14 46 B fun B=>?_
 refine Ji rfl G (fun h33 G=>?_) fun h33 G=>?_
 refine B7 (E4 _ _ []) 46 78 B rfl rfl ?_
 refine Ox wY aRb z98 ?_
 refine Kv aCq z98 aNd ([(Bi.mk 0 1)]:List Bi) Bi.enc ?_
 refine Jp fun B=>?_
 exact⟨([(Bi.mk 0 1)]:List Bi),G,B5 [(0,0),(1,1),(2,2),(3,4),(4,54)]⟩
 refine Ts ?_
 exact⟨l_6,G,B5 [(0,0),(1,1),(2,2),(3,4),(4,5)]⟩
 rintro l_10 G
 unfold Bp.j10 at G
 try dsimp only at G
 refine X5 rfl ?_
 refine Ar <| Q1 5 29 Gu ?_
 refine Il ?_
 obtain⟨y_9,hy_9,G⟩:=Af G
 refine dO [0] [0] [] false (L6 hy_9) ?_
 refine Jp fun B=>?_
 refine Da <| Ip (fun ((i_11,d_11,l_11):Int×Ae×List Aq)=>mk [(0,.ptr 0 0),(2,.ptr 1 0),(3,.ptr 2 0),(10,vk i_11)] [(0,.box [.sl 1 (Ac eI d_11.L),vk d_11.At] 90),(1,.box [.val (.slice none 0 0),.val (.slice none 0 0),.val (.slice none 0 0)] 31),(2,.box [.row 3,.row 4,.row 5] 31),(3,.row 83 9 (Ac Ad.enc l_1)),(4,.row 98 2 (Ac Bi.enc l_10)),(5,.row 47 5 (Ac Aq.enc l_11))] 6) G (B5 [(0,0),(1,1),(2,2),(3,3),(4,4)]) ?_
 rintro⟨i_11,d_11,l_11⟩ m11 o11 G hn11
 unfold Bp.l11 at G
 try dsimp only at G
 refine X5 rfl ?_
 refine Ar <| Mn 6 22 Gu fun B=>?_
 refine Ji rfl G (fun h37 G=>?_) fun h37 G=>?_
 refine Ts ?_
 refine Ar <| Da <| Ca (E4 _ _ [54]) (by kernel_rfl) [0,1,0,0,0,24,60,124,255,511,1023] 22 110 B rfl rfl (by kernel_rfl) ?_
 refine Il ?_
 refine wP eE z9 ck9 ([(⟨#[98,97,99,107,117,112]⟩:ByteArray),(⟨#[100,101,101,100]⟩:ByteArray)]:List ByteArray) eS ?_
 obtain⟨y_10,hy_10,G⟩:=Af G
 refine dO [0] [0] [] false (Vh hy_10) ?_
 obtain⟨y_11,hy_11,G⟩:=Af G
 refine dO [0] [0] [] false (eJ hy_11) ?_
 refine Kv aHa z47 aPm ([y_11.1]:List Aq) Aq.enc ?_
 obtain⟨l_5,hl_5,G⟩:=Af G
 refine Lk (rd:=[5,78]) rfl rfl (Od aHa Aq.enc_len .row rfl .row rfl hl_5 rfl) rfl rfl ?_
 refine Jp fun B=>?_
 refine B7 (E4 _ _ []) 110 134 B rfl rfl ?_
 refine Jp fun B=>?_
 obtain rfl:=oi_ G
 exact⟨((W (i_11 - 1),y_11.2,l_5),m11),aKf _,hn11,B5 [(0,0),(1,1),(2,2),(3,3),(4,4),(5,86)]⟩
 refine iC ?_
 replace G:=Lt G hn11
 refine Mn 22 38 B fun B=>?_
 refine tQ ?_
 obtain rfl:=oi_ G
 exact Q5 [(0,0)] ⟨rfl,rfl⟩
instance wk7:Wk 7:=⟨_,@nY⟩
theorem Qa {s c r} (G:Iy s c=some r):Fn Tryz.prog 252 0 [ws s,.val (.int .u8 (c.toNat:Int))] [] (fun d' b'=>d'=vk r/\b'=[]):=by
 unfold Iy at G
 refine Ea 0 8 Tryz.func252 fun _ _ _=>?_
 refine Cb 2 fun B G=>?_
 refine Zc (rd:=[]) rfl rfl (.extV rfl aH8 (aV9 s c)) rfl rfl (fun _=>⟨_,rfl⟩) ?_
 rintro _ rfl
 exact C6
instance aZc:Wk 252:=⟨_,@Qa⟩
theorem Yq {s c r} (G:Fo s c=some r):Fn Tryz.prog 224 0 [ws s,.val (.int .u8 (c.toNat:Int))] [] (fun d' b'=>d'=vk r/\b'=[]):=by
 unfold Fo at G
 refine Ea 0 8 Tryz.func224 fun _ _ _=>?_
 exact C6
instance aXl:Wk 224:=⟨_,@Yq⟩
theorem aX {c others r} (G:Ld c others=some r):Fn Tryz.prog 184 0 [.val (.int .u8 (c.toNat:Int)),ws others] [] (fun d' b'=>d'=.val (.bool r)/\b'=[]):=by
 unfold Ld at G
 refine Ea 0 33 Tryz.func184 fun _ _ _=>?_
 exact C6
instance bAq:Wk 184:=⟨_,@aX⟩
end Go.Proofs.YtboglmbblmakjaaGreatDoor
