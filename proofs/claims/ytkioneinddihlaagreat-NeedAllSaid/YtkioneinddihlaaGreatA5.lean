import Derived.Test.YtkioneinddihlaaGreatT1
import Derived.Test.YtkioneinddihlaaGreatEU
import Derived.Test.YtkioneinddihlaaGreatA3
import Derived.Test.YtkioneinddihlaaGreatA4
set_option linter.unusedVariables false
set_option linter.unusedSimpArgs false
set_option maxRecDepth 100000
set_option maxHeartbeats 40000000
namespace Go.Proofs.YtkioneinddihlaaGreat
open Go.RowKit
theorem Yo {n r} (G:Ex n=some r):Fn Tryz.prog 153 0 [vk n] [] (fun d' b'=>d'=.sl 1 (Ak e8 r)/\b'=[]):=by
 unfold Ex at G
 refine Ez 0 26 Tryz.func153 fun _ _ _=>?_
 refine B7 3 fun B G=>?_
 refine Ja rfl G (fun _ G=>?_) fun _ G=>?_
 refine B7 2 fun B G=>?_
 refine H0 Rx z5 vJ ([(u8 n)]:List UInt8) e8 ?_
 exact C1
 refine B7 4 fun B G=>?_
 refine Gc (fun ((n_1,b_1):Int×List UInt8)=>mk [(0,vk n_1),(3,.row 0)] [(0,.row 5 1 (Ak e8 b_1))] 1) G (B9 []) ?_
 rintro⟨n_1,b_1⟩ m1 o1 G hn1
 unfold Ex.l1 at G
 refine Iw 2 fun B G=>?_
 refine Ja rfl G (fun _ G=>?_) fun _ G=>?_
 refine B7 5 fun q _ B G=>?_
 refine H0 Rx z5 vJ ([(u8 q)]:List UInt8) e8 ?_
 exact C1
 refine B7 3 fun B G=>?_
 refine H0 Rx z5 vJ ([(u8 (W (128 + (b_1.length:Int))))]:List UInt8) e8 ?_
 exact C1
instance aKb:Wk 153:=⟨_,@Yo⟩
theorem Rr.F (rec:Ai->Option ((List UInt8))) (hrec:∀ (v:Ai) (r:(List UInt8)),rec v=some r->Fn Tryz.prog 130 0 [.agg (Ai.dv v)] [] (fun d' b'=>d'=.sl 1 (Ak e8 r)/\b'=[])) {v:Ai} {r:(List UInt8)} (G:Du.F rec v=some r):Fn Tryz.prog 130 0 [.agg (Ai.dv v)] [] (fun d' b'=>d'=.sl 1 (Ak e8 r)/\b'=[]):=by
 unfold Du.F at G
 refine Ez 0 34 Tryz.func130 fun _ _ _=>?_
 refine B7 2 fun B G=>?_
 refine Fw rfl rfl (G5 Rx z5 (by decide) rfl rfl rfl rfl vJ (cs:=[]) .nil rfl (l:=([]:List UInt8)) (f:=e8) rfl) rfl rfl ?_
 refine B7 4 fun _ _ B G=>?_
 refine Gc (fun ((i_1,b_1):Int×List UInt8)=>mk [(1,.ptr 0 0),(3,.row 1),(4,vk i_1)] [(0,.box (Ai.dv v) 152),(1,.row 5 1 (Ak e8 b_1))] 2) G (B9 [(0,0),(1,40)]) ?_
 rintro⟨i_1,b_1⟩ m1 o1 G hn1
 unfold Du.l1 at G
 refine Iw 2 fun B G=>?_
 refine Ja rfl G (fun _ G=>?_) fun _ G=>?_
 refine B7 5 fun e he B G=>?_
 refine Fw rfl rfl (Mn iX (Iy Ai.enc_len (Cc he) (o:=0) (m:=4) (cs:=[.int .i64 e.Tag,.sl 1 (Ak e8 e.Bytes),.bool e.Nested,.sl 4 (Ak Ai.enc e.Elements)]) (by simp only [Ai.enc_eq]; rfl) (by decide) rfl) (Fe Ai.enc_len (Cc he) (o:=0) (m:=4) (by decide) rfl)) rfl rfl ?_
 obtain⟨y,hy,G⟩:=Aq G
 refine Mb (hrec _ _ hy) ?_
 exact C1
 refine B7 1 fun B G=>?_
 refine A8 <| Bn (Dx _ _ []) (by kernel_rfl) [0,1,3,7,0,16,48,127,0,511,1023] 42 130 B rfl rfl (by kernel_rfl) ?_
 refine B7 1 fun B G=>?_
 refine H0 Rx z5 vJ ([(u8 v.Tag)]:List UInt8) e8 ?_
 exact C1
theorem Rr {v:Ai} {r:(List UInt8)} (G:Du v=some r):Fn Tryz.prog 130 0 [.agg (Ai.dv v)] [] (fun d' b'=>d'=.sl 1 (Ak e8 r)/\b'=[]):=
 Rn (motive:=fun (x:Ai) (r:(List UInt8))=>Fn Tryz.prog 130 0 [.agg (Ai.dv x)] [] (fun d' b'=>d'=.sl 1 (Ak e8 r)/\b'=[])) (fun rec hrec x r h=>@Rr.F _ (fun v r h=>hrec v r h) x r h) v r G
instance aK3:Wk 130:=⟨_,@Rr⟩
theorem Yg {v r} (G:Kc v=some r):Fn Tryz.prog 104 0 [.agg (Ai.dv v)] [] (fun d' b'=>d'=.tup [.sl 1 (Ak e8 r.1),vk r.2]/\b'=[]):=by
 unfold Kc at G
 refine Ez 0 17 Tryz.func104 fun _ _ _=>?_
 exact C1
instance aKk:Wk 104:=⟨_,@Yg⟩
theorem aM {c r} (G:Jo c=some r):Fn Tryz.prog 75 0 [.agg (Ah.dv c)] [] (fun d' b'=>d'=.tup [.sl 1 (Ak e8 r.1),vk r.2]/\b'=[]):=by
 unfold Jo at G
 refine Ez 0 12 Tryz.func75 fun _ _ _=>?_
 exact C1
instance aMs:Wk 75:=⟨_,@aM⟩
theorem gS {b r} (G:F8 b=some r):Fn Tryz.prog 76 0 [.sl 1 (Ak e8 b)] [] (fun d' b'=>d'=vk r/\b'=[]):=by
 unfold F8 at G
 refine Ez 0 21 Tryz.func76 fun _ _ _=>?_
 refine B7 5 fun B G=>?_
 refine Gc (fun ((h_1,i_1):Int×Int)=>mk [(0,.sl 1 (Ak e8 b)),(3,.val (.int .u32 h_1)),(4,vk i_1)] [] 0) G (B9 []) ?_
 rintro⟨h_1,i_1⟩ m1 o1 G hn1
 unfold F8.l1 at G
 exact F0
instance aLw:Wk 76:=⟨_,@gS⟩
theorem eQ {c key r} (G:Fa c key=some r):Fn Tryz.prog 54 0 [.agg (Ah.dv c),vk key] [] (fun d' b'=>d'=.tup [.agg (Ah.dv r.1),vk r.2]/\b'=[]):=by
 unfold Fa at G
 refine Ez 0 35 Tryz.func54 fun _ _ _=>?_
 refine B7 4 fun y _ B G=>?_
 refine Kp dQ aAf aC8 ?_
 refine B7 0 fun B G=>?_
 refine A8 <| A6 (ι:=Bool) (fun (x22_1:Bool)=>mk [(1,vk key),(2,.ptr 0 0),(4,.ptr 1 0),(22,.val (.bool x22_1))] [(0,.box [vk y.Serial,ws y.Issuer,ws y.Subject,vk y.Key.Alg,vk y.Key.Bits,vk y.KeyId,vk y.Hash.Alg,vk y.Hash.Bits,vk y.From,vk y.To,.val (.bool y.Authority),vk y.Path,.sl 1 (Ak eS y.Names),.val (.int .i64 0),.val (.int .i64 0)] 103),(1,.box [.val (.int .i64 0),.val (.string (⟨#[]⟩:ByteArray)),.val (.string (⟨#[]⟩:ByteArray)),.val (.int .i64 0),.val (.int .i64 0),.val (.int .i64 0),.val (.int .i64 0),.val (.int .i64 0),.val (.int .i64 0),.val (.int .i64 0),.val (.bool false),.val (.int .i64 0),.val (.slice none 0 0),.val (.int .i64 0),.val (.int .i64 0)] 103)] 2) (fun (x22_1:Bool)=>Fa.j1 key y x22_1=some r) ?_ ?_
 exact C1
 rintro x22_1 G
 unfold Fa.j1 at G
 try dsimp only at G
 refine Nl rfl ?_
 refine Ja rfl G (fun _ G=>?_) fun _ G=>?_
 refine B7 1 fun B G=>?_
 refine Kp K6 qQ jR ?_
 exact C1
 refine B7 5 fun _ _ _ _ B G=>?_
 refine Kp dQ aAf aC8 ?_
 exact C1
instance aM3:Wk 54:=⟨_,@eQ⟩
theorem W7 {name key id anchor to r} (G:Hr name key id anchor to=some r):Fn Tryz.prog 30 0 [ws name,.agg [vk key.Alg,vk key.Bits],vk id,vk anchor,vk to] [] (fun d' b'=>d'=.agg (A4.dv r)/\b'=[]):=by
 unfold Hr at G
 refine Ez 0 32 Tryz.func30 fun _ _ _=>?_
 refine B7 2 fun B G=>?_
 refine Kp Lm Q9 bN ?_
 refine B7 0 fun B G=>?_
 refine H0 Qh z9 vW ([name]:List ByteArray) eS ?_
 refine Kp K6 qQ jR ?_
 refine B7 0 fun B G=>?_
 refine A8 <| G3 (σ':=mk [(2,vk id),(3,vk anchor),(6,.ptr 0 0),(10,.ptr 1 0),(11,.ptr 2 0)] [(0,.box [vk key.Alg,vk key.Bits] 40),(1,.box [.val (.int .i64 0),.val (.int .i64 0),.val (.int .i64 0),.val (.slice none 0 0)] 43),(2,.box [vk id,.val (.string (⟨#[114,111,111,116]⟩:ByteArray)),ws name,vk key.Alg,vk key.Bits,vk id,.val (.int .i64 3),.val (.int .i64 0),.val (.int .i64 0),vk to,.val (.bool false),.val (.int .i64 0),.sl 1 (Ak eS ([name]:List ByteArray)),.val (.int .i64 0),.val (.int .i64 0)] 103)] 3) (B9 [(0,0),(1,8),(2,88)]) ?_
 refine B7 3 fun y _ B G=>?_
 refine H0 wE jR tO ([y.1]:List Ah) Ah.enc ?_
 refine Kp iU aEx z43 ?_
 exact C1
instance aN2:Wk 30:=⟨_,@W7⟩
theorem Pe {d l r} (G:Hx d l=some r):Fn Tryz.prog 33 1 [.ptr 0 0,.sl 1 (Ak eS l)] [.box [.sl 1 (Ak eI d.L),vk d.At] 68] (fun d' b'=>d'=ws r.1/\b'=[.box [.sl 1 (Ak eI r.2.L),vk r.2.At] 68]):=by
 unfold Hx at G
 refine Ez 1 12 Tryz.func33 fun _ _ _=>?_
 exact C1
instance aNq:Wk 33:=⟨_,@Pe⟩
theorem Wv {d name r} (G:G6 d name=some r):Fn Tryz.prog 32 1 [.ptr 0 0,ws name] [.box [.sl 1 (Ak eI d.L),vk d.At] 68] (fun d' b'=>d'=.agg (Bp.dv r.1)/\b'=[.box [.sl 1 (Ak eI r.2.L),vk r.2.At] 68]):=by
 unfold G6 at G
 refine Ez 1 62 Tryz.func32 fun _ _ _=>?_
 refine B7 4 fun y _ y_2 _ B G=>?_
 refine Kp cQ aJg z79 ?_
 refine B7 6 fun _ _ _ _ B G=>?_
 refine Gc (fun ((day_1,i_1,d_1,l_1):Int×Int×Ab×List Dy)=>mk [(0,.ptr 0 0),(4,.ptr 1 0),(5,.ptr 2 0),(6,vk day_1),(7,vk i_1)] [(0,.box [.sl 1 (Ak eI d_1.L),vk d_1.At] 68),(1,.box [.val (.string (⟨#[]⟩:ByteArray)),.val (.int .i64 0),.val (.int .i64 0),.val (.slice none 0 0),.val (.int .i64 0)] 79),(2,.box [ws name,.val (.int .i64 (W (1 + y.1))),.val (.int .i64 (W (1 + y_2.1))),.row 3,.val (.int .i64 0)] 79),(3,.row 107 3 (Ak Dy.enc l_1))] 4) G (B9 [(0,0),(1,1),(2,73)]) ?_
 rintro⟨day_1,i_1,d_1,l_1⟩ m1 o1 G hn1
 unfold G6.l1 at G
 refine Iw 2 fun B G=>?_
 refine Ja rfl G (fun _ G=>?_) fun _ G=>?_
 refine B7 4 fun B G=>?_
 refine Kp Lm Q9 bN ?_
 refine Kp Lm Q9 bN ?_
 refine Kp Lm Q9 bN ?_
 refine Kp Lm Q9 bN ?_
 refine Kp Lm Q9 bN ?_
 refine Kp Lm Q9 bN ?_
 refine H0 aDv bN aF7 ([(Av.mk 2 0),(Av.mk 1 0),(Av.mk 5 2048),(Av.mk 16 128),(Av.mk 3 0),(Av.mk 15 168)]:List Av) Av.enc ?_
 refine B7 4 fun _ _ e _ B G=>?_
 refine Kp kH aGz aBl ?_
 refine H0 aGd aBl aHj ([(Dy.mk e day_1)]:List Dy) Dy.enc ?_
 refine B7 1 fun l _ B G=>?_
 refine Cn (Dx _ _ [220]) 196 252 B rfl rfl ?_
 refine B7 0 fun B G=>?_
 refine Qv Es z3 I6 ([5,30,0,100]:List Int) eI ?_
 exact C1
 refine B7 1 fun B G=>?_
 refine A8 <| Bn (Dx _ _ [68]) (by kernel_rfl) [0,1,3,7,15,0,0,96,255,511,1023] 20 108 B rfl rfl (by kernel_rfl) ?_
 refine B7 2 fun _ _ B G=>?_
 refine Qv Es z3 I6 ([50,300,0,3000]:List Int) eI ?_
 exact C1
instance aM0:Wk 32:=⟨_,@Wv⟩
theorem dL {d r} (G:Bk d=some r):Fn Tryz.prog 7 1 [.ptr 0 0] [.box [.sl 1 (Ak eI d.L),vk d.At] 68] (fun d' b'=>d'=.agg (An.dv r.1)/\b'=[.box [.sl 1 (Ak eI r.2.L),vk r.2.At] 68]):=by
 unfold Bk at G
 refine Ez 1 122 Tryz.func7 fun _ _ _=>?_
 refine eM 1 9 Ha fun B=>?_
 refine eM 9 17 B fun B=>?_
 refine Xs 17 65 B ?_
 refine H0 Qh z9 vW ([(⟨#[97,112,112]⟩:ByteArray),(⟨#[100,98]⟩:ByteArray),(⟨#[119,101,98]⟩:ByteArray)]:List ByteArray) eS ?_
 refine Kr ?_
 obtain⟨y,hy,G⟩:=Aq G
 refine L3 [0] [0] [] false (Ew hy) ?_
 refine Kr ?_
 obtain⟨l,hl,G⟩:=Aq G
 refine Ik (rd:=[17]) rfl rfl (bW Qh fM hl) rfl rfl ?_
 refine Ni fun B=>?_
 refine A8 <| Xs 65 89 B ?_
 refine Kr ?_
 refine Fw rfl rfl (.len Qh.elem .part) rfl rfl ?_
 refine Ni fun B=>?_
 refine I1 <| Gc (fun ((x18_1,d_1,l_1):Int×Ab×List Al)=>mk [(0,.ptr 0 0),(2,.ptr 1 0),(3,.ptr 2 0),(4,.part 3 (((0:Int).toNat) * 1) ((W (2 + y.1):Int).toNat - (0:Int).toNat)),(16,.part 3 (((0:Int).toNat) * 1) ((W (2 + y.1):Int).toNat - (0:Int).toNat)),(17,.val (.int .i64 ((((W (2 + y.1):Int).toNat - (0:Int).toNat):Nat):Int))),(18,vk x18_1)] [(0,.box [.sl 1 (Ak eI d_1.L),vk d_1.At] 68),(1,.box [.val (.slice none 0 0),.val (.slice none 0 0),.val (.slice none 0 0)] 34),(2,.box [.row 4,.val (.slice none 0 0),.val (.slice none 0 0)] 34),(3,.row 9 1 (Ak eS ([(⟨#[97,112,112]⟩:ByteArray),(⟨#[100,98]⟩:ByteArray),(⟨#[119,101,98]⟩:ByteArray)]:List ByteArray))),(4,.row 59 9 (Ak Al.enc l_1))] 5) G (B9 [(0,0),(1,1),(2,9),(3,17)]) ?_
 rintro⟨x18_1,d_1,l_1⟩ m1 o1 G hn1
 unfold Bk.l1 at G
 try dsimp only at G
 refine Nl rfl ?_
 refine eM 5 13 Ha fun B=>?_
 refine A8 <| Ja rfl G (fun h6 G=>?_) fun h6 G=>?_
 refine jP ?_
 refine A8 <| I1 <| Xs 13 53 B ?_
 refine Kr ?_
 obtain⟨e,he,G⟩:=Aq G
 refine Ik (rd:=[3]) rfl rfl (Yw Qh (H6 he) (Cc he)) rfl rfl ?_
 refine Ik (rd:=[3]) rfl rfl (.loadR1 ty9 (Fj fM (Ow (a:=(0:Int).toNat) (Cc he)) (o:=0) (c:=.str e) rfl rfl)) rfl rfl ?_
 refine Ni fun B=>?_
 refine A8 <| Bn (Dx _ _ [69,85,93,101]) (by kernel_rfl) [0,0,0,6,0,0,0,112,0,270,1022,2046,0,4878,0,0,0,78606,262143,0,1048575] 53 221 B rfl rfl (by kernel_rfl) ?_
 refine Kr ?_
 refine Qv Es z3 I6 ([3,3,4]:List Int) eI ?_
 obtain⟨y_2,hy_2,G⟩:=Aq G
 refine L3 [0] [0] [] false (I4 hy_2) ?_
 refine Qv Es z3 I6 ([10,8,2]:List Int) eI ?_
 refine Qv Es z3 I6 ([8,2]:List Int) eI ?_
 refine Qv Es z3 I6 ([2,10,8,3]:List Int) eI ?_
 refine H0 yS z22 aCl ([([10,8,2]:List Int),([8,2]:List Int),([2,10,8,3]:List Int)]:List (List Int)) (eL 1 eI) ?_
 refine Kr ?_
 obtain⟨y_3,hy_3,G⟩:=Aq G
 refine L3 [0] [0] [] false (Ew hy_3) ?_
 obtain⟨e_2,he_2,G⟩:=Aq G
 refine Kr ?_
 refine Ik (rd:=[109]) rfl rfl (.loadR1 wD (Fj (Gy _ _) (Cc he_2) (o:=0) (c:=.sl 1 (Ak eI e_2)) rfl rfl)) rfl rfl ?_
 refine Kr ?_
 obtain⟨y_4,hy_4,G⟩:=Aq G
 refine L3 [0] [0] [] false (Ig hy_4) ?_
 refine H0 Es z3 I6 ([1]:List Int) eI ?_
 refine H0 Es z3 I6 ([2,3]:List Int) eI ?_
 refine Kr ?_
 obtain⟨y_5,hy_5,G⟩:=Aq G
 refine L3 [0] [0] [] false (Ig hy_5) ?_
 refine Kp Ri xW z59 ?_
 refine Ni fun B=>?_
 refine A6 (ι:=List Int) (fun (x_2:List Int)=>mk [(0,.ptr 0 0),(2,.ptr 1 0),(3,.ptr 2 0),(4,.part 3 (((0:Int).toNat) * 1) ((W (2 + y.1):Int).toNat - (0:Int).toNat)),(5,vk x18_1),(6,ws e),(7,.ptr 4 0),(16,.part 3 (((0:Int).toNat) * 1) ((W (2 + y.1):Int).toNat - (0:Int).toNat)),(17,.val (.int .i64 ((((W (2 + y.1):Int).toNat - (0:Int).toNat):Nat):Int))),(18,vk x18_1)] [(0,.box [.sl 1 (Ak eI y_5.2.L),vk y_5.2.At] 68),(1,.box [.val (.slice none 0 0),.val (.slice none 0 0),.val (.slice none 0 0)] 34),(2,.box [.row 5,.val (.slice none 0 0),.val (.slice none 0 0)] 34),(3,.row 9 1 (Ak eS ([(⟨#[97,112,112]⟩:ByteArray),(⟨#[100,98]⟩:ByteArray),(⟨#[119,101,98]⟩:ByteArray)]:List ByteArray))),(4,.box [ws e,.val (.int .i64 1),vk y_2.1,.sl 1 (Ak eI x_2),.val (.bool y_4.1),.val (.slice none 0 0),.row 6,.row 7,.val (.bool y_5.1)] 59),(5,.row 59 9 (Ak Al.enc l_1)),(6,.row 3 1 (Ak eI ([1]:List Int))),(7,.row 3 1 (Ak eI ([2,3]:List Int)))] 8) (fun (x_2:List Int)=>Bk.j2 x18_1 l_1 e y_2 y_4 y_5 x_2=some o1) ?_ ?_
 refine eM 221 245 B fun B=>?_
 refine Ja rfl G (fun h10 G=>?_) fun h10 G=>?_
 refine Cn (Dx _ _ []) 245 293 B rfl rfl ?_
 refine H0 Es z3 I6 ([14]:List Int) eI ?_
 refine Kr ?_
 obtain⟨l_2,hl_2,G⟩:=Aq G
 refine Ik (rd:=[245]) rfl rfl (J0 Es O4 .row rfl .sl rfl hl_2 rfl) rfl rfl ?_
 refine Ni fun B=>?_
 exact⟨l_2,G,B9 [(0,0),(1,1),(2,2),(3,3),(4,205),(5,4),(6,165),(7,173)]⟩
 refine jP ?_
 exact⟨e_2,G,B9 [(0,0),(1,1),(2,2),(3,3),(4,205),(5,4),(6,165),(7,173)]⟩
 rintro x_2 G
 unfold Bk.j2 at G
 try dsimp only at G
 refine Nl rfl ?_
 refine Xs 8 72 Ha ?_
 refine Kr ?_
 obtain⟨y_6,hy_6,G⟩:=Aq G
 refine Mb (Zs hy_6) ?_
 refine Kr ?_
 obtain⟨y_7,hy_7,G⟩:=Aq G
 refine Mb (W7 hy_7) ?_
 refine H0 xE z43 aE2 ([y_7]:List A4) A4.enc ?_
 refine Ni fun B=>?_
 refine G3 (σ':=mk [(0,.ptr 0 0),(2,.ptr 1 0),(3,.ptr 2 0),(4,.part 3 (((0:Int).toNat) * 1) ((W (2 + y.1):Int).toNat - (0:Int).toNat)),(7,.ptr 4 0),(16,.part 3 (((0:Int).toNat) * 1) ((W (2 + y.1):Int).toNat - (0:Int).toNat)),(17,.val (.int .i64 ((((W (2 + y.1):Int).toNat - (0:Int).toNat):Nat):Int))),(18,vk x18_1)] [(0,.box [.sl 1 (Ak eI y_5.2.L),vk y_5.2.At] 68),(1,.box [.val (.slice none 0 0),.val (.slice none 0 0),.val (.slice none 0 0)] 34),(2,.box [.row 5,.val (.slice none 0 0),.val (.slice none 0 0)] 34),(3,.row 9 1 (Ak eS ([(⟨#[97,112,112]⟩:ByteArray),(⟨#[100,98]⟩:ByteArray),(⟨#[119,101,98]⟩:ByteArray)]:List ByteArray))),(4,.box [ws e,.val (.int .i64 1),vk y_2.1,.sl 1 (Ak eI x_2),.val (.bool y_4.1),.sl 4 (Ak A4.enc ([y_7]:List A4)),.row 6,.row 7,.val (.bool y_5.1)] 59),(5,.row 59 9 (Ak Al.enc l_1)),(6,.row 3 1 (Ak eI ([1]:List Int))),(7,.row 3 1 (Ak eI ([2,3]:List Int)))] 8) (B9 [(0,0),(1,1),(2,2),(3,3),(4,4),(5,5),(6,6),(7,7)]) ?_
 refine G3 (σ':=mk [(0,.ptr 0 0),(2,.ptr 1 0),(3,.ptr 2 0),(4,.part 3 (((0:Int).toNat) * 1) ((W (2 + y.1):Int).toNat - (0:Int).toNat)),(7,.ptr 4 0),(16,.part 3 (((0:Int).toNat) * 1) ((W (2 + y.1):Int).toNat - (0:Int).toNat)),(17,.val (.int .i64 ((((W (2 + y.1):Int).toNat - (0:Int).toNat):Nat):Int))),(18,vk x18_1)] [(0,.box [.sl 1 (Ak eI y_5.2.L),vk y_5.2.At] 68),(1,.box [.val (.slice none 0 0),.val (.slice none 0 0),.val (.slice none 0 0)] 34),(2,.box [.row 5,.val (.slice none 0 0),.val (.slice none 0 0)] 34),(3,.row 9 1 (Ak eS ([(⟨#[97,112,112]⟩:ByteArray),(⟨#[100,98]⟩:ByteArray),(⟨#[119,101,98]⟩:ByteArray)]:List ByteArray))),(4,.box [ws e,.val (.int .i64 1),vk y_2.1,.sl 1 (Ak eI x_2),.val (.bool y_4.1),.sl 4 (Ak A4.enc ([y_7]:List A4)),.sl 1 (Ak eI ([1]:List Int)),.row 6,.val (.bool y_5.1)] 59),(5,.row 59 9 (Ak Al.enc l_1)),(6,.row 3 1 (Ak eI ([2,3]:List Int)))] 7) (B9 [(0,0),(1,1),(2,2),(3,3),(4,4),(5,5),(6,7)]) ?_
 refine G3 (σ':=mk [(0,.ptr 0 0),(2,.ptr 1 0),(3,.ptr 2 0),(4,.part 3 (((0:Int).toNat) * 1) ((W (2 + y.1):Int).toNat - (0:Int).toNat)),(7,.ptr 4 0),(16,.part 3 (((0:Int).toNat) * 1) ((W (2 + y.1):Int).toNat - (0:Int).toNat)),(17,.val (.int .i64 ((((W (2 + y.1):Int).toNat - (0:Int).toNat):Nat):Int))),(18,vk x18_1)] [(0,.box [.sl 1 (Ak eI y_5.2.L),vk y_5.2.At] 68),(1,.box [.val (.slice none 0 0),.val (.slice none 0 0),.val (.slice none 0 0)] 34),(2,.box [.row 5,.val (.slice none 0 0),.val (.slice none 0 0)] 34),(3,.row 9 1 (Ak eS ([(⟨#[97,112,112]⟩:ByteArray),(⟨#[100,98]⟩:ByteArray),(⟨#[119,101,98]⟩:ByteArray)]:List ByteArray))),(4,.box [ws e,.val (.int .i64 1),vk y_2.1,.sl 1 (Ak eI x_2),.val (.bool y_4.1),.sl 4 (Ak A4.enc ([y_7]:List A4)),.sl 1 (Ak eI ([1]:List Int)),.sl 1 (Ak eI ([2,3]:List Int)),.val (.bool y_5.1)] 59),(5,.row 59 9 (Ak Al.enc l_1))] 6) (B9 [(0,0),(1,1),(2,2),(3,3),(4,4),(5,5)]) ?_
 refine Cn (Dx _ _ []) 6 62 Ha rfl rfl ?_
 refine Kr ?_
 refine H0 xO z59 aHu ([(Al.mk e 1 y_2.1 x_2 y_4.1 ([y_7]:List A4) ([1]:List Int) ([2,3]:List Int) y_5.1)]:List Al) Al.enc ?_
 obtain⟨l_3,hl_3,G⟩:=Aq G
 refine Ik (rd:=[5,30]) rfl rfl (J0 xO Al.enc_len .row rfl .row rfl hl_3 rfl) rfl rfl ?_
 refine Ni fun B=>?_
 refine Cn (Dx _ _ []) 62 78 B rfl rfl ?_
 refine Ni fun B=>?_
 obtain rfl:=oi_ G
 exact⟨((W (x18_1 + 1),y_5.2,l_3),m1),aM2 _,hn1,B9 [(0,0),(1,1),(2,2),(3,3),(4,38)]⟩
 refine ex_ ?_
 replace G:=bK G hn1
 refine A8 <| Xs 13 37 B ?_
 refine Kr ?_
 refine Fw rfl rfl (.len Qh.elem .part) rfl rfl ?_
 refine Ni fun B=>?_
 refine I1 <| Gc (fun ((x66_6,d_6,l_6):Int×Ab×List Aw)=>mk [(0,.ptr 0 0),(2,.ptr 1 0),(3,.ptr 2 0),(4,.part 3 (((0:Int).toNat) * 1) ((W (2 + y.1):Int).toNat - (0:Int).toNat)),(65,.val (.int .i64 ((((W (2 + y.1):Int).toNat - (0:Int).toNat):Nat):Int))),(66,vk x66_6)] [(0,.box [.sl 1 (Ak eI d_6.L),vk d_6.At] 68),(1,.box [.val (.slice none 0 0),.val (.slice none 0 0),.val (.slice none 0 0)] 34),(2,.box [.row 4,.row 5,.val (.slice none 0 0)] 34),(3,.row 9 1 (Ak eS ([(⟨#[97,112,112]⟩:ByteArray),(⟨#[100,98]⟩:ByteArray),(⟨#[119,101,98]⟩:ByteArray)]:List ByteArray))),(4,.row 59 9 (Ak Al.enc l_1)),(5,.row 76 2 (Ak Aw.enc l_6))] 6) G (B9 [(0,0),(1,1),(2,2),(3,3),(4,4)]) ?_
 rintro⟨x66_6,d_6,l_6⟩ m6 o6 G hn6
 unfold Bk.l6 at G
 try dsimp only at G
 refine Nl rfl ?_
 refine eM 6 14 Ha fun B=>?_
 refine A8 <| Ja rfl G (fun h17 G=>?_) fun h17 G=>?_
 refine jP ?_
 refine A8 <| I1 <| eM 14 30 B fun B=>?_
 refine Xs 30 54 B ?_
 refine Kr ?_
 refine Fw rfl rfl (.len Qh.elem .part) rfl rfl ?_
 refine Ni fun B=>?_
 refine I1 <| Gc (fun ((x71_7,d_7,l_7):Int×Ab×List Aw)=>mk [(0,.ptr 0 0),(2,.ptr 1 0),(3,.ptr 2 0),(4,.part 3 (((0:Int).toNat) * 1) ((W (2 + y.1):Int).toNat - (0:Int).toNat)),(8,vk x66_6),(65,.val (.int .i64 ((((W (2 + y.1):Int).toNat - (0:Int).toNat):Nat):Int))),(66,vk x66_6),(70,.val (.int .i64 ((((W (2 + y.1):Int).toNat - (0:Int).toNat):Nat):Int))),(71,vk x71_7)] [(0,.box [.sl 1 (Ak eI d_7.L),vk d_7.At] 68),(1,.box [.val (.slice none 0 0),.val (.slice none 0 0),.val (.slice none 0 0)] 34),(2,.box [.row 4,.row 5,.val (.slice none 0 0)] 34),(3,.row 9 1 (Ak eS ([(⟨#[97,112,112]⟩:ByteArray),(⟨#[100,98]⟩:ByteArray),(⟨#[119,101,98]⟩:ByteArray)]:List ByteArray))),(4,.row 59 9 (Ak Al.enc l_1)),(5,.row 76 2 (Ak Aw.enc l_7))] 6) G (B9 [(0,0),(1,1),(2,2),(3,3),(4,4),(5,5)]) ?_
 rintro⟨x71_7,d_7,l_7⟩ m7 o7 G hn7
 unfold Bk.l7 at G
 try dsimp only at G
 refine Nl rfl ?_
 refine eM 6 14 Ha fun B=>?_
 refine A8 <| Ja rfl G (fun h21 G=>?_) fun h21 G=>?_
 refine jP ?_
 refine A6 (ι:=Ab×List Aw) (fun ((d_9,l_9):Ab×List Aw)=>mk [(0,.ptr 0 0),(2,.ptr 1 0),(3,.ptr 2 0),(4,.part 3 (((0:Int).toNat) * 1) ((W (2 + y.1):Int).toNat - (0:Int).toNat)),(8,vk x66_6),(65,.val (.int .i64 ((((W (2 + y.1):Int).toNat - (0:Int).toNat):Nat):Int))),(66,vk x66_6),(70,.val (.int .i64 ((((W (2 + y.1):Int).toNat - (0:Int).toNat):Nat):Int))),(71,vk x71_7)] [(0,.box [.sl 1 (Ak eI d_9.L),vk d_9.At] 68),(1,.box [.val (.slice none 0 0),.val (.slice none 0 0),.val (.slice none 0 0)] 34),(2,.box [.row 4,.row 5,.val (.slice none 0 0)] 34),(3,.row 9 1 (Ak eS ([(⟨#[97,112,112]⟩:ByteArray),(⟨#[100,98]⟩:ByteArray),(⟨#[119,101,98]⟩:ByteArray)]:List ByteArray))),(4,.row 59 9 (Ak Al.enc l_1)),(5,.row 76 2 (Ak Aw.enc l_9))] 6) (fun ((d_9,l_9):Ab×List Aw)=>Bk.j9 x71_7 d_9 l_9=some o7) ?_ ?_
 refine I1 <| eM 14 30 B fun B=>?_
 refine A6 (ι:=Bool×Ab) (fun ((x87_8,d_8):Bool×Ab)=>mk [(0,.ptr 0 0),(2,.ptr 1 0),(3,.ptr 2 0),(4,.part 3 (((0:Int).toNat) * 1) ((W (2 + y.1):Int).toNat - (0:Int).toNat)),(8,vk x66_6),(9,vk x71_7),(65,.val (.int .i64 ((((W (2 + y.1):Int).toNat - (0:Int).toNat):Nat):Int))),(66,vk x66_6),(70,.val (.int .i64 ((((W (2 + y.1):Int).toNat - (0:Int).toNat):Nat):Int))),(71,vk x71_7),(87,.val (.bool x87_8))] [(0,.box [.sl 1 (Ak eI d_8.L),vk d_8.At] 68),(1,.box [.val (.slice none 0 0),.val (.slice none 0 0),.val (.slice none 0 0)] 34),(2,.box [.row 4,.row 5,.val (.slice none 0 0)] 34),(3,.row 9 1 (Ak eS ([(⟨#[97,112,112]⟩:ByteArray),(⟨#[100,98]⟩:ByteArray),(⟨#[119,101,98]⟩:ByteArray)]:List ByteArray))),(4,.row 59 9 (Ak Al.enc l_1)),(5,.row 76 2 (Ak Aw.enc l_7))] 6) (fun ((x87_8,d_8):Bool×Ab)=>Bk.j8 x66_6 x71_7 l_7 x87_8 d_8=some o7) ?_ ?_
 refine Cn (Dx _ _ []) 30 142 B rfl rfl ?_
 refine Kr ?_
 rcases bc_ G with ⟨h23,G⟩ | ⟨h23,G⟩
 refine Kr ?_
 obtain⟨y_8,hy_8,G⟩:=Aq G
 refine L3 [0] [0] [] false (Ew hy_8) ?_
 refine Kr ?_
 rcases bc_ G with ⟨h24,G⟩ | ⟨h24,G⟩
 refine Ni fun B=>?_
 exact⟨(decide ((l_7.length:Int) < 3),y_8.2),G,B9 [(0,0),(1,1),(2,2),(3,3),(4,4),(5,5)]⟩
 refine Ni fun B=>?_
 exact⟨(false,y_8.2),G,B9 [(0,0),(1,1),(2,2),(3,3),(4,4),(5,5)]⟩
 refine Ni fun B=>?_
 exact⟨(false,d_7),G,B9 [(0,0),(1,1),(2,2),(3,3),(4,4),(5,5)]⟩
 rintro⟨x87_8,d_8⟩ G
 unfold Bk.j8 at G
 try dsimp only at G
 refine Nl rfl ?_
 refine Ja rfl G (fun h28 G=>?_) fun h28 G=>?_
 refine Cn (Dx _ _ []) 6 78 Ha rfl rfl ?_
 refine Kr ?_
 refine Kp Vd jU rB ?_
 refine H0 tZ rB aD4 ([(Aw.mk x66_6 x71_7)]:List Aw) Aw.enc ?_
 obtain⟨l_4,hl_4,G⟩:=Aq G
 refine Ik (rd:=[5,46]) rfl rfl (J0 tZ Aw.enc_len .row rfl .row rfl hl_4 rfl) rfl rfl ?_
 refine Ni fun B=>?_
 exact⟨(d_8,l_4),G,B9 [(0,0),(1,1),(2,2),(3,3),(4,4),(5,54)]⟩
 refine jP ?_
 exact⟨(d_8,l_7),G,B9 [(0,0),(1,1),(2,2),(3,3),(4,4),(5,5)]⟩
 rintro⟨d_9,l_9⟩ G
 unfold Bk.j9 at G
 try dsimp only at G
 refine Nl rfl ?_
 refine Cn (Dx _ _ []) 6 22 Ha rfl rfl ?_
 refine Ni fun B=>?_
 obtain rfl:=oi_ G
 exact⟨((W (x71_7 + 1),d_9,l_9),m7),aM2 _,hn7,B9 [(0,0),(1,1),(2,2),(3,3),(4,4),(5,5)]⟩
 refine ex_ ?_
 replace G:=bK G hn7
 refine Cn (Dx _ _ []) 14 30 B rfl rfl ?_
 refine Ni fun B=>?_
 obtain rfl:=oi_ G
 exact⟨((W (x66_6 + 1),d_7,l_7),m6),aM2 _,hn6,B9 [(0,0),(1,1),(2,2),(3,3),(4,4),(5,5)]⟩
 refine ex_ ?_
 replace G:=bK G hn6
 refine A6 (ι:=List Aw) (fun (l_10:List Aw)=>mk [(0,.ptr 0 0),(2,.ptr 1 0),(3,.ptr 2 0)] [(0,.box [.sl 1 (Ak eI d_6.L),vk d_6.At] 68),(1,.box [.val (.slice none 0 0),.val (.slice none 0 0),.val (.slice none 0 0)] 34),(2,.box [.row 3,.row 4,.val (.slice none 0 0)] 34),(3,.row 59 9 (Ak Al.enc l_1)),(4,.row 76 2 (Ak Aw.enc l_10))] 5) (fun (l_10:List Aw)=>Bk.j10 l_1 d_6 l_10=some r) ?_ ?_
 refine eM 14 46 B fun B=>?_
 refine Ja rfl G (fun h33 G=>?_) fun h33 G=>?_
 refine Cn (Dx _ _ []) 46 78 B rfl rfl ?_
 refine Kp Vd jU rB ?_
 refine H0 tZ rB aD4 ([(Aw.mk 0 1)]:List Aw) Aw.enc ?_
 refine Ni fun B=>?_
 exact⟨([(Aw.mk 0 1)]:List Aw),G,B9 [(0,0),(1,1),(2,2),(3,4),(4,54)]⟩
 refine jP ?_
 exact⟨l_6,G,B9 [(0,0),(1,1),(2,2),(3,4),(4,5)]⟩
 rintro l_10 G
 unfold Bk.j10 at G
 try dsimp only at G
 refine Nl rfl ?_
 refine A8 <| Xs 5 29 Ha ?_
 refine Kr ?_
 obtain⟨y_9,hy_9,G⟩:=Aq G
 refine L3 [0] [0] [] false (Ew hy_9) ?_
 refine Ni fun B=>?_
 refine I1 <| Gc (fun ((i_11,d_11,l_11):Int×Ab×List Bp)=>mk [(0,.ptr 0 0),(2,.ptr 1 0),(3,.ptr 2 0),(10,vk i_11)] [(0,.box [.sl 1 (Ak eI d_11.L),vk d_11.At] 68),(1,.box [.val (.slice none 0 0),.val (.slice none 0 0),.val (.slice none 0 0)] 34),(2,.box [.row 3,.row 4,.row 5] 34),(3,.row 59 9 (Ak Al.enc l_1)),(4,.row 76 2 (Ak Aw.enc l_10)),(5,.row 79 5 (Ak Bp.enc l_11))] 6) G (B9 [(0,0),(1,1),(2,2),(3,3),(4,4)]) ?_
 rintro⟨i_11,d_11,l_11⟩ m11 o11 G hn11
 unfold Bk.l11 at G
 try dsimp only at G
 refine Nl rfl ?_
 refine A8 <| eM 6 22 Ha fun B=>?_
 refine Ja rfl G (fun h37 G=>?_) fun h37 G=>?_
 refine jP ?_
 refine A8 <| I1 <| Bn (Dx _ _ [54]) (by kernel_rfl) [0,1,0,0,0,24,60,124,255,511,1023] 22 110 B rfl rfl (by kernel_rfl) ?_
 refine Kr ?_
 refine Qv Qh z9 vW ([(⟨#[98,97,99,107,117,112]⟩:ByteArray),(⟨#[100,101,101,100]⟩:ByteArray)]:List ByteArray) eS ?_
 obtain⟨y_10,hy_10,G⟩:=Aq G
 refine L3 [0] [0] [] false (Pe hy_10) ?_
 obtain⟨y_11,hy_11,G⟩:=Aq G
 refine L3 [0] [0] [] false (Wv hy_11) ?_
 refine H0 vP z79 aGe ([y_11.1]:List Bp) Bp.enc ?_
 obtain⟨l_5,hl_5,G⟩:=Aq G
 refine Ik (rd:=[5,78]) rfl rfl (J0 vP Bp.enc_len .row rfl .row rfl hl_5 rfl) rfl rfl ?_
 refine Ni fun B=>?_
 refine Cn (Dx _ _ []) 110 134 B rfl rfl ?_
 refine Ni fun B=>?_
 obtain rfl:=oi_ G
 exact⟨((W (i_11 - 1),y_11.2,l_5),m11),aM2 _,hn11,B9 [(0,0),(1,1),(2,2),(3,3),(4,4),(5,86)]⟩
 refine ex_ ?_
 replace G:=bK G hn11
 refine eM 22 38 B fun B=>?_
 refine yI ?_
 obtain rfl:=oi_ G
 exact Q2 [(0,0)] ⟨rfl,rfl⟩
instance wk7:Wk 7:=⟨_,@dL⟩
theorem lD {l n r} (G:Hg l n=some r):Fn Tryz.prog 34 0 [.sl 1 (Ak eI l),vk n] [] (fun d' b'=>d'=.val (.bool r)/\b'=[]):=by
 unfold Hg at G
 refine Ez 0 17 Tryz.func34 fun _ _ _=>?_
 refine B7 4 fun B G=>?_
 refine Gc (fun (x9_1:Int)=>mk [(1,vk n),(7,.sl 1 (Ak eI l)),(8,.val (.int .i64 (l.length:Int))),(9,vk x9_1)] [] 0) G (B9 []) ?_
 rintro x9_1 m1 o1 G hn1
 unfold Hg.l1 at G
 exact F0
instance aLt:Wk 34:=⟨_,@lD⟩
theorem pS {r} (G:Ng=some r):Fn Tryz.prog 35 0 [] [] (fun d' b'=>d'=.agg [vk r.Alg,vk r.Bits]/\b'=[]):=by
 unfold Ng at G
 refine Ez 0 2 Tryz.func35 fun _ _ _=>?_
 refine B7 2 fun B G=>?_
 refine Kp Lm Q9 bN ?_
 exact C1
instance aNz:Wk 35:=⟨_,@pS⟩
theorem O9 {d e r} (G:Au d e=some r):Fn Tryz.prog 8 1 [.ptr 0 0,.agg (An.dv e)] [.box [.sl 1 (Ak eI d.L),vk d.At] 68] (fun d' b'=>d'=.row 1/\b'=[.box [.sl 1 (Ak eI r.2.L),vk r.2.At] 68,.row 45 8 (Ak Ae.enc r.1)]):=by
 unfold Au at G
 refine Ez 1 145 Tryz.func8 fun _ _ _=>?_
 refine B7 9 fun y _ y_2 _ y_3 _ B G=>?_
 refine Gc (fun ((x25_1,d_1,l_1):Int×Ab×List Ae)=>mk [(0,.ptr 0 0),(5,.row 1),(6,.val (.bool (decide (0 < y.1)))),(7,.val (.bool (decide (y_2.1=0)))),(8,.val (.bool (decide (y_3.1=0)))),(23,.sl 9 (Ak Al.enc e.Endpoints)),(24,.val (.int .i64 (e.Endpoints.length:Int))),(25,vk x25_1)] [(0,.box [.sl 1 (Ak eI d_1.L),vk d_1.At] 68),(1,.row 45 8 (Ak Ae.enc l_1))] 2) G (B9 [(0,0)]) ?_
 rintro⟨x25_1,d_1,l_1⟩ m1 o1 G hn1
 unfold Au.l1 at G
 refine Iw 2 fun B G=>?_
 refine Ja rfl G (fun _ G=>?_) fun _ G=>?_
 refine B7 1 fun B G=>?_
 refine A6 (ι:=Ab×List Ae) (fun ((d_11,l_11):Ab×List Ae)=>mk [(0,.ptr 0 0),(5,.row 1),(6,.val (.bool (decide (0 < y.1)))),(7,.val (.bool (decide (y_2.1=0)))),(8,.val (.bool (decide (y_3.1=0)))),(23,.sl 9 (Ak Al.enc e.Endpoints)),(24,.val (.int .i64 (e.Endpoints.length:Int))),(25,vk x25_1)] [(0,.box [.sl 1 (Ak eI d_11.L),vk d_11.At] 68),(1,.row 45 8 (Ak Ae.enc l_11))] 2) (fun ((d_11,l_11):Ab×List Ae)=>Au.j11 x25_1 d_11 l_11=some o1) ?_ ?_
 refine B7 4 fun e_2 _ B G=>?_
 refine A6 (ι:=Ab×List Ae) (fun ((d_3,l_3):Ab×List Ae)=>mk [(0,.ptr 0 0),(5,.row 1),(6,.val (.bool (decide (0 < y.1)))),(7,.val (.bool (decide (y_2.1=0)))),(8,.val (.bool (decide (y_3.1=0)))),(9,vk x25_1),(10,.ptr 2 0),(23,.sl 9 (Ak Al.enc e.Endpoints)),(24,.val (.int .i64 (e.Endpoints.length:Int))),(25,vk x25_1)] [(0,.box [.sl 1 (Ak eI d_3.L),vk d_3.At] 68),(1,.row 45 8 (Ak Ae.enc l_3)),(2,.box (Al.dv e_2) 59)] 3) (fun ((d_3,l_3):Ab×List Ae)=>Au.j3 y y_2 y_3 x25_1 e_2 d_3 l_3=some o1) ?_ ?_
 refine A6 (ι:=Bool) (fun (x36_2:Bool)=>mk [(0,.ptr 0 0),(5,.row 1),(6,.val (.bool (decide (0 < y.1)))),(7,.val (.bool (decide (y_2.1=0)))),(8,.val (.bool (decide (y_3.1=0)))),(9,vk x25_1),(10,.ptr 2 0),(23,.sl 9 (Ak Al.enc e.Endpoints)),(24,.val (.int .i64 (e.Endpoints.length:Int))),(25,vk x25_1),(36,.val (.bool x36_2))] [(0,.box [.sl 1 (Ak eI d_1.L),vk d_1.At] 68),(1,.row 45 8 (Ak Ae.enc l_1)),(2,.box (Al.dv e_2) 59)] 3) (fun (x36_2:Bool)=>Au.j2 y y_2 y_3 x25_1 d_1 l_1 e_2 x36_2=some o1) ?_ ?_
 exact C1
 rintro x36_2 G
 unfold Au.j2 at G
 refine Dl (.r 0 (.e 2)) fun _ y_5 _ B G=>?_
 refine Kp Ou eG jK ?_
 refine H0 jN jK gQ ([(Ae.mk x25_1 1 12 y_5.1 (A4.mk (Av.mk 0 0) 0 ([]:(List Ah))))]:List Ae) Ae.enc ?_
 exact C1
 rintro⟨d_3,l_3⟩ G
 unfold Au.j3 at G
 try dsimp only at G
 refine Nl rfl ?_
 refine A6 (ι:=List Ae) (fun (l_5:List Ae)=>mk [(0,.ptr 0 0),(5,.row 1),(6,.val (.bool (decide (0 < y.1)))),(7,.val (.bool (decide (y_2.1=0)))),(8,.val (.bool (decide (y_3.1=0)))),(9,vk x25_1),(10,.ptr 2 0),(23,.sl 9 (Ak Al.enc e.Endpoints)),(24,.val (.int .i64 (e.Endpoints.length:Int))),(25,vk x25_1)] [(0,.box [.sl 1 (Ak eI d_3.L),vk d_3.At] 68),(1,.row 45 8 (Ak Ae.enc l_5)),(2,.box (Al.dv e_2) 59)] 3) (fun (l_5:List Ae)=>Au.j5 y y_2 y_3 x25_1 e_2 d_3 l_5=some o1) ?_ ?_
 refine A6 (ι:=Bool) (fun (x48_4:Bool)=>mk [(0,.ptr 0 0),(5,.row 1),(6,.val (.bool (decide (0 < y.1)))),(7,.val (.bool (decide (y_2.1=0)))),(8,.val (.bool (decide (y_3.1=0)))),(9,vk x25_1),(10,.ptr 2 0),(23,.sl 9 (Ak Al.enc e.Endpoints)),(24,.val (.int .i64 (e.Endpoints.length:Int))),(25,vk x25_1),(48,.val (.bool x48_4))] [(0,.box [.sl 1 (Ak eI d_3.L),vk d_3.At] 68),(1,.row 45 8 (Ak Ae.enc l_3)),(2,.box (Al.dv e_2) 59)] 3) (fun (x48_4:Bool)=>Au.j4 y y_2 y_3 x25_1 e_2 d_3 l_3 x48_4=some o1) ?_ ?_
 exact C1
 rintro x48_4 G
 unfold Au.j4 at G
 refine Dl (.r 0 (.e 1)) fun _ B G=>?_
 refine Kp Ou eG jK ?_
 refine H0 jN jK gQ ([(Ae.mk x25_1 7 2 0 (A4.mk (Av.mk 0 0) 0 ([]:(List Ah))))]:List Ae) Ae.enc ?_
 exact C1
 rintro l_5 G
 unfold Au.j5 at G
 try dsimp only at G
 refine Nl rfl ?_
 refine A6 (ι:=Ab×List Ae) (fun ((d_7,l_7):Ab×List Ae)=>mk [(0,.ptr 0 0),(5,.row 1),(6,.val (.bool (decide (0 < y.1)))),(7,.val (.bool (decide (y_2.1=0)))),(8,.val (.bool (decide (y_3.1=0)))),(9,vk x25_1),(10,.ptr 2 0),(23,.sl 9 (Ak Al.enc e.Endpoints)),(24,.val (.int .i64 (e.Endpoints.length:Int))),(25,vk x25_1)] [(0,.box [.sl 1 (Ak eI d_7.L),vk d_7.At] 68),(1,.row 45 8 (Ak Ae.enc l_7)),(2,.box (Al.dv e_2) 59)] 3) (fun ((d_7,l_7):Ab×List Ae)=>Au.j7 y y_3 x25_1 e_2 d_7 l_7=some o1) ?_ ?_
 refine A6 (ι:=Bool) (fun (x58_6:Bool)=>mk [(0,.ptr 0 0),(5,.row 1),(6,.val (.bool (decide (0 < y.1)))),(7,.val (.bool (decide (y_2.1=0)))),(8,.val (.bool (decide (y_3.1=0)))),(9,vk x25_1),(10,.ptr 2 0),(23,.sl 9 (Ak Al.enc e.Endpoints)),(24,.val (.int .i64 (e.Endpoints.length:Int))),(25,vk x25_1),(58,.val (.bool x58_6))] [(0,.box [.sl 1 (Ak eI d_3.L),vk d_3.At] 68),(1,.row 45 8 (Ak Ae.enc l_5)),(2,.box (Al.dv e_2) 59)] 3) (fun (x58_6:Bool)=>Au.j6 y y_3 x25_1 e_2 d_3 l_5 x58_6=some o1) ?_ ?_
 exact C1
 rintro x58_6 G
 unfold Au.j6 at G
 refine Dl (.r 0 (.e 0)) fun _ B G=>?_
 refine Bn (Dx _ _ [51]) (by kernel_rfl) [0,0,0,4,0,0,0,112,252,0,512,1536,4094,8190,16383,32767] 3 131 Ha rfl rfl (by kernel_rfl) ?_
 refine B7 1 fun _ _ B G=>?_
 refine Qv Es z3 I6 ([2,1]:List Int) eI ?_
 refine B7 2 fun y_7 _ y_8 _ B G=>?_
 refine Kp Ou eG jK ?_
 refine H0 jN jK gQ ([(Ae.mk x25_1 5 0 (e_2.Identities.length:Int) y_8)]:List Ae) Ae.enc ?_
 exact C1
 rintro⟨d_7,l_7⟩ G
 unfold Au.j7 at G
 try dsimp only at G
 refine Nl rfl ?_
 refine A6 (ι:=Ab×List Ae) (fun ((d_9,l_9):Ab×List Ae)=>mk [(0,.ptr 0 0),(5,.row 1),(6,.val (.bool (decide (0 < y.1)))),(7,.val (.bool (decide (y_2.1=0)))),(8,.val (.bool (decide (y_3.1=0)))),(9,vk x25_1),(10,.ptr 2 0),(23,.sl 9 (Ak Al.enc e.Endpoints)),(24,.val (.int .i64 (e.Endpoints.length:Int))),(25,vk x25_1)] [(0,.box [.sl 1 (Ak eI d_9.L),vk d_9.At] 68),(1,.row 45 8 (Ak Ae.enc l_9)),(2,.box (Al.dv e_2) 59)] 3) (fun ((d_9,l_9):Ab×List Ae)=>Au.j9 y_3 x25_1 e_2 d_9 l_9=some o1) ?_ ?_
 refine A6 (ι:=Bool×Ab) (fun ((x84_8,d_8):Bool×Ab)=>mk [(0,.ptr 0 0),(5,.row 1),(6,.val (.bool (decide (0 < y.1)))),(7,.val (.bool (decide (y_2.1=0)))),(8,.val (.bool (decide (y_3.1=0)))),(9,vk x25_1),(10,.ptr 2 0),(23,.sl 9 (Ak Al.enc e.Endpoints)),(24,.val (.int .i64 (e.Endpoints.length:Int))),(25,vk x25_1),(84,.val (.bool x84_8))] [(0,.box [.sl 1 (Ak eI d_8.L),vk d_8.At] 68),(1,.row 45 8 (Ak Ae.enc l_7)),(2,.box (Al.dv e_2) 59)] 3) (fun ((x84_8,d_8):Bool×Ab)=>Au.j8 y_3 x25_1 e_2 l_7 x84_8 d_8=some o1) ?_ ?_
 exact C1
 rintro⟨x84_8,d_8⟩ G
 unfold Au.j8 at G
 refine Dl (.r 0 (.e 1)) fun _ B G=>?_
 refine Kp Ou eG jK ?_
 refine H0 jN jK gQ ([(Ae.mk x25_1 2 2 0 (A4.mk (Av.mk 0 0) 0 ([]:(List Ah))))]:List Ae) Ae.enc ?_
 exact C1
 rintro⟨d_9,l_9⟩ G
 unfold Au.j9 at G
 try dsimp only at G
 refine Nl rfl ?_
 refine A6 (ι:=Bool) (fun (x95_10:Bool)=>mk [(0,.ptr 0 0),(5,.row 1),(6,.val (.bool (decide (0 < y.1)))),(7,.val (.bool (decide (y_2.1=0)))),(8,.val (.bool (decide (y_3.1=0)))),(9,vk x25_1),(23,.sl 9 (Ak Al.enc e.Endpoints)),(24,.val (.int .i64 (e.Endpoints.length:Int))),(25,vk x25_1),(95,.val (.bool x95_10))] [(0,.box [.sl 1 (Ak eI d_9.L),vk d_9.At] 68),(1,.row 45 8 (Ak Ae.enc l_9))] 2) (fun (x95_10:Bool)=>Au.j10 x25_1 d_9 l_9 x95_10=some o1) ?_ ?_
 exact C1
 rintro x95_10 G
 unfold Au.j10 at G
 refine Dl (.r 0 (.e 1)) fun _ B G=>?_
 refine Kp Ou eG jK ?_
 refine B7 0 fun B G=>?_
 refine Kp Ou eG jK ?_
 refine H0 jN jK gQ ([(Ae.mk x25_1 3 4 0 (A4.mk (Av.mk 0 0) 0 ([]:(List Ah)))),(Ae.mk x25_1 1 14 0 (A4.mk (Av.mk 0 0) 0 ([]:(List Ah))))]:List Ae) Ae.enc ?_
 exact C1
 rintro⟨d_11,l_11⟩ G
 unfold Au.j11 at G
 exact F0
 refine B7 3 fun B G=>?_
 refine Gc (fun (l_12:List Ae)=>mk [(0,.ptr 0 0),(5,.row 1)] [(0,.box [.sl 1 (Ak eI d_1.L),vk d_1.At] 68),(1,.row 45 8 (Ak Ae.enc l_12))] 2) G (B9 [(0,0),(1,1)]) ?_
 rintro l_12 m12 o12 G hn12
 unfold Au.l12 at G
 refine Iw 2 fun B G=>?_
 refine Ja rfl G (fun _ G=>?_) fun _ G=>?_
 refine B7 4 fun _ hl_10 B G=>?_
 obtain rfl:=oi_ G
 exact⟨((l_12.take ((W ((l_12.length:Int) - 1):Int).toNat - (0:Int).toNat)),m12),aM2 _,hn12,(P4.trans (b:=mk [(0,.ptr 0 0),(5,.part 1 (((0:Int).toNat) * 8) ((W ((l_12.length:Int) - 1):Int).toNat - (0:Int).toNat))] [(0,.box [.sl 1 (Ak eI d_1.L),vk d_1.At] 68),(1,.row 45 8 (Ak Ae.enc l_12))] 2) (B9 [(0,0),(1,1)]) ((P4.trans (b:=mk [(0,.ptr 0 0),(5,.row 1)] [(0,.box [.sl 1 (Ak eI d_1.L),vk d_1.At] 68),(1,.row 45 8 (Ak Ae.enc (l_12.take ((W ((l_12.length:Int) - 1):Int).toNat - (0:Int).toNat))))] 2) (aG7 5 1 Ae.enc_len (aH4 (Nat.le_add_left _ _) (V9 hl_10)) rfl rfl rfl rfl) (B9 [(0,0),(1,1)]))))⟩
 refine B7 5 fun _ _ B G=>?_
 refine Gc (fun ((k_14,d_14,l_14):Int×Ab×List Ae)=>mk [(0,.ptr 0 0),(5,.row 1),(11,vk k_14)] [(0,.box [.sl 1 (Ak eI d_14.L),vk d_14.At] 68),(1,.row 45 8 (Ak Ae.enc l_14))] 2) G (B9 [(0,0),(1,1)]) ?_
 rintro⟨k_14,d_14,l_14⟩ m14 o14 G hn14
 unfold Au.l14 at G
 try dsimp only at G
 refine Nl rfl ?_
 refine A8 <| A6 (ι:=Bool) (fun (x120_15:Bool)=>mk [(0,.ptr 0 0),(5,.row 1),(11,vk k_14),(120,.val (.bool x120_15))] [(0,.box [.sl 1 (Ak eI d_14.L),vk d_14.At] 68),(1,.row 45 8 (Ak Ae.enc l_14))] 2) (fun (x120_15:Bool)=>Au.j15 k_14 d_14 l_14 x120_15=some o14) ?_ ?_
 exact C1
 rintro x120_15 G
 unfold Au.j15 at G
 refine Dl (.r 0 (.e 5)) fun _ y_12 _ B G=>?_
 refine Bn (Dx _ _ []) (by kernel_rfl) [0,0,0,0,8,0,0,64,224,480,0,0,3072,7168,16355,32739,65535,131071] 50 194 B rfl rfl (by kernel_rfl) ?_
 refine B7 4 fun e_3 _ e_4 he_4 B G=>?_
 refine Su gQ he_4 (x':=e_3) ?_
 refine B7 1 fun _ he_5 B G=>?_
 refine Su gQ he_5 (x':=e_4) ?_
 exact C1
instance wk8:Wk 8:=⟨_,@O9⟩
end Go.Proofs.YtkioneinddihlaaGreat
