import Derived.Test.YtbpchmikjiinpaaGreatT1
import Derived.Test.YtbpchmikjiinpaaGreatEU
import Derived.Test.YtbpchmikjiinpaaGreatA1
import Derived.Test.YtbpchmikjiinpaaGreatA2
set_option linter.unusedVariables false
set_option linter.unusedSimpArgs false
set_option maxRecDepth 100000
set_option maxHeartbeats 40000000
namespace Go.Proofs.YtbpchmikjiinpaaGreat
open Go.RowKit
theorem Uj.F (rec:Ae->Option ((List UInt8))) (hrec:∀ (v:Ae) (r:(List UInt8)),rec v=some r->Fn Tryz.prog 147 0 [.agg (Ae.dv v)] [] (fun d' b'=>d'=.sl 1 (Aj e8 r)/\b'=[])) {v:Ae} {r:(List UInt8)} (G:Du.F rec v=some r):Fn Tryz.prog 147 0 [.agg (Ae.dv v)] [] (fun d' b'=>d'=.sl 1 (Aj e8 r)/\b'=[]):=by
 unfold Du.F at G
 refine Dx 0 34 Tryz.func147 fun _ _ _=>?_
 refine Bt 2 fun B G=>?_
 refine Et rfl rfl (Fw T2 z5 (by decide) rfl rfl rfl rfl yV (cs:=[]) .nil rfl (l:=([]:List UInt8)) (f:=e8) rfl) rfl rfl ?_
 refine Bt 4 fun _ _ B G=>?_
 refine G7 (fun ((i_1,b_1):Int×List UInt8)=>mk [(1,.ptr 0 0),(3,.row 1),(4,vk i_1)] [(0,.box (Ae.dv v) 159),(1,.row 5 1 (Aj e8 b_1))] 2) G (B9 [(0,0),(1,40)]) ?_
 rintro⟨i_1,b_1⟩ m1 o1 G hn1
 unfold Du.l1 at G
 refine I9 2 fun B G=>?_
 refine Jf rfl G (fun _ G=>?_) fun _ G=>?_
 refine Bt 5 fun e he B G=>?_
 refine Et rfl rfl (Ef kW (Kb Ae.enc_len (Dj he) (o:=0) (m:=4) (cs:=[.int .i64 e.Tag,.sl 1 (Aj e8 e.Bytes),.bool e.Nested,.sl 4 (Aj Ae.enc e.Elements)]) (by simp only [Ae.enc_eq]; rfl) (by decide) rfl) (Gd Ae.enc_len (Dj he) (o:=0) (m:=4) (by decide) rfl)) rfl rfl ?_
 obtain⟨y,hy,G⟩:=Ak G
 refine Ni (hrec _ _ hy) ?_
 exact Cf
 refine Bt 1 fun B G=>?_
 refine Au <| Bb (Df _ _ []) (by kernel_rfl) [0,1,3,7,0,16,48,127,0,511,1023] 42 130 B rfl rfl (by kernel_rfl) ?_
 refine Bt 1 fun B G=>?_
 refine Hj T2 z5 yV ([(u8 v.Tag)]:List UInt8) e8 ?_
 exact Cf
theorem Uj {v:Ae} {r:(List UInt8)} (G:Du v=some r):Fn Tryz.prog 147 0 [.agg (Ae.dv v)] [] (fun d' b'=>d'=.sl 1 (Aj e8 r)/\b'=[]):=
 Tu (motive:=fun (x:Ae) (r:(List UInt8))=>Fn Tryz.prog 147 0 [.agg (Ae.dv x)] [] (fun d' b'=>d'=.sl 1 (Aj e8 r)/\b'=[])) (fun rec hrec x r h=>@Uj.F _ (fun v r h=>hrec v r h) x r h) v r G
instance aPf:Wk 147:=⟨_,@Uj⟩
theorem cD {v r} (G:Lq v=some r):Fn Tryz.prog 112 0 [.agg (Ae.dv v)] [] (fun d' b'=>d'=.tup [.sl 1 (Aj e8 r.1),vk r.2]/\b'=[]):=by
 unfold Lq at G
 refine Dx 0 17 Tryz.func112 fun _ _ _=>?_
 exact Cf
instance aPg:Wk 112:=⟨_,@cD⟩
theorem dZ {c r} (G:K0 c=some r):Fn Tryz.prog 82 0 [.agg (Ah.dv c)] [] (fun d' b'=>d'=.tup [.sl 1 (Aj e8 r.1),vk r.2]/\b'=[]):=by
 unfold K0 at G
 refine Dx 0 12 Tryz.func82 fun _ _ _=>?_
 exact Cf
instance aQ6:Wk 82:=⟨_,@dZ⟩
theorem lA {b r} (G:Gh b=some r):Fn Tryz.prog 83 0 [.sl 1 (Aj e8 b)] [] (fun d' b'=>d'=vk r/\b'=[]):=by
 unfold Gh at G
 refine Dx 0 21 Tryz.func83 fun _ _ _=>?_
 refine Bt 5 fun B G=>?_
 refine G7 (fun ((h_1,i_1):Int×Int)=>mk [(0,.sl 1 (Aj e8 b)),(3,.val (.int .u32 h_1)),(4,vk i_1)] [] 0) G (B9 []) ?_
 rintro⟨h_1,i_1⟩ m1 o1 G hn1
 unfold Gh.l1 at G
 exact Hf
instance aPm:Wk 83:=⟨_,@lA⟩
theorem gR {c key r} (G:Fo c key=some r):Fn Tryz.prog 55 0 [.agg (Ah.dv c),vk key] [] (fun d' b'=>d'=.tup [.agg (Ah.dv r.1),vk r.2]/\b'=[]):=by
 unfold Fo at G
 refine Dx 0 35 Tryz.func55 fun _ _ _=>?_
 refine Bt 4 fun y _ B G=>?_
 refine L1 gT aC9 aG7 ?_
 refine Bt 0 fun B G=>?_
 refine Au <| Ba (ι:=Bool) (fun (x22_1:Bool)=>mk [(1,vk key),(2,.ptr 0 0),(4,.ptr 1 0),(22,.val (.bool x22_1))] [(0,.box [vk y.Serial,ws y.Issuer,ws y.Subject,vk y.Key.Alg,vk y.Key.Bits,vk y.KeyId,vk y.Hash.Alg,vk y.Hash.Bits,vk y.From,vk y.To,.val (.bool y.Authority),vk y.Path,.sl 1 (Aj eS y.Names),.val (.int .i64 0),.val (.int .i64 0)] 103),(1,.box [.val (.int .i64 0),.val (.string (⟨#[]⟩:ByteArray)),.val (.string (⟨#[]⟩:ByteArray)),.val (.int .i64 0),.val (.int .i64 0),.val (.int .i64 0),.val (.int .i64 0),.val (.int .i64 0),.val (.int .i64 0),.val (.int .i64 0),.val (.bool false),.val (.int .i64 0),.val (.slice none 0 0),.val (.int .i64 0),.val (.int .i64 0)] 103)] 2) (fun (x22_1:Bool)=>Fo.j1 key y x22_1=some r) ?_ ?_
 exact Cf
 rintro x22_1 G
 unfold Fo.j1 at G
 try dsimp only at G
 refine R3 rfl ?_
 refine Jf rfl G (fun _ G=>?_) fun _ G=>?_
 refine Bt 1 fun B G=>?_
 refine L1 Mi uJ lC ?_
 exact Cf
 refine Bt 5 fun _ _ _ _ B G=>?_
 refine L1 gT aC9 aG7 ?_
 exact Cf
instance aQg:Wk 55:=⟨_,@gR⟩
theorem Y7 {name key id anchor to r} (G:Mt name key id anchor to=some r):Fn Tryz.prog 28 0 [ws name,.agg [vk key.Alg,vk key.Bits],vk id,vk anchor,vk to] [] (fun d' b'=>d'=.agg (Am.dv r)/\b'=[]):=by
 unfold Mt at G
 refine Dx 0 32 Tryz.func28 fun _ _ _=>?_
 refine Bt 2 fun B G=>?_
 refine L1 Hh Lt S8 ?_
 refine Bt 0 fun B G=>?_
 refine Hj Px z9 rL ([name]:List ByteArray) eS ?_
 refine L1 Mi uJ lC ?_
 refine Bt 0 fun B G=>?_
 refine Au <| Ew (σ':=mk [(2,vk id),(3,vk anchor),(6,.ptr 0 0),(10,.ptr 1 0),(11,.ptr 2 0)] [(0,.box [vk key.Alg,vk key.Bits] 24),(1,.box [.val (.int .i64 0),.val (.int .i64 0),.val (.int .i64 0),.val (.slice none 0 0)] 67),(2,.box [vk id,.val (.string (⟨#[114,111,111,116]⟩:ByteArray)),ws name,vk key.Alg,vk key.Bits,vk id,.val (.int .i64 3),.val (.int .i64 0),.val (.int .i64 0),vk to,.val (.bool false),.val (.int .i64 0),.sl 1 (Aj eS ([name]:List ByteArray)),.val (.int .i64 0),.val (.int .i64 0)] 103)] 3) (B9 [(0,0),(1,8),(2,88)]) ?_
 refine Bt 3 fun y _ B G=>?_
 refine Hj yK lC pH ([y.1]:List Ah) Ah.enc ?_
 refine L1 Zk vV sV ?_
 exact Cf
instance aRx:Wk 28:=⟨_,@Y7⟩
theorem Sc {d l r} (G:Ff d l=some r):Fn Tryz.prog 31 1 [.ptr 0 0,.sl 1 (Aj eS l)] [.box [.sl 1 (Aj eI d.L),vk d.At] 61] (fun d' b'=>d'=ws r.1/\b'=[.box [.sl 1 (Aj eI r.2.L),vk r.2.At] 61]):=by
 unfold Ff at G
 refine Dx 1 12 Tryz.func31 fun _ _ _=>?_
 exact Cf
instance aRc:Wk 31:=⟨_,@Sc⟩
theorem Zi {d name r} (G:Hn d name=some r):Fn Tryz.prog 30 1 [.ptr 0 0,ws name] [.box [.sl 1 (Aj eI d.L),vk d.At] 61] (fun d' b'=>d'=.agg (Bf.dv r.1)/\b'=[.box [.sl 1 (Aj eI r.2.L),vk r.2.At] 61]):=by
 unfold Hn at G
 refine Dx 1 62 Tryz.func30 fun _ _ _=>?_
 refine Bt 4 fun y _ y_2 _ B G=>?_
 refine L1 gE aMv z74 ?_
 refine Bt 6 fun _ _ _ _ B G=>?_
 refine G7 (fun ((day_1,i_1,d_1,l_1):Int×Int×Ab×List Dh)=>mk [(0,.ptr 0 0),(4,.ptr 1 0),(5,.ptr 2 0),(6,vk day_1),(7,vk i_1)] [(0,.box [.sl 1 (Aj eI d_1.L),vk d_1.At] 61),(1,.box [.val (.string (⟨#[]⟩:ByteArray)),.val (.int .i64 0),.val (.int .i64 0),.val (.slice none 0 0),.val (.int .i64 0)] 74),(2,.box [ws name,.val (.int .i64 (W (1 + y.1))),.val (.int .i64 (W (1 + y_2.1))),.row 3,.val (.int .i64 0)] 74),(3,.row 108 3 (Aj Dh.enc l_1))] 4) G (B9 [(0,0),(1,1),(2,73)]) ?_
 rintro⟨day_1,i_1,d_1,l_1⟩ m1 o1 G hn1
 unfold Hn.l1 at G
 refine I9 2 fun B G=>?_
 refine Jf rfl G (fun _ G=>?_) fun _ G=>?_
 refine Bt 4 fun B G=>?_
 refine L1 Hh Lt S8 ?_
 refine L1 Hh Lt S8 ?_
 refine L1 Hh Lt S8 ?_
 refine L1 Hh Lt S8 ?_
 refine L1 Hh Lt S8 ?_
 refine L1 Hh Lt S8 ?_
 refine Hj wN S8 aIo ([(Aq.mk 2 0),(Aq.mk 1 0),(Aq.mk 5 2048),(Aq.mk 16 128),(Aq.mk 3 0),(Aq.mk 15 168)]:List Aq) Aq.enc ?_
 refine Bt 4 fun _ _ e _ B G=>?_
 refine L1 oF aJd aG0 ?_
 refine Hj aJp aG0 aJa ([(Dh.mk e day_1)]:List Dh) Dh.enc ?_
 refine Bt 1 fun l _ B G=>?_
 refine B5 (Df _ _ [220]) 196 252 B rfl rfl ?_
 refine Bt 0 fun B G=>?_
 refine Ra Eb z3 I7 ([5,30,0,100]:List Int) eI ?_
 exact Cf
 refine Bt 1 fun B G=>?_
 refine Au <| Bb (Df _ _ [68]) (by kernel_rfl) [0,1,3,7,15,0,0,96,255,511,1023] 20 108 B rfl rfl (by kernel_rfl) ?_
 refine Bt 2 fun _ _ B G=>?_
 refine Ra Eb z3 I7 ([50,300,0,3000]:List Int) eI ?_
 exact Cf
instance aRa:Wk 30:=⟨_,@Zi⟩
theorem jR {d r} (G:Bk d=some r):Fn Tryz.prog 7 1 [.ptr 0 0] [.box [.sl 1 (Aj eI d.L),vk d.At] 61] (fun d' b'=>d'=.agg (Ap.dv r.1)/\b'=[.box [.sl 1 (Aj eI r.2.L),vk r.2.At] 61]):=by
 unfold Bk at G
 refine Dx 1 122 Tryz.func7 fun _ _ _=>?_
 refine Rk 1 9 Ji fun B=>?_
 refine Rk 9 17 B fun B=>?_
 refine Ol 17 65 B ?_
 refine Hj Px z9 rL ([(⟨#[97,112,112]⟩:ByteArray),(⟨#[100,98]⟩:ByteArray),(⟨#[119,101,98]⟩:ByteArray)]:List ByteArray) eS ?_
 refine Me ?_
 obtain⟨y,hy,G⟩:=Ak G
 refine P5 [0] [0] [] false (Kc hy) ?_
 refine Me ?_
 obtain⟨l,hl,G⟩:=Ak G
 refine Mz (rd:=[17]) rfl rfl (fU Px iY hl) rfl rfl ?_
 refine Mf fun B=>?_
 refine Au <| Ol 65 89 B ?_
 refine Me ?_
 refine Et rfl rfl (.len Px.elem .part) rfl rfl ?_
 refine Mf fun B=>?_
 refine Fg <| G7 (fun ((x18_1,d_1,l_1):Int×Ab×List Ad)=>mk [(0,.ptr 0 0),(2,.ptr 1 0),(3,.ptr 2 0),(4,.part 3 (((0:Int).toNat) * 1) ((W (2 + y.1):Int).toNat - (0:Int).toNat)),(16,.part 3 (((0:Int).toNat) * 1) ((W (2 + y.1):Int).toNat - (0:Int).toNat)),(17,.val (.int .i64 ((((W (2 + y.1):Int).toNat - (0:Int).toNat):Nat):Int))),(18,vk x18_1)] [(0,.box [.sl 1 (Aj eI d_1.L),vk d_1.At] 61),(1,.box [.val (.slice none 0 0),.val (.slice none 0 0),.val (.slice none 0 0)] 36),(2,.box [.row 4,.val (.slice none 0 0),.val (.slice none 0 0)] 36),(3,.row 9 1 (Aj eS ([(⟨#[97,112,112]⟩:ByteArray),(⟨#[100,98]⟩:ByteArray),(⟨#[119,101,98]⟩:ByteArray)]:List ByteArray))),(4,.row 43 9 (Aj Ad.enc l_1))] 5) G (B9 [(0,0),(1,1),(2,9),(3,17)]) ?_
 rintro⟨x18_1,d_1,l_1⟩ m1 o1 G hn1
 unfold Bk.l1 at G
 try dsimp only at G
 refine R3 rfl ?_
 refine Rk 5 13 Ji fun B=>?_
 refine Au <| Jf rfl G (fun h6 G=>?_) fun h6 G=>?_
 refine Vc ?_
 refine Au <| Fg <| Ol 13 53 B ?_
 refine Me ?_
 obtain⟨e,he,G⟩:=Ak G
 refine Mz (rd:=[3]) rfl rfl (cS Px (N4 he) (Dj he)) rfl rfl ?_
 refine Mz (rd:=[3]) rfl rfl (.loadR1 ty9 (Ng iY (Q2 (a:=(0:Int).toNat) (Dj he)) (o:=0) (c:=.str e) rfl rfl)) rfl rfl ?_
 refine Mf fun B=>?_
 refine Au <| Bb (Df _ _ [69,85,93,101]) (by kernel_rfl) [0,0,0,6,0,0,0,112,0,270,1022,2046,0,4878,0,0,0,78606,262143,0,1048575] 53 221 B rfl rfl (by kernel_rfl) ?_
 refine Me ?_
 refine Ra Eb z3 I7 ([3,3,4]:List Int) eI ?_
 obtain⟨y_2,hy_2,G⟩:=Ak G
 refine P5 [0] [0] [] false (Un hy_2) ?_
 refine Ra Eb z3 I7 ([10,8,2]:List Int) eI ?_
 refine Ra Eb z3 I7 ([8,2]:List Int) eI ?_
 refine Ra Eb z3 I7 ([2,10,8,3]:List Int) eI ?_
 refine Hj zU z22 aEl ([([10,8,2]:List Int),([8,2]:List Int),([2,10,8,3]:List Int)]:List (List Int)) (eL 1 eI) ?_
 refine Me ?_
 obtain⟨y_3,hy_3,G⟩:=Ak G
 refine P5 [0] [0] [] false (Kc hy_3) ?_
 obtain⟨e_2,he_2,G⟩:=Ak G
 refine Me ?_
 refine Mz (rd:=[109]) rfl rfl (.loadR1 aCc (Ng (iV _ _) (Dj he_2) (o:=0) (c:=.sl 1 (Aj eI e_2)) rfl rfl)) rfl rfl ?_
 refine Me ?_
 obtain⟨y_4,hy_4,G⟩:=Ak G
 refine P5 [0] [0] [] false (On hy_4) ?_
 refine Hj Eb z3 I7 ([1]:List Int) eI ?_
 refine Hj Eb z3 I7 ([2,3]:List Int) eI ?_
 refine Me ?_
 obtain⟨y_5,hy_5,G⟩:=Ak G
 refine P5 [0] [0] [] false (On hy_5) ?_
 refine L1 Vr aGa z43 ?_
 refine Mf fun B=>?_
 refine Ba (ι:=List Int) (fun (x_2:List Int)=>mk [(0,.ptr 0 0),(2,.ptr 1 0),(3,.ptr 2 0),(4,.part 3 (((0:Int).toNat) * 1) ((W (2 + y.1):Int).toNat - (0:Int).toNat)),(5,vk x18_1),(6,ws e),(7,.ptr 4 0),(16,.part 3 (((0:Int).toNat) * 1) ((W (2 + y.1):Int).toNat - (0:Int).toNat)),(17,.val (.int .i64 ((((W (2 + y.1):Int).toNat - (0:Int).toNat):Nat):Int))),(18,vk x18_1)] [(0,.box [.sl 1 (Aj eI y_5.2.L),vk y_5.2.At] 61),(1,.box [.val (.slice none 0 0),.val (.slice none 0 0),.val (.slice none 0 0)] 36),(2,.box [.row 5,.val (.slice none 0 0),.val (.slice none 0 0)] 36),(3,.row 9 1 (Aj eS ([(⟨#[97,112,112]⟩:ByteArray),(⟨#[100,98]⟩:ByteArray),(⟨#[119,101,98]⟩:ByteArray)]:List ByteArray))),(4,.box [ws e,.val (.int .i64 1),vk y_2.1,.sl 1 (Aj eI x_2),.val (.bool y_4.1),.val (.slice none 0 0),.row 6,.row 7,.val (.bool y_5.1)] 43),(5,.row 43 9 (Aj Ad.enc l_1)),(6,.row 3 1 (Aj eI ([1]:List Int))),(7,.row 3 1 (Aj eI ([2,3]:List Int)))] 8) (fun (x_2:List Int)=>Bk.j2 x18_1 l_1 e y_2 y_4 y_5 x_2=some o1) ?_ ?_
 refine Rk 221 245 B fun B=>?_
 refine Jf rfl G (fun h10 G=>?_) fun h10 G=>?_
 refine B5 (Df _ _ []) 245 293 B rfl rfl ?_
 refine Hj Eb z3 I7 ([14]:List Int) eI ?_
 refine Me ?_
 obtain⟨l_2,hl_2,G⟩:=Ak G
 refine Mz (rd:=[245]) rfl rfl (Lc Eb Rf .row rfl .sl rfl hl_2 rfl) rfl rfl ?_
 refine Mf fun B=>?_
 exact⟨l_2,G,B9 [(0,0),(1,1),(2,2),(3,3),(4,205),(5,4),(6,165),(7,173)]⟩
 refine Vc ?_
 exact⟨e_2,G,B9 [(0,0),(1,1),(2,2),(3,3),(4,205),(5,4),(6,165),(7,173)]⟩
 rintro x_2 G
 unfold Bk.j2 at G
 try dsimp only at G
 refine R3 rfl ?_
 refine Ol 8 72 Ji ?_
 refine Me ?_
 obtain⟨y_6,hy_6,G⟩:=Ak G
 refine Ni (cF hy_6) ?_
 refine Me ?_
 obtain⟨y_7,hy_7,G⟩:=Ak G
 refine Ni (Y7 hy_7) ?_
 refine Hj kR sV nI ([y_7]:List Am) Am.enc ?_
 refine Mf fun B=>?_
 refine Ew (σ':=mk [(0,.ptr 0 0),(2,.ptr 1 0),(3,.ptr 2 0),(4,.part 3 (((0:Int).toNat) * 1) ((W (2 + y.1):Int).toNat - (0:Int).toNat)),(7,.ptr 4 0),(16,.part 3 (((0:Int).toNat) * 1) ((W (2 + y.1):Int).toNat - (0:Int).toNat)),(17,.val (.int .i64 ((((W (2 + y.1):Int).toNat - (0:Int).toNat):Nat):Int))),(18,vk x18_1)] [(0,.box [.sl 1 (Aj eI y_5.2.L),vk y_5.2.At] 61),(1,.box [.val (.slice none 0 0),.val (.slice none 0 0),.val (.slice none 0 0)] 36),(2,.box [.row 5,.val (.slice none 0 0),.val (.slice none 0 0)] 36),(3,.row 9 1 (Aj eS ([(⟨#[97,112,112]⟩:ByteArray),(⟨#[100,98]⟩:ByteArray),(⟨#[119,101,98]⟩:ByteArray)]:List ByteArray))),(4,.box [ws e,.val (.int .i64 1),vk y_2.1,.sl 1 (Aj eI x_2),.val (.bool y_4.1),.sl 4 (Aj Am.enc ([y_7]:List Am)),.row 6,.row 7,.val (.bool y_5.1)] 43),(5,.row 43 9 (Aj Ad.enc l_1)),(6,.row 3 1 (Aj eI ([1]:List Int))),(7,.row 3 1 (Aj eI ([2,3]:List Int)))] 8) (B9 [(0,0),(1,1),(2,2),(3,3),(4,4),(5,5),(6,6),(7,7)]) ?_
 refine Ew (σ':=mk [(0,.ptr 0 0),(2,.ptr 1 0),(3,.ptr 2 0),(4,.part 3 (((0:Int).toNat) * 1) ((W (2 + y.1):Int).toNat - (0:Int).toNat)),(7,.ptr 4 0),(16,.part 3 (((0:Int).toNat) * 1) ((W (2 + y.1):Int).toNat - (0:Int).toNat)),(17,.val (.int .i64 ((((W (2 + y.1):Int).toNat - (0:Int).toNat):Nat):Int))),(18,vk x18_1)] [(0,.box [.sl 1 (Aj eI y_5.2.L),vk y_5.2.At] 61),(1,.box [.val (.slice none 0 0),.val (.slice none 0 0),.val (.slice none 0 0)] 36),(2,.box [.row 5,.val (.slice none 0 0),.val (.slice none 0 0)] 36),(3,.row 9 1 (Aj eS ([(⟨#[97,112,112]⟩:ByteArray),(⟨#[100,98]⟩:ByteArray),(⟨#[119,101,98]⟩:ByteArray)]:List ByteArray))),(4,.box [ws e,.val (.int .i64 1),vk y_2.1,.sl 1 (Aj eI x_2),.val (.bool y_4.1),.sl 4 (Aj Am.enc ([y_7]:List Am)),.sl 1 (Aj eI ([1]:List Int)),.row 6,.val (.bool y_5.1)] 43),(5,.row 43 9 (Aj Ad.enc l_1)),(6,.row 3 1 (Aj eI ([2,3]:List Int)))] 7) (B9 [(0,0),(1,1),(2,2),(3,3),(4,4),(5,5),(6,7)]) ?_
 refine Ew (σ':=mk [(0,.ptr 0 0),(2,.ptr 1 0),(3,.ptr 2 0),(4,.part 3 (((0:Int).toNat) * 1) ((W (2 + y.1):Int).toNat - (0:Int).toNat)),(7,.ptr 4 0),(16,.part 3 (((0:Int).toNat) * 1) ((W (2 + y.1):Int).toNat - (0:Int).toNat)),(17,.val (.int .i64 ((((W (2 + y.1):Int).toNat - (0:Int).toNat):Nat):Int))),(18,vk x18_1)] [(0,.box [.sl 1 (Aj eI y_5.2.L),vk y_5.2.At] 61),(1,.box [.val (.slice none 0 0),.val (.slice none 0 0),.val (.slice none 0 0)] 36),(2,.box [.row 5,.val (.slice none 0 0),.val (.slice none 0 0)] 36),(3,.row 9 1 (Aj eS ([(⟨#[97,112,112]⟩:ByteArray),(⟨#[100,98]⟩:ByteArray),(⟨#[119,101,98]⟩:ByteArray)]:List ByteArray))),(4,.box [ws e,.val (.int .i64 1),vk y_2.1,.sl 1 (Aj eI x_2),.val (.bool y_4.1),.sl 4 (Aj Am.enc ([y_7]:List Am)),.sl 1 (Aj eI ([1]:List Int)),.sl 1 (Aj eI ([2,3]:List Int)),.val (.bool y_5.1)] 43),(5,.row 43 9 (Aj Ad.enc l_1))] 6) (B9 [(0,0),(1,1),(2,2),(3,3),(4,4),(5,5)]) ?_
 refine B5 (Df _ _ []) 6 62 Ji rfl rfl ?_
 refine Me ?_
 refine Hj uS z43 aB9 ([(Ad.mk e 1 y_2.1 x_2 y_4.1 ([y_7]:List Am) ([1]:List Int) ([2,3]:List Int) y_5.1)]:List Ad) Ad.enc ?_
 obtain⟨l_3,hl_3,G⟩:=Ak G
 refine Mz (rd:=[5,30]) rfl rfl (Lc uS Ad.enc_len .row rfl .row rfl hl_3 rfl) rfl rfl ?_
 refine Mf fun B=>?_
 refine B5 (Df _ _ []) 62 78 B rfl rfl ?_
 refine Mf fun B=>?_
 obtain rfl:=oi_ G
 exact⟨((W (x18_1 + 1),y_5.2,l_3),m1),aOx _,hn1,B9 [(0,0),(1,1),(2,2),(3,3),(4,38)]⟩
 refine ex_ ?_
 replace G:=mL G hn1
 refine Au <| Ol 13 37 B ?_
 refine Me ?_
 refine Et rfl rfl (.len Px.elem .part) rfl rfl ?_
 refine Mf fun B=>?_
 refine Fg <| G7 (fun ((x66_6,d_6,l_6):Int×Ab×List A3)=>mk [(0,.ptr 0 0),(2,.ptr 1 0),(3,.ptr 2 0),(4,.part 3 (((0:Int).toNat) * 1) ((W (2 + y.1):Int).toNat - (0:Int).toNat)),(65,.val (.int .i64 ((((W (2 + y.1):Int).toNat - (0:Int).toNat):Nat):Int))),(66,vk x66_6)] [(0,.box [.sl 1 (Aj eI d_6.L),vk d_6.At] 61),(1,.box [.val (.slice none 0 0),.val (.slice none 0 0),.val (.slice none 0 0)] 36),(2,.box [.row 4,.row 5,.val (.slice none 0 0)] 36),(3,.row 9 1 (Aj eS ([(⟨#[97,112,112]⟩:ByteArray),(⟨#[100,98]⟩:ByteArray),(⟨#[119,101,98]⟩:ByteArray)]:List ByteArray))),(4,.row 43 9 (Aj Ad.enc l_1)),(5,.row 71 2 (Aj A3.enc l_6))] 6) G (B9 [(0,0),(1,1),(2,2),(3,3),(4,4)]) ?_
 rintro⟨x66_6,d_6,l_6⟩ m6 o6 G hn6
 unfold Bk.l6 at G
 try dsimp only at G
 refine R3 rfl ?_
 refine Rk 6 14 Ji fun B=>?_
 refine Au <| Jf rfl G (fun h17 G=>?_) fun h17 G=>?_
 refine Vc ?_
 refine Au <| Fg <| Rk 14 30 B fun B=>?_
 refine Ol 30 54 B ?_
 refine Me ?_
 refine Et rfl rfl (.len Px.elem .part) rfl rfl ?_
 refine Mf fun B=>?_
 refine Fg <| G7 (fun ((x71_7,d_7,l_7):Int×Ab×List A3)=>mk [(0,.ptr 0 0),(2,.ptr 1 0),(3,.ptr 2 0),(4,.part 3 (((0:Int).toNat) * 1) ((W (2 + y.1):Int).toNat - (0:Int).toNat)),(8,vk x66_6),(65,.val (.int .i64 ((((W (2 + y.1):Int).toNat - (0:Int).toNat):Nat):Int))),(66,vk x66_6),(70,.val (.int .i64 ((((W (2 + y.1):Int).toNat - (0:Int).toNat):Nat):Int))),(71,vk x71_7)] [(0,.box [.sl 1 (Aj eI d_7.L),vk d_7.At] 61),(1,.box [.val (.slice none 0 0),.val (.slice none 0 0),.val (.slice none 0 0)] 36),(2,.box [.row 4,.row 5,.val (.slice none 0 0)] 36),(3,.row 9 1 (Aj eS ([(⟨#[97,112,112]⟩:ByteArray),(⟨#[100,98]⟩:ByteArray),(⟨#[119,101,98]⟩:ByteArray)]:List ByteArray))),(4,.row 43 9 (Aj Ad.enc l_1)),(5,.row 71 2 (Aj A3.enc l_7))] 6) G (B9 [(0,0),(1,1),(2,2),(3,3),(4,4),(5,5)]) ?_
 rintro⟨x71_7,d_7,l_7⟩ m7 o7 G hn7
 unfold Bk.l7 at G
 try dsimp only at G
 refine R3 rfl ?_
 refine Rk 6 14 Ji fun B=>?_
 refine Au <| Jf rfl G (fun h21 G=>?_) fun h21 G=>?_
 refine Vc ?_
 refine Ba (ι:=Ab×List A3) (fun ((d_9,l_9):Ab×List A3)=>mk [(0,.ptr 0 0),(2,.ptr 1 0),(3,.ptr 2 0),(4,.part 3 (((0:Int).toNat) * 1) ((W (2 + y.1):Int).toNat - (0:Int).toNat)),(8,vk x66_6),(65,.val (.int .i64 ((((W (2 + y.1):Int).toNat - (0:Int).toNat):Nat):Int))),(66,vk x66_6),(70,.val (.int .i64 ((((W (2 + y.1):Int).toNat - (0:Int).toNat):Nat):Int))),(71,vk x71_7)] [(0,.box [.sl 1 (Aj eI d_9.L),vk d_9.At] 61),(1,.box [.val (.slice none 0 0),.val (.slice none 0 0),.val (.slice none 0 0)] 36),(2,.box [.row 4,.row 5,.val (.slice none 0 0)] 36),(3,.row 9 1 (Aj eS ([(⟨#[97,112,112]⟩:ByteArray),(⟨#[100,98]⟩:ByteArray),(⟨#[119,101,98]⟩:ByteArray)]:List ByteArray))),(4,.row 43 9 (Aj Ad.enc l_1)),(5,.row 71 2 (Aj A3.enc l_9))] 6) (fun ((d_9,l_9):Ab×List A3)=>Bk.j9 x71_7 d_9 l_9=some o7) ?_ ?_
 refine Fg <| Rk 14 30 B fun B=>?_
 refine Ba (ι:=Bool×Ab) (fun ((x87_8,d_8):Bool×Ab)=>mk [(0,.ptr 0 0),(2,.ptr 1 0),(3,.ptr 2 0),(4,.part 3 (((0:Int).toNat) * 1) ((W (2 + y.1):Int).toNat - (0:Int).toNat)),(8,vk x66_6),(9,vk x71_7),(65,.val (.int .i64 ((((W (2 + y.1):Int).toNat - (0:Int).toNat):Nat):Int))),(66,vk x66_6),(70,.val (.int .i64 ((((W (2 + y.1):Int).toNat - (0:Int).toNat):Nat):Int))),(71,vk x71_7),(87,.val (.bool x87_8))] [(0,.box [.sl 1 (Aj eI d_8.L),vk d_8.At] 61),(1,.box [.val (.slice none 0 0),.val (.slice none 0 0),.val (.slice none 0 0)] 36),(2,.box [.row 4,.row 5,.val (.slice none 0 0)] 36),(3,.row 9 1 (Aj eS ([(⟨#[97,112,112]⟩:ByteArray),(⟨#[100,98]⟩:ByteArray),(⟨#[119,101,98]⟩:ByteArray)]:List ByteArray))),(4,.row 43 9 (Aj Ad.enc l_1)),(5,.row 71 2 (Aj A3.enc l_7))] 6) (fun ((x87_8,d_8):Bool×Ab)=>Bk.j8 x66_6 x71_7 l_7 x87_8 d_8=some o7) ?_ ?_
 refine B5 (Df _ _ []) 30 142 B rfl rfl ?_
 refine Me ?_
 rcases bc_ G with ⟨h23,G⟩ | ⟨h23,G⟩
 refine Me ?_
 obtain⟨y_8,hy_8,G⟩:=Ak G
 refine P5 [0] [0] [] false (Kc hy_8) ?_
 refine Me ?_
 rcases bc_ G with ⟨h24,G⟩ | ⟨h24,G⟩
 refine Mf fun B=>?_
 exact⟨(decide ((l_7.length:Int) < 3),y_8.2),G,B9 [(0,0),(1,1),(2,2),(3,3),(4,4),(5,5)]⟩
 refine Mf fun B=>?_
 exact⟨(false,y_8.2),G,B9 [(0,0),(1,1),(2,2),(3,3),(4,4),(5,5)]⟩
 refine Mf fun B=>?_
 exact⟨(false,d_7),G,B9 [(0,0),(1,1),(2,2),(3,3),(4,4),(5,5)]⟩
 rintro⟨x87_8,d_8⟩ G
 unfold Bk.j8 at G
 try dsimp only at G
 refine R3 rfl ?_
 refine Jf rfl G (fun h28 G=>?_) fun h28 G=>?_
 refine B5 (Df _ _ []) 6 78 Ji rfl rfl ?_
 refine Me ?_
 refine L1 mP aD7 z71 ?_
 refine Hj xX z71 aGu ([(A3.mk x66_6 x71_7)]:List A3) A3.enc ?_
 obtain⟨l_4,hl_4,G⟩:=Ak G
 refine Mz (rd:=[5,46]) rfl rfl (Lc xX A3.enc_len .row rfl .row rfl hl_4 rfl) rfl rfl ?_
 refine Mf fun B=>?_
 exact⟨(d_8,l_4),G,B9 [(0,0),(1,1),(2,2),(3,3),(4,4),(5,54)]⟩
 refine Vc ?_
 exact⟨(d_8,l_7),G,B9 [(0,0),(1,1),(2,2),(3,3),(4,4),(5,5)]⟩
 rintro⟨d_9,l_9⟩ G
 unfold Bk.j9 at G
 try dsimp only at G
 refine R3 rfl ?_
 refine B5 (Df _ _ []) 6 22 Ji rfl rfl ?_
 refine Mf fun B=>?_
 obtain rfl:=oi_ G
 exact⟨((W (x71_7 + 1),d_9,l_9),m7),aOx _,hn7,B9 [(0,0),(1,1),(2,2),(3,3),(4,4),(5,5)]⟩
 refine ex_ ?_
 replace G:=mL G hn7
 refine B5 (Df _ _ []) 14 30 B rfl rfl ?_
 refine Mf fun B=>?_
 obtain rfl:=oi_ G
 exact⟨((W (x66_6 + 1),d_7,l_7),m6),aOx _,hn6,B9 [(0,0),(1,1),(2,2),(3,3),(4,4),(5,5)]⟩
 refine ex_ ?_
 replace G:=mL G hn6
 refine Ba (ι:=List A3) (fun (l_10:List A3)=>mk [(0,.ptr 0 0),(2,.ptr 1 0),(3,.ptr 2 0)] [(0,.box [.sl 1 (Aj eI d_6.L),vk d_6.At] 61),(1,.box [.val (.slice none 0 0),.val (.slice none 0 0),.val (.slice none 0 0)] 36),(2,.box [.row 3,.row 4,.val (.slice none 0 0)] 36),(3,.row 43 9 (Aj Ad.enc l_1)),(4,.row 71 2 (Aj A3.enc l_10))] 5) (fun (l_10:List A3)=>Bk.j10 l_1 d_6 l_10=some r) ?_ ?_
 refine Rk 14 46 B fun B=>?_
 refine Jf rfl G (fun h33 G=>?_) fun h33 G=>?_
 refine B5 (Df _ _ []) 46 78 B rfl rfl ?_
 refine L1 mP aD7 z71 ?_
 refine Hj xX z71 aGu ([(A3.mk 0 1)]:List A3) A3.enc ?_
 refine Mf fun B=>?_
 exact⟨([(A3.mk 0 1)]:List A3),G,B9 [(0,0),(1,1),(2,2),(3,4),(4,54)]⟩
 refine Vc ?_
 exact⟨l_6,G,B9 [(0,0),(1,1),(2,2),(3,4),(4,5)]⟩
 rintro l_10 G
 unfold Bk.j10 at G
 try dsimp only at G
 refine R3 rfl ?_
 refine Au <| Ol 5 29 Ji ?_
 refine Me ?_
 obtain⟨y_9,hy_9,G⟩:=Ak G
 refine P5 [0] [0] [] false (Kc hy_9) ?_
 refine Mf fun B=>?_
 refine Fg <| G7 (fun ((i_11,d_11,l_11):Int×Ab×List Bf)=>mk [(0,.ptr 0 0),(2,.ptr 1 0),(3,.ptr 2 0),(10,vk i_11)] [(0,.box [.sl 1 (Aj eI d_11.L),vk d_11.At] 61),(1,.box [.val (.slice none 0 0),.val (.slice none 0 0),.val (.slice none 0 0)] 36),(2,.box [.row 3,.row 4,.row 5] 36),(3,.row 43 9 (Aj Ad.enc l_1)),(4,.row 71 2 (Aj A3.enc l_10)),(5,.row 74 5 (Aj Bf.enc l_11))] 6) G (B9 [(0,0),(1,1),(2,2),(3,3),(4,4)]) ?_
 rintro⟨i_11,d_11,l_11⟩ m11 o11 G hn11
 unfold Bk.l11 at G
 try dsimp only at G
 refine R3 rfl ?_
 refine Au <| Rk 6 22 Ji fun B=>?_
 refine Jf rfl G (fun h37 G=>?_) fun h37 G=>?_
 refine Vc ?_
 refine Au <| Fg <| Bb (Df _ _ [54]) (by kernel_rfl) [0,1,0,0,0,24,60,124,255,511,1023] 22 110 B rfl rfl (by kernel_rfl) ?_
 refine Me ?_
 refine Ra Px z9 rL ([(⟨#[98,97,99,107,117,112]⟩:ByteArray),(⟨#[100,101,101,100]⟩:ByteArray)]:List ByteArray) eS ?_
 obtain⟨y_10,hy_10,G⟩:=Ak G
 refine P5 [0] [0] [] false (Sc hy_10) ?_
 obtain⟨y_11,hy_11,G⟩:=Ak G
 refine P5 [0] [0] [] false (Zi hy_11) ?_
 refine Hj uZ z74 aEz ([y_11.1]:List Bf) Bf.enc ?_
 obtain⟨l_5,hl_5,G⟩:=Ak G
 refine Mz (rd:=[5,78]) rfl rfl (Lc uZ Bf.enc_len .row rfl .row rfl hl_5 rfl) rfl rfl ?_
 refine Mf fun B=>?_
 refine B5 (Df _ _ []) 110 134 B rfl rfl ?_
 refine Mf fun B=>?_
 obtain rfl:=oi_ G
 exact⟨((W (i_11 - 1),y_11.2,l_5),m11),aOx _,hn11,B9 [(0,0),(1,1),(2,2),(3,3),(4,4),(5,86)]⟩
 refine ex_ ?_
 replace G:=mL G hn11
 refine Rk 22 38 B fun B=>?_
 refine aBa ?_
 obtain rfl:=oi_ G
 exact Tk [(0,0)] ⟨rfl,rfl⟩
instance wk7:Wk 7:=⟨_,@jR⟩
theorem Zd {l n r} (G:Gi l n=some r):Fn Tryz.prog 84 0 [.sl 1 (Aj eI l),vk n] [] (fun d' b'=>d'=.val (.bool r)/\b'=[]):=by
 unfold Gi at G
 refine Dx 0 18 Tryz.func84 fun _ _ _=>?_
 refine Bt 4 fun B G=>?_
 refine G7 (fun (i_1:Int)=>mk [(0,.sl 1 (Aj eI l)),(1,vk n),(5,vk i_1)] [] 0) G (B9 []) ?_
 rintro i_1 m1 o1 G hn1
 unfold Gi.l1 at G
 exact Hf
instance aRv:Wk 84:=⟨_,@Zd⟩
theorem Ds {alg bits r} (G:Dm alg bits=some r):Fn Tryz.prog 153 0 [vk alg,vk bits] [] (fun d' b'=>d'=.agg [vk r.Alg,vk r.Bits]/\b'=[]):=by
 unfold Dm at G
 refine Dx 0 8 Tryz.func153 fun _ _ _=>?_
 refine Bt 2 fun B G=>?_
 refine L1 Hh Lt S8 ?_
 exact Cf
instance aOf:Wk 153:=⟨_,@Ds⟩
theorem Ea {code name exchange sign cipher mac least most r} (G:D0 code name exchange sign cipher mac least most=some r):Fn Tryz.prog 154 0 [vk code,ws name,.agg [vk exchange.Alg,vk exchange.Bits],.agg [vk sign.Alg,vk sign.Bits],.agg [vk cipher.Alg,vk cipher.Bits],.agg [vk mac.Alg,vk mac.Bits],vk least,vk most] [] (fun d' b'=>d'=.agg (A1.dv r)/\b'=[]):=by
 unfold D0 at G
 refine Dx 0 26 Tryz.func154 fun _ _ _=>?_
 refine Bt 2 fun B G=>?_
 refine L1 Jq M1 Qp ?_
 exact Cf
instance aOi:Wk 154:=⟨_,@Ea⟩
theorem bU {r} (G:Ln=some r):Fn Tryz.prog 115 0 [] [] (fun d' b'=>d'=.sl 12 (Aj A1.enc r)/\b'=[]):=by
 unfold Ln at G
 refine Dx 0 110 Tryz.func115 fun _ _ _=>?_
 refine Rk 0 8 Ji fun B=>?_
 refine Ol 8 80 B ?_
 obtain⟨y,hy,G⟩:=Ak G
 refine Ni (Ds hy) ?_
 obtain⟨y_2,hy_2,G⟩:=Ak G
 refine Ni (Ds hy_2) ?_
 refine L1 Hh Lt S8 ?_
 refine Mf fun B=>?_
 refine Ol 80 128 B ?_
 obtain⟨y_3,hy_3,G⟩:=Ak G
 refine Ni (Ds hy_3) ?_
 obtain⟨y_4,hy_4,G⟩:=Ak G
 refine Ni (Ds hy_4) ?_
 refine Mf fun B=>?_
 refine Ol 128 200 B ?_
 obtain⟨y_5,hy_5,G⟩:=Ak G
 refine Ni (Ds hy_5) ?_
 obtain⟨y_6,hy_6,G⟩:=Ak G
 refine Ni (Ds hy_6) ?_
 obtain⟨y_7,hy_7,G⟩:=Ak G
 refine Ni (Ds hy_7) ?_
 refine Mf fun B=>?_
 refine Ol 200 296 B ?_
 obtain⟨y_8,hy_8,G⟩:=Ak G
 refine Ni (Ds hy_8) ?_
 obtain⟨y_9,hy_9,G⟩:=Ak G
 refine Ni (Ds hy_9) ?_
 obtain⟨y_10,hy_10,G⟩:=Ak G
 refine Ni (Ds hy_10) ?_
 obtain⟨y_11,hy_11,G⟩:=Ak G
 refine Ni (Ds hy_11) ?_
 refine Mf fun B=>?_
 refine Ol 296 344 B ?_
 obtain⟨y_12,hy_12,G⟩:=Ak G
 refine Ni (Ds hy_12) ?_
 obtain⟨y_13,hy_13,G⟩:=Ak G
 refine Ni (Ds hy_13) ?_
 refine Mf fun B=>?_
 refine Au <| Bb (Df _ _ []) (by kernel_rfl) [0,0,0,0,15,0,0,0,0,511,0,0,0,0,16383,32767,65535,0,0,524287,1048575,0,0,0,16777215,0,0,0,0,536870911,1073741823,0,0,0,17179869183,0,0,0,0,549755813887,0,1099511627775,3298534883327,0,17592186044415,0,0,0,0,562949953421311,1125899906842623,2251799813685247,0,0,18014398509481983,0,0,0,0,576460752303423487,0,0,0,0,18446744073709551615,0,0,0,0,590295810358705651711,0,0,0,0,18889465931478580854783,37778931862957161709567,0,0,0,604462909807314587353087,1208925819614629174706175,2417851639229258349412351] 344 1000 B rfl rfl (by kernel_rfl) ?_
 refine Me ?_
 obtain⟨y_14,hy_14,G⟩:=Ak G
 refine Ni (Ea hy_14) ?_
 refine Me ?_
 obtain⟨y_15,hy_15,G⟩:=Ak G
 refine Ni (Ea hy_15) ?_
 refine Me ?_
 obtain⟨y_16,hy_16,G⟩:=Ak G
 refine Ni (Ea hy_16) ?_
 obtain⟨y_17,hy_17,G⟩:=Ak G
 refine Ni (Ds hy_17) ?_
 obtain⟨y_18,hy_18,G⟩:=Ak G
 refine Ni (Ds hy_18) ?_
 refine Me ?_
 obtain⟨y_19,hy_19,G⟩:=Ak G
 refine Ni (Ea hy_19) ?_
 obtain⟨y_20,hy_20,G⟩:=Ak G
 refine Ni (Ds hy_20) ?_
 refine Me ?_
 obtain⟨y_21,hy_21,G⟩:=Ak G
 refine Ni (Ea hy_21) ?_
 refine Me ?_
 obtain⟨y_22,hy_22,G⟩:=Ak G
 refine Ni (Ea hy_22) ?_
 obtain⟨y_23,hy_23,G⟩:=Ak G
 refine Ni (Ds hy_23) ?_
 refine Me ?_
 obtain⟨y_24,hy_24,G⟩:=Ak G
 refine Ni (Ea hy_24) ?_
 refine Me ?_
 obtain⟨y_25,hy_25,G⟩:=Ak G
 refine Ni (Ea hy_25) ?_
 refine Me ?_
 obtain⟨y_26,hy_26,G⟩:=Ak G
 refine Ni (Ds hy_26) ?_
 obtain⟨y_27,hy_27,G⟩:=Ak G
 refine Ni (Ds hy_27) ?_
 refine Me ?_
 obtain⟨y_28,hy_28,G⟩:=Ak G
 refine Ni (Ea hy_28) ?_
 refine Me ?_
 obtain⟨y_29,hy_29,G⟩:=Ak G
 refine Ni (Ea hy_29) ?_
 obtain⟨y_30,hy_30,G⟩:=Ak G
 refine Ni (Ds hy_30) ?_
 obtain⟨y_31,hy_31,G⟩:=Ak G
 refine Ni (Ds hy_31) ?_
 refine Me ?_
 obtain⟨y_32,hy_32,G⟩:=Ak G
 refine Ni (Ea hy_32) ?_
 refine Me ?_
 obtain⟨y_33,hy_33,G⟩:=Ak G
 refine Ni (Ea hy_33) ?_
 refine Me ?_
 obtain⟨y_34,hy_34,G⟩:=Ak G
 refine Ni (Ea hy_34) ?_
 refine Me ?_
 obtain⟨y_35,hy_35,G⟩:=Ak G
 refine Ni (Ea hy_35) ?_
 refine Me ?_
 obtain⟨y_36,hy_36,G⟩:=Ak G
 refine Ni (Ea hy_36) ?_
 obtain⟨y_37,hy_37,G⟩:=Ak G
 refine Ni (Ds hy_37) ?_
 refine Me ?_
 obtain⟨y_38,hy_38,G⟩:=Ak G
 refine Ni (Ea hy_38) ?_
 refine Hj wS Qp aCy ([y_14,y_15,y_16,y_19,y_21,y_22,y_24,y_25,y_28,y_29,y_32,y_33,y_34,y_35,y_36,y_38]:List A1) A1.enc ?_
 exact sU
instance aN8:Wk 115:=⟨_,@bU⟩
end Go.Proofs.YtbpchmikjiinpaaGreat
