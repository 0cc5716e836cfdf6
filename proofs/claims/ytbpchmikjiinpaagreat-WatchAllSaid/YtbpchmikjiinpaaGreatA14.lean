import Derived.Test.YtbpchmikjiinpaaGreatT1
import Derived.Test.YtbpchmikjiinpaaGreatEU
import Derived.Test.YtbpchmikjiinpaaGreatA1
import Derived.Test.YtbpchmikjiinpaaGreatA3
import Derived.Test.YtbpchmikjiinpaaGreatA4
import Derived.Test.YtbpchmikjiinpaaGreatA7
import Derived.Test.YtbpchmikjiinpaaGreatA13
set_option linter.unusedVariables false
set_option linter.unusedSimpArgs false
set_option maxRecDepth 100000
set_option maxHeartbeats 40000000
namespace Go.Proofs.YtbpchmikjiinpaaGreat
open Go.RowKit
theorem bT {e at' l r} (G:Dl e at' l=some r):Fn Tryz.prog 20 0 [.agg (Ad.dv e),.agg (Aa.dv at'),.sl 11 (Aj Aa.enc l)] [] (fun d' b'=>d'=.tup [.val (.bool r.1),vk r.2]/\b'=[]):=by
 unfold Dl at G
 refine Dx 0 42 Tryz.func20 fun _ _ _=>?_
 refine Md (.l 5 (.e 4)) fun y _ _ B G=>?_
 refine G7 (fun (x24_1:Int)=>mk [(3,.ptr 0 0),(4,.ptr 1 0),(8,.sl 11 (Aj Aa.enc y.1)),(22,.sl 11 (Aj Aa.enc l)),(23,.val (.int .i64 (l.length:Int))),(24,vk x24_1)] [(0,.box (Ad.dv e) 43),(1,.box (Aa.dv at') 26)] 2) G (B9 [(0,0),(1,8)]) ?_
 rintro x24_1 m1 o1 G hn1
 unfold Dl.l1 at G
 refine D4 (.r 2 (.e 6)) fun _ _ _ B G=>?_
 refine Ba (ι:=Bool) (fun (x37_2:Bool)=>mk [(3,.ptr 0 0),(4,.ptr 1 0),(8,.sl 11 (Aj Aa.enc y.1)),(22,.sl 11 (Aj Aa.enc l)),(23,.val (.int .i64 (l.length:Int))),(24,vk x24_1),(37,.val (.bool x37_2))] [(0,.box (Ad.dv e) 43),(1,.box (Aa.dv at') 26)] 2) (fun (x37_2:Bool)=>Dl.j2 x24_1 x37_2=some o1) ?_ ?_
 exact Cf
 rintro x37_2 G
 unfold Dl.j2 at G
 exact Hf
instance aPw:Wk 20:=⟨_,@bT⟩
theorem S1 {a b r} (G:Fz a b=some r):Fn Tryz.prog 21 0 [.sl 11 (Aj Aa.enc a),.sl 11 (Aj Aa.enc b)] [] (fun d' b'=>d'=.val (.bool r)/\b'=[]):=by
 unfold Fz at G
 refine Dx 0 26 Tryz.func21 fun _ _ _=>?_
 refine Md (.l 3 (.e 4)) fun _ B G=>?_
 refine G7 (fun (x13_1:Int)=>mk [(0,.sl 11 (Aj Aa.enc a)),(1,.sl 11 (Aj Aa.enc b)),(12,.val (.int .i64 (a.length:Int))),(13,vk x13_1)] [] 0) G (B9 []) ?_
 rintro x13_1 m1 o1 G hn1
 unfold Fz.l1 at G
 refine D4 (.r 2 (.e 4)) fun _ B G=>?_
 refine Au <| Bb (Df _ _ []) (by kernel_rfl) [0,0,3,7,0,0,48,112,255] 24 96 B rfl rfl (by kernel_rfl) ?_
 refine Bt 4 fun e _ e_2 _ B G=>?_
 refine Et rfl rfl (aW e e_2) rfl rfl ?_
 exact Cf
instance aQ2:Wk 21:=⟨_,@S1⟩
theorem Tz {a r} (G:Dg a=some r):Fn Tryz.prog 72 0 [.agg (Am.dv a)] [] (fun d' b'=>d'=.agg (Am.dv r)/\b'=[]):=by
 unfold Dg at G
 refine Dx 0 30 Tryz.func72 fun _ _ _=>?_
 refine Bt 2 fun B G=>?_
 refine L1 Zk vV sV ?_
 refine Bt 3 fun B G=>?_
 refine G7 (fun ((x14_1,l_1):Int×List Ah)=>mk [(2,.ptr 0 0),(3,.ptr 1 0),(12,.sl 15 (Aj Ah.enc a.Chain)),(13,.val (.int .i64 (a.Chain.length:Int))),(14,vk x14_1)] [(0,.box [.val (.int .i64 0),.val (.int .i64 0),.val (.int .i64 0),.val (.slice none 0 0)] 67),(1,.box [vk a.Key.Alg,vk a.Key.Bits,vk a.KeyId,.row 2] 67),(2,.row 103 15 (Aj Ah.enc l_1))] 3) G (B9 [(0,8),(1,56)]) ?_
 rintro⟨x14_1,l_1⟩ m1 o1 G hn1
 unfold Dg.l1 at G
 refine D4 (.r 2 (.e 8)) fun _ e _ l _ B G=>?_
 refine Ew (σ':=mk [(2,.ptr 0 0),(3,.ptr 1 0),(5,.ptr 2 0),(12,.sl 15 (Aj Ah.enc a.Chain)),(13,.val (.int .i64 (a.Chain.length:Int))),(14,vk x14_1)] [(0,.box [.val (.int .i64 0),.val (.int .i64 0),.val (.int .i64 0),.val (.slice none 0 0)] 67),(1,.box [vk a.Key.Alg,vk a.Key.Bits,vk a.KeyId,.row 3] 67),(2,.box [vk e.Serial,ws e.Issuer,ws e.Subject,vk e.Key.Alg,vk e.Key.Bits,vk e.KeyId,vk e.Hash.Alg,vk e.Hash.Bits,vk e.From,vk e.To,.val (.bool e.Authority),vk e.Path,.sl 1 (Aj eS l),vk e.Seal.Key,vk e.Seal.Sum] 103),(3,.row 103 15 (Aj Ah.enc l_1))] 4) (B9 [(0,0),(1,1),(2,27),(3,2)]) ?_
 refine Bt 1 fun B G=>?_
 refine Hj yK lC pH ([(Ah.mk e.Serial e.Issuer e.Subject e.Key e.KeyId e.Hash e.From e.To e.Authority e.Path l e.Seal)]:List Ah) Ah.enc ?_
 exact Cf
instance aPl:Wk 72:=⟨_,@Tz⟩
theorem gJ {e r} (G:Gc e=some r):Fn Tryz.prog 48 0 [.agg (Ad.dv e)] [] (fun d' b'=>d'=.agg (Ad.dv r)/\b'=[]):=by
 unfold Gc at G
 refine Dx 0 36 Tryz.func48 fun _ _ _=>?_
 refine Bt 2 fun B G=>?_
 refine Au <| Bb (Df _ _ []) (by kernel_rfl) [0,1,3,0,8,31,0,64,255,7,1023,2047,4095,8191,16383] 40 160 B rfl rfl (by kernel_rfl) ?_
 refine Bt 7 fun l _ l_2 _ l_3 _ B G=>?_
 refine G7 (fun ((x23_1,l_1):Int×List Am)=>mk [(2,.ptr 0 0),(3,.ptr 1 0),(21,.sl 4 (Aj Am.enc e.Identities)),(22,.val (.int .i64 (e.Identities.length:Int))),(23,vk x23_1)] [(0,.box [.val (.string (⟨#[]⟩:ByteArray)),.val (.int .i64 0),.val (.int .i64 0),.val (.slice none 0 0),.val (.bool false),.val (.slice none 0 0),.val (.slice none 0 0),.val (.slice none 0 0),.val (.bool false)] 43),(1,.box [ws e.Name,vk e.Least,vk e.Most,.row 2,.val (.bool e.OwnOrder),.row 3,.row 4,.row 5,.val (.bool e.Fallback)] 43),(2,.row 3 1 (Aj eI l)),(3,.row 67 4 (Aj Am.enc l_1)),(4,.row 3 1 (Aj eI l_2)),(5,.row 3 1 (Aj eI l_3))] 6) G (B9 [(0,8),(1,24),(2,56),(4,80),(5,104)]) ?_
 rintro⟨x23_1,l_1⟩ m1 o1 G hn1
 unfold Gc.l1 at G
 refine D4 (.r 2 (.e 6)) fun _ _ _ B G=>?_
 refine Bb (Df _ _ []) (by kernel_rfl) [0,1,0,4,12,31,63,127] 46 110 B rfl rfl (by kernel_rfl) ?_
 refine Bt 1 fun y _ B G=>?_
 refine Hj kR sV nI ([y]:List Am) Am.enc ?_
 exact Cf
instance aRf:Wk 48:=⟨_,@gJ⟩
theorem Xg {e r} (G:D7 e=some r):Fn Tryz.prog 22 0 [.agg (Ap.dv e)] [] (fun d' b'=>d'=.agg [.row 0,.sl 2 (Aj A3.enc r.Edges),.sl 5 (Aj Bf.enc r.Items)]/\b'=[.row 43 9 (Aj Ad.enc r.Endpoints)]):=by
 unfold D7 at G
 refine Dx 0 46 Tryz.func22 fun _ _ _=>?_
 refine Bt 3 fun l _ B G=>?_
 refine L1 qG aMc z36 ?_
 refine Bt 3 fun B G=>?_
 refine G7 (fun ((x15_1,l_1):Int×List Ad)=>mk [(1,.ptr 0 0),(2,.ptr 1 0),(3,.ptr 2 0),(13,.sl 9 (Aj Ad.enc e.Endpoints)),(14,.val (.int .i64 (e.Endpoints.length:Int))),(15,vk x15_1)] [(0,.box (Ap.dv e) 36),(1,.box [.val (.slice none 0 0),.val (.slice none 0 0),.val (.slice none 0 0)] 36),(2,.box [.row 3,.row 4,.val (.slice none 0 0)] 36),(3,.row 43 9 (Aj Ad.enc l_1)),(4,.row 71 2 (Aj A3.enc l))] 5) G (B9 [(0,0),(1,8),(2,48),(4,32)]) ?_
 rintro⟨x15_1,l_1⟩ m1 o1 G hn1
 unfold D7.l1 at G
 refine I9 2 fun B G=>?_
 refine Jf rfl G (fun _ G=>?_) fun _ G=>?_
 refine Bt 6 fun _ _ B G=>?_
 refine Bb (Df _ _ []) (by kernel_rfl) [0,1,0,4,12,31,63,127] 45 109 B rfl rfl (by kernel_rfl) ?_
 refine Bt 1 fun y _ B G=>?_
 refine Hj uS z43 aB9 ([y]:List Ad) Ad.enc ?_
 exact Cf
 refine Bt 4 fun B G=>?_
 refine G7 (fun ((x30_2,l_2_2):Int×List Bf)=>mk [(2,.ptr 0 0),(3,.ptr 1 0),(28,.sl 5 (Aj Bf.enc e.Items)),(29,.val (.int .i64 (e.Items.length:Int))),(30,vk x30_2)] [(0,.box [.val (.slice none 0 0),.val (.slice none 0 0),.val (.slice none 0 0)] 36),(1,.box [.row 2,.row 3,.row 4] 36),(2,.row 43 9 (Aj Ad.enc l_1)),(3,.row 71 2 (Aj A3.enc l)),(4,.row 74 5 (Aj Bf.enc l_2_2))] 5) G (B9 [(0,1),(1,2),(2,3),(3,4)]) ?_
 rintro⟨x30_2,l_2_2⟩ m2 o2 G hn2
 unfold D7.l2 at G
 refine D4 (.r 2 (.e 8)) fun _ e_3 _ l_3 _ B G=>?_
 refine Ew (σ':=mk [(2,.ptr 0 0),(3,.ptr 1 0),(7,.ptr 2 0),(28,.sl 5 (Aj Bf.enc e.Items)),(29,.val (.int .i64 (e.Items.length:Int))),(30,vk x30_2)] [(0,.box [.val (.slice none 0 0),.val (.slice none 0 0),.val (.slice none 0 0)] 36),(1,.box [.row 3,.row 4,.row 5] 36),(2,.box [ws e_3.Name,vk e_3.Kind,vk e_3.Purpose,.sl 3 (Aj Dh.enc l_3),vk e_3.Until] 74),(3,.row 43 9 (Aj Ad.enc l_1)),(4,.row 71 2 (Aj A3.enc l)),(5,.row 74 5 (Aj Bf.enc l_2_2))] 6) (B9 [(0,0),(1,1),(2,29),(3,2),(4,3),(5,4)]) ?_
 refine Bt 1 fun B G=>?_
 refine Hj uZ z74 aEz ([(Bf.mk e_3.Name e_3.Kind e_3.Purpose l_3 e_3.Until)]:List Bf) Bf.enc ?_
 exact Cf
instance aQn:Wk 22:=⟨_,@Xg⟩
theorem nC {d e r} (G:Fk d e=some r):Fn Tryz.prog 23 1 [.ptr 0 0,.agg (Ad.dv e)] [.box [.sl 1 (Aj eI d.L),vk d.At] 61] (fun d' b'=>d'=.agg (Ad.dv r.1)/\b'=[.box [.sl 1 (Aj eI r.2.L),vk r.2.At] 61]):=by
 unfold Fk at G
 refine Dx 1 75 Tryz.func23 fun _ _ _=>?_
 refine Rk 1 17 Ji fun B=>?_
 refine Ba (ι:=List Int×Int×ByteArray×Int×Int×List Int×List Am×List Int×List Int) (fun ((b_1,b_1_2,e_1,e_1_2,e_1_3,e_1_4,e_1_5,e_1_6,e_1_7):List Int×Int×ByteArray×Int×Int×List Int×List Am×List Int×List Int)=>mk [(3,.ptr 1 0),(4,.ptr 2 0)] [(0,.box [.sl 1 (Aj eI b_1),vk b_1_2] 61),(1,.box [ws e_1,vk e_1_2,vk e_1_3,.sl 1 (Aj eI e_1_4),.val (.bool e.OwnOrder),.sl 4 (Aj Am.enc e_1_5),.sl 1 (Aj eI e_1_6),.sl 1 (Aj eI e_1_7),.val (.bool e.Fallback)] 43),(2,.box [.val (.string (⟨#[]⟩:ByteArray)),.val (.int .i64 0),.val (.int .i64 0),.val (.slice none 0 0),.val (.bool false),.val (.slice none 0 0),.val (.slice none 0 0),.val (.slice none 0 0),.val (.bool false)] 43)] 3) (fun ((b_1,b_1_2,e_1,e_1_2,e_1_3,e_1_4,e_1_5,e_1_6,e_1_7):List Int×Int×ByteArray×Int×Int×List Int×List Am×List Int×List Int)=>Fk.j1 e b_1 b_1_2 e_1 e_1_2 e_1_3 e_1_4 e_1_5 e_1_6 e_1_7=some r) ?_ ?_
 refine Ol 17 33 B ?_
 refine Me ?_
 obtain⟨y,hy,G⟩:=Ak G
 refine P5 [0] [0] [] false (Kc hy) ?_
 refine aBs fun B=>?_
 refine Fg <| Rk 33 49 B fun B=>?_
 refine Jf rfl G (fun h4 G=>?_) fun h4 G=>?_
 refine B5 (Df _ _ [57]) 49 89 B rfl rfl ?_
 refine Me ?_
 refine Ra Px z9 rL ([(⟨#[]⟩:ByteArray),(⟨#[97,32,98]⟩:ByteArray),(⟨#[120]⟩:ByteArray)]:List ByteArray) eS ?_
 obtain⟨y_2,hy_2,G⟩:=Ak G
 refine P5 [0] [0] [] false (Sc hy_2) ?_
 refine Mf fun B=>?_
 exact⟨(y_2.2.L,y_2.2.At,y_2.1,e.Least,e.Most,e.Suites,e.Identities,e.Anchors,e.Hashes),G,B9 [(0,0),(1,1),(2,9)]⟩
 refine Rk 49 65 B fun B=>?_
 refine Jf rfl G (fun h7 G=>?_) fun h7 G=>?_
 refine B5 (Df _ _ [97]) 65 129 B rfl rfl ?_
 refine Me ?_
 refine Ra Eb z3 I7 ([0,5,W (e.Most + 1)]:List Int) eI ?_
 obtain⟨y_3,hy_3,G⟩:=Ak G
 refine P5 [0] [0] [] false (Un hy_3) ?_
 refine Mf fun B=>?_
 exact⟨(y_3.2.L,y_3.2.At,e.Name,y_3.1,e.Most,e.Suites,e.Identities,e.Anchors,e.Hashes),G,B9 [(0,0),(1,1),(2,9)]⟩
 refine Rk 65 81 B fun B=>?_
 refine Jf rfl G (fun h10 G=>?_) fun h10 G=>?_
 refine B5 (Df _ _ [89]) 81 121 B rfl rfl ?_
 refine Me ?_
 refine Ra Eb z3 I7 ([5,0]:List Int) eI ?_
 obtain⟨y_4,hy_4,G⟩:=Ak G
 refine P5 [0] [0] [] false (Un hy_4) ?_
 refine Mf fun B=>?_
 exact⟨(y_4.2.L,y_4.2.At,e.Name,e.Least,y_4.1,e.Suites,e.Identities,e.Anchors,e.Hashes),G,B9 [(0,0),(1,1),(2,9)]⟩
 refine Rk 81 97 B fun B=>?_
 refine Jf rfl G (fun h13 G=>?_) fun h13 G=>?_
 refine B5 (Df _ _ [137]) 97 185 B rfl rfl ?_
 refine Et rfl rfl (Fw Eb z3 (by decide) rfl rfl rfl rfl I7 (cs:=[]) .nil rfl (l:=([]:List Int)) (f:=eI) rfl) rfl rfl ?_
 refine Me ?_
 obtain⟨l,hl,G⟩:=Ak G
 refine Mz (rd:=[97]) rfl rfl (Lc Eb Rf .row rfl .sl rfl hl rfl) rfl rfl ?_
 refine Me ?_
 refine Ra Eb z3 I7 ([17,0,3,3]:List Int) eI ?_
 obtain⟨y_5,hy_5,G⟩:=Ak G
 refine P5 [0] [0] [] false (Un hy_5) ?_
 refine Hj Eb z3 I7 ([y_5.1]:List Int) eI ?_
 obtain⟨l_2,hl_2,G⟩:=Ak G
 refine Mz (rd:=[121,153]) rfl rfl (Lc Eb Rf .row rfl .row rfl hl_2 rfl) rfl rfl ?_
 refine Mf fun B=>?_
 exact⟨(y_5.2.L,y_5.2.At,e.Name,e.Least,e.Most,l_2,e.Identities,e.Anchors,e.Hashes),G,B9 [(0,0),(1,1),(2,9)]⟩
 refine Rk 97 113 B fun B=>?_
 refine Jf rfl G (fun h16 G=>?_) fun h16 G=>?_
 refine B5 (Df _ _ []) 113 137 B rfl rfl ?_
 refine Hj Eb z3 I7 ([2,1]:List Int) eI ?_
 refine Mf fun B=>?_
 exact⟨(y.2.L,y.2.At,e.Name,e.Least,e.Most,e.Suites,e.Identities,([2,1]:List Int),e.Hashes),G,B9 [(0,0),(1,1),(2,9)]⟩
 refine Rk 113 129 B fun B=>?_
 refine Jf rfl G (fun h19 G=>?_) fun h19 G=>?_
 refine B5 (Df _ _ [137]) 129 177 B rfl rfl ?_
 refine Me ?_
 refine Ra Eb z3 I7 ([5,3,0]:List Int) eI ?_
 obtain⟨y_6,hy_6,G⟩:=Ak G
 refine P5 [0] [0] [] false (Un hy_6) ?_
 refine Hj Eb z3 I7 ([y_6.1]:List Int) eI ?_
 refine Mf fun B=>?_
 exact⟨(y_6.2.L,y_6.2.At,e.Name,e.Least,e.Most,e.Suites,e.Identities,e.Anchors,([y_6.1]:List Int)),G,B9 [(0,0),(1,1),(2,9)]⟩
 refine Rk 129 145 B fun B=>?_
 refine Jf rfl G (fun h22 G=>?_) fun h22 G=>?_
 refine B5 (Df _ _ []) 145 225 B rfl rfl ?_
 refine Et rfl rfl (Fw kR sV (by decide) rfl rfl rfl rfl nI (cs:=[]) .nil rfl (l:=([]:List Am)) (f:=Am.enc) rfl) rfl rfl ?_
 refine Me ?_
 obtain⟨l_3,hl_3,G⟩:=Ak G
 refine Mz (rd:=[145]) rfl rfl (Lc kR Am.enc_len .row rfl .sl rfl hl_3 rfl) rfl rfl ?_
 refine L1 Hh Lt S8 ?_
 refine L1 Zk vV sV ?_
 refine Hj kR sV nI ([(Am.mk (Aq.mk 1 0) 0 ([]:(List Ah)))]:List Am) Am.enc ?_
 obtain⟨l_4,hl_4,G⟩:=Ak G
 refine Mz (rd:=[169,193]) rfl rfl (Lc kR Am.enc_len .row rfl .row rfl hl_4 rfl) rfl rfl ?_
 refine Mf fun B=>?_
 exact⟨(y.2.L,y.2.At,e.Name,e.Least,e.Most,e.Suites,l_4,e.Anchors,e.Hashes),G,B9 [(0,0),(1,1),(2,9)]⟩
 refine B5 (Df _ _ []) 145 249 B rfl rfl ?_
 refine Et rfl rfl (Fw kR sV (by decide) rfl rfl rfl rfl nI (cs:=[]) .nil rfl (l:=([]:List Am)) (f:=Am.enc) rfl) rfl rfl ?_
 refine Me ?_
 obtain⟨l_5,hl_5,G⟩:=Ak G
 refine Mz (rd:=[145]) rfl rfl (Lc kR Am.enc_len .row rfl .sl rfl hl_5 rfl) rfl rfl ?_
 refine L1 Hh Lt S8 ?_
 refine Me ?_
 refine L1 Hh Lt S8 ?_
 obtain⟨y_7,hy_7,G⟩:=Ak G
 refine P5 [0] [0] [] false (jC hy_7) ?_
 refine L1 Zk vV sV ?_
 refine Hj kR sV nI ([(Am.mk (Aq.mk 5 2048) 7 y_7.1)]:List Am) Am.enc ?_
 obtain⟨l_6,hl_6,G⟩:=Ak G
 refine Mz (rd:=[169,217]) rfl rfl (Lc kR Am.enc_len .row rfl .row rfl hl_6 rfl) rfl rfl ?_
 refine Mf fun B=>?_
 exact⟨(y_7.2.L,y_7.2.At,e.Name,e.Least,e.Most,e.Suites,l_6,e.Anchors,e.Hashes),G,B9 [(0,0),(1,1),(2,9)]⟩
 rintro⟨b_1,b_1_2,e_1,e_1_2,e_1_3,e_1_4,e_1_5,e_1_6,e_1_7⟩ G
 unfold Fk.j1 at G
 try dsimp only at G
 refine R3 rfl ?_
 refine Rk 3 19 Ji fun B=>?_
 refine aBa ?_
 obtain rfl:=oi_ G
 exact Tk [(0,0)] ⟨rfl,rfl⟩
instance aRt:Wk 23:=⟨_,@nC⟩
theorem X8 {i r} (G:Be i=some r):Fn Tryz.prog 76 0 [.agg (Bf.dv i)] [] (fun d' b'=>d'=vk r/\b'=[]):=by
 unfold Be at G
 refine Dx 0 96 Tryz.func76 fun _ _ _=>?_
 refine Bt 1 fun B G=>?_
 refine Ba (ι:=Bool) (fun (known_1:Bool)=>mk [(1,.ptr 0 0),(3,.val (.bool known_1))] [(0,.box (Bf.dv i) 74)] 1) (fun (known_1:Bool)=>Be.j1 i known_1=some r) ?_ ?_
 exact Cf
 rintro known_1 G
 unfold Be.j1 at G
 try dsimp only at G
 refine R3 rfl ?_
 refine Au <| Ba (ι:=Bool) (fun (x43_2:Bool)=>mk [(1,.ptr 0 0),(43,.val (.bool x43_2))] [(0,.box (Bf.dv i) 74)] 1) (fun (x43_2:Bool)=>Be.j2 i x43_2=some r) ?_ ?_
 exact Cf
 rintro x43_2 G
 unfold Be.j2 at G
 refine D4 (.l 0 (.e 4)) fun _ B G=>?_
 refine G7 (fun (x47_3:Int)=>mk [(1,.ptr 0 0),(45,.sl 3 (Aj Dh.enc i.Links)),(46,.val (.int .i64 (i.Links.length:Int))),(47,vk x47_3)] [(0,.box (Bf.dv i) 74)] 1) G (B9 [(0,0)]) ?_
 rintro x47_3 m3 o3 G hn3
 unfold Be.l3 at G
 refine I9 2 fun B G=>?_
 refine Jf rfl G (fun _ G=>?_) fun _ G=>?_
 refine Bt 6 fun e _ B G=>?_
 refine Ba (ι:=Bool) (fun (x81_4:Bool)=>mk [(1,.ptr 0 0),(45,.sl 3 (Aj Dh.enc i.Links)),(46,.val (.int .i64 (i.Links.length:Int))),(47,vk x47_3),(81,.val (.bool x81_4))] [(0,.box (Bf.dv i) 74)] 1) (fun (x81_4:Bool)=>Be.j4 x47_3 x81_4=some o3) ?_ ?_
 refine Bb (Df _ _ []) (by kernel_rfl) [0,1,3,7,15,31,63,127,255,511,1023,2047,4095,8191,16383,32767,65535,131071,262143,524287,262143,1310719,4194303,8388607,16777215,262143,33816575,134217727,268435455,536870911] 57 297 B rfl rfl (by kernel_rfl) ?_
 exact Cf
 rintro x81_4 G
 unfold Be.j4 at G
 exact Hf
 refine Bt 1 fun B G=>?_
 refine Au <| Ba (ι:=Bool) (fun (x95_5:Bool)=>mk [(95,.val (.bool x95_5))] [] 0) (fun (x95_5:Bool)=>Be.j5 x95_5=some r) ?_ ?_
 refine Bb (Df _ _ []) (by kernel_rfl) [0,1,0,4,12,28,60,127,255,511,1023,2047,4095] 9 113 B rfl rfl (by kernel_rfl) ?_
 exact Cf
 rintro x95_5 G
 unfold Be.j5 at G
 exact Hf
instance aR4:Wk 76:=⟨_,@X8⟩
theorem Oz {x' r} (G:F4 x'=some r):Fn Tryz.prog 75 0 [.agg (Bf.dv x')] [] (fun d' b'=>d'=.val (.bool r)/\b'=[]):=by
 unfold F4 at G
 refine Dx 0 6 Tryz.func75 fun _ _ _=>?_
 exact Cf
instance aQv:Wk 75:=⟨_,@Oz⟩
theorem Ls {s:(List Bf)} {f:Bf->Option (Bool)} (hf_f:∀ (x0:Bf) (y:Bool),f x0=some y->Fn Tryz.prog 75 0 [.agg (Bf.dv x0)] [] (fun d' b'=>d'=.val (.bool y)/\b'=[])) {r:Int} (G:Bw s f=some r):Fn Tryz.prog 106 0 [.sl 5 (Aj Bf.enc s),.clo 75 0 []] [] (fun d' b'=>d'=vk r/\b'=[]):=by
 unfold Bw at G
 refine Dx 0 19 Tryz.func106 fun _ _ _=>?_
 refine Bt 4 fun B G=>?_
 refine G7 (fun (x8_1:Int)=>mk [(0,.sl 5 (Aj Bf.enc s)),(1,.clo 75 0 []),(7,.val (.int .i64 (s.length:Int))),(8,vk x8_1)] [] 0) G (B9 []) ?_
 rintro x8_1 m1 o1 G hn1
 unfold Bw.l1 at G
 refine D4 (.r 2 (.e 7)) fun _ e _ B G=>?_
 obtain⟨y,hy,G⟩:=Ak G
 refine Cm (rd:=[]) (ps:=[]) (gs:=[]) false rfl rfl (hf_f e _ hy) rfl rfl (.cons (.agg (.cons .val (.cons .val (.cons .val (.cons .sl (.cons .val .nil)))))) .nil) rfl rfl (by intro h; cases h) rfl rfl rfl rfl ?_
 exact Cf
theorem K2 {s:(List Bf)} {f:Bf->Option (Bool)} (hf_f:∀ (x0:Bf) (y:Bool),f x0=some y->Fn Tryz.prog 75 0 [.agg (Bf.dv x0)] [] (fun d' b'=>d'=.val (.bool y)/\b'=[])) {r:Bool} (G:E6 s f=some r):Fn Tryz.prog 74 0 [.sl 5 (Aj Bf.enc s),.clo 75 0 []] [] (fun d' b'=>d'=.val (.bool r)/\b'=[]):=by
 unfold E6 at G
 refine Dx 0 9 Tryz.func74 fun _ _ _=>?_
 refine Bt 2 fun B G=>?_
 obtain⟨y,hy,G⟩:=Ak G
 refine Ni (@Ls s f hf_f _ hy) ?_
 exact Cf
theorem Xc {l size r} (G:Bx l size=some r):Fn Tryz.prog 77 0 [.sl 2 (Aj A3.enc l),vk size] [] (fun d' b'=>d'=.val (.bool r)/\b'=[]):=by
 unfold Bx at G
 refine Dx 0 80 Tryz.func77 fun _ _ _=>?_
 refine Bt 4 fun B G=>?_
 refine G7 (fun (x9_1:Int)=>mk [(0,.sl 2 (Aj A3.enc l)),(1,vk size),(7,.sl 2 (Aj A3.enc l)),(8,.val (.int .i64 (l.length:Int))),(9,vk x9_1)] [] 0) G (B9 []) ?_
 rintro x9_1 m1 o1 G hn1
 unfold Bx.l1 at G
 refine D4 (.r 2 (.e 6)) fun _ e _ B G=>?_
 refine Au <| Ba (ι:=Bool) (fun (x40_2:Bool)=>mk [(0,.sl 2 (Aj A3.enc l)),(1,vk size),(5,vk x9_1),(6,.ptr 0 0),(7,.sl 2 (Aj A3.enc l)),(8,.val (.int .i64 (l.length:Int))),(9,vk x9_1),(40,.val (.bool x40_2))] [(0,.box [vk e.Client,vk e.Server] 71)] 1) (fun (x40_2:Bool)=>Bx.j2 l x9_1 e x40_2=some o1) ?_ ?_
 exact Cf
 rintro x40_2 G
 unfold Bx.j2 at G
 refine D4 (.l 0 (.e 1)) fun _ B G=>?_
 refine Ba (ι:=Bool) (fun (x75_3:Bool)=>mk [(0,.sl 2 (Aj A3.enc l)),(1,vk size),(7,.sl 2 (Aj A3.enc l)),(8,.val (.int .i64 (l.length:Int))),(9,vk x9_1),(75,.val (.bool x75_3))] [] 0) (fun (x75_3:Bool)=>Bx.j3 x9_1 x75_3=some o1) ?_ ?_
 refine Bb (Df _ _ []) (by kernel_rfl) [0,1,3,7,7,23,63,127,255,7,519,2047,4095,8191,8191,24575,65535,131071,262143,8191,532479,2097151,4194303,8388607,8388607,25165823,67108863,134217727,268435455,8388607,545259519,2147483647,4294967295,8589934591,17179869183] 1 281 Ji rfl rfl (by kernel_rfl) ?_
 exact Cf
 rintro x75_3 G
 unfold Bx.j3 at G
 exact Hf
instance aP3:Wk 77:=⟨_,@Xc⟩
end Go.Proofs.YtbpchmikjiinpaaGreat
