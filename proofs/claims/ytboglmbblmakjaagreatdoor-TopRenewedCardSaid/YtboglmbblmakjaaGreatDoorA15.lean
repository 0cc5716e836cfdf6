import Derived.Test.YtboglmbblmakjaaGreatDoorT1
import Derived.Test.YtboglmbblmakjaaGreatDoorEU
import Derived.Test.YtboglmbblmakjaaGreatDoorA6
import Derived.Test.YtboglmbblmakjaaGreatDoorA9
import Derived.Test.YtboglmbblmakjaaGreatDoorA11
import Derived.Test.YtboglmbblmakjaaGreatDoorA13
import Derived.Test.YtboglmbblmakjaaGreatDoorA14
set_option linter.unusedVariables false
set_option linter.unusedSimpArgs false
set_option maxRecDepth 100000
set_option maxHeartbeats 40000000
namespace Go.Proofs.YtboglmbblmakjaaGreatDoor
open Go.RowKit
theorem cO {client server p l o day weak r} (G:Eu client server p l o day weak=some r):Fn Tryz.prog 76 0 [.agg (Ad.dv client),.agg (Ad.dv server),.agg [.sl 6 (Ac Al.enc p.Rules),.sl 2 (Ac Bk.enc p.Keeps)],.sl 7 (Ac Ap.enc l),.agg [.sl 1 (Ac eI o.Keys),vk o.Need],vk day,vk weak] [] (fun d' b'=>d'=.tup [.sl 4 (Ac Ai.enc r.1),vk r.2]/\b'=[]):=by
 unfold Eu at G
 refine Ea 0 61 Tryz.func76 fun _ _ _=>?_
 refine Qg (.l 5 (.e 5)) fun y _ _ B G=>?_
 refine Ip (fun ((x36_1,out_1):Int×List Ai)=>mk [(3,.sl 7 (Ac Ap.enc l)),(5,vk day),(8,.ptr 0 0),(9,.ptr 1 0),(11,.ptr 2 0),(18,.row 3),(34,.sl 4 (Ac Ai.enc y.1)),(35,.val (.int .i64 (y.1.length:Int))),(36,vk x36_1)] [(0,.box (Ad.dv server) 83),(1,.box [.sl 6 (Ac Al.enc p.Rules),.sl 2 (Ac Bk.enc p.Keeps)] 39),(2,.box [.sl 1 (Ac eI o.Keys),vk o.Need] 61),(3,.row 190 4 (Ac Ai.enc out_1))] 4) G (B5 [(0,8),(1,16),(2,24)]) ?_
 rintro⟨x36_1,out_1⟩ m1 o1 G hn1
 unfold Eu.l1 at G
 refine E6 (.r 2 (.e 1)) fun _ B G=>?_
 refine Ba (ι:=List Ai) (fun (out_2:List Ai)=>mk [(3,.sl 7 (Ac Ap.enc l)),(5,vk day),(8,.ptr 0 0),(9,.ptr 1 0),(11,.ptr 2 0),(18,.row 3),(34,.sl 4 (Ac Ai.enc y.1)),(35,.val (.int .i64 (y.1.length:Int))),(36,vk x36_1)] [(0,.box (Ad.dv server) 83),(1,.box [.sl 6 (Ac Al.enc p.Rules),.sl 2 (Ac Bk.enc p.Keeps)] 39),(2,.box [.sl 1 (Ac eI o.Keys),vk o.Need] 61),(3,.row 190 4 (Ac Ai.enc out_2))] 4) (fun (out_2:List Ai)=>Eu.j2 x36_1 out_2=some o1) ?_ ?_
 refine Qg (.l 8 (.r 2 (.e 1))) fun e _ _ _ _ _ B G=>?_
 refine Kv aDn aHb yC ([e]:List Ai) Ai.enc ?_
 exact C6
 rintro out_2 G
 unfold Eu.j2 at G
 exact Ik
instance bCv:Wk 76:=⟨_,@cO⟩
theorem No {l more r} (G:Hq l more=some r):Fn Tryz.prog 38 0 [.row 0,.sl 3 (Ac Ay.enc more)] [.row 64 3 (Ac Ay.enc l)] (fun d' b'=>d'=.row 0/\b'=[.row 64 3 (Ac Ay.enc r)]):=by
 unfold Hq at G
 refine Ea 1 8 Tryz.func38 fun _ _ _=>?_
 exact C6
theorem Xj {v i day r} (G:Bs v i day=some r):Fn Tryz.prog 39 0 [.agg (Fs.dv v),vk i,vk day] [] (fun d' b'=>d'=.sl 3 (Ac Ay.enc r)/\b'=[]):=by
 unfold Bs at G
 refine Ea 0 113 Tryz.func39 fun _ _ _=>?_
 refine Mn 0 16 Gu fun B=>?_
 refine Q1 16 80 B ?_
 refine Il ?_
 obtain⟨e,he,G⟩:=Af G
 refine Il ?_
 refine lE_ he ?_
 refine Jp fun B=>?_
 refine Ar <| Ca (E4 _ _ []) (by kernel_rfl) [0,1,3,0,8,31,63,0,128,384,0,1024,3968,8064,0,0,49279,131071] 80 224 B rfl rfl (by kernel_rfl) ?_
 refine Il ?_
 obtain⟨e_2,he_2,G⟩:=Af G
 refine Il ?_
 refine lE_ he_2 ?_
 refine Il ?_
 obtain⟨e_3,he_3,G⟩:=Af G
 refine Il ?_
 refine lE_ he_3 ?_
 refine Jp fun B=>?_
 refine Mn 224 232 B fun B=>?_
 refine Q1 232 312 B ?_
 refine Il ?_
 obtain⟨y,hy,G⟩:=Af G
 refine P9 (Z2 hy) ?_
 refine Jp fun B=>?_
 refine Ba (ι:=List Ay) (fun (out_1:List Ay)=>mk [(1,vk i),(2,vk day),(3,.ptr 0 0),(8,.ptr 1 0),(9,.ptr 2 0),(10,.row 3),(11,.ptr 4 0),(12,vk y.2)] [(0,.box (Fs.dv v) 117),(1,.box (Ad.dv e_2) 83),(2,.box (Ad.dv e_3) 83),(3,.row 64 3 (Ac Ay.enc out_1)),(4,.box [vk y.1.Version,vk y.1.Suite] 181)] 5) (fun (out_1:List Ay)=>Bs.j1 v i day e_2 e_3 y out_1=some r) ?_ ?_
 refine Mn 312 328 B fun B=>?_
 refine Ji rfl G (fun h7 G=>?_) fun h7 G=>?_
 refine B7 (E4 _ _ []) 328 376 B rfl rfl ?_
 refine Il ?_
 refine Ox jY aIb z64 ?_
 refine Kv aDh z64 aHh ([(Ay.mk 1 i 0)]:List Ay) Ay.enc ?_
 obtain⟨y_2,hy_2,G⟩:=Af G
 refine Gt (rd:=[352]) (ps:=[]) (gs:=[]) true rfl (Ou hy_2) rfl rfl (.cons .val (.cons (.row rfl (.head _) rfl) .nil)) rfl rfl (by rintro - _ _ ⟨rfl,rfl⟩; exact⟨by simp [Kl,Nm],fb_⟩) rfl (by intro h; first | (cases h; done) | exact⟨_,_,⟨rfl,rfl⟩,by simp,by simp⟩) ?_
 rintro _ _ ⟨rfl,rfl⟩
 refine Jp fun B=>?_
 exact⟨y_2,G,B5 [(0,0),(1,192),(2,200),(3,360),(4,288)]⟩
 refine Q1 328 448 B ?_
 refine Il ?_
 obtain⟨y_3,hy_3,G⟩:=Af G
 refine P9 (Wv hy_3) ?_
 refine Jp fun B=>?_
 refine Mn 448 456 B fun B=>?_
 refine Ji rfl G (fun h11 G=>?_) fun h11 G=>?_
 refine B7 (E4 _ _ []) 456 520 B rfl rfl ?_
 refine Il ?_
 refine Ox jY aIb z64 ?_
 refine Kv aDh z64 aHh ([(Ay.mk 2 i y.1.Suite)]:List Ay) Ay.enc ?_
 obtain⟨y_4,hy_4,G⟩:=Af G
 refine Gt (rd:=[496]) (ps:=[]) (gs:=[]) true rfl (Ou hy_4) rfl rfl (.cons .val (.cons (.row rfl (.head _) rfl) .nil)) rfl rfl (by rintro - _ _ ⟨rfl,rfl⟩; exact⟨by simp [Kl,Nm],fb_⟩) rfl (by intro h; first | (cases h; done) | exact⟨_,_,⟨rfl,rfl⟩,by simp,by simp⟩) ?_
 rintro _ _ ⟨rfl,rfl⟩
 refine Jp fun B=>?_
 exact⟨y_4,G,B5 [(0,0),(1,192),(2,200),(3,504),(4,288)]⟩
 refine Ts ?_
 exact⟨([]:List Ay),G,B5 [(0,0),(1,192),(2,200),(4,288)]⟩
 rintro out_1 G
 unfold Bs.j1 at G
 try dsimp only at G
 refine X5 rfl ?_
 refine Q1 5 141 Gu ?_
 refine Il ?_
 obtain⟨y_5,hy_5,G⟩:=Af G
 refine P9 (cO hy_5) ?_
 refine Jp fun B=>?_
 refine Ar <| Mn 141 165 B fun B=>?_
 refine Da <| Ip (fun ((x91_2,out_2):Int×List Ay)=>mk [(1,vk i),(10,.row 0),(11,.ptr 1 0),(12,vk y.2),(89,.sl 4 (Ac Ai.enc y_5.1)),(90,.val (.int .i64 (y_5.1.length:Int))),(91,vk x91_2)] [(0,.row 64 3 (Ac Ay.enc out_2)),(1,.box [vk y.1.Version,vk y.1.Suite] 181)] 2) G (B5 [(0,3),(1,4)]) ?_
 rintro⟨x91_2,out_2⟩ m2 o2 G hn2
 unfold Bs.l2 at G
 try dsimp only at G
 refine X5 rfl ?_
 refine Mn 2 10 Gu fun B=>?_
 refine Ar <| Ji rfl G (fun h16 G=>?_) fun h16 G=>?_
 refine Ts ?_
 refine Ba (ι:=List Ay) (fun (out_4:List Ay)=>mk [(1,vk i),(10,.row 0),(11,.ptr 1 0),(12,vk y.2),(89,.sl 4 (Ac Ai.enc y_5.1)),(90,.val (.int .i64 (y_5.1.length:Int))),(91,vk x91_2)] [(0,.row 64 3 (Ac Ay.enc out_4)),(1,.box [vk y.1.Version,vk y.1.Suite] 181)] 2) (fun (out_4:List Ay)=>Bs.j4 x91_2 out_4=some o2) ?_ ?_
 refine Da <| Q1 10 42 B ?_
 obtain⟨e_4,he_4,G⟩:=Af G
 refine Il ?_
 refine lE_ he_4 ?_
 refine Jp fun B=>?_
 refine Ba (ι:=Bool) (fun (x102_3:Bool)=>mk [(1,vk i),(10,.row 0),(11,.ptr 1 0),(12,vk y.2),(18,.ptr 2 0),(89,.sl 4 (Ac Ai.enc y_5.1)),(90,.val (.int .i64 (y_5.1.length:Int))),(91,vk x91_2),(102,.val (.bool x102_3))] [(0,.row 64 3 (Ac Ay.enc out_2)),(1,.box [vk y.1.Version,vk y.1.Suite] 181),(2,.box (Ai.dv e_4) 190)] 3) (fun (x102_3:Bool)=>Bs.j3 i x91_2 out_2 e_4 x102_3=some o2) ?_ ?_
 refine B7 (E4 _ _ []) 42 106 B rfl rfl ?_
 refine Il ?_
 rcases bc_ G with ⟨h18,G⟩ | ⟨h18,G⟩
 refine Jp fun B=>?_
 exact⟨true,G,B5 [(0,0),(1,1),(2,26)]⟩
 refine Il ?_
 refine Ex (Mq rfl rfl h18) rfl (rV e_4.Outcome y.1) rfl rfl ?_
 refine Jp fun B=>?_
 exact⟨!decide (e_4.Outcome=y.1),G,B5 [(0,0),(1,1),(2,26)]⟩
 rintro x102_3 G
 unfold Bs.j3 at G
 try dsimp only at G
 refine X5 rfl ?_
 refine Ji rfl G (fun h21 G=>?_) fun h21 G=>?_
 refine B7 (E4 _ _ []) 3 75 Gu rfl rfl ?_
 refine Il ?_
 refine Ox jY aIb z64 ?_
 refine Kv aDh z64 aHh ([(Ay.mk 3 i e_4.Outcome.Suite)]:List Ay) Ay.enc ?_
 obtain⟨y_6,hy_6,G⟩:=Af G
 refine Gt (rd:=[0,51]) (ps:=[]) (gs:=[0]) true rfl (No hy_6) rfl rfl (.cons (.rowK rfl) (.cons (.row rfl (.tail _ (.head _)) rfl) .nil)) ⟨_,_,_,rfl,.head _,rfl,rfl⟩ rfl (by rintro - _ _ ⟨rfl,rfl⟩; exact⟨by simp [Kl,Nm],fb_⟩) rfl (by intro h; first | (cases h; done) | exact⟨_,_,⟨rfl,rfl⟩,by simp,by simp⟩) ?_
 rintro _ _ ⟨rfl,rfl⟩
 refine Jp fun B=>?_
 exact⟨y_6,G,B5 [(0,59),(1,1)]⟩
 refine Ts ?_
 exact⟨out_2,G,B5 [(0,0),(1,1)]⟩
 rintro out_4 G
 unfold Bs.j4 at G
 try dsimp only at G
 refine X5 rfl ?_
 refine B7 (E4 _ _ []) 2 18 Gu rfl rfl ?_
 refine Jp fun B=>?_
 obtain rfl:=oi_ G
 exact⟨((W (x91_2 + 1),out_4),m2),aKf _,hn2,B5 [(0,0),(1,1)]⟩
 refine iC ?_
 replace G:=Lt G hn2
 refine Mn 10 26 B fun B=>?_
 exact t3_
instance bCf:Wk 39:=⟨_,@Xj⟩
theorem dQ {e p l o day weak r} (G:C2 e p l o day weak=some r):Fn Tryz.prog 12 0 [.agg (Ak.dv e),.agg [.sl 6 (Ac Al.enc p.Rules),.sl 2 (Ac Bk.enc p.Keeps)],.sl 7 (Ac Ap.enc l),.agg [.sl 1 (Ac eI o.Keys),vk o.Need],vk day,vk weak] [] (fun d' b'=>d'=.tup [.sl 3 (Ac Ay.enc r.1),vk r.2]/\b'=[]):=by
 unfold C2 at G
 refine Ea 0 79 Tryz.func12 fun _ _ _=>?_
 refine Cb 2 fun B G=>?_
 refine Ox dP aTt aT3 ?_
 refine Qg (.l 4 (.e 5)) fun _ _ _ B G=>?_
 refine Ip (fun ((x38_1,out_1):Int×List Ay)=>mk [(4,vk day),(6,.ptr 0 0),(7,.ptr 1 0),(14,.ptr 2 0),(16,.row 3),(37,.val (.int .i64 (e.Edges.length:Int))),(38,vk x38_1)] [(0,.box (Ak.dv e) 31),(1,.box [.sl 6 (Ac Al.enc p.Rules),.sl 2 (Ac Bk.enc p.Keeps)] 39),(2,.box [.sl 9 (Ac Ad.enc e.Endpoints),.sl 2 (Ac Bi.enc e.Edges),.sl 5 (Ac Aq.enc e.Items),.sl 6 (Ac Al.enc p.Rules),.sl 2 (Ac Bk.enc p.Keeps),.sl 7 (Ac Ap.enc l),.sl 1 (Ac eI o.Keys),vk o.Need,vk weak] 117),(3,.row 64 3 (Ac Ay.enc out_1))] 4) G (B5 [(0,0),(1,8),(2,88)]) ?_
 rintro⟨x38_1,out_1⟩ m1 o1 G hn1
 unfold C2.l1 at G
 refine Q4 2 fun B G=>?_
 refine Ji rfl G (fun _ G=>?_) fun _ G=>?_
 refine Cb 6 fun _ _ B G=>?_
 obtain⟨y_3,hy_3,G⟩:=Af G
 refine Gt (rd:=[3]) (ps:=[]) (gs:=[3]) false rfl (No hy_3) rfl rfl (.cons (.rowK rfl) (.cons .sl .nil)) ⟨_,_,_,rfl,.head _,rfl,rfl⟩ rfl (by intro h; cases h) rfl (by intro h; first | (cases h; done) | exact⟨_,_,⟨rfl,rfl⟩,by simp,by simp⟩) ?_
 rintro _ _ ⟨rfl,rfl⟩
 exact C6
 refine Cb 4 fun B G=>?_
 refine Ip (fun ((x51_2,out_2):Int×List Ay)=>mk [(4,vk day),(7,.ptr 0 0),(16,.row 1),(49,.sl 5 (Ac Aq.enc e.Items)),(50,.val (.int .i64 (e.Items.length:Int))),(51,vk x51_2)] [(0,.box [.sl 6 (Ac Al.enc p.Rules),.sl 2 (Ac Bk.enc p.Keeps)] 39),(1,.row 64 3 (Ac Ay.enc out_2))] 2) G (B5 [(0,1),(1,3)]) ?_
 rintro⟨x51_2,out_2⟩ m2 o2 G hn2
 unfold C2.l2 at G
 refine E6 (.r 2 (.e 1)) fun _ B G=>?_
 refine Ba (ι:=List Ay) (fun (out_4:List Ay)=>mk [(4,vk day),(7,.ptr 0 0),(16,.row 1),(49,.sl 5 (Ac Aq.enc e.Items)),(50,.val (.int .i64 (e.Items.length:Int))),(51,vk x51_2)] [(0,.box [.sl 6 (Ac Al.enc p.Rules),.sl 2 (Ac Bk.enc p.Keeps)] 39),(1,.row 64 3 (Ac Ay.enc out_4))] 2) (fun (out_4:List Ay)=>C2.j4 x51_2 out_4=some o2) ?_ ?_
 refine Cb 6 fun e_2 _ y_4 _ B G=>?_
 refine Ba (ι:=Bool) (fun (x71_3:Bool)=>mk [(4,vk day),(7,.ptr 0 0),(16,.row 1),(18,vk x51_2),(49,.sl 5 (Ac Aq.enc e.Items)),(50,.val (.int .i64 (e.Items.length:Int))),(51,vk x51_2),(71,.val (.bool x71_3))] [(0,.box [.sl 6 (Ac Al.enc p.Rules),.sl 2 (Ac Bk.enc p.Keeps)] 39),(1,.row 64 3 (Ac Ay.enc out_2))] 2) (fun (x71_3:Bool)=>C2.j3 x51_2 out_2 x71_3=some o2) ?_ ?_
 exact C6
 rintro x71_3 G
 unfold C2.j3 at G
 refine E6 (.r 0 (.e 1)) fun _ B G=>?_
 refine Ox jY aIb z64 ?_
 refine Kv aDh z64 aHh ([(Ay.mk 4 x51_2 0)]:List Ay) Ay.enc ?_
 obtain⟨y_5,hy_5,G⟩:=Af G
 refine Gt (rd:=[1,26]) (ps:=[]) (gs:=[1]) true rfl (No hy_5) rfl rfl (.cons (.rowK rfl) (.cons (.row rfl (.tail _ (.head _)) rfl) .nil)) ⟨_,_,_,rfl,.head _,rfl,rfl⟩ rfl (by rintro - _ _ ⟨rfl,rfl⟩; exact⟨by simp [Kl,Nm],fb_⟩) rfl (by intro h; first | (cases h; done) | exact⟨_,_,⟨rfl,rfl⟩,by simp,by simp⟩) ?_
 rintro _ _ ⟨rfl,rfl⟩
 exact C6
 rintro out_4 G
 unfold C2.j4 at G
 exact Ik
instance bCn:Wk 12:=⟨_,@dQ⟩
theorem uX {l n r} (G:J9 l n=some r):Fn Tryz.prog 13 0 [.sl 1 (Ac eI l),vk n] [] (fun d' b'=>d'=.val (.bool r)/\b'=[]):=by
 unfold J9 at G
 refine Ea 0 17 Tryz.func13 fun _ _ _=>?_
 refine Cb 4 fun B G=>?_
 refine Ip (fun (x9_1:Int)=>mk [(1,vk n),(7,.sl 1 (Ac eI l)),(8,.val (.int .i64 (l.length:Int))),(9,vk x9_1)] [] 0) G (B5 []) ?_
 rintro x9_1 m1 o1 G hn1
 unfold J9.l1 at G
 exact Ik
instance bDy:Wk 13:=⟨_,@uX⟩
theorem dN {s r} (G:Bb s=some r):Fn Tryz.prog 133 0 [ws s] [] (fun d' b'=>d'=.sl 1 (Ac eS r)/\b'=[]):=by
 unfold Bb at G
 refine Fn.of Tryz.func133 rfl rfl rfl fun w0 I ρ0=>?_
 show Kb _ ⟨w0,I,ρ0,0,0,106,none⟩ _ _ _
 refine Mn 0 8 Gu fun B=>?_
 refine Mn 8 16 B fun B=>?_
 refine Mn 16 24 B fun B=>?_
 refine Mn 24 32 B fun B=>?_
 refine Ar <| Mn 32 40 B fun B=>?_
 refine Da <| Ip (fun ((n_1,wasSpace_1,setBits_1,i_1):Int×Int×UInt8×Int)=>mk [(0,ws s),(3,vk n_1),(4,vk wasSpace_1),(5,.val (.int .u8 (setBits_1.toNat:Int))),(6,vk i_1)] [] 0) G (B5 []) ?_
 rintro⟨n_1,wasSpace_1,setBits_1,i_1⟩ m1 o1 G hn1
 replace G:Bb.l1 s n_1 wasSpace_1 setBits_1 i_1=some o1:=G
 show Kb _ _ _ _ (mk _ _ _)
 unfold Bb.l1 at G
 refine Ar <| Q1 0 32 Gu ?_
 refine Il ?_
 refine Ex rfl rfl (cI dK) rfl rfl ?_
 refine Jp fun B=>?_
 refine Ji rfl G (fun h7 G=>?_) fun h7 G=>?_
 refine Ts ?_
 refine Ar <| Da <| Q1 32 64 B ?_
 refine Il ?_
 obtain⟨c,hc,G⟩:=Af G
 refine Ex rfl rfl (dU dK hc) rfl rfl ?_
 refine Jp fun B=>?_
 refine Q1 64 96 B ?_
 refine Il ?_
 refine Ex rfl rfl (aQ9 (a:=setBits_1) (b:=c)) rfl rfl ?_
 refine Jp fun B=>?_
 refine Q1 96 136 B ?_
 refine Il ?_
 obtain⟨e,he,G⟩:=Af G
 refine Zc (rd:=[]) rfl rfl (.idxA (j:=(((c.toNat:Int)).toNat)) hO ty5 (L0 he) (aBe.1 (Cf he)).1) rfl rfl (fun _=>⟨_,rfl⟩) ?_
 rintro _ rfl
 refine Ex rfl rfl (Eb ty5 (Vx (Cf he))) rfl rfl ?_
 refine Ex rfl rfl (Ya (u:=e) aE5 aCj) rfl rfl ?_
 refine Jp fun B=>?_
 refine Q1 136 192 B ?_
 refine Il ?_
 refine Ex rfl rfl aPq rfl rfl ?_
 refine Ex rfl rfl uZ rfl rfl ?_
 refine Jp fun B=>?_
 refine B7 (E4 _ _ []) 192 208 B rfl rfl ?_
 refine Jp fun B=>?_
 refine B7 (E4 _ _ []) 208 232 B rfl rfl ?_
 refine Jp fun B=>?_
 obtain rfl:=oi_ G
 exact⟨((W (n_1 + (W7 .i64 wasSpace_1 (aFn .i64 (e.toNat:Int)))),(e.toNat:Int),(setBits_1 ||| c),W (i_1 + 1)),m1),aKf _,hn1,B5 []⟩
 refine iC ?_
 replace G:=Lt G hn1
 refine Ar <| Mn 32 48 B fun B=>?_
 refine Ji rfl G (fun h15 G=>?_) fun h15 G=>?_
 refine Q1 48 72 B ?_
 refine Il ?_
 cases G
 refine Ts ?_
 refine Q1 48 72 B ?_
 refine Il ?_
 obtain⟨m,hm,G⟩:=Af G
 refine Ex rfl rfl (aM (f:=eS) eE z9 ck9 (.cons .str .nil) rfl hm rfl) rfl rfl ?_
 refine Jp fun B=>?_
 refine Mn 72 80 B fun B=>?_
 refine Mn 80 88 B fun B=>?_
 refine Mn 88 96 B fun B=>?_
 refine Ar <| Da <| Ip (fun (i_2:Int)=>mk [(0,ws s),(9,.row 0),(10,.val (.int .i64 0)),(12,vk i_2)] [(0,.row 9 1 (Ac eS m))] 1) G (B5 [(0,56)]) ?_
 rintro i_2 m2 o2 G hn2
 replace G:Bb.l2 s m i_2=some o2:=G
 show Kb _ _ _ _ (mk _ _ _)
 unfold Bb.l2 at G
 refine Ar <| Ba (ι:=Bool) (fun (x53_3:Bool)=>mk [(0,ws s),(9,.row 0),(10,.val (.int .i64 0)),(12,vk i_2),(53,.val (.bool x53_3))] [(0,.row 9 1 (Ac eS m))] 1) (fun (x53_3:Bool)=>Bb.j3 s m i_2 x53_3=some o2) ?_ ?_
 refine B7 (E4 _ _ []) 1 97 Gu rfl rfl ?_
 refine Il ?_
 refine Ex rfl rfl (cI dK) rfl rfl ?_
 refine Il ?_
 rcases bc_ G with ⟨h20,G⟩ | ⟨h20,G⟩
 refine Il ?_
 obtain⟨c_2,hc_2,G⟩:=Af G
 refine Ex (Mq rfl rfl h20) rfl (dU dK hc_2) rfl rfl ?_
 obtain⟨e_2,he_2,G⟩:=Af G
 refine Zc (rd:=[]) (Mq rfl rfl h20) rfl (.idxA (j:=(((c_2.toNat:Int)).toNat)) hO ty5 (L0 he_2) (aBe.1 (Cf he_2)).1) rfl rfl (fun _=>⟨_,rfl⟩) ?_
 rintro _ rfl
 refine Ex (Mq rfl rfl h20) rfl (Eb ty5 (Vx (Cf he_2))) rfl rfl ?_
 refine Jp fun B=>?_
 exact⟨!decide ((e_2.toNat:Int)=0),G,B5 [(0,0)]⟩
 refine Jp fun B=>?_
 exact⟨false,G,B5 [(0,0)]⟩
 rintro x53_3 G
 replace G:Bb.j3 s m i_2 x53_3=some o2:=G
 show Kb _ _ _ _ (mk _ _ _)
 unfold Bb.j3 at G
 refine Ji rfl G (fun h23 G=>?_) fun h23 G=>?_
 refine Ts ?_
 refine Da <| B7 (E4 _ _ []) 1 25 Gu rfl rfl ?_
 refine Jp fun B=>?_
 obtain rfl:=oi_ G
 exact⟨(W (i_2 + 1),m2),aKf _,hn2,B5 [(0,0)]⟩
 refine iC ?_
 replace G:=Lt G hn2
 refine Mn 1 17 Gu fun B=>?_
 refine Ar <| Da <| Ip (fun ((na_4,fieldStart_4,i_4,a_4):Int×Int×Int×List ByteArray)=>mk [(0,ws s),(9,.row 0),(10,vk na_4),(11,vk fieldStart_4),(12,vk i_4)] [(0,.row 9 1 (Ac eS a_4))] 1) G (B5 [(0,0)]) ?_
 rintro⟨na_4,fieldStart_4,i_4,a_4⟩ m4 o4 G hn4
 replace G:Bb.l4 s na_4 fieldStart_4 i_4 a_4=some o4:=G
 show Kb _ _ _ _ (mk _ _ _)
 unfold Bb.l4 at G
 refine Ar <| Q1 1 33 Gu ?_
 refine Il ?_
 refine Ex rfl rfl (cI dK) rfl rfl ?_
 refine Jp fun B=>?_
 refine Ji rfl G (fun h27 G=>?_) fun h27 G=>?_
 refine Ts ?_
 refine Da <| Ar <| Q1 33 81 B ?_
 refine Il ?_
 obtain⟨c_3,hc_3,G⟩:=Af G
 refine Ex rfl rfl (dU dK hc_3) rfl rfl ?_
 obtain⟨e_3,he_3,G⟩:=Af G
 refine Zc (rd:=[]) rfl rfl (.idxA (j:=(((c_3.toNat:Int)).toNat)) hO ty5 (L0 he_3) (aBe.1 (Cf he_3)).1) rfl rfl (fun _=>⟨_,rfl⟩) ?_
 rintro _ rfl
 refine Ex rfl rfl (Eb ty5 (Vx (Cf he_3))) rfl rfl ?_
 refine Jp fun B=>?_
 refine Ji rfl G (fun h29 G=>?_) fun h29 G=>?_
 refine Mn 81 105 B fun B=>?_
 refine iC ?_
 obtain rfl:=oi_ G
 exact⟨((na_4,fieldStart_4,W (i_4 + 1),a_4),m4),aKf _,hn4,B5 [(0,0)]⟩
 refine Ts ?_
 refine Q1 81 145 B ?_
 refine Il ?_
 obtain⟨s_2,hs_2,G⟩:=Af G
 refine Ex rfl rfl (aD7 dK hs_2) rfl rfl ?_
 obtain⟨e_4,he_4,G⟩:=Af G
 refine Il ?_
 refine sR_ ck9 he_4 (x':=s_2) ?_
 refine Xu fun B=>?_
 refine Mn 145 169 B fun B=>?_
 refine Mn 169 193 B fun B=>?_
 refine Ar <| Da <| Ip (fun (i_5:Int)=>mk [(0,ws s),(9,.row 0),(10,.val (.int .i64 (W (na_4 + 1)))),(12,vk i_5)] [(0,.row 9 1 (Ac eS (Jd a_4 ((na_4).toNat) s_2)))] 1) G (B5 [(0,0)]) ?_
 rintro i_5 m5 o5 G hn5
 replace G:Bb.l5 s na_4 a_4 s_2 i_5=some o5:=G
 show Kb _ _ _ _ (mk _ _ _)
 unfold Bb.l5 at G
 refine Ar <| Ba (ι:=Bool) (fun (x91_6:Bool)=>mk [(0,ws s),(9,.row 0),(10,.val (.int .i64 (W (na_4 + 1)))),(12,vk i_5),(91,.val (.bool x91_6))] [(0,.row 9 1 (Ac eS (Jd a_4 ((na_4).toNat) s_2)))] 1) (fun (x91_6:Bool)=>Bb.j6 na_4 a_4 s_2 i_5 x91_6=some o5) ?_ ?_
 refine B7 (E4 _ _ []) 1 97 Gu rfl rfl ?_
 refine Il ?_
 refine Ex rfl rfl (cI dK) rfl rfl ?_
 refine Il ?_
 rcases bc_ G with ⟨h34,G⟩ | ⟨h34,G⟩
 refine Il ?_
 obtain⟨c_4,hc_4,G⟩:=Af G
 refine Ex (Mq rfl rfl h34) rfl (dU dK hc_4) rfl rfl ?_
 obtain⟨e_5,he_5,G⟩:=Af G
 refine Zc (rd:=[]) (Mq rfl rfl h34) rfl (.idxA (j:=(((c_4.toNat:Int)).toNat)) hO ty5 (L0 he_5) (aBe.1 (Cf he_5)).1) rfl rfl (fun _=>⟨_,rfl⟩) ?_
 rintro _ rfl
 refine Ex (Mq rfl rfl h34) rfl (Eb ty5 (Vx (Cf he_5))) rfl rfl ?_
 refine Jp fun B=>?_
 exact⟨!decide ((e_5.toNat:Int)=0),G,B5 [(0,0)]⟩
 refine Jp fun B=>?_
 exact⟨false,G,B5 [(0,0)]⟩
 rintro x91_6 G
 replace G:Bb.j6 na_4 a_4 s_2 i_5 x91_6=some o5:=G
 show Kb _ _ _ _ (mk _ _ _)
 unfold Bb.j6 at G
 refine Ji rfl G (fun h37 G=>?_) fun h37 G=>?_
 refine Ts ?_
 refine Da <| B7 (E4 _ _ []) 1 25 Gu rfl rfl ?_
 refine Jp fun B=>?_
 obtain rfl:=oi_ G
 exact⟨(W (i_5 + 1),m5),aKf _,hn5,B5 [(0,0)]⟩
 refine iC ?_
 replace G:=Lt G hn5
 refine B7 (E4 _ _ []) 1 17 Gu rfl rfl ?_
 refine Jp fun B=>?_
 obtain rfl:=oi_ G
 exact⟨((W (na_4 + 1),i_5,i_5,Jd a_4 ((na_4).toNat) s_2),m4),aKf _,hn4,B5 [(0,0)]⟩
 refine iC ?_
 replace G:=Lt G hn4
 refine Ar <| Q1 33 65 B ?_
 refine Il ?_
 refine Ex rfl rfl (cI dK) rfl rfl ?_
 refine Jp fun B=>?_
 refine Ji rfl G (fun h41 G=>?_) fun h41 G=>?_
 refine B7 (E4 _ _ []) 65 121 B rfl rfl ?_
 refine Il ?_
 obtain⟨s_3,hs_3,G⟩:=Af G
 refine Ex rfl rfl (aDp dK hs_3) rfl rfl ?_
 obtain⟨e_6,he_6,G⟩:=Af G
 refine Il ?_
 refine sR_ ck9 he_6 (x':=s_3) ?_
 refine Xu fun B=>?_
 refine Mn 121 137 B fun B=>?_
 exact t3_
 refine Ts ?_
 refine Mn 65 81 B fun B=>?_
 exact t3_
instance aXr:Wk 133:=⟨_,@dN⟩
theorem kF {words kind r} (G:Hb words kind=some r):Fn Tryz.prog 81 0 [ws words,vk kind] [] (fun d' b'=>d'=.tup [ws r.1,.val (.bool r.2)]/\b'=[]):=by
 unfold Hb at G
 refine Ea 0 22 Tryz.func81 fun _ _ _=>?_
 refine Cb 3 fun y _ B G=>?_
 refine Ar <| Ba (ι:=Bool) (fun (x16_1:Bool)=>mk [(1,vk kind),(6,.sl 1 (Ac eS y)),(16,.val (.bool x16_1))] [] 0) (fun (x16_1:Bool)=>Hb.j1 kind y x16_1=some r) ?_ ?_
 exact C6
 rintro x16_1 G
 unfold Hb.j1 at G
 exact Ik
instance bBc:Wk 81:=⟨_,@kF⟩
theorem Xw {r} (G:Qj=some r):Fn Tryz.prog 82 0 [] [] (fun d' b'=>d'=.ptr 0 0/\b'=[.box [.row 1] 258,.row 9 1 (Ac eS r.words)]):=by
 unfold Qj at G
 refine Ea 0 3 Tryz.func82 fun _ _ _=>?_
 refine Cb 2 fun B G=>?_
 refine Ox aCl aR9 aRm ?_
 exact C6
instance bCl:Wk 82:=⟨_,@Xw⟩
theorem Jb {l s r} (G:F9 l s=some r):Fn Tryz.prog 83 1 [.ptr 0 0,ws s] [.box [.row 1] 258,.row 9 1 (Ac eS l.words)] (fun d' b'=>d'=.ptr 0 0/\b'=[.box [.row 1] 258,.row 9 1 (Ac eS r.words)]):=by
 unfold F9 at G
 refine Ea 2 16 Tryz.func83 fun _ _ _=>?_
 refine Cb 2 fun B G=>?_
 refine Kv eE z9 ck9 ([s]:List ByteArray) eS ?_
 exact C6
instance bBj:Wk 83:=⟨_,@Jb⟩
theorem T6 {l r} (G:Nt l=some r):Fn Tryz.prog 85 1 [.ptr 0 0] [.box [.row 1] 258,.row 9 1 (Ac eS l.words)] (fun d' b'=>d'=ws r.1/\b'=[.box [.row 1] 258,.row 9 1 (Ac eS r.2.words)]):=by
 unfold Nt at G
 refine Ea 2 9 Tryz.func85 fun _ _ _=>?_
 refine Mn 2 10 Gu fun B=>?_
 refine Q1 10 66 B ?_
 refine Il ?_
 obtain⟨y,hy,G⟩:=Af G
 refine dO [1] [] [] true (iX _ _ _ hy) ?_
 obtain⟨s,hs,G⟩:=Af G
 refine Ex rfl rfl (aQn hs) rfl rfl ?_
 refine Jp fun B=>?_
 refine tQ ?_
 obtain rfl:=oi_ G
 exact Q5 [(0,0),(1,1)] ⟨rfl,rfl⟩
instance bBf:Wk 85:=⟨_,@T6⟩
theorem lM {e r' r} (G:Cc e r'=some r):Fn Tryz.prog 42 0 [.agg (Ak.dv e),.agg (Ay.dv r')] [] (fun d' b'=>d'=.tup [ws r.1,vk r.2]/\b'=[]):=by
 unfold Cc at G
 refine Ea 0 104 Tryz.func42 fun _ _ _=>?_
 refine Cb 4 fun y _ B G=>?_
 refine Ba (ι:=Int) (fun (n_1:Int)=>mk [(2,.ptr 0 0),(3,.ptr 1 0),(6,ws y.1),(7,.val (.bool y.2)),(8,vk n_1)] [(0,.box (Ak.dv e) 31),(1,.box (Ay.dv r') 64)] 2) (fun (n_1:Int)=>Cc.j1 e r' y n_1=some r) ?_ ?_
 exact C6
 rintro n_1 G
 unfold Cc.j1 at G
 try dsimp only at G
 refine X5 rfl ?_
 refine Ar <| Ba (ι:=Bool) (fun (x40_2:Bool)=>mk [(2,.ptr 0 0),(3,.ptr 1 0),(6,ws y.1),(40,.val (.bool x40_2))] [(0,.box (Ak.dv e) 31),(1,.box (Ay.dv r') 64)] 2) (fun (x40_2:Bool)=>Cc.j2 e r' y x40_2=some r) ?_ ?_
 exact C6
 rintro x40_2 G
 unfold Cc.j2 at G
 refine E6 (.l 0 (.e 2)) fun _ B G=>?_
 obtain⟨y_2,hy_2,G⟩:=Af G
 refine Gt (rd:=[]) (ps:=[]) (gs:=[]) false rfl (Xw hy_2) rfl rfl .nil rfl rfl (by intro h; cases h) rfl (by intro h; first | (cases h; done) | exact⟨_,_,⟨rfl,rfl⟩,by simp,by simp⟩) ?_
 rintro _ _ ⟨rfl,rfl⟩
 refine Cb 0 fun B G=>?_
 obtain⟨y_3,hy_3,G⟩:=Af G
 refine Gt (rd:=[2,3]) (ps:=[2]) (gs:=[3]) false rfl (Jb hy_3) rfl rfl (.cons (.ptr rfl) (.cons .val .nil)) ⟨_,_,_,rfl,.head _,⟨_,rfl,(by repeat' (first | exact H1.nil | apply H1.cons | exact Ag.val | exact Ag.sl | exact Ag.nils | exact Ag.ptr rfl | exact Ag.rowK rfl))⟩,⟨_,_,_,rfl,.tail _ (.head _),rfl,rfl⟩⟩ rfl (by intro h; cases h) rfl (by intro h; first | (cases h; done) | exact⟨_,_,⟨rfl,rfl⟩,by simp,by simp⟩) ?_
 rintro _ _ ⟨rfl,rfl⟩
 refine Cb 0 fun B G=>?_
 refine Ba (ι:=List ByteArray) (fun (l_3:List ByteArray)=>mk [(3,.ptr 0 0),(9,.ptr 1 0)] [(0,.box (Ay.dv r') 64),(1,.box [.row 2] 258),(2,.row 9 1 (Ac eS l_3))] 3) (fun (l_3:List ByteArray)=>Cc.j3 r' l_3=some r) ?_ ?_
 refine Cb 1 fun B G=>?_
 refine Ji rfl G (fun _ G=>?_) fun _ G=>?_
 refine Cb 4 fun _ _ B G=>?_
 obtain⟨y_4,hy_4,G⟩:=Af G
 refine Gt (rd:=[2,18]) (ps:=[2]) (gs:=[18]) false rfl (Jb hy_4) rfl rfl (.cons (.ptr rfl) (.cons .val .nil)) ⟨_,_,_,rfl,.head _,⟨_,rfl,(by repeat' (first | exact H1.nil | apply H1.cons | exact Ag.val | exact Ag.sl | exact Ag.nils | exact Ag.ptr rfl | exact Ag.rowK rfl))⟩,⟨_,_,_,rfl,.tail _ (.head _),rfl,rfl⟩⟩ rfl (by intro h; cases h) rfl (by intro h; first | (cases h; done) | exact⟨_,_,⟨rfl,rfl⟩,by simp,by simp⟩) ?_
 rintro _ _ ⟨rfl,rfl⟩
 exact C6
 refine Cb 3 fun _ _ B G=>?_
 refine Ca (E4 _ _ []) (by kernel_rfl) [0,0,2,0,8,30,62,126,255,0,512,0,2048,7680,15872,32256,65535] 122 258 B rfl rfl (by kernel_rfl) ?_
 refine Cb 3 fun _ _ B G=>?_
 obtain⟨y_5,hy_5,G⟩:=Af G
 refine Gt (rd:=[2,18]) (ps:=[2]) (gs:=[18]) false rfl (Jb hy_5) rfl rfl (.cons (.ptr rfl) (.cons .val .nil)) ⟨_,_,_,rfl,.head _,⟨_,rfl,(by repeat' (first | exact H1.nil | apply H1.cons | exact Ag.val | exact Ag.sl | exact Ag.nils | exact Ag.ptr rfl | exact Ag.rowK rfl))⟩,⟨_,_,_,rfl,.tail _ (.head _),rfl,rfl⟩⟩ rfl (by intro h; cases h) rfl (by intro h; first | (cases h; done) | exact⟨_,_,⟨rfl,rfl⟩,by simp,by simp⟩) ?_
 rintro _ _ ⟨rfl,rfl⟩
 refine Cb 3 fun _ _ B G=>?_
 obtain⟨y_6,hy_6,G⟩:=Af G
 refine Gt (rd:=[2,186]) (ps:=[2]) (gs:=[186]) false rfl (Jb hy_6) rfl rfl (.cons (.ptr rfl) (.cons .val .nil)) ⟨_,_,_,rfl,.head _,⟨_,rfl,(by repeat' (first | exact H1.nil | apply H1.cons | exact Ag.val | exact Ag.sl | exact Ag.nils | exact Ag.ptr rfl | exact Ag.rowK rfl))⟩,⟨_,_,_,rfl,.tail _ (.head _),rfl,rfl⟩⟩ rfl (by intro h; cases h) rfl (by intro h; first | (cases h; done) | exact⟨_,_,⟨rfl,rfl⟩,by simp,by simp⟩) ?_
 rintro _ _ ⟨rfl,rfl⟩
 exact C6
 rintro l_3 G
 unfold Cc.j3 at G
 try dsimp only at G
 refine X5 rfl ?_
 refine Ba (ι:=List ByteArray) (fun (l_5:List ByteArray)=>mk [(9,.ptr 0 0)] [(0,.box [.row 1] 258),(1,.row 9 1 (Ac eS l_5))] 2) (fun (l_5:List ByteArray)=>Cc.j5 l_5=some r) ?_ ?_
 refine Ba (ι:=Bool) (fun (x86_4:Bool)=>mk [(3,.ptr 0 0),(9,.ptr 1 0),(86,.val (.bool x86_4))] [(0,.box (Ay.dv r') 64),(1,.box [.row 2] 258),(2,.row 9 1 (Ac eS l_3))] 3) (fun (x86_4:Bool)=>Cc.j4 r' l_3 x86_4=some r) ?_ ?_
 exact C6
 rintro x86_4 G
 unfold Cc.j4 at G
 refine E6 (.r 0 (.l 4 (.e 2))) fun _ _ _ _ B G=>?_
 obtain⟨y_8,hy_8,G⟩:=Af G
 refine Gt (rd:=[1,2]) (ps:=[1]) (gs:=[2]) false rfl (Jb hy_8) rfl rfl (.cons (.ptr rfl) (.cons .val .nil)) ⟨_,_,_,rfl,.head _,⟨_,rfl,(by repeat' (first | exact H1.nil | apply H1.cons | exact Ag.val | exact Ag.sl | exact Ag.nils | exact Ag.ptr rfl | exact Ag.rowK rfl))⟩,⟨_,_,_,rfl,.tail _ (.head _),rfl,rfl⟩⟩ rfl (by intro h; cases h) rfl (by intro h; first | (cases h; done) | exact⟨_,_,⟨rfl,rfl⟩,by simp,by simp⟩) ?_
 rintro _ _ ⟨rfl,rfl⟩
 exact C6
 rintro l_5 G
 unfold Cc.j5 at G
 refine Q4 1 fun B G=>?_
 obtain⟨y_9,hy_9,G⟩:=Af G
 refine Gt (rd:=[0,1]) (ps:=[0]) (gs:=[1]) false rfl (T6 hy_9) rfl rfl (.cons (.ptr rfl) .nil) ⟨_,_,_,rfl,.head _,⟨_,rfl,(by repeat' (first | exact H1.nil | apply H1.cons | exact Ag.val | exact Ag.sl | exact Ag.nils | exact Ag.ptr rfl | exact Ag.rowK rfl))⟩,⟨_,_,_,rfl,.tail _ (.head _),rfl,rfl⟩⟩ rfl (by intro h; cases h) rfl (by intro h; first | (cases h; done) | exact⟨_,_,⟨rfl,rfl⟩,by simp,by simp⟩) ?_
 rintro _ _ ⟨rfl,rfl⟩
 exact C6
instance bB7:Wk 42:=⟨_,@lM⟩
end Go.Proofs.YtboglmbblmakjaaGreatDoor
