import Derived.Test.YtboglmbblmakjaaGreatDoorT1
import Derived.Test.YtboglmbblmakjaaGreatDoorEU
import Derived.Test.YtboglmbblmakjaaGreatDoorA7
import Derived.Test.YtboglmbblmakjaaGreatDoorA8
import Derived.Test.YtboglmbblmakjaaGreatDoorA9
set_option linter.unusedVariables false
set_option linter.unusedSimpArgs false
set_option maxRecDepth 100000
set_option maxHeartbeats 40000000
namespace Go.Proofs.YtboglmbblmakjaaGreatDoor
open Go.RowKit
theorem Qk {s r} (G:Mv s=some r):Fn Tryz.prog 318 0 [.sl 3 (Ac Bd.enc s)] [] (fun d' b'=>d'=.val (.bool r)/\b'=[]):=by
 unfold Mv at G
 refine Ea 0 3 Tryz.func318 fun _ _ _=>?_
 exact C6
instance aYi:Wk 318:=⟨_,@Qk⟩
theorem Qh {s r} (G:It s=some r):Fn Tryz.prog 321 0 [.sl 3 (Ac Bd.enc s)] [] (fun d' b'=>d'=.val (.bool r)/\b'=[]):=by
 unfold It at G
 refine Ea 0 8 Tryz.func321 fun _ _ _=>?_
 exact C6
instance aZp:Wk 321:=⟨_,@Qh⟩
theorem aI {p i r} (G:Bv p i=some r):Fn Tryz.prog 30 0 [.agg [.sl 6 (Ac Al.enc p.Rules),.sl 2 (Ac Bk.enc p.Keeps)],.agg (Aq.dv i)] [] (fun d' b'=>d'=.tup [vk r.1,.val (.bool r.2.1),vk r.2.2]/\b'=[]):=by
 unfold Bv at G
 refine Fn.of Tryz.func30 rfl rfl rfl fun w0 I ρ0=>?_
 show Kb _ ⟨w0,I,ρ0,0,0,46,none⟩ _ _ _
 refine Mn 0 40 Gu fun B=>?_
 refine Q1 40 104 B ?_
 refine Il ?_
 obtain⟨y,hy,G⟩:=Af G
 refine P9 (@Uv _ _ _ hy) ?_
 refine Jp fun B=>?_
 refine Ar <| Ba (ι:=Cd×Bool) (fun ((k_1,x24_1):Cd×Bool)=>mk [(3,.ptr 0 0),(7,.imm (Cd.c k_1)),(8,vk y.2),(24,.val (.bool x24_1))] [(0,.box (Aq.dv i) 47)] 1) (fun ((k_1,x24_1):Cd×Bool)=>Bv.j1 i y k_1 x24_1=some r) ?_ ?_
 generalize y.1=k_ at G ⊢
 rcases k_ with _ | l | l_2
 dsimp only [Cd.elim] at G
 refine B7 (E4 _ _ []) 104 160 B rfl rfl ?_
 refine Il ?_
 rcases bc_ G with ⟨h3,G⟩ | ⟨h3,G⟩
 refine Jp fun B=>?_
 exact⟨(Cd.nil,true),G,B5 [(0,8)]⟩
 refine Il ?_
 cases G
 dsimp only [Cd.elim] at G
 refine B7 (E4 _ _ []) 104 160 B rfl rfl ?_
 refine Il ?_
 rcases bc_ G with ⟨h5,G⟩ | ⟨h5,G⟩
 refine Jp fun B=>?_
 exact⟨((Cd.c235 l),true),G,B5 [(0,8)]⟩
 refine Il ?_
 obtain⟨y_2,hy_2,G⟩:=Af G
 refine S3 (Mq rfl rfl h5) rfl (fun _ _=>by kernel_rfl) (@Qk l _ hy_2) rfl rfl ?_
 refine Jp fun B=>?_
 exact⟨((Cd.c235 l),!y_2),G,B5 [(0,8)]⟩
 dsimp only [Cd.elim] at G
 refine B7 (E4 _ _ []) 104 160 B rfl rfl ?_
 refine Il ?_
 rcases bc_ G with ⟨h8,G⟩ | ⟨h8,G⟩
 refine Jp fun B=>?_
 exact⟨((Cd.c236 l_2),true),G,B5 [(0,8)]⟩
 refine Il ?_
 obtain⟨y_3,hy_3,G⟩:=Af G
 refine S3 (Mq rfl rfl h8) rfl (fun _ _=>by kernel_rfl) (@Qh l_2 _ hy_3) rfl rfl ?_
 refine Jp fun B=>?_
 exact⟨((Cd.c236 l_2),!y_3),G,B5 [(0,8)]⟩
 rintro⟨k_1,x24_1⟩ G
 replace G:Bv.j1 i y k_1 x24_1=some r:=G
 show Kb _ _ _ _ (mk _ _ _)
 unfold Bv.j1 at G
 refine Ji rfl G (fun h11 G=>?_) fun h11 G=>?_
 refine Q1 1 33 Gu ?_
 exact t5_
 refine Ts ?_
 refine Mn 1 9 Gu fun B=>?_
 refine Ba (ι:=Int) (fun (last_3:Int)=>mk [(3,.ptr 0 0),(9,vk last_3)] [(0,.box (Aq.dv i) 47)] 1) (fun (last_3:Int)=>Bv.j3 i last_3=some r) ?_ ?_
 refine Ba (ι:=Int×Bool) (fun ((day_2,ok_2):Int×Bool)=>mk [(3,.ptr 0 0),(9,.val (.int .i64 40000)),(10,vk day_2),(11,.val (.bool ok_2))] [(0,.box (Aq.dv i) 47)] 1) (fun ((day_2,ok_2):Int×Bool)=>Bv.j2 i day_2 ok_2=some r) ?_ ?_
 generalize k_1=k_ at G ⊢
 rcases k_ with _ | l_3 | l_4
 dsimp only [Cd.elim] at G
 refine B7 (E4 _ _ []) 9 65 B rfl rfl ?_
 refine Il ?_
 cases G
 dsimp only [Cd.elim] at G
 refine B7 (E4 _ _ []) 9 65 B rfl rfl ?_
 refine Il ?_
 obtain⟨y_4,hy_4,G⟩:=Af G
 refine S3 rfl rfl (fun _ _=>by kernel_rfl) (@L9 l_3 _ hy_4) rfl rfl ?_
 refine Jp fun B=>?_
 exact⟨(y_4.1,y_4.2),G,B5 [(0,0)]⟩
 dsimp only [Cd.elim] at G
 refine B7 (E4 _ _ []) 9 65 B rfl rfl ?_
 refine Il ?_
 obtain⟨y_5,hy_5,G⟩:=Af G
 refine S3 rfl rfl (fun _ _=>by kernel_rfl) (@Mb l_4 _ hy_5) rfl rfl ?_
 refine Jp fun B=>?_
 exact⟨(y_5.1,y_5.2),G,B5 [(0,0)]⟩
 rintro⟨day_2,ok_2⟩ G
 replace G:Bv.j2 i day_2 ok_2=some r:=G
 show Kb _ _ _ _ (mk _ _ _)
 unfold Bv.j2 at G
 refine Mn 1 9 Gu fun B=>?_
 refine Ji rfl G (fun h17 G=>?_) fun h17 G=>?_
 refine B7 (E4 _ _ []) 9 33 B rfl rfl ?_
 refine Jp fun B=>?_
 exact⟨W (day_2 - 1),G,B5 [(0,0)]⟩
 refine Ts ?_
 exact⟨40000,G,B5 [(0,0)]⟩
 rintro last_3 G
 replace G:Bv.j3 i last_3=some r:=G
 show Kb _ _ _ _ (mk _ _ _)
 unfold Bv.j3 at G
 refine Ar <| Q1 1 89 Gu ?_
 refine Il ?_
 obtain⟨e,he,G⟩:=Af G
 refine Il ?_
 refine Ex rfl rfl (Ja aCr Z4 (by decide) (vV A1.enc_len (Cf he) (o:=2) (by decide) rfl)) rfl rfl ?_
 refine Ex rfl rfl (Eb Z4 (G3 A1.enc_len (Cf he) (o:=2) (c:=.int .i64 e.Day) rfl rfl)) rfl rfl ?_
 refine Jp fun B=>?_
 refine Ji rfl G (fun h20 G=>?_) fun h20 G=>?_
 refine Q1 89 113 B ?_
 exact t5_
 refine Ts ?_
 refine Mn 89 121 B fun B=>?_
 exact t3_
instance bBw:Wk 30:=⟨_,@aI⟩
theorem rI {p i r} (G:Rp p i=some r):Fn Tryz.prog 55 0 [.agg [.sl 6 (Ac Al.enc p.Rules),.sl 2 (Ac Bk.enc p.Keeps)],.agg (Aq.dv i)] [] (fun d' b'=>d'=.tup [.val (.bool r.1),vk r.2.1,.val (.bool r.2.2)]/\b'=[]):=by
 unfold Rp at G
 refine Ea 0 32 Tryz.func55 fun _ _ _=>?_
 exact C6
instance bBx:Wk 55:=⟨_,@rI⟩
theorem bE {s r} (G:Qt s=some r):Fn Tryz.prog 56 0 [.sl 1 (Ac eI s)] [] (fun d' b'=>d'=.sl 1 (Ac eI r)/\b'=[]):=by
 unfold Qt at G
 refine Ea 0 9 Tryz.func56 fun _ _ _=>?_
 refine Cb 2 fun B G=>?_
 refine Ex rfl rfl (aOi Hz R7) rfl rfl ?_
 exact C6
instance bDn:Wk 56:=⟨_,@bE⟩
theorem rO {e p renewable r} (G:Fr e p renewable=some r):Fn Tryz.prog 26 0 [.agg (Ak.dv e),.agg [.sl 6 (Ac Al.enc p.Rules),.sl 2 (Ac Bk.enc p.Keeps)],.val (.bool renewable)] [] (fun d' b'=>d'=.tup [.sl 1 (Ac eI r.1),vk r.2]/\b'=[]):=by
 unfold Fr at G
 refine Ea 0 49 Tryz.func26 fun _ _ _=>?_
 refine Qg (.l 5 (.e 5)) fun _ _ _ B G=>?_
 refine Ip (fun ((x24_1,out_1):Int×List Int)=>mk [(2,.val (.bool renewable)),(4,.ptr 0 0),(9,.row 1),(22,.sl 5 (Ac Aq.enc e.Items)),(23,.val (.int .i64 (e.Items.length:Int))),(24,vk x24_1)] [(0,.box [.sl 6 (Ac Al.enc p.Rules),.sl 2 (Ac Bk.enc p.Keeps)] 39),(1,.row 3 1 (Ac eI out_1))] 2) G (B5 [(0,8)]) ?_
 rintro⟨x24_1,out_1⟩ m1 o1 G hn1
 unfold Fr.l1 at G
 refine Q4 2 fun B G=>?_
 refine Ji rfl G (fun _ G=>?_) fun _ G=>?_
 refine Cb 1 fun B G=>?_
 refine Ba (ι:=List Int) (fun (out_3:List Int)=>mk [(2,.val (.bool renewable)),(4,.ptr 0 0),(9,.row 1),(22,.sl 5 (Ac Aq.enc e.Items)),(23,.val (.int .i64 (e.Items.length:Int))),(24,vk x24_1)] [(0,.box [.sl 6 (Ac Al.enc p.Rules),.sl 2 (Ac Bk.enc p.Keeps)] 39),(1,.row 3 1 (Ac eI out_3))] 2) (fun (out_3:List Int)=>Fr.j3 x24_1 out_3=some o1) ?_ ?_
 refine Cb 6 fun _ _ y_2 _ B G=>?_
 refine Ba (ι:=Bool) (fun (x41_2:Bool)=>mk [(2,.val (.bool renewable)),(4,.ptr 0 0),(9,.row 1),(10,vk x24_1),(22,.sl 5 (Ac Aq.enc e.Items)),(23,.val (.int .i64 (e.Items.length:Int))),(24,vk x24_1),(41,.val (.bool x41_2))] [(0,.box [.sl 6 (Ac Al.enc p.Rules),.sl 2 (Ac Bk.enc p.Keeps)] 39),(1,.row 3 1 (Ac eI out_1))] 2) (fun (x41_2:Bool)=>Fr.j2 x24_1 out_1 x41_2=some o1) ?_ ?_
 exact C6
 rintro x41_2 G
 unfold Fr.j2 at G
 refine E6 (.r 0 (.e 1)) fun _ B G=>?_
 refine Kv Hz z3 Pp ([x24_1]:List Int) eI ?_
 exact C6
 rintro out_3 G
 unfold Fr.j3 at G
 exact Ik
 refine Cb 1 fun B G=>?_
 refine Ar <| Gs (σ':=mk [(9,.sl 1 (Ac eI out_1))] [] 0) (B5 []) ?_
 exact C6
instance bBo:Wk 26:=⟨_,@rO⟩
theorem aAd {e p r} (G:S6 e p=some r):Fn Tryz.prog 9 0 [.agg (Ak.dv e),.agg [.sl 6 (Ac Al.enc p.Rules),.sl 2 (Ac Bk.enc p.Keeps)]] [] (fun d' b'=>d'=.tup [.sl 1 (Ac eI r.1),vk r.2]/\b'=[]):=by
 unfold S6 at G
 refine Ea 0 11 Tryz.func9 fun _ _ _=>?_
 exact C6
instance wk9:Wk 9:=⟨_,@aAd⟩
theorem fT {p i r} (G:M5 p i=some r):Fn Tryz.prog 27 0 [.agg [.sl 6 (Ac Al.enc p.Rules),.sl 2 (Ac Bk.enc p.Keeps)],.agg (Aq.dv i)] [] (fun d' b'=>d'=vk r/\b'=[]):=by
 unfold M5 at G
 refine Ea 0 13 Tryz.func27 fun _ _ _=>?_
 exact C6
instance bDs:Wk 27:=⟨_,@fT⟩
theorem R5 {u r} (G:Hd u=some r):Fn Tryz.prog 60 0 [.agg [vk u.Alg,vk u.Bits]] [] (fun d' b'=>d'=.val (.bool r)/\b'=[]):=by
 unfold Hd at G
 refine Ea 0 6 Tryz.func60 fun _ _ _=>?_
 exact C6
instance bBb:Wk 60:=⟨_,@R5⟩
theorem O0 {s:(List Ah)} {f:Ah->Option (Bool)} (hf_f:∀ (x0:Ah) (y:Bool),f x0=some y->Fn Tryz.prog 60 0 [.agg [vk x0.Alg,vk x0.Bits]] [] (fun d' b'=>d'=.val (.bool y)/\b'=[])) {r:Int} (G:Cy s f=some r):Fn Tryz.prog 107 0 [.sl 2 (Ac Ah.enc s),.clo 60 0 []] [] (fun d' b'=>d'=vk r/\b'=[]):=by
 unfold Cy at G
 refine Ea 0 19 Tryz.func107 fun _ _ _=>?_
 refine Cb 4 fun B G=>?_
 refine Ip (fun (x8_1:Int)=>mk [(0,.sl 2 (Ac Ah.enc s)),(1,.clo 60 0 []),(7,.val (.int .i64 (s.length:Int))),(8,vk x8_1)] [] 0) G (B5 []) ?_
 rintro x8_1 m1 o1 G hn1
 unfold Cy.l1 at G
 refine E6 (.r 2 (.e 7)) fun _ e _ B G=>?_
 obtain⟨y,hy,G⟩:=Af G
 refine F5 (rd:=[]) (ps:=[]) (gs:=[]) false rfl rfl (hf_f e _ hy) rfl rfl (.cons (.agg (.cons .val (.cons .val .nil))) .nil) rfl rfl (by intro h; cases h) rfl rfl rfl rfl ?_
 exact C6
theorem Nz {s:(List Ah)} {f:Ah->Option (Bool)} (hf_f:∀ (x0:Ah) (y:Bool),f x0=some y->Fn Tryz.prog 60 0 [.agg [vk x0.Alg,vk x0.Bits]] [] (fun d' b'=>d'=.val (.bool y)/\b'=[])) {r:Bool} (G:Hr s f=some r):Fn Tryz.prog 59 0 [.sl 2 (Ac Ah.enc s),.clo 60 0 []] [] (fun d' b'=>d'=.val (.bool r)/\b'=[]):=by
 unfold Hr at G
 refine Ea 0 9 Tryz.func59 fun _ _ _=>?_
 refine Cb 2 fun B G=>?_
 obtain⟨y,hy,G⟩:=Af G
 refine P9 (@O0 s f hf_f _ hy) ?_
 exact C6
theorem aW {uses r} (G:Jw uses=some r):Fn Tryz.prog 28 0 [.sl 2 (Ac Ah.enc uses)] [] (fun d' b'=>d'=.val (.bool r)/\b'=[]):=by
 unfold Jw at G
 refine Ea 0 5 Tryz.func28 fun _ _ _=>?_
 refine Cb 2 fun B G=>?_
 obtain⟨y,hy,G⟩:=Af G
 refine P9 (@Nz uses (fun x0=>Hd x0) (fun x0 yy hh=>@R5 x0 yy hh) _ hy) ?_
 exact C6
instance bCz:Wk 28:=⟨_,@aW⟩
theorem fH {p i r} (G:Jy p i=some r):Fn Tryz.prog 29 0 [.agg [.sl 6 (Ac Al.enc p.Rules),.sl 2 (Ac Bk.enc p.Keeps)],.agg (Aq.dv i)] [] (fun d' b'=>d'=vk r/\b'=[]):=by
 unfold Jy at G
 refine Ea 0 19 Tryz.func29 fun _ _ _=>?_
 exact C6
instance bC1:Wk 29:=⟨_,@fH⟩
theorem fQ {p u purpose r} (G:M4 p u purpose=some r):Fn Tryz.prog 63 0 [.agg [.sl 6 (Ac Al.enc p.Rules),.sl 2 (Ac Bk.enc p.Keeps)],.agg [vk u.Alg,vk u.Bits],vk purpose] [] (fun d' b'=>d'=.tup [.sl 2 (Ac Bh.enc r.1),vk r.2]/\b'=[]):=by
 unfold M4 at G
 refine Ea 0 20 Tryz.func63 fun _ _ _=>?_
 exact C6
instance bB2:Wk 63:=⟨_,@fQ⟩
theorem Tg {i c0 c1 r} (G:Gb i c0 c1=some r):Fn Tryz.prog 111 0 [vk i,.elt (([.sl 2 (Ac Bh.enc c0)]:List C).drop 0),.elt (([.int .i64 c1]:List C).drop 0)] [] (fun d' b'=>d'=.val (.bool r)/\b'=[]):=by
 unfold Gb at G
 refine Ea 0 12 Tryz.func111 fun _ _ _=>?_
 refine Cb 1 fun B G=>?_
 refine Ar <| Ca (E4 _ _ []) (by kernel_rfl) [0,0,3,7,15,0,63,127] 8 72 B rfl rfl (by kernel_rfl) ?_
 refine Ex rfl rfl (Eb qS (c:=.sl 2 (Ac Bh.enc c0)) rfl) rfl rfl ?_
 refine Cb 3 fun _ _ B G=>?_
 refine Ex rfl rfl (Eb Z4 (c:=.int .i64 c1) rfl) rfl rfl ?_
 exact C6
instance aXk:Wk 111:=⟨_,@Tg⟩
theorem On {n:Int} {f:Int->Option (Bool)} {f_c0:(List Bh)} {f_c1:Int} (hf_f:∀ (x0:Int) (y:Bool),f x0=some y->Fn Tryz.prog 111 0 [vk x0,.elt (([.sl 2 (Ac Bh.enc f_c0)]:List C).drop 0),.elt (([.int .i64 f_c1]:List C).drop 0)] [] (fun d' b'=>d'=.val (.bool y)/\b'=[])) {r:Int} (G:Fj n f=some r):Fn Tryz.prog 110 0 [vk n,.clo 111 0 [.elt (([.sl 2 (Ac Bh.enc f_c0)]:List C).drop 0),.elt (([.int .i64 f_c1]:List C).drop 0)]] [] (fun d' b'=>d'=vk r/\b'=[]):=by
 unfold Fj at G
 refine Ea 0 26 Tryz.func110 fun _ _ _=>?_
 refine Cb 4 fun B G=>?_
 refine Ip (fun ((i_1,j_1):Int×Int)=>mk [(1,.clo 111 0 [.elt (([.sl 2 (Ac Bh.enc f_c0)]:List C).drop 0),.elt (([.int .i64 f_c1]:List C).drop 0)]),(5,vk i_1),(6,vk j_1)] [] 0) G (B5 []) ?_
 rintro⟨i_1,j_1⟩ m1 o1 G hn1
 unfold Fj.l1 at G
 refine E6 (.r 2 (.e 7)) fun _ q _ B G=>?_
 obtain⟨y,hy,G⟩:=Af G
 refine F5 (rd:=[]) (ps:=[]) (gs:=[]) false rfl rfl (hf_f (W q) _ hy) rfl rfl (.cons .val (.cons .elt (.cons .elt .nil))) rfl rfl (by intro h; cases h) rfl rfl rfl rfl ?_
 exact C6
theorem fV {l from' to r} (G:Nf l from' to=some r):Fn Tryz.prog 64 0 [.sl 2 (Ac Bh.enc l),vk from',vk to] [] (fun d' b'=>d'=.tup [vk r.1,.val (.bool r.2)]/\b'=[]):=by
 unfold Nf at G
 refine Ea 0 29 Tryz.func64 fun _ _ _=>?_
 refine Cb 1 fun B G=>?_
 refine Ar <| Gs (σ':=mk [(2,vk to),(3,.elt (([.sl 2 (Ac Bh.enc l)]:List C).drop 0)),(4,.elt (([.int .i64 from']:List C).drop 0))] [] 0) ((by exact Rs.lists [] rfl rfl ⟨⟨_,rfl,.val _⟩,⟨_,rfl,.frzb (ks:=[some 2]) rfl (.cons .sl .nil) (H3 rfl)⟩,⟨_,rfl,.frzb (ks:=[none]) rfl (.cons .int .nil) (H3 rfl)⟩,trivial⟩ trivial)) ?_
 refine Cb 1 fun B G=>?_
 refine Ex rfl rfl (Eb qS (c:=.sl 2 (Ac Bh.enc l)) rfl) rfl rfl ?_
 refine Cb 0 fun B G=>?_
 obtain⟨y,hy,G⟩:=Af G
 refine P9 (@On (l.length:Int) (fun x0=>Gb x0 l from') l from' (fun x0 yy hh=>@Tg x0 l from' yy hh) _ hy) ?_
 refine Cb 2 fun B G=>?_
 refine Ex rfl rfl (Eb qS (c:=.sl 2 (Ac Bh.enc l)) rfl) rfl rfl ?_
 refine Qg (.l 0 (.e 1)) fun _ B G=>?_
 refine Ar <| Ca (E4 _ _ []) (by kernel_rfl) [0,0,0,6,14,30,63,127] 72 136 B rfl rfl (by kernel_rfl) ?_
 refine Ex rfl rfl (Eb Z4 (c:=.int .i64 from') rfl) rfl rfl ?_
 refine Ex rfl rfl (Eb qS (c:=.sl 2 (Ac Bh.enc l)) rfl) rfl rfl ?_
 exact C6
instance bCh:Wk 64:=⟨_,@fV⟩
theorem kT {p uses purpose from' to r} (G:B2 p uses purpose from' to=some r):Fn Tryz.prog 31 0 [.agg [.sl 6 (Ac Al.enc p.Rules),.sl 2 (Ac Bk.enc p.Keeps)],.sl 2 (Ac Ah.enc uses),vk purpose,vk from',vk to] [] (fun d' b'=>d'=.tup [.agg (A1.dv r.1),.val (.bool r.2)]/\b'=[]):=by
 unfold B2 at G
 refine Ea 0 81 Tryz.func31 fun _ _ _=>?_
 refine Cb 6 fun B G=>?_
 refine Ip (fun ((found_1,last_1,x26_1,out_1):Bool×Int×Int×A1)=>mk [(2,vk purpose),(3,vk from'),(4,vk to),(5,.ptr 0 0),(10,.ptr 1 0),(12,.ptr 2 0),(13,.val (.bool found_1)),(14,vk last_1),(24,.sl 2 (Ac Ah.enc uses)),(25,.val (.int .i64 (uses.length:Int))),(26,vk x26_1)] [(0,.box [.sl 6 (Ac Al.enc p.Rules),.sl 2 (Ac Bk.enc p.Keeps)] 39),(1,.box [.val (.int .i64 0),.val (.int .i64 0),.val (.int .i64 0)] 52),(2,.box (A1.dv out_1) 52)] 3) G (B5 [(0,0),(1,8),(2,24)]) ?_
 rintro⟨found_1,last_1,x26_1,out_1⟩ m1 o1 G hn1
 unfold B2.l1 at G
 refine E6 (.r 2 (.e 1)) fun _ B G=>?_
 refine Ba (ι:=Bool×Int×A1) (fun ((found_4,last_4,out_4):Bool×Int×A1)=>mk [(2,vk purpose),(3,vk from'),(4,vk to),(5,.ptr 0 0),(10,.ptr 1 0),(12,.ptr 2 0),(13,.val (.bool found_4)),(14,vk last_4),(24,.sl 2 (Ac Ah.enc uses)),(25,.val (.int .i64 (uses.length:Int))),(26,vk x26_1)] [(0,.box [.sl 6 (Ac Al.enc p.Rules),.sl 2 (Ac Bk.enc p.Keeps)] 39),(1,.box [.val (.int .i64 0),.val (.int .i64 0),.val (.int .i64 0)] 52),(2,.box (A1.dv out_4) 52)] 3) (fun ((found_4,last_4,out_4):Bool×Int×A1)=>B2.j4 x26_1 found_4 last_4 out_4=some o1) ?_ ?_
 refine Qg (.l 10 (.e 3)) fun e _ _ _ y_2 _ _ y_3 _ B G=>?_
 refine Ba (ι:=Int) (fun (fall_2:Int)=>mk [(2,vk purpose),(3,vk from'),(4,vk to),(5,.ptr 0 0),(10,.ptr 1 0),(12,.ptr 2 0),(13,.val (.bool found_1)),(14,vk last_1),(16,.ptr 3 0),(19,vk y_2.1),(21,vk fall_2),(24,.sl 2 (Ac Ah.enc uses)),(25,.val (.int .i64 (uses.length:Int))),(26,vk x26_1)] [(0,.box [.sl 6 (Ac Al.enc p.Rules),.sl 2 (Ac Bk.enc p.Keeps)] 39),(1,.box [.val (.int .i64 0),.val (.int .i64 0),.val (.int .i64 0)] 52),(2,.box (A1.dv out_1) 52),(3,.box [vk e.Alg,vk e.Bits] 49)] 4) (fun (fall_2:Int)=>B2.j2 found_1 last_1 x26_1 out_1 e y_2 fall_2=some o1) ?_ ?_
 exact C6
 rintro fall_2 G
 unfold B2.j2 at G
 try dsimp only at G
 refine X5 rfl ?_
 refine Ba (ι:=Bool) (fun (x73_3:Bool)=>mk [(2,vk purpose),(3,vk from'),(4,vk to),(5,.ptr 0 0),(10,.ptr 1 0),(12,.ptr 2 0),(13,.val (.bool found_1)),(14,vk last_1),(16,.ptr 3 0),(19,vk y_2.1),(21,vk fall_2),(24,.sl 2 (Ac Ah.enc uses)),(25,.val (.int .i64 (uses.length:Int))),(26,vk x26_1),(73,.val (.bool x73_3))] [(0,.box [.sl 6 (Ac Al.enc p.Rules),.sl 2 (Ac Bk.enc p.Keeps)] 39),(1,.box [.val (.int .i64 0),.val (.int .i64 0),.val (.int .i64 0)] 52),(2,.box (A1.dv out_1) 52),(3,.box [vk e.Alg,vk e.Bits] 49)] 4) (fun (x73_3:Bool)=>B2.j3 found_1 last_1 x26_1 out_1 e y_2 fall_2 x73_3=some o1) ?_ ?_
 exact C6
 rintro x73_3 G
 unfold B2.j3 at G
 refine E6 (.r 0 (.e 1)) fun _ B G=>?_
 refine Ox tE aMh z52 ?_
 exact C6
 rintro⟨found_4,last_4,out_4⟩ G
 unfold B2.j4 at G
 exact Ik
instance bCa:Wk 31:=⟨_,@kT⟩
theorem Kh {s r} (G:D4 s=some r):Fn Tryz.prog 66 0 [.sl 3 (Ac A1.enc s)] [] (fun d' b'=>d'=.row 0/\b'=[.row 52 3 (Ac A1.enc r)]):=by
 unfold D4 at G
 refine Ea 0 8 Tryz.func66 fun _ _ _=>?_
 refine Cb 1 fun B G=>?_
 refine Ar <| Ba (ι:=Bool) (fun (x4_1:Bool)=>mk [(0,.sl 3 (Ac A1.enc s)),(4,.val (.bool x4_1))] [] 0) (fun (x4_1:Bool)=>D4.j1 s x4_1=some r) ?_ ?_
 refine Cb 1 fun B G=>?_
 refine Yk rfl rfl ⟨_,aKx⟩ rfl ?_
 intro bz hz2
 rcases bz with _ | _
 replace G:=cR G
 exact C6
 replace G:=eC ((Rj A1.enc_len (by decide) (hz2 rfl))) G
 exact C6
 rintro x4_1 G
 unfold D4.j1 at G
 refine E6 (.l 0 (.e 2)) fun _ B G=>?_
 refine Ex rfl rfl (Fm wG z52 (by decide) rfl rfl rfl rfl yQ (cs:=[]) .nil rfl (l:=([]:List A1)) (f:=A1.enc) rfl) rfl rfl ?_
 exact C6
instance bBq:Wk 66:=⟨_,@Kh⟩
theorem fO {i l r} (G:K7 i l=some r):Fn Tryz.prog 32 0 [.agg (Aq.dv i),.sl 3 (Ac A1.enc l)] [] (fun d' b'=>d'=.agg (Aq.dv r)/\b'=[]):=by
 unfold K7 at G
 refine Ea 0 12 Tryz.func32 fun _ _ _=>?_
 refine Cb 2 fun B G=>?_
 obtain⟨y,hy,G⟩:=Af G
 refine Gt (rd:=[]) (ps:=[]) (gs:=[]) false rfl (Kh hy) rfl rfl (.cons .sl .nil) rfl rfl (by intro h; cases h) rfl (by intro h; first | (cases h; done) | exact⟨_,_,⟨rfl,rfl⟩,by simp,by simp⟩) ?_
 rintro _ _ ⟨rfl,rfl⟩
 exact C6
instance bBn:Wk 32:=⟨_,@fO⟩
theorem Zq {p i uses from' r} (G:Df p i uses from'=some r):Fn Tryz.prog 10 0 [.agg [.sl 6 (Ac Al.enc p.Rules),.sl 2 (Ac Bk.enc p.Keeps)],.agg (Aq.dv i),.sl 2 (Ac Ah.enc uses),vk from'] [] (fun d' b'=>d'=.tup [.sl 3 (Ac A1.enc r.1),vk r.2]/\b'=[]):=by
 unfold Df at G
 refine Ea 0 92 Tryz.func10 fun _ _ _=>?_
 refine Qg (.l 5 (.l 5 (.e 0))) fun _ _ _ _ _ _ B G=>?_
 refine Ba (ι:=Bool) (fun (x26_1:Bool)=>mk [(2,.sl 2 (Ac Ah.enc uses)),(3,vk from'),(4,.ptr 0 0),(5,.ptr 1 0),(26,.val (.bool x26_1))] [(0,.box [.sl 6 (Ac Al.enc p.Rules),.sl 2 (Ac Bk.enc p.Keeps)] 39),(1,.box (Aq.dv i) 47)] 2) (fun (x26_1:Bool)=>Df.j1 p i uses from' x26_1=some r) ?_ ?_
 exact C6
 rintro x26_1 G
 unfold Df.j1 at G
 refine E6 (.l 0 (.e 4)) fun _ B G=>?_
 refine Ip (fun ((i_2,out_2):Aq×List A1)=>mk [(2,.sl 2 (Ac Ah.enc uses)),(3,vk from'),(4,.ptr 0 0),(5,.ptr 1 0),(11,.row 2)] [(0,.box [.sl 6 (Ac Al.enc p.Rules),.sl 2 (Ac Bk.enc p.Keeps)] 39),(1,.box (Aq.dv i_2) 47),(2,.row 52 3 (Ac A1.enc out_2))] 3) G (B5 [(0,0),(1,1)]) ?_
 rintro⟨i_2,out_2⟩ m2 o2 G hn2
 unfold Df.l2 at G
 try dsimp only at G
 refine X5 rfl ?_
 refine Ar <| Ar <| Ca (E4 _ _ []) (by kernel_rfl) [0,0,3,0,8,31] 3 51 Gu rfl rfl (by kernel_rfl) ?_
 refine Qg (.r 1 (.l 6 (.e 1))) fun _ _ _ _ _ _ B G=>?_
 refine Ar <| Ca (E4 _ _ []) (by kernel_rfl) [0,0,0,4,0,0,32,0,128,384,896,2016,4064,8160,16352,32752,0,131071,262143,524287,524287,0,3145727,8388607] 147 339 B rfl rfl (by kernel_rfl) ?_
 refine Qg (.l 7 (.l 3 (.e 1))) fun _ _ y_5 _ _ _ B G=>?_
 refine Ar <| B7 (E4 _ _ [403]) 387 435 B rfl rfl ?_
 refine Cb 0 fun B G=>?_
 refine wP wG z52 yQ ([y_5.1]:List A1) A1.enc ?_
 refine Cb 1 fun y_6 _ B G=>?_
 refine Ar <| Ar <| Ca (E4 _ _ []) (by kernel_rfl) [0,0,3,0,0,31,63] 435 491 B rfl rfl (by kernel_rfl) ?_
 refine Qg (.l 2 (.e 1)) fun _ _ _ _ _ B G=>?_
 refine Ca (E4 _ _ []) (by kernel_rfl) [0,0,0,4,14,31,63] 491 547 B rfl rfl (by kernel_rfl) ?_
 refine Cb 0 fun B G=>?_
 refine Kv wG z52 yQ ([y_5.1]:List A1) A1.enc ?_
 exact C6
instance bB1:Wk 10:=⟨_,@Zq⟩
theorem dA {p i u day r} (G:F7 p i u day=some r):Fn Tryz.prog 34 0 [.agg [.sl 6 (Ac Al.enc p.Rules),.sl 2 (Ac Bk.enc p.Keeps)],.agg (Aq.dv i),.agg [vk u.Alg,vk u.Bits],vk day] [] (fun d' b'=>d'=.tup [.agg (Aq.dv r.1),vk r.2]/\b'=[]):=by
 unfold F7 at G
 refine Ea 0 61 Tryz.func34 fun _ _ _=>?_
 refine Cb 6 fun _ _ B G=>?_
 refine Ji rfl G (fun _ G=>?_) fun _ G=>?_
 refine Cb 1 fun B G=>?_
 refine Ox Y8 aE1 z47 ?_
 exact C6
 refine Cb 2 fun _ _ B G=>?_
 refine Ji rfl G (fun _ G=>?_) fun _ G=>?_
 refine Cb 1 fun B G=>?_
 refine Ox Y8 aE1 z47 ?_
 exact C6
 refine Ba (ι:=Bool) (fun (x28_1:Bool)=>mk [(3,vk day),(5,.ptr 0 0),(6,.ptr 1 0),(8,.ptr 2 0),(28,.val (.bool x28_1))] [(0,.box (Aq.dv i) 47),(1,.box [vk u.Alg,vk u.Bits] 49),(2,.box [.val (.string (⟨#[]⟩:ByteArray)),.val (.int .i64 0),.val (.int .i64 0),.val (.slice none 0 0),.val (.int .i64 0)] 47)] 3) (fun (x28_1:Bool)=>F7.j1 i u day x28_1=some r) ?_ ?_
 exact C6
 rintro x28_1 G
 unfold F7.j1 at G
 try dsimp only at G
 refine X5 rfl ?_
 refine Ji rfl G (fun _ G=>?_) fun _ G=>?_
 refine Cb 1 fun B G=>?_
 refine Ox Y8 aE1 z47 ?_
 exact C6
 refine Cb 1 fun B G=>?_
 refine Ji rfl G (fun _ G=>?_) fun _ G=>?_
 refine Cb 1 fun B G=>?_
 refine Ox Y8 aE1 z47 ?_
 exact C6
 refine Cb 1 fun B G=>?_
 refine Ar <| Ca (E4 _ _ []) (by kernel_rfl) [0,1,3,0,0,24,56,127,255,511] 43 123 B rfl rfl (by kernel_rfl) ?_
 refine Cb 0 fun B G=>?_
 obtain⟨y_3,hy_3,G⟩:=Af G
 refine Gt (rd:=[]) (ps:=[]) (gs:=[]) false rfl (Kh hy_3) rfl rfl (.cons .sl .nil) rfl rfl (by intro h; cases h) rfl (by intro h; first | (cases h; done) | exact⟨_,_,⟨rfl,rfl⟩,by simp,by simp⟩) ?_
 rintro _ _ ⟨rfl,rfl⟩
 refine Cb 0 fun B G=>?_
 refine Ox tE aMh z52 ?_
 refine Kv wG z52 yQ ([(A1.mk u day)]:List A1) A1.enc ?_
 exact C6
instance bBu:Wk 34:=⟨_,@dA⟩
end Go.Proofs.YtboglmbblmakjaaGreatDoor
