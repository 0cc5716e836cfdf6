import Derived.Test.YtboglmbblmakjaaGreatDoorT1
import Derived.Test.YtboglmbblmakjaaGreatDoorEU
import Derived.Test.YtboglmbblmakjaaGreatDoorA1
import Derived.Test.YtboglmbblmakjaaGreatDoorA7
import Derived.Test.YtboglmbblmakjaaGreatDoorA8
set_option linter.unusedVariables false
set_option linter.unusedSimpArgs false
set_option maxRecDepth 100000
set_option maxHeartbeats 40000000
namespace Go.Proofs.YtboglmbblmakjaaGreatDoor
open Go.RowKit
theorem bK {x' r} (G:Jt x'=some r):Fn Tryz.prog 210 1 [.row 0] [.row 3 1 (Ac eI x')] (fun d' b'=>d'=.tup []/\b'=[.row 3 1 (Ac eI r)]):=by
 unfold Jt at G
 refine Ea 1 11 Tryz.func210 fun _ _ _=>?_
 exact C6
instance aZo:Wk 210:=⟨_,@bK⟩
theorem O9 {s r} (G:Cl s=some r):Fn Tryz.prog 211 0 [.row 0] [.row 3 1 (Ac eI s)] (fun d' b'=>d'=.row 0/\b'=[.row 3 1 (Ac eI r)]):=by
 unfold Cl at G
 refine Ea 1 61 Tryz.func211 fun _ _ _=>?_
 refine Qg (.l 3 (.e 4)) fun _ B G=>?_
 refine Ip (fun (k_1:Int)=>mk [(0,.row 0),(3,vk k_1)] [(0,.row 3 1 (Ac eI s))] 1) G (B5 [(0,0)]) ?_
 rintro k_1 m1 o1 G hn1
 unfold Cl.l1 at G
 refine E6 (.r 2 (.e 3)) fun _ B G=>?_
 refine Ar <| Ca (E4 _ _ []) (by kernel_rfl) [0,0,3,7,0,0,32,112,240,511] 33 113 B rfl rfl (by kernel_rfl) ?_
 refine Qg (.r 4 (.e 5)) fun _ _ _ _ _ _ _ B G=>?_
 refine Ip (fun ((k_2,k2_2,s_2):Int×Int×List Int)=>mk [(0,.row 0),(3,vk k_2),(4,.part 0 (((k_1:Int).toNat) * 1) (((s.length:Int):Int).toNat - (k_1:Int).toNat)),(5,vk k2_2)] [(0,.row 3 1 (Ac eI s_2))] 1) G (B5 [(0,0)]) ?_
 rintro⟨k_2,k2_2,s_2⟩ m2 o2 G hn2
 unfold Cl.l2 at G
 refine Q4 2 fun B G=>?_
 refine Ex rfl rfl (.len Hz.elem .part) rfl rfl ?_
 refine Cb 0 fun B G=>?_
 refine Ji rfl G (fun _ G=>?_) fun _ G=>?_
 refine Cb 1 fun B G=>?_
 refine Ba (ι:=Int×List Int) (fun ((k_3,s_3):Int×List Int)=>mk [(0,.row 0),(3,vk k_3),(4,.part 0 (((k_1:Int).toNat) * 1) (((s.length:Int):Int).toNat - (k_1:Int).toNat)),(5,vk k2_2)] [(0,.row 3 1 (Ac eI s_3))] 1) (fun ((k_3,s_3):Int×List Int)=>Cl.j3 k2_2 k_3 s_3=some o2) ?_ ?_
 refine Cb 1 fun B G=>?_
 refine Ar <| Ca (E4 _ _ []) (by kernel_rfl) [0,0,3,7,0,0,32,112,240,511] 33 113 B rfl rfl (by kernel_rfl) ?_
 refine Cb 0 fun B G=>?_
 obtain⟨e_3,he_3,G⟩:=Af G
 refine Lk (rd:=[0]) rfl rfl (nW Hz (L0 he_3) (Cf he_3)) rfl rfl ?_
 refine Lk (rd:=[0]) rfl rfl (.loadR1 Z4 (G3 R7 (gN (a:=(k_1:Int).toNat) (Cf he_3)) (o:=0) (c:=.int .i64 e_3) rfl rfl)) rfl rfl ?_
 refine Cb 0 fun B G=>?_
 obtain⟨e_4,he_4,G⟩:=Af G
 refine Lk (rd:=[0]) rfl rfl (nW Hz (L0 he_4) (Cf he_4)) rfl rfl ?_
 refine Lk (rd:=[0]) rfl rfl (.loadR1 Z4 (G3 R7 (gN (a:=(k_1:Int).toNat) (Cf he_4)) (o:=0) (c:=.int .i64 e_4) rfl rfl)) rfl rfl ?_
 refine Qg (.r 0 (.e 1)) fun _ B G=>?_
 refine Lk (rd:=[0]) rfl rfl (nW Hz (L0 he_3) (Cf he_3)) rfl rfl ?_
 refine Lk (rd:=[0]) rfl rfl (.loadR1 Z4 (G3 R7 (gN (a:=(k_1:Int).toNat) (Cf he_3)) (o:=0) (c:=.int .i64 e_3) rfl rfl)) rfl rfl ?_
 refine Cb 1 fun _ he_5 B G=>?_
 refine sR_ Pp he_5 (x':=e_3) ?_
 exact C6
 rintro⟨k_3,s_3⟩ G
 unfold Cl.j3 at G
 exact Ik
 refine Cb 3 fun _ _ B G=>?_
 obtain⟨l_3,hl_3,G⟩:=Af G
 refine Zc (rd:=[0]) rfl rfl (aI1 (f:=eI) (a:=(k_2:Int).toNat) (m:=(((s_2.length:Int):Int).toNat - (k_2:Int).toNat)) (z0:=0) Hz R7 (aRc (ck:=[none]) z3 (.cons .int .nil)) (.head _) hl_3) rfl rfl (fun _=>⟨_,rfl⟩) ?_
 rintro _ rfl
 refine Cb 2 fun _ hl_4 B G=>?_
 refine Gs (σ':=mk [(2,.part 0 (((0:Int).toNat) * 1) ((k_2:Int).toNat - (0:Int).toNat))] [(0,.row 3 1 (Ac eI l_3))] 1) (B5 [(0,0)]) ?_
 refine Gs (σ':=mk [(2,.row 0)] [(0,.row 3 1 (Ac eI (l_3.take ((k_2:Int).toNat - (0:Int).toNat))))] 1) (aVa 2 0 R7 (aRp (Nat.le_add_left _ _) (aP3 hl_4)) rfl rfl rfl rfl) ?_
 exact C6
instance aZl:Wk 211:=⟨_,@O9⟩
theorem Tp {p r} (G:Jj p=some r):Fn Tryz.prog 166 0 [.agg [.sl 6 (Ac Al.enc p.Rules),.sl 2 (Ac Bk.enc p.Keeps)]] [] (fun d' b'=>d'=.row 0/\b'=[.row 3 1 (Ac eI r)]):=by
 unfold Jj at G
 refine Ea 0 29 Tryz.func166 fun _ _ _=>?_
 refine Cb 2 fun B G=>?_
 refine Kv Hz z3 Pp ([0]:List Int) eI ?_
 refine Cb 3 fun B G=>?_
 refine Ip (fun ((x10_1,out_1):Int×List Int)=>mk [(3,.row 0),(8,.sl 6 (Ac Al.enc p.Rules)),(9,.val (.int .i64 (p.Rules.length:Int))),(10,vk x10_1)] [(0,.row 3 1 (Ac eI out_1))] 1) G (B5 [(0,16)]) ?_
 rintro⟨x10_1,out_1⟩ m1 o1 G hn1
 unfold Jj.l1 at G
 refine Q4 2 fun B G=>?_
 refine Ji rfl G (fun _ G=>?_) fun _ G=>?_
 refine Cb 7 fun e _ B G=>?_
 refine Kv Hz z3 Pp ([e.From,e.To]:List Int) eI ?_
 exact C6
 refine Cb 2 fun B G=>?_
 refine Kv Hz z3 Pp ([40001]:List Int) eI ?_
 refine Cb 4 fun _ _ _ _ B G=>?_
 obtain⟨y_2,hy_2,G⟩:=Af G
 refine Gt (rd:=[25]) (ps:=[]) (gs:=[25]) false rfl (O9 hy_2) rfl rfl (.cons (.rowK rfl) .nil) ⟨_,_,_,rfl,.head _,rfl,rfl⟩ rfl (by intro h; cases h) rfl (by intro h; first | (cases h; done) | exact⟨_,_,⟨rfl,rfl⟩,by simp,by simp⟩) ?_
 rintro _ _ ⟨rfl,rfl⟩
 exact C6
instance bAc:Wk 166:=⟨_,@Tp⟩
theorem N5 {s r} (G:Ix s=some r):Fn Tryz.prog 112 0 [.sl 6 (Ac Al.enc s)] [] (fun d' b'=>d'=.clo 167 0 [.elt (([.sl 6 (Ac Al.enc r)]:List C).drop 0)]/\b'=[]):=by
 unfold Ix at G
 refine Ea 0 4 Tryz.func112 fun _ _ _=>?_
 refine Cb 1 fun B G=>?_
 refine Ar <| Gs (σ':=mk [(1,.elt (([.sl 6 (Ac Al.enc s)]:List C).drop 0))] [] 0) ((by exact Rs.lists [] rfl rfl ⟨⟨_,rfl,.frzb (ks:=[some 6]) rfl (.cons .sl .nil) (H3 rfl)⟩,trivial⟩ trivial)) ?_
 exact C6
instance aYl:Wk 112:=⟨_,@N5⟩
theorem Ti {r' u purpose r} (G:Eo r' u purpose=some r):Fn Tryz.prog 113 0 [.agg (Al.dv r'),.agg [vk u.Alg,vk u.Bits],vk purpose] [] (fun d' b'=>d'=.val (.bool r)/\b'=[]):=by
 unfold Eo at G
 refine Ea 0 43 Tryz.func113 fun _ _ _=>?_
 refine Cb 1 fun B G=>?_
 refine Ar <| Ba (ι:=Bool) (fun (x27_1:Bool)=>mk [(3,.ptr 0 0),(4,.ptr 1 0),(27,.val (.bool x27_1))] [(0,.box (Al.dv r') 35),(1,.box [vk u.Alg,vk u.Bits] 49)] 2) (fun (x27_1:Bool)=>Eo.j1 r' u x27_1=some r) ?_ ?_
 exact C6
 rintro x27_1 G
 unfold Eo.j1 at G
 exact Ik
instance aZn:Wk 113:=⟨_,@Ti⟩
theorem L4 {u:Ah} {purpose:Int} {day:Int} {yield':Int->Al->(Nat×Int)->Option (Bool×(Nat×Int))} {c0:(List Al)} {q:(Nat×Int)} {r:(Nat×Int)} (G:A7 yield' c0 q=some r) {rc:Loop} (hR:∀ (x0:Int) (x1:Al) (q':Nat×Int) (y':Bool×(Nat×Int)),yield' x0 x1 q'=some y'->Rnd Tryz.prog [5,6,7,8] [.ptr 0 0,.ptr 1 0,.ptr 2 0,.ptr 3 0] 33 (Oi rc 0) 4 5 [vk x0,.agg (Al.dv x1)] [.box [vk u.Alg,vk u.Bits] 49,.box [vk purpose] 3,.box [vk day] 3,.box [vk q'.2] 3,.lop [5,6,7,8] [.ptr 0 0,.ptr 1 0,.ptr 2 0,.ptr 3 0] 33 (Oi rc q'.1)] (fun b1 b2=>b1=y'.1/\b2=[.box [vk u.Alg,vk u.Bits] 49,.box [vk purpose] 3,.box [vk day] 3,.box [vk y'.2.2] 3,.lop [5,6,7,8] [.ptr 0 0,.ptr 1 0,.ptr 2 0,.ptr 3 0] 33 (Oi rc y'.2.1)])):Itr Tryz.prog 167 4 5 [.elt (([.sl 6 (Ac Al.enc c0)]:List C).drop 0)] [.box [vk u.Alg,vk u.Bits] 49,.box [vk purpose] 3,.box [vk day] 3,.box [vk q.2] 3,.lop [5,6,7,8] [.ptr 0 0,.ptr 1 0,.ptr 2 0,.ptr 3 0] 33 (Oi rc q.1)] (fun b'=>b'=[.box [vk u.Alg,vk u.Bits] 49,.box [vk purpose] 3,.box [vk day] 3,.box [vk r.2] 3,.lop [5,6,7,8] [.ptr 0 0,.ptr 1 0,.ptr 2 0,.ptr 3 0] 33 (Oi rc r.1)]):=by
 unfold A7 at G
 refine Itr.of Tryz.func167 rfl rfl rfl rfl fun w0 I ρ0 l hl=>?_
 show Kb _ ⟨w0,I,ρ0,5,5,19,none⟩ _ _ _
 refine Q1 5 37 Gu ?_
 refine Ex rfl rfl (Eb aMx (c:=.sl 6 (Ac Al.enc c0)) rfl) rfl rfl ?_
 refine Jp fun B=>?_
 refine Da <| Ip (fun ((i_1,q_1):Int×(Nat×Int))=>mk [(0,.val (.func (.yield l) #[] #[])),(1,.elt (([.sl 6 (Ac Al.enc c0)]:List C).drop 0)),(3,vk i_1)] [(0,.box [vk u.Alg,vk u.Bits] 49),(1,.box [vk purpose] 3),(2,.box [vk day] 3),(3,.box [vk q_1.2] 3),(4,.lop [5,6,7,8] [.ptr 0 0,.ptr 1 0,.ptr 2 0,.ptr 3 0] 33 (Oi rc q_1.1))] 5) G (B5 [(0,0),(1,1),(2,2),(3,3),(4,4)]) ?_
 rintro⟨i_1,q_1⟩ m1 o1 G hn1
 replace G:A7.l1 yield' c0 i_1 q_1=some o1:=G
 show Kb _ _ _ _ (mk _ _ _)
 unfold A7.l1 at G
 refine Ar <| Mn 5 21 Gu fun B=>?_
 refine Ji rfl G (fun h3 G=>?_) fun h3 G=>?_
 refine Ts ?_
 refine Ar <| Da <| Ar <| T9 ?_
 refine P5.chain (E4 _ _ []) 6 21 69 B rfl rfl ?_
 show Chain _ _ _ _ (Ft 0 [_,_,_,_,_,_]) _ _ _
 refine Il ?_
 refine Ex rfl rfl (Eb aMx (c:=.sl 6 (Ac Al.enc c0)) rfl) rfl rfl ?_
 refine Il ?_
 obtain⟨e,he,G⟩:=Af G
 refine Il ?_
 refine lE_ he ?_
 refine rD fun B=>?_
 obtain⟨y,hy,G⟩:=Af G
 refine yl_ 69 [0,1,2,3,4] [] [0,1,2,3,4] false B hl (hR _ _ _ _ hy) (.cons .val (.cons (.agg (.cons .val (.cons .val (.cons .val (.cons .val (.cons .val (.cons .val .nil))))))) .nil)) ⟨_,_,_,rfl,.head _,⟨_,rfl,(by repeat' (first | exact H1.nil | apply H1.cons | exact Ag.val | exact Ag.sl | exact Ag.nils | exact Ag.ptr rfl | exact Ag.rowK rfl | exact Ag.elt))⟩,⟨_,_,_,rfl,.tail _ (.head _),⟨_,rfl,(by repeat' (first | exact H1.nil | apply H1.cons | exact Ag.val | exact Ag.sl | exact Ag.nils | exact Ag.ptr rfl | exact Ag.rowK rfl | exact Ag.elt))⟩,⟨_,_,_,rfl,.tail _ (.tail _ (.head _)),⟨_,rfl,(by repeat' (first | exact H1.nil | apply H1.cons | exact Ag.val | exact Ag.sl | exact Ag.nils | exact Ag.ptr rfl | exact Ag.rowK rfl | exact Ag.elt))⟩,⟨_,_,_,rfl,.tail _ (.tail _ (.tail _ (.head _))),⟨_,rfl,(by repeat' (first | exact H1.nil | apply H1.cons | exact Ag.val | exact Ag.sl | exact Ag.nils | exact Ag.ptr rfl | exact Ag.rowK rfl | exact Ag.elt))⟩,⟨_,_,_,rfl,.tail _ (.tail _ (.tail _ (.tail _ (.head _)))),⟨_,rfl,(by repeat' (first | exact H1.nil | apply H1.cons | exact Ag.val | exact Ag.sl | exact Ag.nils | exact Ag.ptr rfl | exact Ag.rowK rfl | exact Ag.elt))⟩,rfl⟩⟩⟩⟩⟩ fun B=>?_
 refine P5.chain (E4 _ _ []) 1 77 85 B rfl rfl ?_
 show Chain _ _ _ _ (Ft 0 [_]) _ _ _
 refine Il ?_
 refine rD fun B=>?_
 refine P5.fin ?_
 refine rp_ ?_
 refine Ji rfl G (fun h7 G=>?_) fun h7 G=>?_
 refine aP ?_
 refine rp_ ?_
 replace G:=Lt G hn1
 obtain rfl:=oi_ G
 exact Q5 [(0,0),(1,1),(2,2),(3,3),(4,4)] ⟨rfl,rfl⟩
 refine Ts ?_
 refine B7 (E4 _ _ []) 85 109 B rfl rfl ?_
 refine Jp fun B=>?_
 obtain rfl:=oi_ G
 exact⟨((W (i_1 - 1),y.2),m1),aKf _,hn1,B5 [(0,0),(1,1),(2,2),(3,3),(4,4)]⟩
 refine iC ?_
 replace G:=Lt G hn1
 obtain rfl:=oi_ G
 exact Q5 [(0,0),(1,1),(2,2),(3,3),(4,4)] ⟨rfl,rfl⟩
theorem Z6 {p u purpose day r} (G:C5 p u purpose day=some r):Fn Tryz.prog 69 0 [.agg [.sl 6 (Ac Al.enc p.Rules),.sl 2 (Ac Bk.enc p.Keeps)],.agg [vk u.Alg,vk u.Bits],vk purpose,vk day] [] (fun d' b'=>d'=vk r/\b'=[]):=by
 unfold C5 at G
 refine Fn.of Tryz.func69 rfl rfl rfl fun w0 I ρ0=>?_
 show Kb _ ⟨w0,I,ρ0,0,0,33,none⟩ _ _ _
 refine Mn 0 40 Gu fun B=>?_
 refine Ar <| Q1 40 64 B ?_
 refine Il ?_
 obtain⟨y,hy,G⟩:=Af G
 refine P9 (@N5 _ _ hy) ?_
 refine Xu fun B=>?_
 refine Da ?_
 obtain⟨y_3,hy_3,G⟩:=Af G
 refine Gs (σ':=mk [(5,.ptr 0 0),(6,.ptr 1 0),(7,.ptr 2 0),(8,.ptr 3 0),(13,.clo 167 0 [.elt (([.sl 6 (Ac Al.enc y)]:List C).drop 0)])] [(0,.box [vk u.Alg,vk u.Bits] 49),(1,.box [vk purpose] 3),(2,.box [vk day] 3),(3,.box [.val (.int .i64 0)] 3)] 4) (B5 [(0,8),(1,16),(2,24),(3,32)]) ?_
 refine aGp (c:=y_3.1) (ts:=[5,6,7,8]) (ds:=[.ptr 0 0,.ptr 1 0,.ptr 2 0,.ptr 3 0]) 4 [0,1,2,3,4] [] [0,1,2,3,4] false Gu (@L4 u purpose day (fun a0' a1' q'=>tO (fun s'=>C5.r1 u purpose day a0' a1' s') q') y (0,0) _ hy_3) (by repeat' first | exact trivial | refine And.intro rfl ?_) (fun _ _=>.cons .elt .nil) (fun _ _=>⟨_,_,_,rfl,.head _,⟨_,rfl,(by repeat' (first | exact H1.nil | apply H1.cons | exact Ag.val | exact Ag.sl | exact Ag.nils | exact Ag.ptr rfl | exact Ag.rowK rfl | exact Ag.elt))⟩,⟨_,_,_,rfl,.tail _ (.head _),⟨_,rfl,(by repeat' (first | exact H1.nil | apply H1.cons | exact Ag.val | exact Ag.sl | exact Ag.nils | exact Ag.ptr rfl | exact Ag.rowK rfl | exact Ag.elt))⟩,⟨_,_,_,rfl,.tail _ (.tail _ (.head _)),⟨_,rfl,(by repeat' (first | exact H1.nil | apply H1.cons | exact Ag.val | exact Ag.sl | exact Ag.nils | exact Ag.ptr rfl | exact Ag.rowK rfl | exact Ag.elt))⟩,⟨_,_,_,rfl,.tail _ (.tail _ (.tail _ (.head _))),⟨_,rfl,(by repeat' (first | exact H1.nil | apply H1.cons | exact Ag.val | exact Ag.sl | exact Ag.nils | exact Ag.ptr rfl | exact Ag.rowK rfl | exact Ag.elt))⟩,⟨_,_,_,rfl,.tail _ (.tail _ (.tail _ (.tail _ (.head _)))),⟨_,rfl,(by repeat' (first | exact H1.nil | apply H1.cons | exact Ag.val | exact Ag.sl | exact Ag.nils | exact Ag.ptr rfl | exact Ag.rowK rfl | exact Ag.elt))⟩,rfl⟩⟩⟩⟩⟩) ?_ ?_
 intro _ _ a a_2 _ _ hq
 obtain⟨b_1,o1,rfl,rfl,G⟩:=W6 hq
 replace G:C5.r1 u purpose day a a_2 b_1=some o1:=G
 unfold C5.r1 at G
 refine Rnd.of rfl rfl (by kernel_rfl) fun w0 I ρ0 l hl=>?_
 show Kb _ ⟨w0,I,ρ0,5,5,33,some l⟩ _ _ _
 refine Mn 5 13 Gu fun B=>?_
 refine B7 (E4 _ _ []) 13 29 B rfl rfl ?_
 refine Jp fun B=>?_
 refine ag_ B rfl rfl fun rb1 hrb1 B=>?_
 refine Da <| Ba (ι:=Bool) (fun (x31_2:Bool)=>mk [(8,.ptr 3 0),(9,vk a),(31,.val (.bool x31_2))] [(0,.box [vk u.Alg,vk u.Bits] 49),(1,.box [vk purpose] 3),(2,.box [vk day] 3),(3,.box [vk b_1] 3),(4,.lop [5,6,7,8] [.ptr 0 0,.ptr 1 0,.ptr 2 0,.ptr 3 0] 33 rb1)] 5) (fun (x31_2:Bool)=>C5.j2 b_1 a x31_2=some o1) ?_ ?_
 refine B7 (E4 _ _ []) 29 157 B rfl rfl ?_
 refine Il ?_
 obtain⟨y_2,hy_2,G⟩:=Af G
 refine P9 (@Ti _ _ _ _ hy_2) ?_
 refine Il ?_
 rcases bc_ G with ⟨h6,G⟩ | ⟨h6,G⟩
 refine Il ?_
 rcases bc_ G with ⟨h7,G⟩ | ⟨h7,G⟩
 refine Jp fun B=>?_
 exact⟨decide (day < a_2.To),G,B5 [(0,0),(1,1),(2,2),(3,3),(4,4)]⟩
 refine Jp fun B=>?_
 exact⟨false,G,B5 [(0,0),(1,1),(2,2),(3,3),(4,4)]⟩
 refine Jp fun B=>?_
 exact⟨false,G,B5 [(0,0),(1,1),(2,2),(3,3),(4,4)]⟩
 rintro x31_2 G
 replace G:C5.j2 b_1 a x31_2=some o1:=G
 show Kb _ _ _ _ (mk _ _ _)
 unfold C5.j2 at G
 refine Ji rfl G (fun h11 G=>?_) fun h11 G=>?_
 refine Mn 5 21 Gu fun B=>?_
 refine tQ ?_
 obtain rfl:=oi_ G
 exact rr_ (rf_ 1 hrb1 [(0,0),(1,1),(2,2),(3,3),(4,4)] rfl ⟨rfl,rfl⟩)
 refine Ts ?_
 obtain rfl:=oi_ G
 exact rn_ (rf_ 0 hrb1 [(0,0),(1,1),(2,2),(3,3),(4,4)] rfl ⟨rfl,rfl⟩)
 intro _ _ B
 rcases jc_ G with ⟨hj,G⟩ | G
 refine rk0 hj ?_
 refine rp_ ?_
 refine Mn 20 28 B fun B=>?_
 exact t3_
 rcases jc_ G with ⟨hj,G⟩ | G
 refine rk1 hj ?_
 refine rp_ ?_
 exact t2_
 cases G
instance bCq:Wk 69:=⟨_,@Z6⟩
theorem bJ {p u purpose day r} (G:I0 p u purpose day=some r):Fn Tryz.prog 68 0 [.agg [.sl 6 (Ac Al.enc p.Rules),.sl 2 (Ac Bk.enc p.Keeps)],.agg [vk u.Alg,vk u.Bits],vk purpose,vk day] [] (fun d' b'=>d'=.val (.bool r)/\b'=[]):=by
 unfold I0 at G
 refine Ea 0 25 Tryz.func68 fun _ _ _=>?_
 exact C6
instance bCm:Wk 68:=⟨_,@bJ⟩
theorem gB {p u purpose r} (G:Ch p u purpose=some r):Fn Tryz.prog 109 0 [.agg [.sl 6 (Ac Al.enc p.Rules),.sl 2 (Ac Bk.enc p.Keeps)],.agg [vk u.Alg,vk u.Bits],vk purpose] [] (fun d' b'=>d'=.sl 2 (Ac Bh.enc r)/\b'=[]):=by
 unfold Ch at G
 refine Ea 0 64 Tryz.func109 fun _ _ _=>?_
 refine Cb 3 fun B G=>?_
 obtain⟨y,hy,G⟩:=Af G
 refine Gt (rd:=[]) (ps:=[]) (gs:=[]) false rfl (Tp hy) rfl rfl (.cons (.agg (.cons .sl (.cons .sl .nil))) .nil) rfl rfl (by intro h; cases h) rfl (by intro h; first | (cases h; done) | exact⟨_,_,⟨rfl,rfl⟩,by simp,by simp⟩) ?_
 rintro _ _ ⟨rfl,rfl⟩
 refine Cb 3 fun B G=>?_
 refine Ip (fun ((x18_1,out_1):Int×List Bh)=>mk [(2,vk purpose),(3,.ptr 0 0),(4,.ptr 1 0),(7,.row 2),(8,.row 3),(17,.val (.int .i64 (W ((y.length:Int) - 1)))),(18,vk x18_1)] [(0,.box [.sl 6 (Ac Al.enc p.Rules),.sl 2 (Ac Bk.enc p.Keeps)] 39),(1,.box [vk u.Alg,vk u.Bits] 49),(2,.row 141 2 (Ac Bh.enc out_1)),(3,.row 3 1 (Ac eI y))] 4) G (B5 [(0,0),(1,8),(3,40)]) ?_
 rintro⟨x18_1,out_1⟩ m1 o1 G hn1
 unfold Ch.l1 at G
 refine E6 (.r 2 (.e 1)) fun _ B G=>?_
 refine Ba (ι:=List Bh) (fun (out_3:List Bh)=>mk [(2,vk purpose),(3,.ptr 0 0),(4,.ptr 1 0),(7,.row 2),(8,.row 3),(17,.val (.int .i64 (W ((y.length:Int) - 1)))),(18,vk x18_1)] [(0,.box [.sl 6 (Ac Al.enc p.Rules),.sl 2 (Ac Bk.enc p.Keeps)] 39),(1,.box [vk u.Alg,vk u.Bits] 49),(2,.row 141 2 (Ac Bh.enc out_3)),(3,.row 3 1 (Ac eI y))] 4) (fun (out_3:List Bh)=>Ch.j3 x18_1 out_3=some o1) ?_ ?_
 refine Cb 2 fun B G=>?_
 refine Ar <| Ca (E4 _ _ []) (by kernel_rfl) [0,0,3,7,0,0,32,112,240,15,1023] 28 116 B rfl rfl (by kernel_rfl) ?_
 refine Qg (.l 7 (.e 2)) fun e _ e_2 _ _ _ _ B G=>?_
 refine Ba (ι:=Bool) (fun (x49_2:Bool)=>mk [(2,vk purpose),(3,.ptr 0 0),(4,.ptr 1 0),(7,.row 2),(8,.row 3),(10,vk e),(11,vk e_2),(12,.val (.int .i64 (out_1.length:Int))),(17,.val (.int .i64 (W ((y.length:Int) - 1)))),(18,vk x18_1),(49,.val (.bool x49_2))] [(0,.box [.sl 6 (Ac Al.enc p.Rules),.sl 2 (Ac Bk.enc p.Keeps)] 39),(1,.box [vk u.Alg,vk u.Bits] 49),(2,.row 141 2 (Ac Bh.enc out_1)),(3,.row 3 1 (Ac eI y))] 4) (fun (x49_2:Bool)=>Ch.j2 x18_1 out_1 e e_2 x49_2=some o1) ?_ ?_
 exact C6
 rintro x49_2 G
 unfold Ch.j2 at G
 try dsimp only at G
 refine X5 rfl ?_
 refine Ji rfl G (fun _ G=>?_) fun _ G=>?_
 refine Cb 2 fun e_4 he_4 B G=>?_
 refine Lk (rd:=[2]) rfl rfl (Qu Z4 rfl (Fh Bh.enc_len (Cf he_4) (o:=1) (m:=1) (by decide) rfl) Pp (cs':=[.int .i64 e_2]) (.cons .int .nil) (My Bh.enc_len (Cf he_4) (o:=1) (x':=(Bh.mk e_4.From e_2)) (aC1 rfl) rfl rfl)) rfl rfl ?_
 exact C6
 refine Cb 1 fun B G=>?_
 refine Ox nV aKn aIr ?_
 refine Kv aK2 aIr aRx ([(Bh.mk e e_2)]:List Bh) Bh.enc ?_
 exact C6
 rintro out_3 G
 unfold Ch.j3 at G
 exact Ik
instance aYz:Wk 109:=⟨_,@gB⟩
theorem fR {p u purpose r} (G:I5 p u purpose=some r):Fn Tryz.prog 65 0 [.agg [.sl 6 (Ac Al.enc p.Rules),.sl 2 (Ac Bk.enc p.Keeps)],.agg [vk u.Alg,vk u.Bits],vk purpose] [] (fun d' b'=>d'=.tup [vk r.1,.val (.bool r.2.1),vk r.2.2]/\b'=[]):=by
 unfold I5 at G
 refine Ea 0 42 Tryz.func65 fun _ _ _=>?_
 exact C6
instance bC6:Wk 65:=⟨_,@fR⟩
theorem Uv {p i r} (G:F1 p i=some r):Fn Tryz.prog 62 0 [.agg [.sl 6 (Ac Al.enc p.Rules),.sl 2 (Ac Bk.enc p.Keeps)],.agg (Aq.dv i)] [] (fun d' b'=>d'=.tup [.imm (Cd.c r.1),vk r.2]/\b'=[]):=by
 unfold F1 at G
 refine Ea 0 60 Tryz.func62 fun _ _ _=>?_
 refine Qg (.l 5 (.l 5 (.e 5))) fun _ _ _ _ _ _ B G=>?_
 refine Ip (fun ((x27_1,l_1):Int×List Bd)=>mk [(2,.ptr 0 0),(3,.ptr 1 0),(8,.row 2),(25,.sl 3 (Ac A1.enc i.Links)),(26,.val (.int .i64 (i.Links.length:Int))),(27,vk x27_1)] [(0,.box [.sl 6 (Ac Al.enc p.Rules),.sl 2 (Ac Bk.enc p.Keeps)] 39),(1,.box (Aq.dv i) 47),(2,.row 234 3 (Ac Bd.enc l_1))] 3) G (B5 [(0,0),(1,8)]) ?_
 rintro⟨x27_1,l_1⟩ m1 o1 G hn1
 unfold F1.l1 at G
 refine Q4 2 fun B G=>?_
 refine Ji rfl G (fun _ G=>?_) fun _ G=>?_
 refine Qg (.l 10 (.e 2)) fun e _ y_3 _ _ B G=>?_
 refine Ox pA aSx aMn ?_
 refine Kv aK8 aMn aQs ([(Bd.mk e.Day y_3.1 y_3.2.1)]:List Bd) Bd.enc ?_
 exact C6
 refine Cb 3 fun B G=>?_
 refine Ji rfl G (fun _ G=>?_) fun _ G=>?_
 refine Ar <| Gs (σ':=mk [(8,.sl 3 (Ac Bd.enc l_1))] [] 0) (B5 []) ?_
 refine Cb 1 fun B G=>?_
 refine Ex rfl rfl (.mkI aB2) rfl rfl ?_
 exact C6
 refine Cb 1 fun B G=>?_
 refine Ar <| Gs (σ':=mk [(8,.sl 3 (Ac Bd.enc l_1))] [] 0) (B5 []) ?_
 refine Cb 1 fun B G=>?_
 refine Ex rfl rfl (.mkI aE3) rfl rfl ?_
 exact C6
instance bBk:Wk 62:=⟨_,@Uv⟩
theorem Xc {x' r} (G:Ia x'=some r):Fn Tryz.prog 315 0 [.agg (Bd.dv x')] [] (fun d' b'=>d'=.tup [vk r.1,.val (.bool r.2)]/\b'=[]):=by
 unfold Ia at G
 refine Ea 0 11 Tryz.func315 fun _ _ _=>?_
 refine Cb 1 fun B G=>?_
 refine Ar <| Ca (E4 _ _ []) (by kernel_rfl) [0,1,0,4,15,0,32,31,255] 24 96 B rfl rfl (by kernel_rfl) ?_
 exact C6
instance bAu:Wk 315:=⟨_,@Xc⟩
theorem L9 {s r} (G:Bt s=some r):Fn Tryz.prog 317 0 [.sl 3 (Ac Bd.enc s)] [] (fun d' b'=>d'=.tup [vk r.1,.val (.bool r.2)]/\b'=[]):=by
 unfold Bt at G
 refine Ea 0 35 Tryz.func317 fun _ _ _=>?_
 refine Cb 5 fun B G=>?_
 refine Ip (fun ((first_1,some_1,x12_1):Int×Bool×Int)=>mk [(4,vk first_1),(5,.val (.bool some_1)),(10,.sl 3 (Ac Bd.enc s)),(11,.val (.int .i64 (s.length:Int))),(12,vk x12_1)] [] 0) G (B5 []) ?_
 rintro⟨first_1,some_1,x12_1⟩ m1 o1 G hn1
 unfold Bt.l1 at G
 refine E6 (.r 2 (.e 1)) fun _ B G=>?_
 refine Ba (ι:=Int×Bool) (fun ((first_3,some_3):Int×Bool)=>mk [(4,vk first_3),(5,.val (.bool some_3)),(10,.sl 3 (Ac Bd.enc s)),(11,.val (.int .i64 (s.length:Int))),(12,vk x12_1)] [] 0) (fun ((first_3,some_3):Int×Bool)=>Bt.j3 x12_1 first_3 some_3=some o1) ?_ ?_
 refine Cb 6 fun _ _ y _ B G=>?_
 refine Ba (ι:=Bool) (fun (x30_2:Bool)=>mk [(4,vk first_1),(5,.val (.bool some_1)),(8,vk y.1),(10,.sl 3 (Ac Bd.enc s)),(11,.val (.int .i64 (s.length:Int))),(12,vk x12_1),(30,.val (.bool x30_2))] [] 0) (fun (x30_2:Bool)=>Bt.j2 first_1 some_1 x12_1 y x30_2=some o1) ?_ ?_
 exact C6
 rintro x30_2 G
 unfold Bt.j2 at G
 exact Ik
 rintro⟨first_3,some_3⟩ G
 unfold Bt.j3 at G
 exact Ik
instance bAz:Wk 317:=⟨_,@L9⟩
theorem U9 {s r} (G:Cr s=some r):Fn Tryz.prog 319 0 [.sl 3 (Ac Bd.enc s)] [] (fun d' b'=>d'=vk r/\b'=[]):=by
 unfold Cr at G
 refine Ea 0 34 Tryz.func319 fun _ _ _=>?_
 refine Cb 4 fun B G=>?_
 refine Ip (fun (n_1:Int)=>mk [(0,.sl 3 (Ac Bd.enc s)),(3,vk n_1)] [] 0) G (B5 []) ?_
 rintro n_1 m1 o1 G hn1
 unfold Cr.l1 at G
 try dsimp only at G
 refine X5 rfl ?_
 refine Ar <| Ba (ι:=Bool) (fun (x30_2:Bool)=>mk [(0,.sl 3 (Ac Bd.enc s)),(3,vk n_1),(30,.val (.bool x30_2))] [] 0) (fun (x30_2:Bool)=>Cr.j2 n_1 x30_2=some o1) ?_ ?_
 refine Ca (E4 _ _ []) (by kernel_rfl) [0,0,2,7,15,31,31,95,255,511,1023,2047,4095,8191,8191,32767,65535,131071,8191,8191,532479,1843199,3940351,8134655,16777215,33554431,67108863] 0 216 Gu rfl rfl (by kernel_rfl) ?_
 exact C6
 rintro x30_2 G
 unfold Cr.j2 at G
 exact Ik
instance aX8:Wk 319:=⟨_,@U9⟩
theorem Mb {s r} (G:Fz s=some r):Fn Tryz.prog 320 0 [.sl 3 (Ac Bd.enc s)] [] (fun d' b'=>d'=.tup [vk r.1,.val (.bool r.2)]/\b'=[]):=by
 unfold Fz at G
 refine Ea 0 19 Tryz.func320 fun _ _ _=>?_
 exact C6
instance aYp:Wk 320:=⟨_,@Mb⟩
theorem cW {p i r} (G:Dh p i=some r):Fn Tryz.prog 40 0 [.agg [.sl 6 (Ac Al.enc p.Rules),.sl 2 (Ac Bk.enc p.Keeps)],.agg (Aq.dv i)] [] (fun d' b'=>d'=.tup [vk r.1,.val (.bool r.2.1),vk r.2.2]/\b'=[]):=by
 unfold Dh at G
 refine Fn.of Tryz.func40 rfl rfl rfl fun w0 I ρ0=>?_
 show Kb _ ⟨w0,I,ρ0,0,0,27,none⟩ _ _ _
 refine Mn 0 40 Gu fun B=>?_
 refine Q1 40 104 B ?_
 refine Il ?_
 obtain⟨y,hy,G⟩:=Af G
 refine P9 (@Uv _ _ _ hy) ?_
 refine Jp fun B=>?_
 refine Ar <| Mn 104 120 B fun B=>?_
 refine Ji rfl G (fun h4 G=>?_) fun h4 G=>?_
 refine Q1 120 152 B ?_
 exact t5_
 refine Ts ?_
 refine Ba (ι:=Int×Bool) (fun ((day_1,ok_1):Int×Bool)=>mk [(9,vk day_1),(10,.val (.bool ok_1))] [] 0) (fun ((day_1,ok_1):Int×Bool)=>Dh.j1 day_1 ok_1=some r) ?_ ?_
 generalize y.1=k_ at G ⊢
 rcases k_ with _ | l | l_2
 dsimp only [Cd.elim] at G
 refine B7 (E4 _ _ []) 120 176 B rfl rfl ?_
 refine Il ?_
 cases G
 dsimp only [Cd.elim] at G
 refine B7 (E4 _ _ []) 120 176 B rfl rfl ?_
 refine Il ?_
 obtain⟨y_2,hy_2,G⟩:=Af G
 refine S3 rfl rfl (fun _ _=>by kernel_rfl) (@L9 l _ hy_2) rfl rfl ?_
 refine Jp fun B=>?_
 exact⟨(y_2.1,y_2.2),G,B5 []⟩
 dsimp only [Cd.elim] at G
 refine B7 (E4 _ _ []) 120 176 B rfl rfl ?_
 refine Il ?_
 obtain⟨y_3,hy_3,G⟩:=Af G
 refine S3 rfl rfl (fun _ _=>by kernel_rfl) (@Mb l_2 _ hy_3) rfl rfl ?_
 refine Jp fun B=>?_
 exact⟨(y_3.1,y_3.2),G,B5 []⟩
 rintro⟨day_1,ok_1⟩ G
 replace G:Dh.j1 day_1 ok_1=some r:=G
 show Kb _ _ _ _ (mk _ _ _)
 unfold Dh.j1 at G
 refine Mn 0 40 Gu fun B=>?_
 exact t3_
instance bDl:Wk 40:=⟨_,@cW⟩
end Go.Proofs.YtboglmbblmakjaaGreatDoor
