import Derived.Test.YtboglmbblmakjaaGreatDoorT1
import Derived.Test.YtboglmbblmakjaaGreatDoorEU
set_option linter.unusedVariables false
set_option linter.unusedSimpArgs false
set_option maxRecDepth 100000
set_option maxHeartbeats 40000000
namespace Go.Proofs.YtboglmbblmakjaaGreatDoor
open Go.RowKit
theorem qE {l r} (G:Sx l=some r):Fn Tryz.prog 4 0 [.sl 1 (Ac eI l)] [] (fun d' b'=>d'=.val (.bool r)/\b'=[]):=by
 unfold Sx at G
 refine Ea 0 6 Tryz.func4 fun _ _ _=>?_
 exact C6
instance wk4:Wk 4:=⟨_,@qE⟩
theorem fK {x' r} (G:H5 x'=some r):Fn Tryz.prog 193 0 [vk x'] [] (fun d' b'=>d'=.val (.bool r)/\b'=[]):=by
 unfold H5 at G
 refine Ea 0 6 Tryz.func193 fun _ _ _=>?_
 exact C6
instance bAa:Wk 193:=⟨_,@fK⟩
theorem bR {x' y r} (G:Gl x' y=some r):Fn Tryz.prog 137 0 [vk x',vk y] [] (fun d' b'=>d'=vk r/\b'=[]):=by
 unfold Gl at G
 refine Ea 0 20 Tryz.func137 fun _ _ _=>?_
 exact C6
instance aXu:Wk 137:=⟨_,@bR⟩
theorem V0 {vals r} (G:Hj vals=some r):Fn Tryz.prog 136 0 [.sl 1 (Ac eI vals)] [] (fun d' b'=>d'=vk r/\b'=[]):=by
 unfold Hj at G
 refine Ea 0 18 Tryz.func136 fun _ _ _=>?_
 refine Cb 5 fun B G=>?_
 refine Ip (fun (x8_1:Int)=>mk [(3,.val (.int .i64 0)),(6,.sl 1 (Ac eI vals)),(7,.val (.int .i64 (vals.length:Int))),(8,vk x8_1)] [] 0) G (B5 []) ?_
 rintro x8_1 m1 o1 G hn1
 unfold Hj.l1 at G
 exact Ik
instance bAh:Wk 136:=⟨_,@V0⟩
theorem fY {a b r} (G:Nb a b=some r):Fn Tryz.prog 86 0 [.agg [vk a.First,vk a.Then],.agg [vk b.First,vk b.Then]] [] (fun d' b'=>d'=vk r/\b'=[]):=by
 unfold Nb at G
 refine Ea 0 17 Tryz.func86 fun _ _ _=>?_
 refine Cb 1 fun B G=>?_
 refine Ar <| Ca (E4 _ _ []) (by kernel_rfl) [0,1,0,4,15,0,32,0,128,511,1023,2047,4095] 24 128 B rfl rfl (by kernel_rfl) ?_
 refine Cb 2 fun y _ y_2 _ B G=>?_
 refine Kv Hz z3 Pp ([y,y_2]:List Int) eI ?_
 obtain⟨y_3,hy_3,G⟩:=Af G
 refine dO [104] [] [] true (V0 hy_3) ?_
 exact C6
instance bCb:Wk 86:=⟨_,@fY⟩
theorem Wa {s i r} (G:J6 s i=some r):Fn Tryz.prog 88 0 [.val (.int .u32 s),vk i] [] (fun d' b'=>d'=.val (.bool r)/\b'=[]):=by
 unfold J6 at G
 refine Ea 0 10 Tryz.func88 fun _ _ _=>?_
 exact C6
instance bCw:Wk 88:=⟨_,@Wa⟩
theorem Pf {s r} (G:Jz s=some r):Fn Tryz.prog 45 0 [.val (.int .u32 s)] [] (fun d' b'=>d'=.clo 89 0 [.ptr 0 0]/\b'=[.box [.val (.int .u32 r)] 126]):=by
 unfold Jz at G
 refine Ea 0 4 Tryz.func45 fun _ _ _=>?_
 exact C6
instance bC4:Wk 45:=⟨_,@Pf⟩
theorem Ij {x' r} (G:Gc x'=some r):Fn Tryz.prog 48 0 [.val (.int .u32 x')] [] (fun d' b'=>d'=vk r/\b'=[]):=by
 unfold Gc at G
 refine Fn.of Tryz.func48 rfl rfl rfl fun w0 I ρ0=>?_
 show Kb _ ⟨w0,I,ρ0,0,0,14,none⟩ _ _ _
 refine Mn 0 8 Gu fun B=>?_
 refine Ar <| Mn 8 24 B fun B=>?_
 refine Ji rfl G (fun h3 G=>?_) fun h3 G=>?_
 refine Q1 24 32 B ?_
 exact t5_
 refine Ts ?_
 refine Q1 24 104 B ?_
 refine Il ?_
 refine Ex rfl rfl aN0 rfl rfl ?_
 refine Ex rfl rfl uZ rfl rfl ?_
 refine Ex rfl rfl aB9 rfl rfl ?_
 obtain⟨q,hq,G⟩:=Af G
 refine Ex rfl rfl (jE hq) rfl rfl ?_
 obtain⟨e,he,G⟩:=Af G
 refine Zc (rd:=[]) rfl rfl (.idxA (j:=((q).toNat)) aCg ty5 (L0 he) (aBe.1 (Cf he)).1) rfl rfl (fun _=>⟨_,rfl⟩) ?_
 rintro _ rfl
 refine Ex rfl rfl (Eb ty5 (aEp (Cf he))) rfl rfl ?_
 refine Ex rfl rfl (Ya (u:=e) aE5 aCj) rfl rfl ?_
 exact t5_
instance bCr:Wk 48:=⟨_,@Ij⟩
theorem Uo {n:Int} {l_2:List Int} {x75_5:Int} {yield':Int->(Nat×(List Int))->Option (Bool×(Nat×(List Int)))} {c0:Int} {q:(Nat×(List Int))} {r:Int×(Nat×(List Int))} (G:Ce yield' c0 q=some r) {rc:Loop} (hR:∀ (x0:Int) (q':Nat×(List Int)) (y':Bool×(Nat×(List Int))),yield' x0 q'=some y'->Rnd Tryz.prog [5,10] [.ptr 0 0,.ptr 2 0] 100 (Oi rc 0) 3 4 [vk x0] [.box [.ptr 1 0] 122,.box [vk n,.row 4,.row 5] 208,.box [vk x75_5] 3,.lop [5,10] [.ptr 0 0,.ptr 2 0] 100 (Oi rc q'.1),.row 126 1 (Ac (eK .u32) l_2),.row 126 1 (Ac (eK .u32) q'.2)] (fun b1 b2=>b1=y'.1/\b2=[.box [.ptr 1 0] 122,.box [vk n,.row 4,.row 5] 208,.box [vk x75_5] 3,.lop [5,10] [.ptr 0 0,.ptr 2 0] 100 (Oi rc y'.2.1),.row 126 1 (Ac (eK .u32) l_2),.row 126 1 (Ac (eK .u32) y'.2.2)])):Itr Tryz.prog 89 3 5 [.ptr 4 0] [.box [.ptr 1 0] 122,.box [vk n,.row 5,.row 6] 208,.box [vk x75_5] 3,.lop [5,10] [.ptr 0 0,.ptr 2 0] 100 (Oi rc q.1),.box [.val (.int .u32 c0)] 126,.row 126 1 (Ac (eK .u32) l_2),.row 126 1 (Ac (eK .u32) q.2)] (fun b'=>b'=[.box [.ptr 1 0] 122,.box [vk n,.row 5,.row 6] 208,.box [vk x75_5] 3,.lop [5,10] [.ptr 0 0,.ptr 2 0] 100 (Oi rc r.2.1),.box [.val (.int .u32 r.1)] 126,.row 126 1 (Ac (eK .u32) l_2),.row 126 1 (Ac (eK .u32) r.2.2)]):=by
 unfold Ce at G
 refine Itr.of Tryz.func89 rfl rfl rfl rfl fun w0 I ρ0 l hl=>?_
 show Kb _ ⟨w0,I,ρ0,5,7,16,none⟩ _ _ _
 refine Da <| Ip (fun ((q_1,b_1):(Nat×(List Int))×Int)=>mk [(0,.val (.func (.yield l) #[] #[])),(1,.ptr 4 0)] [(0,.box [.ptr 1 0] 122),(1,.box [vk n,.row 5,.row 6] 208),(2,.box [vk x75_5] 3),(3,.lop [5,10] [.ptr 0 0,.ptr 2 0] 100 (Oi rc q_1.1)),(4,.box [.val (.int .u32 b_1)] 126),(5,.row 126 1 (Ac (eK .u32) l_2)),(6,.row 126 1 (Ac (eK .u32) q_1.2))] 7) G (B5 [(0,0),(1,1),(2,2),(3,3),(4,4),(5,5),(6,6)]) ?_
 rintro⟨q_1,b_1⟩ m1 o1 G hn1
 replace G:Ce.l1 yield' q_1 b_1=some o1:=G
 show Kb _ _ _ _ (mk _ _ _)
 unfold Ce.l1 at G
 refine Ar <| Mn 7 23 Gu fun B=>?_
 refine Ji rfl G (fun h2 G=>?_) fun h2 G=>?_
 refine Ts ?_
 refine Da <| Q1 23 47 B ?_
 refine Il ?_
 obtain⟨y,hy,G⟩:=Af G
 refine P9 (@Ij _ _ hy) ?_
 refine Jp fun B=>?_
 refine Ar <| Ca (E4 _ _ []) (by kernel_rfl) [0,0,2,7,15] 47 87 B rfl rfl (by kernel_rfl) ?_
 refine Il ?_
 obtain⟨q_2,hq_2,G⟩:=Af G
 refine Ex rfl rfl (Zx hq_2) rfl rfl ?_
 refine Ex rfl rfl Yn rfl rfl ?_
 refine Jp fun B=>?_
 refine Ar <| T9 ?_
 refine P5.chain (E4 _ _ []) 2 87 103 B rfl rfl ?_
 show Chain _ _ _ _ (Ft 0 [_,_]) _ _ _
 refine Il ?_
 refine rD fun B=>?_
 obtain⟨y_2,hy_2,G⟩:=Af G
 refine yl_ 103 [0,1,2,3] [5,6] [0,1,2,3,5,6] false B hl (hR _ _ _ hy_2) (.cons .val .nil) ⟨_,_,_,rfl,.head _,⟨_,rfl,(by repeat' (first | exact H1.nil | apply H1.cons | exact Ag.val | exact Ag.sl | exact Ag.nils | exact Ag.ptr rfl | exact Ag.rowK rfl | exact Ag.elt))⟩,⟨_,_,_,rfl,.tail _ (.head _),⟨_,rfl,(by repeat' (first | exact H1.nil | apply H1.cons | exact Ag.val | exact Ag.sl | exact Ag.nils | exact Ag.ptr rfl | exact Ag.rowK rfl | exact Ag.elt))⟩,⟨_,_,_,rfl,.tail _ (.tail _ (.head _)),⟨_,rfl,(by repeat' (first | exact H1.nil | apply H1.cons | exact Ag.val | exact Ag.sl | exact Ag.nils | exact Ag.ptr rfl | exact Ag.rowK rfl | exact Ag.elt))⟩,⟨_,_,_,rfl,.tail _ (.tail _ (.tail _ (.head _))),⟨_,rfl,(by repeat' (first | exact H1.nil | apply H1.cons | exact Ag.val | exact Ag.sl | exact Ag.nils | exact Ag.ptr rfl | exact Ag.rowK rfl | exact Ag.elt))⟩,⟨_,_,_,rfl,.tail _ (.tail _ (.tail _ (.tail _ (.head _)))),rfl,⟨_,_,_,rfl,.tail _ (.tail _ (.tail _ (.tail _ (.tail _ (.head _))))),rfl,rfl⟩⟩⟩⟩⟩⟩ fun B=>?_
 refine P5.chain (E4 _ _ []) 1 111 119 B rfl rfl ?_
 show Chain _ _ _ _ (Ft 0 [_]) _ _ _
 refine Il ?_
 refine rD fun B=>?_
 refine P5.fin ?_
 refine rp_ ?_
 refine Ji rfl G (fun h8 G=>?_) fun h8 G=>?_
 refine aP ?_
 refine rp_ ?_
 replace G:=Lt G hn1
 obtain rfl:=oi_ G
 exact Q5 [(0,0),(1,1),(2,2),(3,3),(4,4),(5,103),(6,104)] ⟨rfl,rfl⟩
 refine Ts ?_
 obtain rfl:=oi_ G
 exact⟨((y_2.2,Qn .u32 b_1 q_2),m1),aKf _,hn1,B5 [(0,0),(1,1),(2,2),(3,3),(4,4),(5,103),(6,104)]⟩
 refine iC ?_
 replace G:=Lt G hn1
 obtain rfl:=oi_ G
 exact Q5 [(0,0),(1,1),(2,2),(3,3),(4,4),(5,5),(6,6)] ⟨rfl,rfl⟩
theorem V6 {n l r} (G:Bm n l=some r):Fn Tryz.prog 87 0 [vk n,.sl 2 (Ac Bq.enc l)] [] (fun d' b'=>d'=.ptr 0 0/\b'=[.box (A4.dv r) 208]):=by
 unfold Bm at G
 refine Fn.of Tryz.func87 rfl rfl rfl fun w0 I ρ0=>?_
 show Kb _ ⟨w0,I,ρ0,0,0,100,none⟩ _ _ _
 refine Mn 0 8 Gu fun B=>?_
 refine Ar <| Ca (E4 _ _ []) (by kernel_rfl) [0,0,2,0,8,31,63,0,255] 8 80 B rfl rfl (by kernel_rfl) ?_
 refine Il ?_
 obtain⟨m,hm,G⟩:=Af G
 refine Ex rfl rfl (aM (f:=(eK .u32)) mS aFf bV (.cons .int .nil) rfl hm rfl) rfl rfl ?_
 refine Il ?_
 obtain⟨m_2,hm_2,G⟩:=Af G
 refine Ex rfl rfl (aM (f:=(eK .u32)) mS aFf bV (.cons .int .nil) rfl hm_2 rfl) rfl rfl ?_
 refine Ox oS aSa aRj ?_
 refine Jp fun B=>?_
 refine Ar <| Mn 80 104 B fun B=>?_
 refine Da <| Ip (fun ((x21_1,l_1):Int×List Int)=>mk [(0,vk n),(5,.ptr 0 0),(19,.sl 2 (Ac Bq.enc l)),(20,.val (.int .i64 (l.length:Int))),(21,vk x21_1)] [(0,.box [.ptr 1 0] 122),(1,.box [vk n,.row 2,.row 3] 208),(2,.row 126 1 (Ac (eK .u32) l_1)),(3,.row 126 1 (Ac (eK .u32) m_2))] 4) G (B5 [(0,64),(1,56),(2,24),(3,40)]) ?_
 rintro⟨x21_1,l_1⟩ m1 o1 G hn1
 replace G:Bm.l1 n l m_2 x21_1 l_1=some o1:=G
 show Kb _ _ _ _ (mk _ _ _)
 unfold Bm.l1 at G
 refine Mn 4 12 Gu fun B=>?_
 refine Ar <| Ji rfl G (fun h5 G=>?_) fun h5 G=>?_
 refine Ts ?_
 refine Ar <| Da <| Q1 12 44 B ?_
 obtain⟨e,he,G⟩:=Af G
 refine Il ?_
 refine lE_ he ?_
 refine Jp fun B=>?_
 refine Ca (E4 _ _ []) (by kernel_rfl) [0,1,3,7,0,16,63,127,0,256,768,2047,4095,8191] 44 156 B rfl rfl (by kernel_rfl) ?_
 refine Il ?_
 obtain⟨e_2,he_2,G⟩:=Af G
 refine Il ?_
 refine Lk (rd:=[2]) rfl rfl (.loadR1 Ps (G3 (Jl _) (Cf he_2) (o:=0) (c:=.int .u32 e_2) rfl rfl)) rfl rfl ?_
 refine Il ?_
 obtain⟨q,hq,G⟩:=Af G
 refine Ex rfl rfl (Zx hq) rfl rfl ?_
 refine Ex rfl rfl mC rfl rfl ?_
 refine Il ?_
 refine Lk (rd:=[2]) rfl rfl (Qu Ps rfl (Fh (Jl _) (Cf he_2) (o:=0) (m:=1) (by decide) rfl) bV (cs':=[.int .u32 (cA .u32 e_2 q)]) (.cons .int .nil) (My (Jl _) (Cf he_2) (o:=0) (x':=cA .u32 e_2 q) (aC1 rfl) rfl rfl)) rfl rfl ?_
 refine Xu fun B=>?_
 refine B7 (E4 _ _ []) 156 172 B rfl rfl ?_
 refine Jp fun B=>?_
 obtain rfl:=oi_ G
 exact⟨((W (x21_1 + 1),Jd l_1 ((e.Then).toNat) (cA .u32 e_2 q)),m1),aKf _,hn1,B5 [(0,0),(1,1),(2,2),(3,3)]⟩
 refine iC ?_
 replace G:=Lt G hn1
 refine Ar <| Mn 12 28 B fun B=>?_
 refine Da <| Ip (fun ((x40_2,l_2):Int×List Int)=>mk [(0,vk n),(5,.ptr 0 0),(39,vk n),(40,vk x40_2)] [(0,.box [.ptr 1 0] 122),(1,.box [vk n,.row 2,.row 3] 208),(2,.row 126 1 (Ac (eK .u32) l_2)),(3,.row 126 1 (Ac (eK .u32) m_2))] 4) G (B5 [(0,0),(1,1),(2,2),(3,3)]) ?_
 rintro⟨x40_2,l_2⟩ m2 o2 G hn2
 replace G:Bm.l2 n m_2 x40_2 l_2=some o2:=G
 show Kb _ _ _ _ (mk _ _ _)
 unfold Bm.l2 at G
 refine Mn 4 12 Gu fun B=>?_
 refine Ar <| Ji rfl G (fun h11 G=>?_) fun h11 G=>?_
 refine Ts ?_
 refine Ar <| Da <| Mn 12 28 B fun B=>?_
 refine Mn 28 44 B fun B=>?_
 refine Da <| Ip (fun ((x44_3,l_3):Int×List Int)=>mk [(0,vk n),(5,.ptr 0 0),(8,vk x40_2),(39,vk n),(40,vk x40_2),(43,vk n),(44,vk x44_3)] [(0,.box [.ptr 1 0] 122),(1,.box [vk n,.row 2,.row 3] 208),(2,.row 126 1 (Ac (eK .u32) l_3)),(3,.row 126 1 (Ac (eK .u32) m_2))] 4) G (B5 [(0,0),(1,1),(2,2),(3,3)]) ?_
 rintro⟨x44_3,l_3⟩ m3 o3 G hn3
 replace G:Bm.l3 n x40_2 x44_3 l_3=some o3:=G
 show Kb _ _ _ _ (mk _ _ _)
 unfold Bm.l3 at G
 refine Mn 4 12 Gu fun B=>?_
 refine Ar <| Ji rfl G (fun h15 G=>?_) fun h15 G=>?_
 refine Ts ?_
 refine Ba (ι:=List Int) (fun (l_4:List Int)=>mk [(0,vk n),(5,.ptr 0 0),(8,vk x40_2),(39,vk n),(40,vk x40_2),(43,vk n),(44,vk x44_3)] [(0,.box [.ptr 1 0] 122),(1,.box [vk n,.row 2,.row 3] 208),(2,.row 126 1 (Ac (eK .u32) l_4)),(3,.row 126 1 (Ac (eK .u32) m_2))] 4) (fun (l_4:List Int)=>Bm.j4 x44_3 l_4=some o3) ?_ ?_
 refine Da <| Mn 12 28 B fun B=>?_
 refine Q1 28 100 B ?_
 refine Il ?_
 obtain⟨e_3,he_3,G⟩:=Af G
 refine Il ?_
 refine Lk (rd:=[2]) rfl rfl (.loadR1 Ps (G3 (Jl _) (Cf he_3) (o:=0) (c:=.int .u32 e_3) rfl rfl)) rfl rfl ?_
 refine Il ?_
 obtain⟨y,hy,G⟩:=Af G
 refine P9 (@Wa _ _ _ hy) ?_
 refine Xu fun B=>?_
 refine Ji rfl G (fun h18 G=>?_) fun h18 G=>?_
 refine Ca (E4 _ _ []) (by kernel_rfl) [0,1,3,7,0,31,63,0,128,384,896,0,3968,8064,16383,32767,65535] 100 236 B rfl rfl (by kernel_rfl) ?_
 refine Il ?_
 refine Lk (rd:=[2]) rfl rfl (.loadR1 Ps (G3 (Jl _) (Cf he_3) (o:=0) (c:=.int .u32 e_3) rfl rfl)) rfl rfl ?_
 refine Il ?_
 obtain⟨e_4,he_4,G⟩:=Af G
 refine Il ?_
 refine Lk (rd:=[2]) rfl rfl (.loadR1 Ps (G3 (Jl _) (Cf he_4) (o:=0) (c:=.int .u32 e_4) rfl rfl)) rfl rfl ?_
 refine Ex rfl rfl mC rfl rfl ?_
 refine Il ?_
 refine Lk (rd:=[2]) rfl rfl (Qu Ps rfl (Fh (Jl _) (Cf he_3) (o:=0) (m:=1) (by decide) rfl) bV (cs':=[.int .u32 (cA .u32 e_3 e_4)]) (.cons .int .nil) (My (Jl _) (Cf he_3) (o:=0) (x':=cA .u32 e_3 e_4) (aC1 rfl) rfl rfl)) rfl rfl ?_
 refine Xu fun B=>?_
 exact⟨Jd l_3 ((x44_3).toNat) (cA .u32 e_3 e_4),G,B5 [(0,0),(1,1),(2,2),(3,3)]⟩
 refine Ts ?_
 exact⟨l_3,G,B5 [(0,0),(1,1),(2,2),(3,3)]⟩
 rintro l_4 G
 replace G:Bm.j4 x44_3 l_4=some o3:=G
 show Kb _ _ _ _ (mk _ _ _)
 unfold Bm.j4 at G
 refine B7 (E4 _ _ []) 4 20 Gu rfl rfl ?_
 refine Jp fun B=>?_
 obtain rfl:=oi_ G
 exact⟨((W (x44_3 + 1),l_4),m3),aKf _,hn3,B5 [(0,0),(1,1),(2,2),(3,3)]⟩
 refine iC ?_
 replace G:=Lt G hn3
 refine B7 (E4 _ _ []) 12 28 B rfl rfl ?_
 refine Jp fun B=>?_
 obtain rfl:=oi_ G
 exact⟨((W (x40_2 + 1),l_3),m2),aKf _,hn2,B5 [(0,0),(1,1),(2,2),(3,3)]⟩
 refine iC ?_
 replace G:=Lt G hn2
 refine Ar <| Mn 12 28 B fun B=>?_
 refine Da <| Ip (fun ((x75_5,l_5):Int×List Int)=>mk [(5,.ptr 0 0),(74,vk n),(75,vk x75_5)] [(0,.box [.ptr 1 0] 122),(1,.box [vk n,.row 2,.row 3] 208),(2,.row 126 1 (Ac (eK .u32) l_2)),(3,.row 126 1 (Ac (eK .u32) l_5))] 4) G (B5 [(0,0),(1,1),(2,2),(3,3)]) ?_
 rintro⟨x75_5,l_5⟩ m5 o5 G hn5
 replace G:Bm.l5 n l_2 x75_5 l_5=some o5:=G
 show Kb _ _ _ _ (mk _ _ _)
 unfold Bm.l5 at G
 refine Mn 4 12 Gu fun B=>?_
 refine Ar <| Ji rfl G (fun h24 G=>?_) fun h24 G=>?_
 refine Ts ?_
 refine Ar <| Da <| Mn 12 36 B fun B=>?_
 refine Ar <| Ca (E4 _ _ []) (by kernel_rfl) [0,1,3,7,0,31,63,127] 36 100 B rfl rfl (by kernel_rfl) ?_
 refine Il ?_
 obtain⟨e_5,he_5,G⟩:=Af G
 refine Il ?_
 refine Lk (rd:=[2]) rfl rfl (.loadR1 Ps (G3 (Jl _) (Cf he_5) (o:=0) (c:=.int .u32 e_5) rfl rfl)) rfl rfl ?_
 obtain⟨y_2,hy_2,G⟩:=Af G
 refine Gt (rd:=[]) (ps:=[]) (gs:=[]) false rfl (@Pf _ _ hy_2) rfl rfl (.cons .val .nil) rfl rfl (by intro h; cases h) rfl (by intro h; first | (cases h; done) | exact⟨_,_,⟨rfl,rfl⟩,by simp,by simp⟩) ?_
 rintro _ _ ⟨rfl,rfl⟩
 refine Xu fun B=>?_
 refine Da ?_
 obtain⟨y_3,hy_3,G⟩:=Af G
 refine Gs (σ':=mk [(5,.ptr 0 0),(10,.ptr 1 0),(74,vk n),(75,vk x75_5),(85,.clo 89 0 [.ptr 2 0])] [(0,.box [.ptr 3 0] 122),(1,.box [vk x75_5] 3),(2,.box [.val (.int .u32 y_2)] 126),(3,.box [vk n,.row 4,.row 5] 208),(4,.row 126 1 (Ac (eK .u32) l_2)),(5,.row 126 1 (Ac (eK .u32) l_5))] 6) (B5 [(0,0),(1,20),(2,92),(3,1),(4,2),(5,3)]) ?_
 refine aGp (c:=y_3.2.1) (ts:=[5,10]) (ds:=[.ptr 0 0,.ptr 1 0]) 6 [0,3,1,6,2] [4,5] [0,3,1,6,2,4,5] false Gu (@Uo n l_2 x75_5 (fun a0' q'=>tO (fun s'=>Bm.r6 x75_5 a0' s') q') y_2 (0,l_5) _ hy_3) (by repeat' first | exact trivial | refine And.intro rfl ?_) (fun _ _=>.cons (.ptr rfl) .nil) (fun _ _=>⟨_,_,_,rfl,.head _,⟨_,rfl,(by repeat' (first | exact H1.nil | apply H1.cons | exact Ag.val | exact Ag.sl | exact Ag.nils | exact Ag.ptr rfl | exact Ag.rowK rfl | exact Ag.elt))⟩,⟨_,_,_,rfl,.tail _ (.head _),⟨_,rfl,(by repeat' (first | exact H1.nil | apply H1.cons | exact Ag.val | exact Ag.sl | exact Ag.nils | exact Ag.ptr rfl | exact Ag.rowK rfl | exact Ag.elt))⟩,⟨_,_,_,rfl,.tail _ (.tail _ (.head _)),⟨_,rfl,(by repeat' (first | exact H1.nil | apply H1.cons | exact Ag.val | exact Ag.sl | exact Ag.nils | exact Ag.ptr rfl | exact Ag.rowK rfl | exact Ag.elt))⟩,⟨_,_,_,rfl,.tail _ (.tail _ (.tail _ (.head _))),⟨_,rfl,(by repeat' (first | exact H1.nil | apply H1.cons | exact Ag.val | exact Ag.sl | exact Ag.nils | exact Ag.ptr rfl | exact Ag.rowK rfl | exact Ag.elt))⟩,⟨_,_,_,rfl,.tail _ (.tail _ (.tail _ (.tail _ (.head _)))),⟨_,rfl,(by repeat' (first | exact H1.nil | apply H1.cons | exact Ag.val | exact Ag.sl | exact Ag.nils | exact Ag.ptr rfl | exact Ag.rowK rfl | exact Ag.elt))⟩,⟨_,_,_,rfl,.tail _ (.tail _ (.tail _ (.tail _ (.tail _ (.head _))))),rfl,⟨_,_,_,rfl,.tail _ (.tail _ (.tail _ (.tail _ (.tail _ (.tail _ (.head _)))))),rfl,rfl⟩⟩⟩⟩⟩⟩⟩) ?_ ?_
 intro _ _ a _ _ hq
 obtain⟨l_6,o6,rfl,rfl,G⟩:=W6 hq
 replace G:Bm.r6 x75_5 a l_6=some o6:=G
 unfold Bm.r6 at G
 refine Rnd.of rfl rfl (by kernel_rfl) fun w0 I ρ0 l hl=>?_
 show Kb _ ⟨w0,I,ρ0,4,6,100,some l⟩ _ _ _
 refine B7 (E4 _ _ []) 6 14 Gu rfl rfl ?_
 refine Jp fun B=>?_
 refine ag_ B rfl rfl fun rb6 hrb6 B=>?_
 refine Da <| Ca (E4 _ _ []) (by kernel_rfl) [0,1,3,7,0,31,63,0,128,511,1023,2047] 14 110 B rfl rfl (by kernel_rfl) ?_
 refine Il ?_
 obtain⟨e_6,he_6,G⟩:=Af G
 refine Il ?_
 refine Lk (rd:=[5]) rfl rfl (.loadR1 Ps (G3 (Jl _) (Cf he_6) (o:=0) (c:=.int .u32 e_6) rfl rfl)) rfl rfl ?_
 refine Il ?_
 obtain⟨q_2,hq_2,G⟩:=Af G
 refine Ex rfl rfl (Zx hq_2) rfl rfl ?_
 refine Ex rfl rfl mC rfl rfl ?_
 refine Il ?_
 refine Lk (rd:=[5]) rfl rfl (Qu Ps rfl (Fh (Jl _) (Cf he_6) (o:=0) (m:=1) (by decide) rfl) bV (cs':=[.int .u32 (cA .u32 e_6 q_2)]) (.cons .int .nil) (My (Jl _) (Cf he_6) (o:=0) (x':=cA .u32 e_6 q_2) (aC1 rfl) rfl rfl)) rfl rfl ?_
 refine Xu fun B=>?_
 obtain rfl:=oi_ G
 exact rn_ (rf_ 0 hrb6 [(0,0),(1,1),(2,2),(3,3),(4,4),(5,5)] rfl ⟨rfl,rfl⟩)
 intro _ _ B
 rcases jc_ G with ⟨hj,G⟩ | G
 refine rk0 hj ?_
 refine rp_ ?_
 refine B7 (E4 _ _ []) 22 38 B rfl rfl ?_
 refine Jp fun B=>?_
 obtain rfl:=oi_ G
 exact⟨((W (x75_5 + 1),y_3.2.2),m5),aKf _,hn5,B5 [(0,0),(1,3),(2,14),(3,15)]⟩
 cases G
 refine iC ?_
 replace G:=Lt G hn5
 refine Mn 12 28 B fun B=>?_
 refine tQ ?_
 obtain rfl:=oi_ G
 exact Q5 [(0,1)] ⟨rfl,rfl⟩
instance bDc:Wk 87:=⟨_,@V6⟩
theorem Us {n l r} (G:B3 n l=some r):Fn Tryz.prog 43 0 [vk n,.sl 2 (Ac Bq.enc l)] [] (fun d' b'=>d'=.tup [(match r.1 with | some _=>.ptr 0 0 | none=>.val (.pointer none)),vk r.2]/\b'=[] ++ (match r.1 with | some v'=>[.box (A4.dv v') 208] | none=>[])):=by
 unfold B3 at G
 refine Ea 0 91 Tryz.func43 fun _ _ _=>?_
 refine Cb 1 fun B G=>?_
 refine Ar <| Ba (ι:=Bool) (fun (x17_1:Bool)=>mk [(0,vk n),(1,.sl 2 (Ac Bq.enc l)),(17,.val (.bool x17_1))] [] 0) (fun (x17_1:Bool)=>B3.j1 n l x17_1=some r) ?_ ?_
 exact C6
 rintro x17_1 G
 unfold B3.j1 at G
 refine E6 (.l 0 (.e 4)) fun _ B G=>?_
 refine Ip (fun (x20_2:Int)=>mk [(0,vk n),(1,.sl 2 (Ac Bq.enc l)),(18,.sl 2 (Ac Bq.enc l)),(19,.val (.int .i64 (l.length:Int))),(20,vk x20_2)] [] 0) G (B5 []) ?_
 rintro x20_2 m2 o2 G hn2
 unfold B3.l2 at G
 refine Q4 2 fun B G=>?_
 refine Ji rfl G (fun _ G=>?_) fun _ G=>?_
 refine Cb 6 fun e _ B G=>?_
 refine Ba (ι:=Bool) (fun (x50_3:Bool)=>mk [(0,vk n),(1,.sl 2 (Ac Bq.enc l)),(18,.sl 2 (Ac Bq.enc l)),(19,.val (.int .i64 (l.length:Int))),(20,vk x20_2),(50,.val (.bool x50_3))] [] 0) (fun (x50_3:Bool)=>B3.j3 x20_2 x50_3=some o2) ?_ ?_
 exact C6
 rintro x50_3 G
 unfold B3.j3 at G
 exact Ik
 refine Cb 4 fun B G=>?_
 refine Ip (fun (x54_4:Int)=>mk [(0,vk n),(1,.sl 2 (Ac Bq.enc l)),(53,.val (.int .i64 (l.length:Int))),(54,vk x54_4)] [] 0) G (B5 []) ?_
 rintro x54_4 m4 o4 G hn4
 unfold B3.l4 at G
 refine Q4 2 fun B G=>?_
 refine Ji rfl G (fun _ G=>?_) fun _ G=>?_
 refine Cb 4 fun B G=>?_
 refine Ba (ι:=Bool) (fun (x71_5:Bool)=>mk [(0,vk n),(1,.sl 2 (Ac Bq.enc l)),(53,.val (.int .i64 (l.length:Int))),(54,vk x54_4),(71,.val (.bool x71_5))] [] 0) (fun (x71_5:Bool)=>B3.j5 x54_4 x71_5=some o4) ?_ ?_
 refine Ca (E4 _ _ []) (by kernel_rfl) [0,1,3,7,7,23,63,127,7,7,775,1799,4095,8191,16383] 24 144 B rfl rfl (by kernel_rfl) ?_
 exact C6
 rintro x71_5 G
 unfold B3.j5 at G
 exact Ik
 refine Cb 2 fun B G=>?_
 obtain⟨y_2,hy_2,G⟩:=Af G
 refine Gt (rd:=[]) (ps:=[]) (gs:=[]) false rfl (V6 hy_2) rfl rfl (.cons .val (.cons .sl .nil)) rfl rfl (by intro h; cases h) rfl (by intro h; first | (cases h; done) | exact⟨_,_,⟨rfl,rfl⟩,by simp,by simp⟩) ?_
 rintro _ _ ⟨rfl,rfl⟩
 refine Cb 3 fun B G=>?_
 refine Ip (fun (x81_6:Int)=>mk [(9,.ptr 0 0),(79,.sl 1 (Ac (eK .u32) y_2.before)),(80,.val (.int .i64 (y_2.before.length:Int))),(81,vk x81_6)] [(0,.box (A4.dv y_2) 208)] 1) G (B5 [(0,24)]) ?_
 rintro x81_6 m6 o6 G hn6
 unfold B3.l6 at G
 refine E6 (.r 2 (.e 5)) fun _ e_4 he_4 B G=>?_
 refine Ex rfl rfl (Eb Ps (G3 (Jl _) (Cf he_4) (o:=0) (c:=.int .u32 e_4) rfl rfl)) rfl rfl ?_
 exact C6
instance bDz:Wk 43:=⟨_,@Us⟩
theorem Sj {o s r} (G:Cn o s=some r):Fn Tryz.prog 44 1 [.ptr 0 0,.val (.int .u32 s)] [.box (A4.dv o) 208] (fun d' b'=>d'=.val (.int .u32 r.1)/\b'=[.box (A4.dv r.2) 208]):=by
 unfold Cn at G
 refine Ea 1 36 Tryz.func44 fun _ _ _=>?_
 refine Cb 5 fun B G=>?_
 refine Ip (fun ((out_1,x11_1):Int×Int)=>mk [(0,.ptr 0 0),(1,.val (.int .u32 s)),(5,.val (.int .u32 out_1)),(10,vk o.n),(11,vk x11_1)] [(0,.box (A4.dv o) 208)] 1) G (B5 [(0,0)]) ?_
 rintro⟨out_1,x11_1⟩ m1 o1 G hn1
 unfold Cn.l1 at G
 refine E6 (.r 2 (.e 1)) fun _ B G=>?_
 refine Ba (ι:=Int) (fun (out_3:Int)=>mk [(0,.ptr 0 0),(1,.val (.int .u32 s)),(5,.val (.int .u32 out_3)),(10,vk o.n),(11,vk x11_1)] [(0,.box (A4.dv o) 208)] 1) (fun (out_3:Int)=>Cn.j3 x11_1 out_3=some o1) ?_ ?_
 refine Cb 2 fun B G=>?_
 refine Ba (ι:=Bool) (fun (x29_2:Bool)=>mk [(0,.ptr 0 0),(1,.val (.int .u32 s)),(5,.val (.int .u32 out_1)),(6,vk x11_1),(10,vk o.n),(11,vk x11_1),(29,.val (.bool x29_2))] [(0,.box (A4.dv o) 208)] 1) (fun (x29_2:Bool)=>Cn.j2 out_1 x11_1 x29_2=some o1) ?_ ?_
 refine Qg (.r 2 (.e 1)) fun _ _ h7 e he B G=>?_
 refine Ex (Mq rfl rfl h7) rfl (Eb Ps (G3 (Jl _) (Cf he) (o:=0) (c:=.int .u32 e) rfl rfl)) rfl rfl ?_
 refine Cb 0 fun B G=>?_
 refine Ex (Mq rfl rfl h7) rfl Yn rfl rfl ?_
 exact C6
 rintro x29_2 G
 unfold Cn.j2 at G
 exact Ik
 rintro out_3 G
 unfold Cn.j3 at G
 exact Ik
instance bB8:Wk 44:=⟨_,@Sj⟩
theorem Un {e:Int} {yield':Int->(Nat×((List (Int×Bool))×List Int))->Option (Bool×(Nat×((List (Int×Bool))×List Int)))} {c0:Int} {q:(Nat×((List (Int×Bool))×List Int))} {r:Int×(Nat×((List (Int×Bool))×List Int))} (G:Ce yield' c0 q=some r) {rc:Loop} (hR:∀ (x0:Int) (q':Nat×((List (Int×Bool))×List Int)) (y':Bool×(Nat×((List (Int×Bool))×List Int))),yield' x0 q'=some y'->Rnd Tryz.prog [10,11,13] [.ptr 0 0,.ptr 1 0,.ptr 2 0] 81 (Oi rc 0) 3 4 [vk x0] [.box [.row 4] 128,.box [.row 5] 127,.box [.val (.int .u32 e)] 126,.lop [10,11,13] [.ptr 0 0,.ptr 1 0,.ptr 2 0] 81 (Oi rc q'.1),.map (Vj (vI .u32) vB q'.2.1),.row 126 1 (Ac (eK .u32) q'.2.2)] (fun b1 b2=>b1=y'.1/\b2=[.box [.row 4] 128,.box [.row 5] 127,.box [.val (.int .u32 e)] 126,.lop [10,11,13] [.ptr 0 0,.ptr 1 0,.ptr 2 0] 81 (Oi rc y'.2.1),.map (Vj (vI .u32) vB y'.2.2.1),.row 126 1 (Ac (eK .u32) y'.2.2.2)])):Itr Tryz.prog 89 3 5 [.ptr 4 0] [.box [.row 5] 128,.box [.row 6] 127,.box [.val (.int .u32 e)] 126,.lop [10,11,13] [.ptr 0 0,.ptr 1 0,.ptr 2 0] 81 (Oi rc q.1),.box [.val (.int .u32 c0)] 126,.map (Vj (vI .u32) vB q.2.1),.row 126 1 (Ac (eK .u32) q.2.2)] (fun b'=>b'=[.box [.row 5] 128,.box [.row 6] 127,.box [.val (.int .u32 e)] 126,.lop [10,11,13] [.ptr 0 0,.ptr 1 0,.ptr 2 0] 81 (Oi rc r.2.1),.box [.val (.int .u32 r.1)] 126,.map (Vj (vI .u32) vB r.2.2.1),.row 126 1 (Ac (eK .u32) r.2.2.2)]):=by
 unfold Ce at G
 refine Itr.of Tryz.func89 rfl rfl rfl rfl fun w0 I ρ0 l hl=>?_
 show Kb _ ⟨w0,I,ρ0,5,7,16,none⟩ _ _ _
 refine Da <| Ip (fun ((q_1,b_1):(Nat×((List (Int×Bool))×List Int))×Int)=>mk [(0,.val (.func (.yield l) #[] #[])),(1,.ptr 4 0)] [(0,.box [.row 5] 128),(1,.box [.row 6] 127),(2,.box [.val (.int .u32 e)] 126),(3,.lop [10,11,13] [.ptr 0 0,.ptr 1 0,.ptr 2 0] 81 (Oi rc q_1.1)),(4,.box [.val (.int .u32 b_1)] 126),(5,.map (Vj (vI .u32) vB q_1.2.1)),(6,.row 126 1 (Ac (eK .u32) q_1.2.2))] 7) G (B5 [(0,0),(1,1),(2,2),(3,3),(4,4),(5,5),(6,6)]) ?_
 rintro⟨q_1,b_1⟩ m1 o1 G hn1
 replace G:Ce.l1 yield' q_1 b_1=some o1:=G
 show Kb _ _ _ _ (mk _ _ _)
 unfold Ce.l1 at G
 refine Ar <| Mn 7 23 Gu fun B=>?_
 refine Ji rfl G (fun h2 G=>?_) fun h2 G=>?_
 refine Ts ?_
 refine Da <| Q1 23 47 B ?_
 refine Il ?_
 obtain⟨y,hy,G⟩:=Af G
 refine P9 (@Ij _ _ hy) ?_
 refine Jp fun B=>?_
 refine Ar <| Ca (E4 _ _ []) (by kernel_rfl) [0,0,2,7,15] 47 87 B rfl rfl (by kernel_rfl) ?_
 refine Il ?_
 obtain⟨q_2,hq_2,G⟩:=Af G
 refine Ex rfl rfl (Zx hq_2) rfl rfl ?_
 refine Ex rfl rfl Yn rfl rfl ?_
 refine Jp fun B=>?_
 refine Ar <| T9 ?_
 refine P5.chain (E4 _ _ []) 2 87 103 B rfl rfl ?_
 show Chain _ _ _ _ (Ft 0 [_,_]) _ _ _
 refine Il ?_
 refine rD fun B=>?_
 obtain⟨y_2,hy_2,G⟩:=Af G
 refine yl_ 103 [0,1,2,3] [5,6] [0,1,2,3,5,6] false B hl (hR _ _ _ hy_2) (.cons .val .nil) ⟨_,_,_,rfl,.head _,⟨_,rfl,(by repeat' (first | exact H1.nil | apply H1.cons | exact Ag.val | exact Ag.sl | exact Ag.nils | exact Ag.ptr rfl | exact Ag.rowK rfl | exact Ag.elt))⟩,⟨_,_,_,rfl,.tail _ (.head _),⟨_,rfl,(by repeat' (first | exact H1.nil | apply H1.cons | exact Ag.val | exact Ag.sl | exact Ag.nils | exact Ag.ptr rfl | exact Ag.rowK rfl | exact Ag.elt))⟩,⟨_,_,_,rfl,.tail _ (.tail _ (.head _)),⟨_,rfl,(by repeat' (first | exact H1.nil | apply H1.cons | exact Ag.val | exact Ag.sl | exact Ag.nils | exact Ag.ptr rfl | exact Ag.rowK rfl | exact Ag.elt))⟩,⟨_,_,_,rfl,.tail _ (.tail _ (.tail _ (.head _))),⟨_,rfl,(by repeat' (first | exact H1.nil | apply H1.cons | exact Ag.val | exact Ag.sl | exact Ag.nils | exact Ag.ptr rfl | exact Ag.rowK rfl | exact Ag.elt))⟩,⟨_,_,_,rfl,.tail _ (.tail _ (.tail _ (.tail _ (.head _)))),rfl,⟨_,_,_,rfl,.tail _ (.tail _ (.tail _ (.tail _ (.tail _ (.head _))))),rfl,rfl⟩⟩⟩⟩⟩⟩ fun B=>?_
 refine P5.chain (E4 _ _ []) 1 111 119 B rfl rfl ?_
 show Chain _ _ _ _ (Ft 0 [_]) _ _ _
 refine Il ?_
 refine rD fun B=>?_
 refine P5.fin ?_
 refine rp_ ?_
 refine Ji rfl G (fun h8 G=>?_) fun h8 G=>?_
 refine aP ?_
 refine rp_ ?_
 replace G:=Lt G hn1
 obtain rfl:=oi_ G
 exact Q5 [(0,0),(1,1),(2,2),(3,3),(4,4),(5,103),(6,104)] ⟨rfl,rfl⟩
 refine Ts ?_
 obtain rfl:=oi_ G
 exact⟨((y_2.2,Qn .u32 b_1 q_2),m1),aKf _,hn1,B5 [(0,0),(1,1),(2,2),(3,3),(4,4),(5,103),(6,104)]⟩
 refine iC ?_
 replace G:=Lt G hn1
 obtain rfl:=oi_ G
 exact Q5 [(0,0),(1,1),(2,2),(3,3),(4,4),(5,5),(6,6)] ⟨rfl,rfl⟩
theorem aZ {x' r} (G:Cz x'=some r):Fn Tryz.prog 147 0 [.val (.int .u64 x')] [] (fun d' b'=>d'=vk r/\b'=[]):=by
 unfold Cz at G
 refine Ea 0 25 Tryz.func147 fun _ _ _=>?_
 refine Mn 0 8 Gu fun B=>?_
 refine Ba (ι:=Int×Int) (fun ((x_1,n_1):Int×Int)=>mk [(0,.val (.int .u64 x_1)),(2,vk n_1)] [] 0) (fun ((x_1,n_1):Int×Int)=>Cz.j1 x_1 n_1=some r) ?_ ?_
 refine Mn 8 24 B fun B=>?_
 refine Ji rfl G (fun h3 G=>?_) fun h3 G=>?_
 refine Q1 24 48 B ?_
 refine Il ?_
 obtain⟨q,hq,G⟩:=Af G
 refine Ex rfl rfl (jE hq) rfl rfl ?_
 refine Jp fun B=>?_
 refine B7 (E4 _ _ []) 48 56 B rfl rfl ?_
 refine Jp fun B=>?_
 exact⟨(q,32),G,B5 []⟩
 refine Ts ?_
 exact⟨(x',0),G,B5 []⟩
 rintro⟨x_1,n_1⟩ G
 unfold Cz.j1 at G
 try dsimp only at G
 refine X5 rfl ?_
 refine Ba (ι:=Int×Int) (fun ((x_2,n_2):Int×Int)=>mk [(0,.val (.int .u64 x_2)),(2,vk n_2)] [] 0) (fun ((x_2,n_2):Int×Int)=>Cz.j2 x_2 n_2=some r) ?_ ?_
 refine Mn 0 16 Gu fun B=>?_
 refine Ji rfl G (fun h7 G=>?_) fun h7 G=>?_
 refine Q1 16 40 B ?_
 refine Il ?_
 obtain⟨q_2,hq_2,G⟩:=Af G
 refine Ex rfl rfl (jE hq_2) rfl rfl ?_
 refine Jp fun B=>?_
 refine B7 (E4 _ _ []) 40 64 B rfl rfl ?_
 refine Jp fun B=>?_
 exact⟨(q_2,W (n_1 + 16)),G,B5 []⟩
 refine Ts ?_
 exact⟨(x_1,n_1),G,B5 []⟩
 rintro⟨x_2,n_2⟩ G
 unfold Cz.j2 at G
 try dsimp only at G
 refine X5 rfl ?_
 refine Ba (ι:=Int×Int) (fun ((x_3,n_3):Int×Int)=>mk [(0,.val (.int .u64 x_3)),(2,vk n_3)] [] 0) (fun ((x_3,n_3):Int×Int)=>Cz.j3 x_3 n_3=some r) ?_ ?_
 refine Mn 0 16 Gu fun B=>?_
 refine Ji rfl G (fun h11 G=>?_) fun h11 G=>?_
 refine Q1 16 40 B ?_
 refine Il ?_
 obtain⟨q_3,hq_3,G⟩:=Af G
 refine Ex rfl rfl (jE hq_3) rfl rfl ?_
 refine Jp fun B=>?_
 refine B7 (E4 _ _ []) 40 64 B rfl rfl ?_
 refine Jp fun B=>?_
 exact⟨(q_3,W (n_2 + 8)),G,B5 []⟩
 refine Ts ?_
 exact⟨(x_2,n_2),G,B5 []⟩
 rintro⟨x_3,n_3⟩ G
 unfold Cz.j3 at G
 try dsimp only at G
 refine X5 rfl ?_
 refine Q1 0 56 Gu ?_
 refine Il ?_
 refine Ex rfl rfl (mJ aBw aE5) rfl rfl ?_
 obtain⟨c,hc,G⟩:=Af G
 refine Ex rfl rfl (dU dK hc) rfl rfl ?_
 refine Ex rfl rfl (Ya (u:=c) aE5 aCj) rfl rfl ?_
 exact t5_
instance aX6:Wk 147:=⟨_,@aZ⟩
theorem fN {x' r} (G:Hf x'=some r):Fn Tryz.prog 91 0 [.val (.int .u64 x')] [] (fun d' b'=>d'=vk r/\b'=[]):=by
 unfold Hf at G
 refine Ea 0 8 Tryz.func91 fun _ _ _=>?_
 refine Cb 1 fun B G=>?_
 refine Ar <| aAk (fun h=>?_) (fun h=>?_)
 exact absurd h (by first | decide | exact fun h=>nomatch (show false=true from h) | exact fun h=>nomatch (show true=false from h))
 exact C6
instance bBz:Wk 91:=⟨_,@fN⟩
theorem Wm {x' r} (G:Ht x'=some r):Fn Tryz.prog 92 0 [.val (.int .u32 x')] [] (fun d' b'=>d'=.val (.bool r)/\b'=[]):=by
 unfold Ht at G
 refine Ea 0 6 Tryz.func92 fun _ _ _=>?_
 exact C6
instance bC0:Wk 92:=⟨_,@Wm⟩
theorem Vc {x' y r} (G:Ic x' y=some r):Fn Tryz.prog 49 0 [.val (.int .u32 x'),.val (.int .u32 y)] [] (fun d' b'=>d'=vk r/\b'=[]):=by
 unfold Ic at G
 refine Ea 0 20 Tryz.func49 fun _ _ _=>?_
 exact C6
instance bDo:Wk 49:=⟨_,@Vc⟩
theorem V7 {a b r} (G:K8 a b=some r):Fn Tryz.prog 47 0 [.val (.int .u32 a),.val (.int .u32 b)] [] (fun d' b'=>d'=vk r/\b'=[]):=by
 unfold K8 at G
 refine Ea 0 19 Tryz.func47 fun _ _ _=>?_
 refine Cb 4 fun _ _ B G=>?_
 refine Ar <| Ca (E4 _ _ []) (by kernel_rfl) [0,0,3,7,0,0,48,112,255,511] 48 128 B rfl rfl (by kernel_rfl) ?_
 exact C6
instance bC3:Wk 47:=⟨_,@V7⟩
theorem K2 {data:List Int} {a:Int} {b:Int} {cmp:Int->Int->Option (Int)} (hf_cmp:∀ (x0:Int) (x1:Int) (y:Int),cmp x0 x1=some y->Fn Tryz.prog 47 0 [.val (.int .u32 x0),.val (.int .u32 x1)] [] (fun d' b'=>d'=vk y/\b'=[])) {r:(List Int)} (G:Aj data a b cmp=some r):Fn Tryz.prog 138 1 [.row 0,vk a,vk b,.clo 47 0 []] [.row 126 1 (Ac (eK .u32) data)] (fun d' b'=>d'=.tup []/\b'=[.row 126 1 (Ac (eK .u32) r)]):=by
 unfold Aj at G
 refine Ea 1 53 Tryz.func138 fun _ _ _=>?_
 refine Cb 2 fun B G=>?_
 refine Ip (fun ((i_1,data_1):Int×List Int)=>mk [(0,.row 0),(1,vk a),(2,vk b),(3,.clo 47 0 []),(8,vk i_1)] [(0,.row 126 1 (Ac (eK .u32) data_1))] 1) G (B5 [(0,0)]) ?_
 rintro⟨i_1,data_1⟩ m1 o1 G hn1
 unfold Aj.l1 at G
 refine E6 (.r 2 (.e 5)) fun _ B G=>?_
 refine Ip (fun ((j_2,data_2):Int×List Int)=>mk [(0,.row 0),(1,vk a),(2,vk b),(3,.clo 47 0 []),(8,vk i_1),(9,vk j_2)] [(0,.row 126 1 (Ac (eK .u32) data_2))] 1) G (B5 [(0,0)]) ?_
 rintro⟨j_2,data_2⟩ m2 o2 G hn2
 unfold Aj.l2 at G
 try dsimp only at G
 refine X5 rfl ?_
 refine Ar <| Ba (ι:=Bool) (fun (x34_3:Bool)=>mk [(0,.row 0),(1,vk a),(2,vk b),(3,.clo 47 0 []),(8,vk i_1),(9,vk j_2),(34,.val (.bool x34_3))] [(0,.row 126 1 (Ac (eK .u32) data_2))] 1) (fun (x34_3:Bool)=>Aj.j3 i_1 j_2 data_2 x34_3=some o2) ?_ ?_
 refine Ca (E4 _ _ []) (by kernel_rfl) [0,0,3,7,15,15,15,111,239,15,15,1039,3599,7695,16383,32767,65535] 1 137 Gu rfl rfl (by kernel_rfl) ?_
 refine Qg (.r 0 (.e 1)) fun h5 e he B G=>?_
 refine Lk (rd:=[0]) (Mq rfl rfl h5) rfl (.loadR1 Ps (G3 (Jl _) (Cf he) (o:=0) (c:=.int .u32 e) rfl rfl)) rfl rfl ?_
 refine Cb 1 fun e_2 he_2 B G=>?_
 refine Lk (rd:=[0]) (Mq rfl rfl h5) rfl (.loadR1 Ps (G3 (Jl _) (Cf he_2) (o:=0) (c:=.int .u32 e_2) rfl rfl)) rfl rfl ?_
 obtain⟨y,hy,G⟩:=Af G
 refine F5 (rd:=[]) (ps:=[]) (gs:=[]) false (Mq rfl rfl h5) rfl (hf_cmp e e_2 _ hy) rfl rfl (.cons .val (.cons .val .nil)) rfl rfl (by intro h; cases h) rfl rfl rfl rfl ?_
 exact C6
 rintro x34_3 G
 unfold Aj.j3 at G
 refine E6 (.r 0 (.e 3)) fun _ B G=>?_
 refine Ca (E4 _ _ []) (by kernel_rfl) [0,0,0,0,8,0,0,64,224,480,0,0,3072,7168,16355,32739,65535,131071] 1 145 Gu rfl rfl (by kernel_rfl) ?_
 refine Cb 1 fun e_3 he_3 B G=>?_
 refine Lk (rd:=[0]) rfl rfl (.loadR1 Ps (G3 (Jl _) (Cf he_3) (o:=0) (c:=.int .u32 e_3) rfl rfl)) rfl rfl ?_
 refine Cb 1 fun e_4 he_4 B G=>?_
 refine Lk (rd:=[0]) rfl rfl (.loadR1 Ps (G3 (Jl _) (Cf he_4) (o:=0) (c:=.int .u32 e_4) rfl rfl)) rfl rfl ?_
 refine Cb 0 fun B G=>?_
 refine Lk (rd:=[0]) rfl rfl (Qu Ps rfl (Fh (Jl _) (Cf he_4) (o:=0) (m:=1) (by decide) rfl) bV (cs':=[.int .u32 e_3]) (.cons .int .nil) (My (Jl _) (Cf he_4) (o:=0) (x':=e_3) (aC1 rfl) rfl rfl)) rfl rfl ?_
 refine Cb 1 fun _ he_5 B G=>?_
 refine Lk (rd:=[0]) rfl rfl (Qu Ps rfl (Fh (Jl _) (Cf he_5) (o:=0) (m:=1) (by decide) rfl) bV (cs':=[.int .u32 e_4]) (.cons .int .nil) (My (Jl _) (Cf he_5) (o:=0) (x':=e_4) (aC1 rfl) rfl rfl)) rfl rfl ?_
 exact C6
end Go.Proofs.YtboglmbblmakjaaGreatDoor
