import Derived.Test.YtboglmbblmakjaaGreatDoorT1
import Derived.Test.YtboglmbblmakjaaGreatDoorEU
import Derived.Test.YtboglmbblmakjaaGreatDoorA1
set_option linter.unusedVariables false
set_option linter.unusedSimpArgs false
set_option maxRecDepth 100000
set_option maxHeartbeats 40000000
namespace Go.Proofs.YtboglmbblmakjaaGreatDoor
open Go.RowKit
theorem Mj {data:List Int} {a:Int} {b:Int} {limit:Int} {cmp:Int->Int->Option (Int)} (hf_cmp:∀ (x0:Int) (x1:Int) (y:Int),cmp x0 x1=some y->Fn Tryz.prog 47 0 [.val (.int .u32 x0),.val (.int .u32 x1)] [] (fun d' b'=>d'=vk y/\b'=[])) {r:(List Int)} (G:B0 data a b limit cmp=some r):Fn Tryz.prog 90 1 [.row 0,vk a,vk b,vk limit,.clo 47 0 []] [.row 126 1 (Ac (eK .u32) data)] (fun d' b'=>d'=.tup []/\b'=[.row 126 1 (Ac (eK .u32) r)]):=by
 unfold B0 at G
 refine Ea 1 148 Tryz.func90 fun _ _ _=>?_
 refine Cb 3 fun B G=>?_
 refine Ip (fun (_:Unit)=>mk [(0,.row 0),(1,vk a),(2,vk b),(3,vk limit),(4,.clo 47 0 []),(10,.val (.bool true)),(11,.val (.bool true))] [(0,.row 126 1 (Ac (eK .u32) data))] 1) G (B5 [(0,0)]) ?_
 rintro _ m1 o1 G hn1
 unfold B0.l1 at G
 refine Q4 4 fun B G=>?_
 refine Ji rfl G (fun _ G=>?_) fun _ G=>?_
 refine Cb 1 fun B G=>?_
 obtain⟨y,hy,G⟩:=Af G
 refine dO [0] [0] [] false (@K2 data a b cmp hf_cmp _ hy) ?_
 exact C6
 refine Cb 3 fun B G=>?_
 refine Ji rfl G (fun _ G=>?_) fun _ G=>?_
 refine Cb 1 fun B G=>?_
 cases G
 refine Cb 3 fun B G=>?_
 refine Vg rfl (fun h=>?_) (fun h=>?_)
 exact absurd h (by first | decide | exact fun h=>nomatch (show false=true from h) | exact fun h=>nomatch (show true=false from h))
 refine Cb 2 fun B G=>?_
 cases G
theorem Oo {x':List Int} {cmp:Int->Int->Option (Int)} (hf_cmp:∀ (x0:Int) (x1:Int) (y:Int),cmp x0 x1=some y->Fn Tryz.prog 47 0 [.val (.int .u32 x0),.val (.int .u32 x1)] [] (fun d' b'=>d'=vk y/\b'=[])) {r:(List Int)} (G:G2 x' cmp=some r):Fn Tryz.prog 46 1 [.row 0,.clo 47 0 []] [.row 126 1 (Ac (eK .u32) x')] (fun d' b'=>d'=.tup []/\b'=[.row 126 1 (Ac (eK .u32) r)]):=by
 unfold G2 at G
 refine Ea 1 14 Tryz.func46 fun _ _ _=>?_
 refine Cb 4 fun y _ B G=>?_
 obtain⟨y_2,hy_2,G⟩:=Af G
 refine dO [0] [0] [] false (@Mj x' 0 (x'.length:Int) y cmp hf_cmp _ hy_2) ?_
 exact C6
theorem Uq {s:Int} {yield':Int->(Nat×(List Int))->Option (Bool×(Nat×(List Int)))} {c0:Int} {q:(Nat×(List Int))} {r:Int×(Nat×(List Int))} (G:Ce yield' c0 q=some r) {rc:Loop} (hR:∀ (x0:Int) (q':Nat×(List Int)) (y':Bool×(Nat×(List Int))),yield' x0 q'=some y'->Rnd Tryz.prog [3] [.ptr 0 0] 13 (Oi rc 0) 1 2 [vk x0] [.box [.row 2] 136,.lop [3] [.ptr 0 0] 13 (Oi rc q'.1),.row 3 1 (Ac eI q'.2)] (fun b1 b2=>b1=y'.1/\b2=[.box [.row 2] 136,.lop [3] [.ptr 0 0] 13 (Oi rc y'.2.1),.row 3 1 (Ac eI y'.2.2)])):Itr Tryz.prog 89 1 3 [.ptr 2 0] [.box [.row 3] 136,.lop [3] [.ptr 0 0] 13 (Oi rc q.1),.box [.val (.int .u32 c0)] 126,.row 3 1 (Ac eI q.2)] (fun b'=>b'=[.box [.row 3] 136,.lop [3] [.ptr 0 0] 13 (Oi rc r.2.1),.box [.val (.int .u32 r.1)] 126,.row 3 1 (Ac eI r.2.2)]):=by
 unfold Ce at G
 refine Itr.of Tryz.func89 rfl rfl rfl rfl fun w0 I ρ0 l hl=>?_
 show Kb _ ⟨w0,I,ρ0,3,4,16,none⟩ _ _ _
 refine Da <| Ip (fun ((q_1,b_1):(Nat×(List Int))×Int)=>mk [(0,.val (.func (.yield l) #[] #[])),(1,.ptr 2 0)] [(0,.box [.row 3] 136),(1,.lop [3] [.ptr 0 0] 13 (Oi rc q_1.1)),(2,.box [.val (.int .u32 b_1)] 126),(3,.row 3 1 (Ac eI q_1.2))] 4) G (B5 [(0,0),(1,1),(2,2),(3,3)]) ?_
 rintro⟨q_1,b_1⟩ m1 o1 G hn1
 replace G:Ce.l1 yield' q_1 b_1=some o1:=G
 show Kb _ _ _ _ (mk _ _ _)
 unfold Ce.l1 at G
 refine Ar <| Mn 4 20 Gu fun B=>?_
 refine Ji rfl G (fun h2 G=>?_) fun h2 G=>?_
 refine Ts ?_
 refine Da <| Q1 20 44 B ?_
 refine Il ?_
 obtain⟨y,hy,G⟩:=Af G
 refine P9 (@Ij _ _ hy) ?_
 refine Jp fun B=>?_
 refine Ar <| Ca (E4 _ _ []) (by kernel_rfl) [0,0,2,7,15] 44 84 B rfl rfl (by kernel_rfl) ?_
 refine Il ?_
 obtain⟨q_2,hq_2,G⟩:=Af G
 refine Ex rfl rfl (Zx hq_2) rfl rfl ?_
 refine Ex rfl rfl Yn rfl rfl ?_
 refine Jp fun B=>?_
 refine Ar <| T9 ?_
 refine P5.chain (E4 _ _ []) 2 84 100 B rfl rfl ?_
 show Chain _ _ _ _ (Ft 0 [_,_]) _ _ _
 refine Il ?_
 refine rD fun B=>?_
 obtain⟨y_2,hy_2,G⟩:=Af G
 refine yl_ 100 [0,1] [3] [0,1,3] false B hl (hR _ _ _ hy_2) (.cons .val .nil) ⟨_,_,_,rfl,.head _,⟨_,rfl,(by repeat' (first | exact H1.nil | apply H1.cons | exact Ag.val | exact Ag.sl | exact Ag.nils | exact Ag.ptr rfl | exact Ag.rowK rfl | exact Ag.elt))⟩,⟨_,_,_,rfl,.tail _ (.head _),⟨_,rfl,(by repeat' (first | exact H1.nil | apply H1.cons | exact Ag.val | exact Ag.sl | exact Ag.nils | exact Ag.ptr rfl | exact Ag.rowK rfl | exact Ag.elt))⟩,⟨_,_,_,rfl,.tail _ (.tail _ (.head _)),rfl,rfl⟩⟩⟩ fun B=>?_
 refine P5.chain (E4 _ _ []) 1 108 116 B rfl rfl ?_
 show Chain _ _ _ _ (Ft 0 [_]) _ _ _
 refine Il ?_
 refine rD fun B=>?_
 refine P5.fin ?_
 refine rp_ ?_
 refine Ji rfl G (fun h8 G=>?_) fun h8 G=>?_
 refine aP ?_
 refine rp_ ?_
 replace G:=Lt G hn1
 obtain rfl:=oi_ G
 exact Q5 [(0,0),(1,1),(2,2),(3,100)] ⟨rfl,rfl⟩
 refine Ts ?_
 obtain rfl:=oi_ G
 exact⟨((y_2.2,Qn .u32 b_1 q_2),m1),aKf _,hn1,B5 [(0,0),(1,1),(2,2),(3,100)]⟩
 refine iC ?_
 replace G:=Lt G hn1
 obtain rfl:=oi_ G
 exact Q5 [(0,0),(1,1),(2,2),(3,3)] ⟨rfl,rfl⟩
theorem Vi {s r} (G:F6 s=some r):Fn Tryz.prog 50 0 [.val (.int .u32 s)] [] (fun d' b'=>d'=.sl 1 (Ac eI r)/\b'=[]):=by
 unfold F6 at G
 refine Fn.of Tryz.func50 rfl rfl rfl fun w0 I ρ0=>?_
 show Kb _ ⟨w0,I,ρ0,0,0,13,none⟩ _ _ _
 refine Mn 0 8 Gu fun B=>?_
 refine Mn 8 16 B fun B=>?_
 refine Ar <| Q1 16 32 B ?_
 refine Il ?_
 obtain⟨y,hy,G⟩:=Af G
 refine Gt (rd:=[]) (ps:=[]) (gs:=[]) false rfl (@Pf _ _ hy) rfl rfl (.cons .val .nil) rfl rfl (by intro h; cases h) rfl (by intro h; first | (cases h; done) | exact⟨_,_,⟨rfl,rfl⟩,by simp,by simp⟩) ?_
 rintro _ _ ⟨rfl,rfl⟩
 refine Xu fun B=>?_
 refine Da ?_
 obtain⟨y_2,hy_2,G⟩:=Af G
 refine Gs (σ':=mk [(3,.ptr 0 0),(6,.clo 89 0 [.ptr 1 0])] [(0,.box [.row 2] 136),(1,.box [.val (.int .u32 y)] 126),(2,.row 3 1 (Ac eI ([]:List Int)))] 3) (B5 [(0,8),(1,24)]) ?_
 refine aGp (c:=y_2.2.1) (ts:=[3]) (ds:=[.ptr 0 0]) 3 [0,3,1] [2] [0,3,1,2] false Gu (@Uq s (fun a0' q'=>tO (fun s'=>F6.r1 a0' s') q') y (0,([]:List Int)) _ hy_2) (by repeat' first | exact trivial | refine And.intro rfl ?_) (fun _ _=>.cons (.ptr rfl) .nil) (fun _ _=>⟨_,_,_,rfl,.head _,⟨_,rfl,(by repeat' (first | exact H1.nil | apply H1.cons | exact Ag.val | exact Ag.sl | exact Ag.nils | exact Ag.ptr rfl | exact Ag.rowK rfl | exact Ag.elt))⟩,⟨_,_,_,rfl,.tail _ (.head _),⟨_,rfl,(by repeat' (first | exact H1.nil | apply H1.cons | exact Ag.val | exact Ag.sl | exact Ag.nils | exact Ag.ptr rfl | exact Ag.rowK rfl | exact Ag.elt))⟩,⟨_,_,_,rfl,.tail _ (.tail _ (.head _)),⟨_,rfl,(by repeat' (first | exact H1.nil | apply H1.cons | exact Ag.val | exact Ag.sl | exact Ag.nils | exact Ag.ptr rfl | exact Ag.rowK rfl | exact Ag.elt))⟩,⟨_,_,_,rfl,.tail _ (.tail _ (.tail _ (.head _))),rfl,rfl⟩⟩⟩⟩) ?_ ?_
 intro _ _ a _ _ hq
 obtain⟨l_1,o1,rfl,rfl,G⟩:=W6 hq
 replace G:F6.r1 a l_1=some o1:=G
 unfold F6.r1 at G
 refine Rnd.of rfl rfl (by kernel_rfl) fun w0 I ρ0 l hl=>?_
 show Kb _ ⟨w0,I,ρ0,2,3,13,some l⟩ _ _ _
 refine B7 (E4 _ _ []) 3 11 Gu rfl rfl ?_
 refine Jp fun B=>?_
 refine ag_ B rfl rfl fun rb1 hrb1 B=>?_
 refine Da <| B7 (E4 _ _ []) 11 51 B rfl rfl ?_
 refine Il ?_
 refine Kv aDu z3 Pp ([a]:List Int) eI ?_
 obtain⟨l,hl,G⟩:=Af G
 refine Lk (rd:=[2,27]) rfl rfl (Od aDu R7 .row rfl .row rfl hl rfl) rfl rfl ?_
 refine Jp fun B=>?_
 obtain rfl:=oi_ G
 exact rn_ (rf_ 0 hrb1 [(0,0),(1,1),(2,35)] rfl ⟨rfl,rfl⟩)
 intro _ _ B
 rcases jc_ G with ⟨hj,G⟩ | G
 refine rk0 hj ?_
 refine rp_ ?_
 refine Mn 19 35 B fun B=>?_
 exact t3_
 cases G
instance bC5:Wk 50:=⟨_,@Vi⟩
theorem pE {n l r} (G:Dn n l=some r):Fn Tryz.prog 15 0 [vk n,.sl 2 (Ac Bq.enc l)] [] (fun d' b'=>d'=.tup [.sl 1 (Ac (eL 1 eI) r.1),vk r.2]/\b'=[]):=by
 unfold Dn at G
 refine Fn.of Tryz.func15 rfl rfl rfl fun w0 I ρ0=>?_
 show Kb _ ⟨w0,I,ρ0,0,0,81,none⟩ _ _ _
 refine Mn 0 16 Gu fun B=>?_
 refine Q1 16 80 B ?_
 refine Il ?_
 obtain⟨y,hy,G⟩:=Af G
 rcases y with ⟨_ | o,y_r⟩
 replace G:=aP6 G
 refine Gt (rd:=[]) (ps:=[]) (gs:=[]) false rfl (@Us _ _ _ hy) rfl rfl (.cons .val (.cons .sl .nil)) rfl rfl (by intro h; cases h) rfl (by intro h; first | (cases h; done) | exact⟨_,_,⟨rfl,rfl⟩,by simp,by simp⟩) ?_
 rintro _ _ ⟨rfl,rfl⟩
 refine Jp fun B=>?_
 refine Ar <| Mn 80 96 B fun B=>?_
 refine Ji rfl G (fun h5 G=>?_) fun h5 G=>?_
 refine Q1 96 120 B ?_
 exact t5_
 cases G
 replace G:=aO2 G
 refine Gt (rd:=[]) (ps:=[]) (gs:=[]) false rfl (@Us _ _ _ hy) rfl rfl (.cons .val (.cons .sl .nil)) rfl rfl (by intro h; cases h) rfl (by intro h; first | (cases h; done) | exact⟨_,_,⟨rfl,rfl⟩,by simp,by simp⟩) ?_
 rintro _ _ ⟨rfl,rfl⟩
 refine Jp fun B=>?_
 refine Ar <| Mn 80 96 B fun B=>?_
 refine Ji rfl G (fun h8 G=>?_) fun h8 G=>?_
 refine Q1 96 120 B ?_
 exact t5_
 refine Ts ?_
 refine Q1 96 112 B ?_
 refine Kv aHt aPu aLd ([([]:(List Int))]:List (List Int)) (eL 1 eI) ?_
 refine Jp fun B=>?_
 refine Ar <| Q1 112 128 B ?_
 refine Kv mS aFf bV ([0]:List Int) (eK .u32) ?_
 refine Jp fun B=>?_
 refine Da <| Ip (fun ((o_1,out_1,row_1):A4×List (List Int)×List Int)=>mk [(6,.ptr 0 0),(8,.row 1),(9,.row 2)] [(0,.box (A4.dv o_1) 208),(1,.row 136 1 (Ac (eL 1 eI) out_1)),(2,.row 126 1 (Ac (eK .u32) row_1))] 3) G (B5 [(0,32),(1,96),(2,112)]) ?_
 rintro⟨o_1,out_1,row_1⟩ m1 o1 G hn1
 replace G:Dn.l1 o_1 out_1 row_1=some o1:=G
 show Kb _ _ _ _ (mk _ _ _)
 unfold Dn.l1 at G
 refine Ar <| Mn 3 27 Gu fun B=>?_
 refine Ji rfl G (fun h13 G=>?_) fun h13 G=>?_
 refine Ts ?_
 refine Da <| Q1 27 51 B ?_
 refine Zc (rd:=[]) rfl rfl .makeMap rfl rfl (fun _=>⟨_,rfl⟩) ?_
 rintro _ rfl
 refine Jp fun B=>?_
 refine Mn 51 59 B fun B=>?_
 refine Ar <| Mn 59 83 B fun B=>?_
 refine Da <| Ip (fun ((x35_2,o_2,m_2,l_2):Int×A4×(List (Int×Bool))×List Int)=>mk [(6,.ptr 0 0),(8,.row 1),(10,.ptr 2 0),(11,.ptr 3 0),(33,.row 4),(34,.val (.int .i64 (row_1.length:Int))),(35,vk x35_2)] [(0,.box (A4.dv o_2) 208),(1,.row 136 1 (Ac (eL 1 eI) out_1)),(2,.box [.row 5] 128),(3,.box [.row 6] 127),(4,.row 126 1 (Ac (eK .u32) row_1)),(5,.map (Vj (vI .u32) vB m_2)),(6,.row 126 1 (Ac (eK .u32) l_2))] 7) G ((by exact Rs.lists [(0,0),(1,1),(2,35),(3,51),(4,2),(5,27)] rfl rfl ⟨⟨_,rfl,.ptr rfl⟩,⟨_,rfl,.row rfl⟩,⟨_,rfl,.ptr rfl⟩,⟨_,rfl,.ptr rfl⟩,⟨_,rfl,.row rfl⟩,⟨_,rfl,.val _⟩,⟨_,rfl,.val _⟩,trivial⟩ ⟨.inl ⟨0,_,rfl,rfl,⟨rfl,.cons (.val _) (.cons (.sl _ _) (.cons (.sl _ _) .nil))⟩⟩,.inl ⟨1,_,rfl,rfl,⟨rfl,rfl,rfl⟩⟩,.inl ⟨35,_,rfl,rfl,⟨rfl,.cons (.row rfl) .nil⟩⟩,.inl ⟨51,_,rfl,rfl,⟨rfl,.cons (.nil rfl) .nil⟩⟩,.inl ⟨2,_,rfl,rfl,⟨rfl,rfl,rfl⟩⟩,.inl ⟨27,_,rfl,rfl,rfl⟩,.inr ⟨rfl,_,_,rfl⟩,trivial⟩)) ?_
 rintro⟨x35_2,o_2,m_2,l_2⟩ m2 o2 G hn2
 replace G:Dn.l2 out_1 row_1 x35_2 o_2 m_2 l_2=some o2:=G
 show Kb _ _ _ _ (mk _ _ _)
 unfold Dn.l2 at G
 refine Mn 7 15 Gu fun B=>?_
 refine Ar <| Ji rfl G (fun h18 G=>?_) fun h18 G=>?_
 refine Ts ?_
 refine Ar <| Da <| Q1 15 47 B ?_
 obtain⟨e,he,G⟩:=Af G
 refine Il ?_
 refine Lk (rd:=[4]) rfl rfl (.loadR1 Ps (G3 (Jl _) (Cf he) (o:=0) (c:=.int .u32 e) rfl rfl)) rfl rfl ?_
 refine Jp fun B=>?_
 refine Ar <| Q1 47 79 B ?_
 refine Il ?_
 obtain⟨y_2,hy_2,G⟩:=Af G
 refine dO [0] [0] [] false (@Sj _ _ _ hy_2) ?_
 obtain⟨y_3,hy_3,G⟩:=Af G
 refine Gt (rd:=[]) (ps:=[]) (gs:=[]) false rfl (@Pf _ _ hy_3) rfl rfl (.cons .val .nil) rfl rfl (by intro h; cases h) rfl (by intro h; first | (cases h; done) | exact⟨_,_,⟨rfl,rfl⟩,by simp,by simp⟩) ?_
 rintro _ _ ⟨rfl,rfl⟩
 refine Xu fun B=>?_
 refine Da ?_
 obtain⟨y_4,hy_4,G⟩:=Af G
 refine Gs (σ':=mk [(6,.ptr 0 0),(8,.row 1),(10,.ptr 2 0),(11,.ptr 3 0),(13,.ptr 4 0),(33,.row 5),(34,.val (.int .i64 (row_1.length:Int))),(35,vk x35_2),(42,.clo 89 0 [.ptr 6 0])] [(0,.box (A4.dv y_2.2) 208),(1,.row 136 1 (Ac (eL 1 eI) out_1)),(2,.box [.row 7] 128),(3,.box [.row 8] 127),(4,.box [.val (.int .u32 e)] 126),(5,.row 126 1 (Ac (eK .u32) row_1)),(6,.box [.val (.int .u32 y_3)] 126),(7,.map (Vj (vI .u32) vB m_2)),(8,.row 126 1 (Ac (eK .u32) l_2))] 9) ((by exact Rs.lists [(0,0),(1,1),(2,2),(3,3),(4,31),(5,4),(6,71),(7,5),(8,6)] rfl rfl ⟨⟨_,rfl,.ptr rfl⟩,⟨_,rfl,.row rfl⟩,⟨_,rfl,.ptr rfl⟩,⟨_,rfl,.ptr rfl⟩,⟨_,rfl,.ptr rfl⟩,⟨_,rfl,.row rfl⟩,⟨_,rfl,.val _⟩,⟨_,rfl,.val _⟩,⟨_,rfl,.clo _ _ (.cons (.ptr rfl) .nil)⟩,trivial⟩ ⟨.inl ⟨0,_,rfl,rfl,⟨rfl,.cons (.val _) (.cons (.sl _ _) (.cons (.sl _ _) .nil))⟩⟩,.inl ⟨1,_,rfl,rfl,⟨rfl,rfl,rfl⟩⟩,.inl ⟨2,_,rfl,rfl,⟨rfl,.cons (.row rfl) .nil⟩⟩,.inl ⟨3,_,rfl,rfl,⟨rfl,.cons (.row rfl) .nil⟩⟩,.inl ⟨31,_,rfl,rfl,⟨rfl,.cons (.val _) .nil⟩⟩,.inl ⟨4,_,rfl,rfl,⟨rfl,rfl,rfl⟩⟩,.inl ⟨71,_,rfl,rfl,⟨rfl,.cons (.val _) .nil⟩⟩,.inl ⟨5,_,rfl,rfl,rfl⟩,.inl ⟨6,_,rfl,rfl,⟨rfl,rfl,rfl⟩⟩,trivial⟩)) ?_
 refine aGp (c:=y_4.2.1) (ts:=[10,11,13]) (ds:=[.ptr 2 0,.ptr 3 0,.ptr 4 0]) 9 [2,3,4,9,6] [7,8] [2,3,4,9,6,7,8] false Gu (@Un e (fun a0' q'=>tO (fun s'=>Dn.r3 e a0' s'.1 s'.2) q') y_3 (0,(m_2,l_2)) _ hy_4) (by repeat' first | exact trivial | refine And.intro rfl ?_) (fun _ _=>.cons (.ptr rfl) .nil) (fun _ _=>⟨_,_,_,rfl,.head _,⟨_,rfl,(by repeat' (first | exact H1.nil | apply H1.cons | exact Ag.val | exact Ag.sl | exact Ag.nils | exact Ag.ptr rfl | exact Ag.rowK rfl | exact Ag.elt))⟩,⟨_,_,_,rfl,.tail _ (.head _),⟨_,rfl,(by repeat' (first | exact H1.nil | apply H1.cons | exact Ag.val | exact Ag.sl | exact Ag.nils | exact Ag.ptr rfl | exact Ag.rowK rfl | exact Ag.elt))⟩,⟨_,_,_,rfl,.tail _ (.tail _ (.head _)),⟨_,rfl,(by repeat' (first | exact H1.nil | apply H1.cons | exact Ag.val | exact Ag.sl | exact Ag.nils | exact Ag.ptr rfl | exact Ag.rowK rfl | exact Ag.elt))⟩,⟨_,_,_,rfl,.tail _ (.tail _ (.tail _ (.head _))),⟨_,rfl,(by repeat' (first | exact H1.nil | apply H1.cons | exact Ag.val | exact Ag.sl | exact Ag.nils | exact Ag.ptr rfl | exact Ag.rowK rfl | exact Ag.elt))⟩,⟨_,_,_,rfl,.tail _ (.tail _ (.tail _ (.tail _ (.head _)))),⟨_,rfl,(by repeat' (first | exact H1.nil | apply H1.cons | exact Ag.val | exact Ag.sl | exact Ag.nils | exact Ag.ptr rfl | exact Ag.rowK rfl | exact Ag.elt))⟩,⟨_,_,_,rfl,.tail _ (.tail _ (.tail _ (.tail _ (.tail _ (.head _))))),rfl,⟨_,_,_,rfl,.tail _ (.tail _ (.tail _ (.tail _ (.tail _ (.tail _ (.head _)))))),rfl,rfl⟩⟩⟩⟩⟩⟩⟩) ?_ ?_
 intro _ _ a _ _ hq
 obtain⟨⟨m_3,l_3⟩,o3,rfl,rfl,G⟩:=W6 hq
 replace G:Dn.r3 e a m_3 l_3=some o3:=G
 unfold Dn.r3 at G
 refine Rnd.of rfl rfl (by kernel_rfl) fun w0 I ρ0 l hl=>?_
 show Kb _ ⟨w0,I,ρ0,4,6,81,some l⟩ _ _ _
 refine B7 (E4 _ _ []) 6 14 Gu rfl rfl ?_
 refine Jp fun B=>?_
 refine ag_ B rfl rfl fun rb3 hrb3 B=>?_
 refine Da <| Ar <| Ca (E4 _ _ []) (by kernel_rfl) [0,0,2,7,15] 14 54 B rfl rfl (by kernel_rfl) ?_
 refine Il ?_
 obtain⟨q,hq,G⟩:=Af G
 refine Ex rfl rfl (Zx hq) rfl rfl ?_
 refine Ex rfl rfl mC rfl rfl ?_
 refine Jp fun B=>?_
 refine Q1 54 86 B ?_
 refine Il ?_
 refine Zc (rd:=[4]) rfl rfl (aC9 (f:=(vI .u32)) (g:=vB) (l:=m_3) (key:=cA .u32 e q) (z:=false) wH (aNj uD) zv4 rfl rfl (.head _)) rfl rfl (fun _=>⟨_,rfl⟩) ?_
 rintro _ rfl
 refine Jp fun B=>?_
 refine Ji rfl G (fun h25 G=>?_) fun h25 G=>?_
 refine Ca (E4 _ _ []) (by kernel_rfl) [0,0,0,0,8,28,63,127] 86 150 B rfl rfl (by kernel_rfl) ?_
 refine Il ?_
 refine Kv mS aFf bV ([cA .u32 e q]:List Int) (eK .u32) ?_
 obtain⟨l_4,hl_4,G⟩:=Af G
 refine Lk (rd:=[5,118]) rfl rfl (Od mS (Jl _) .row rfl .row rfl hl_4 rfl) rfl rfl ?_
 refine Zc (rd:=[4]) rfl rfl (qP (f:=(vI .u32)) (g:=vB) (l:=m_3) (key:=cA .u32 e q) (v:=true) wH (aNj uD) rfl rfl (.head _)) rfl rfl (fun _=>⟨_,rfl⟩) ?_
 rintro _ rfl
 refine Jp fun B=>?_
 obtain rfl:=oi_ G
 exact rn_ (rf_ 0 hrb3 [(0,0),(1,1),(2,2),(3,3),(4,4),(5,126)] rfl ⟨rfl,rfl⟩)
 refine Ts ?_
 obtain rfl:=oi_ G
 exact rn_ (rf_ 0 hrb3 [(0,0),(1,1),(2,2),(3,3),(4,4),(5,5)] rfl ⟨rfl,rfl⟩)
 intro _ _ B
 rcases jc_ G with ⟨hj,G⟩ | G
 refine rk0 hj ?_
 refine rp_ ?_
 refine Mn 25 73 B fun B=>?_
 refine Ji rfl G (fun h29 G=>?_) fun h29 G=>?_
 refine Mn 73 89 B fun B=>?_
 refine tQ ?_
 replace G:=Lt G hn2
 replace G:=Lt G hn1
 exact t2_
 refine Ts ?_
 refine B7 (E4 _ _ []) 73 89 B rfl rfl ?_
 refine Jp fun B=>?_
 obtain rfl:=oi_ G
 exact⟨((W (x35_2 + 1),y_2.2,y_4.2.2.1,y_4.2.2.2),m2),aKf _,hn2,(by exact Rs.lists [(0,0),(1,1),(2,2),(3,3),(4,5),(5,17),(6,18)] rfl rfl ⟨⟨_,rfl,.ptr rfl⟩,⟨_,rfl,.row rfl⟩,⟨_,rfl,.ptr rfl⟩,⟨_,rfl,.ptr rfl⟩,⟨_,rfl,.row rfl⟩,⟨_,rfl,.val _⟩,⟨_,rfl,.val _⟩,trivial⟩ ⟨.inl ⟨0,_,rfl,rfl,⟨rfl,.cons (.val _) (.cons (.sl _ _) (.cons (.sl _ _) .nil))⟩⟩,.inl ⟨1,_,rfl,rfl,⟨rfl,rfl,rfl⟩⟩,.inl ⟨2,_,rfl,rfl,⟨rfl,.cons (.row rfl) .nil⟩⟩,.inl ⟨3,_,rfl,rfl,⟨rfl,.cons (.row rfl) .nil⟩⟩,.inl ⟨5,_,rfl,rfl,⟨rfl,rfl,rfl⟩⟩,.inl ⟨17,_,rfl,rfl,rfl⟩,.inl ⟨18,_,rfl,rfl,⟨rfl,rfl,rfl⟩⟩,trivial⟩)⟩
 cases G
 refine iC ?_
 replace G:=Lt G hn2
 refine Q1 15 31 B ?_
 refine Il ?_
 obtain⟨y_5,hy_5,G⟩:=Af G
 refine dO [6] [6] [] false (@Oo l_2 (fun x0 x1=>K8 x0 x1) (fun x0 x1 yy hh=>@V7 x0 x1 yy hh) _ hy_5) ?_
 refine Xu fun B=>?_
 refine Ar <| Mn 31 55 B fun B=>?_
 refine Da <| Ip (fun ((x69_4,out_4):Int×List (List Int))=>mk [(6,.ptr 0 0),(8,.row 1),(11,.ptr 2 0),(67,.row 3),(68,.val (.int .i64 (y_5.length:Int))),(69,vk x69_4)] [(0,.box (A4.dv o_2) 208),(1,.row 136 1 (Ac (eL 1 eI) out_4)),(2,.box [.row 3] 127),(3,.row 126 1 (Ac (eK .u32) y_5))] 4) G ((by exact Rs.lists [(0,0),(1,1),(2,3),(3,6)] rfl rfl ⟨⟨_,rfl,.ptr rfl⟩,⟨_,rfl,.row rfl⟩,⟨_,rfl,.ptr rfl⟩,⟨_,rfl,.row rfl⟩,⟨_,rfl,.val _⟩,⟨_,rfl,.val _⟩,trivial⟩ ⟨.inl ⟨0,_,rfl,rfl,⟨rfl,.cons (.val _) (.cons (.sl _ _) (.cons (.sl _ _) .nil))⟩⟩,.inl ⟨1,_,rfl,rfl,⟨rfl,rfl,rfl⟩⟩,.inl ⟨3,_,rfl,rfl,⟨rfl,.cons (.row rfl) .nil⟩⟩,.inl ⟨6,_,rfl,rfl,⟨rfl,rfl,rfl⟩⟩,trivial⟩)) ?_
 rintro⟨x69_4,out_4⟩ m4 o4 G hn4
 replace G:Dn.l4 o_2 y_5 x69_4 out_4=some o4:=G
 show Kb _ _ _ _ (mk _ _ _)
 unfold Dn.l4 at G
 refine Mn 4 12 Gu fun B=>?_
 refine Ar <| Ji rfl G (fun h35 G=>?_) fun h35 G=>?_
 refine Ts ?_
 refine Ar <| Da <| Q1 12 36 B ?_
 obtain⟨e_2,he_2,G⟩:=Af G
 refine Il ?_
 refine Lk (rd:=[3]) rfl rfl (.loadR1 Ps (G3 (Jl _) (Cf he_2) (o:=0) (c:=.int .u32 e_2) rfl rfl)) rfl rfl ?_
 refine Jp fun B=>?_
 refine B7 (E4 _ _ []) 36 84 B rfl rfl ?_
 refine Il ?_
 obtain⟨y_6,hy_6,G⟩:=Af G
 refine P9 (@Vi _ _ hy_6) ?_
 refine Kv aHt aPu aLd ([y_6]:List (List Int)) (eL 1 eI) ?_
 obtain⟨l_5,hl_5,G⟩:=Af G
 refine Lk (rd:=[1,60]) rfl rfl (Od aHt (vO _ _) .row rfl .row rfl hl_5 rfl) rfl rfl ?_
 refine Jp fun B=>?_
 refine B7 (E4 _ _ []) 84 100 B rfl rfl ?_
 refine Jp fun B=>?_
 obtain rfl:=oi_ G
 exact⟨((W (x69_4 + 1),l_5),m4),aKf _,hn4,B5 [(0,0),(1,68),(2,2),(3,3)]⟩
 refine iC ?_
 replace G:=Lt G hn4
 refine B7 (E4 _ _ []) 12 28 B rfl rfl ?_
 refine Jp fun B=>?_
 obtain rfl:=oi_ G
 exact⟨((o_2,out_4,y_5),m1),aKf _,hn1,B5 [(0,0),(1,1),(2,3)]⟩
 refine iC ?_
 replace G:=Lt G hn1
 refine Mn 27 51 B fun B=>?_
 exact t3_
instance bDg:Wk 15:=⟨_,@pE⟩
theorem sS {n r} (G:Rz n=some r):Fn Tryz.prog 17 0 [vk n] [] (fun d' b'=>d'=.agg (A5.dv r)/\b'=[]):=by
 unfold Rz at G
 refine Ea 0 11 Tryz.func17 fun _ _ _=>?_
 refine Cb 1 fun B G=>?_
 refine Ar <| B7 (E4 _ _ [16]) 8 80 B rfl rfl ?_
 refine Ox nV aKn aIr ?_
 refine wP Hz z3 Pp ([0]:List Int) eI ?_
 refine Ox vW aQl aLo ?_
 refine Kv aUe aLo aTh ([(Aw.mk (Bh.mk 0 300) ([0]:List Int))]:List Aw) Aw.enc ?_
 refine Cb 0 fun B G=>?_
 obtain⟨m,hm,G⟩:=Af G
 refine Ex rfl rfl (aM (f:=eI) Hz z3 Pp (.cons .int .nil) rfl hm rfl) rfl rfl ?_
 refine Kv Hz z3 Pp ([24]:List Int) eI ?_
 refine Ox wV aW5 z77 ?_
 exact C6
instance bBp:Wk 17:=⟨_,@sS⟩
theorem T4 {n r} (G:Ju n=some r):Fn Tryz.prog 148 0 [vk n] [] (fun d' b'=>d'=.val (.bool r)/\b'=[]):=by
 unfold Ju at G
 refine Ea 0 9 Tryz.func148 fun _ _ _=>?_
 exact C6
instance bA2:Wk 148:=⟨_,@T4⟩
theorem P7 {s:(List Int)} {f:Int->Option (Bool)} (hf_f:∀ (x0:Int) (y:Bool),f x0=some y->Fn Tryz.prog 148 0 [vk x0] [] (fun d' b'=>d'=.val (.bool y)/\b'=[])) {r:Int} (G:Az s f=some r):Fn Tryz.prog 172 0 [.sl 1 (Ac eI s),.clo 148 0 []] [] (fun d' b'=>d'=vk r/\b'=[]):=by
 unfold Az at G
 refine Ea 0 19 Tryz.func172 fun _ _ _=>?_
 refine Cb 4 fun B G=>?_
 refine Ip (fun (x8_1:Int)=>mk [(0,.sl 1 (Ac eI s)),(1,.clo 148 0 []),(7,.val (.int .i64 (s.length:Int))),(8,vk x8_1)] [] 0) G (B5 []) ?_
 rintro x8_1 m1 o1 G hn1
 unfold Az.l1 at G
 refine E6 (.r 2 (.e 7)) fun _ e _ B G=>?_
 obtain⟨y,hy,G⟩:=Af G
 refine F5 (rd:=[]) (ps:=[]) (gs:=[]) false rfl rfl (hf_f e _ hy) rfl rfl (.cons .val .nil) rfl rfl (by intro h; cases h) rfl rfl rfl rfl ?_
 exact C6
theorem Oz {s:(List Int)} {f:Int->Option (Bool)} (hf_f:∀ (x0:Int) (y:Bool),f x0=some y->Fn Tryz.prog 148 0 [vk x0] [] (fun d' b'=>d'=.val (.bool y)/\b'=[])) {r:Bool} (G:Cs s f=some r):Fn Tryz.prog 130 0 [.sl 1 (Ac eI s),.clo 148 0 []] [] (fun d' b'=>d'=.val (.bool r)/\b'=[]):=by
 unfold Cs at G
 refine Ea 0 9 Tryz.func130 fun _ _ _=>?_
 refine Cb 2 fun B G=>?_
 obtain⟨y,hy,G⟩:=Af G
 refine P9 (@P7 s f hf_f _ hy) ?_
 exact C6
theorem Ub {w r} (G:Jr w=some r):Fn Tryz.prog 150 0 [.agg (Aw.dv w)] [] (fun d' b'=>d'=.val (.bool r)/\b'=[]):=by
 unfold Jr at G
 refine Ea 0 22 Tryz.func150 fun _ _ _=>?_
 exact C6
instance aZz:Wk 150:=⟨_,@Ub⟩
theorem Nn {s:(List Aw)} {f:Aw->Option (Bool)} (hf_f:∀ (x0:Aw) (y:Bool),f x0=some y->Fn Tryz.prog 150 0 [.agg (Aw.dv x0)] [] (fun d' b'=>d'=.val (.bool y)/\b'=[])) {r:Int} (G:Be s f=some r):Fn Tryz.prog 94 0 [.sl 3 (Ac Aw.enc s),.clo 150 0 []] [] (fun d' b'=>d'=vk r/\b'=[]):=by
 unfold Be at G
 refine Ea 0 19 Tryz.func94 fun _ _ _=>?_
 refine Cb 4 fun B G=>?_
 refine Ip (fun (x8_1:Int)=>mk [(0,.sl 3 (Ac Aw.enc s)),(1,.clo 150 0 []),(7,.val (.int .i64 (s.length:Int))),(8,vk x8_1)] [] 0) G (B5 []) ?_
 rintro x8_1 m1 o1 G hn1
 unfold Be.l1 at G
 refine E6 (.r 2 (.e 7)) fun _ e _ B G=>?_
 obtain⟨y,hy,G⟩:=Af G
 refine F5 (rd:=[]) (ps:=[]) (gs:=[]) false rfl rfl (hf_f e _ hy) rfl rfl (.cons (.agg (.cons .val (.cons .val (.cons .sl .nil)))) .nil) rfl rfl (by intro h; cases h) rfl rfl rfl rfl ?_
 exact C6
theorem Mm {s:(List Aw)} {f:Aw->Option (Bool)} (hf_f:∀ (x0:Aw) (y:Bool),f x0=some y->Fn Tryz.prog 150 0 [.agg (Aw.dv x0)] [] (fun d' b'=>d'=.val (.bool y)/\b'=[])) {r:Bool} (G:D6 s f=some r):Fn Tryz.prog 149 0 [.sl 3 (Ac Aw.enc s),.clo 150 0 []] [] (fun d' b'=>d'=.val (.bool r)/\b'=[]):=by
 unfold D6 at G
 refine Ea 0 9 Tryz.func149 fun _ _ _=>?_
 refine Cb 2 fun B G=>?_
 obtain⟨y,hy,G⟩:=Af G
 refine P9 (@Nn s f hf_f _ hy) ?_
 exact C6
theorem lQ {c n r} (G:O7 c n=some r):Fn Tryz.prog 152 0 [.agg (A5.dv c),vk n] [] (fun d' b'=>d'=.val (.bool r)/\b'=[]):=by
 unfold O7 at G
 refine Ea 0 14 Tryz.func152 fun _ _ _=>?_
 exact C6
instance aZ2:Wk 152:=⟨_,@lQ⟩
theorem Qz {n c0 r} (G:Hp n c0=some r):Fn Tryz.prog 151 0 [vk n,.elt (((A5.ec c0):List C).drop 0)] [] (fun d' b'=>d'=.val (.bool r)/\b'=[]):=by
 unfold Hp at G
 refine Ea 0 8 Tryz.func151 fun _ _ _=>?_
 refine Cb 2 fun B G=>?_
 refine Ex rfl rfl (Kr aSf (cs2:=(A5.ec c0)) rfl (aC1 rfl)) rfl rfl ?_
 exact C6
instance bAf:Wk 151:=⟨_,@Qz⟩
theorem Ny {s:(List Int)} {f:Int->Option (Bool)} {f_c0:A5} (hf_f:∀ (x0:Int) (y:Bool),f x0=some y->Fn Tryz.prog 151 0 [vk x0,.elt (((A5.ec f_c0):List C).drop 0)] [] (fun d' b'=>d'=.val (.bool y)/\b'=[])) {r:Int} (G:Az s f=some r):Fn Tryz.prog 172 0 [.sl 1 (Ac eI s),.clo 151 0 [.elt (((A5.ec f_c0):List C).drop 0)]] [] (fun d' b'=>d'=vk r/\b'=[]):=by
 unfold Az at G
 refine Ea 0 19 Tryz.func172 fun _ _ _=>?_
 refine Cb 4 fun B G=>?_
 refine Ip (fun (x8_1:Int)=>mk [(0,.sl 1 (Ac eI s)),(1,.clo 151 0 [.elt (((A5.ec f_c0):List C).drop 0)]),(7,.val (.int .i64 (s.length:Int))),(8,vk x8_1)] [] 0) G (B5 []) ?_
 rintro x8_1 m1 o1 G hn1
 unfold Az.l1 at G
 refine E6 (.r 2 (.e 7)) fun _ e _ B G=>?_
 obtain⟨y,hy,G⟩:=Af G
 refine F5 (rd:=[]) (ps:=[]) (gs:=[]) false rfl rfl (hf_f e _ hy) rfl rfl (.cons .val (.cons .elt .nil)) rfl rfl (by intro h; cases h) rfl rfl rfl rfl ?_
 exact C6
theorem Iu {s:(List Int)} {f:Int->Option (Bool)} {f_c0:A5} (hf_f:∀ (x0:Int) (y:Bool),f x0=some y->Fn Tryz.prog 151 0 [vk x0,.elt (((A5.ec f_c0):List C).drop 0)] [] (fun d' b'=>d'=.val (.bool y)/\b'=[])) {r:Bool} (G:Cs s f=some r):Fn Tryz.prog 130 0 [.sl 1 (Ac eI s),.clo 151 0 [.elt (((A5.ec f_c0):List C).drop 0)]] [] (fun d' b'=>d'=.val (.bool r)/\b'=[]):=by
 unfold Cs at G
 refine Ea 0 9 Tryz.func130 fun _ _ _=>?_
 refine Cb 2 fun B G=>?_
 obtain⟨y,hy,G⟩:=Af G
 refine P9 (@Ny s f f_c0 hf_f _ hy) ?_
 exact C6
theorem T8 {w c0 r} (G:Js w c0=some r):Fn Tryz.prog 153 0 [.agg (Aw.dv w),.elt (([.ref 151 (A5.ec c0)]:List C).drop 0)] [] (fun d' b'=>d'=.val (.bool r)/\b'=[]):=by
 unfold Js at G
 refine Ea 0 8 Tryz.func153 fun _ _ _=>?_
 refine Cb 2 fun B G=>?_
 refine Ex rfl rfl (Eb aDk (c:=.ref 151 (A5.ec c0)) rfl) rfl rfl ?_
 obtain⟨y,hy,G⟩:=Af G
 refine P9 (@Iu w.Teams (fun x0=>Hp x0 c0) c0 (fun x0 yy hh=>@Qz x0 c0 yy hh) _ hy) ?_
 exact C6
instance aZv:Wk 153:=⟨_,@T8⟩
theorem Jg {s:(List Aw)} {f:Aw->Option (Bool)} {f_c0:A5} (hf_f:∀ (x0:Aw) (y:Bool),f x0=some y->Fn Tryz.prog 153 0 [.agg (Aw.dv x0),.elt (([.ref 151 (A5.ec f_c0)]:List C).drop 0)] [] (fun d' b'=>d'=.val (.bool y)/\b'=[])) {r:Int} (G:Be s f=some r):Fn Tryz.prog 94 0 [.sl 3 (Ac Aw.enc s),.clo 153 0 [.elt (([.ref 151 (A5.ec f_c0)]:List C).drop 0)]] [] (fun d' b'=>d'=vk r/\b'=[]):=by
 unfold Be at G
 refine Ea 0 19 Tryz.func94 fun _ _ _=>?_
 refine Cb 4 fun B G=>?_
 refine Ip (fun (x8_1:Int)=>mk [(0,.sl 3 (Ac Aw.enc s)),(1,.clo 153 0 [.elt (([.ref 151 (A5.ec f_c0)]:List C).drop 0)]),(7,.val (.int .i64 (s.length:Int))),(8,vk x8_1)] [] 0) G (B5 []) ?_
 rintro x8_1 m1 o1 G hn1
 unfold Be.l1 at G
 refine E6 (.r 2 (.e 7)) fun _ e _ B G=>?_
 obtain⟨y,hy,G⟩:=Af G
 refine F5 (rd:=[]) (ps:=[]) (gs:=[]) false rfl rfl (hf_f e _ hy) rfl rfl (.cons (.agg (.cons .val (.cons .val (.cons .sl .nil)))) (.cons .elt .nil)) rfl rfl (by intro h; cases h) rfl rfl rfl rfl ?_
 exact C6
theorem I7 {s:(List Aw)} {f:Aw->Option (Bool)} {f_c0:A5} (hf_f:∀ (x0:Aw) (y:Bool),f x0=some y->Fn Tryz.prog 153 0 [.agg (Aw.dv x0),.elt (([.ref 151 (A5.ec f_c0)]:List C).drop 0)] [] (fun d' b'=>d'=.val (.bool y)/\b'=[])) {r:Bool} (G:D6 s f=some r):Fn Tryz.prog 149 0 [.sl 3 (Ac Aw.enc s),.clo 153 0 [.elt (([.ref 151 (A5.ec f_c0)]:List C).drop 0)]] [] (fun d' b'=>d'=.val (.bool r)/\b'=[]):=by
 unfold D6 at G
 refine Ea 0 9 Tryz.func149 fun _ _ _=>?_
 refine Cb 2 fun B G=>?_
 obtain⟨y,hy,G⟩:=Af G
 refine P9 (@Jg s f f_c0 hf_f _ hy) ?_
 exact C6
theorem hQ {c endpoints r} (G:By c endpoints=some r):Fn Tryz.prog 93 0 [.agg (A5.dv c),vk endpoints] [] (fun d' b'=>d'=vk r/\b'=[]):=by
 unfold By at G
 refine Ea 0 88 Tryz.func93 fun _ _ _=>?_
 refine Cb 1 fun B G=>?_
 refine Ar <| Ba (ι:=Bool) (fun (x19_1:Bool)=>mk [(1,vk endpoints),(2,.ptr 0 0),(19,.val (.bool x19_1))] [(0,.box (A5.dv c) 77)] 1) (fun (x19_1:Bool)=>By.j1 c endpoints x19_1=some r) ?_ ?_
 exact C6
 rintro x19_1 G
 unfold By.j1 at G
 refine E6 (.l 0 (.e 3)) fun _ B G=>?_
 obtain⟨y,hy,G⟩:=Af G
 refine P9 (@Oz c.Room (fun x0=>Ju x0) (fun x0 yy hh=>@T4 x0 yy hh) _ hy) ?_
 refine Qg (.l 0 (.e 3)) fun _ B G=>?_
 obtain⟨y_2,hy_2,G⟩:=Af G
 refine P9 (@Mm c.Windows (fun x0=>Jr x0) (fun x0 yy hh=>@Ub x0 yy hh) _ hy_2) ?_
 refine Qg (.l 0 (.e 4)) fun _ B G=>?_
 refine Ip (fun (x29_2:Int)=>mk [(1,vk endpoints),(2,.ptr 0 0),(27,.sl 3 (Ac Aw.enc c.Windows)),(28,.val (.int .i64 (c.Windows.length:Int))),(29,vk x29_2)] [(0,.box (A5.dv c) 77)] 1) G (B5 [(0,0)]) ?_
 rintro x29_2 m2 o2 G hn2
 unfold By.l2 at G
 refine Q4 2 fun B G=>?_
 refine Ji rfl G (fun _ G=>?_) fun _ G=>?_
 refine Cb 6 fun e _ B G=>?_
 refine Ar <| Ba (ι:=Bool) (fun (x49_3:Bool)=>mk [(1,vk endpoints),(2,.ptr 0 0),(6,.ptr 1 0),(27,.sl 3 (Ac Aw.enc c.Windows)),(28,.val (.int .i64 (c.Windows.length:Int))),(29,vk x29_2),(49,.val (.bool x49_3))] [(0,.box (A5.dv c) 77),(1,.box (Aw.dv e) 143)] 2) (fun (x49_3:Bool)=>By.j3 x29_2 e x49_3=some o2) ?_ ?_
 refine Ca (E4 _ _ []) (by kernel_rfl) [0,1,3,7,15,31,7,71,7,263,967,1991,4039,8135,16383,32767] 57 185 B rfl rfl (by kernel_rfl) ?_
 exact C6
 rintro x49_3 G
 unfold By.j3 at G
 refine E6 (.l 0 (.e 3)) fun _ B G=>?_
 refine Ip (fun (x53_4:Int)=>mk [(1,vk endpoints),(2,.ptr 0 0),(6,.ptr 1 0),(27,.sl 3 (Ac Aw.enc c.Windows)),(28,.val (.int .i64 (c.Windows.length:Int))),(29,vk x29_2),(51,.sl 1 (Ac eI e.Teams)),(52,.val (.int .i64 (e.Teams.length:Int))),(53,vk x53_4)] [(0,.box (A5.dv c) 77),(1,.box (Aw.dv e) 143)] 2) G (B5 [(0,0),(1,1)]) ?_
 rintro x53_4 m4 o4 G hn4
 unfold By.l4 at G
 refine E6 (.r 2 (.e 6)) fun _ e_3 _ B G=>?_
 refine Ba (ι:=Bool) (fun (x69_5:Bool)=>mk [(1,vk endpoints),(2,.ptr 0 0),(6,.ptr 1 0),(27,.sl 3 (Ac Aw.enc c.Windows)),(28,.val (.int .i64 (c.Windows.length:Int))),(29,vk x29_2),(51,.sl 1 (Ac eI e.Teams)),(52,.val (.int .i64 (e.Teams.length:Int))),(53,vk x53_4),(69,.val (.bool x69_5))] [(0,.box (A5.dv c) 77),(1,.box (Aw.dv e) 143)] 2) (fun (x69_5:Bool)=>By.j5 x53_4 x69_5=some o4) ?_ ?_
 exact C6
 rintro x69_5 G
 unfold By.j5 at G
 exact Ik
 refine Cb 1 fun B G=>?_
 refine Ar <| Gs (σ':=mk [(1,vk endpoints),(2,.elt (((A5.ec c):List C).drop 0))] [] 0) ((by exact Rs.lists [] rfl rfl ⟨⟨_,rfl,.val _⟩,⟨_,rfl,.frzb (ks:=[some 3,some 1,some 1]) rfl (.cons .sl (.cons .sl (.cons .sl .nil))) (H3 rfl)⟩,trivial⟩ trivial)) ?_
 refine Cb 1 fun B G=>?_
 refine Ar <| Ar <| Gs (σ':=mk [(1,vk endpoints),(2,.elt (((A5.ec c):List C).drop 0)),(9,.elt (([.ref 151 (A5.ec c)]:List C).drop 0))] [] 0) ((by exact Rs.lists [] rfl rfl ⟨⟨_,rfl,.val _⟩,⟨_,rfl,.elt _⟩,⟨_,rfl,.frzb (ks:=[none]) rfl (.cons .ref .nil) (H3 rfl)⟩,trivial⟩ trivial)) ?_
 refine Cb 1 fun B G=>?_
 refine Ex rfl rfl (Ja aEu aO4 (by decide) (aC1 rfl)) rfl rfl ?_
 refine Ex rfl rfl (Eb aO4 (c:=.sl 3 (Ac Aw.enc c.Windows)) rfl) rfl rfl ?_
 refine Cb 0 fun B G=>?_
 obtain⟨y_3,hy_3,G⟩:=Af G
 refine P9 (@I7 c.Windows (fun x0=>Js x0 c) c (fun x0 yy hh=>@T8 x0 c yy hh) _ hy_3) ?_
 refine Qg (.l 0 (.e 1)) fun _ B G=>?_
 refine Ar <| Ba (ι:=Bool) (fun (x87_8:Bool)=>mk [(87,.val (.bool x87_8))] [] 0) (fun (x87_8:Bool)=>By.j8 x87_8=some r) ?_ ?_
 refine Cb 1 fun B G=>?_
 refine Ex rfl rfl (Ja uA iT (by decide) (aC1 rfl)) rfl rfl ?_
 refine Ex rfl rfl (Eb iT (c:=.sl 1 (Ac eI c.Team)) rfl) rfl rfl ?_
 refine Qg (.l 0 (.e 0)) fun h37 B G=>?_
 refine Ex (Mq rfl rfl h37) rfl (Ja uA iT (by decide) (aC1 rfl)) rfl rfl ?_
 refine Ex (Mq rfl rfl h37) rfl (Eb iT (c:=.sl 1 (Ac eI c.Team)) rfl) rfl rfl ?_
 refine Ex (Mq rfl rfl h37) rfl (Eb aDk (c:=.ref 151 (A5.ec c)) rfl) rfl rfl ?_
 obtain⟨y_4,hy_4,G⟩:=Af G
 refine P9 (@Iu c.Team (fun x0=>Hp x0 c) c (fun x0 yy hh=>@Qz x0 c yy hh) _ hy_4) ?_
 exact C6
 rintro x87_8 G
 unfold By.j8 at G
 exact Ik
instance bDt:Wk 93:=⟨_,@hQ⟩
theorem pS {c r} (G:Qb c=some r):Fn Tryz.prog 51 0 [.agg (A5.dv c)] [] (fun d' b'=>d'=vk r/\b'=[]):=by
 unfold Qb at G
 refine Ea 0 8 Tryz.func51 fun _ _ _=>?_
 exact C6
instance bC9:Wk 51:=⟨_,@pS⟩
theorem Xe {w c0 r} (G:Mf w c0=some r):Fn Tryz.prog 95 0 [.agg (Aw.dv w),.elt (([.int .i64 c0]:List C).drop 0)] [] (fun d' b'=>d'=.val (.bool r)/\b'=[]):=by
 unfold Mf at G
 refine Ea 0 16 Tryz.func95 fun _ _ _=>?_
 refine Cb 2 fun B G=>?_
 refine Ex rfl rfl (Eb Z4 (c:=.int .i64 c0) rfl) rfl rfl ?_
 refine Qg (.r 0 (.e 0)) fun h2 B G=>?_
 refine Ex (Mq rfl rfl h2) rfl (Eb Z4 (c:=.int .i64 c0) rfl) rfl rfl ?_
 exact C6
instance bC7:Wk 95:=⟨_,@Xe⟩
end Go.Proofs.YtboglmbblmakjaaGreatDoor
