import Derived.Test.YtbpchmikjiinpaaGreatT1
import Derived.Test.YtbpchmikjiinpaaGreatEU
import Derived.Test.YtbpchmikjiinpaaGreatA1
import Derived.Test.YtbpchmikjiinpaaGreatA3
import Derived.Test.YtbpchmikjiinpaaGreatA4
import Derived.Test.YtbpchmikjiinpaaGreatA6
import Derived.Test.YtbpchmikjiinpaaGreatA7
import Derived.Test.YtbpchmikjiinpaaGreatA13
import Derived.Test.YtbpchmikjiinpaaGreatA14
import Derived.Test.YtbpchmikjiinpaaGreatA15
set_option linter.unusedVariables false
set_option linter.unusedSimpArgs false
set_option maxRecDepth 100000
set_option maxHeartbeats 40000000
namespace Go.Proofs.YtbpchmikjiinpaaGreat
open Go.RowKit
theorem eN {e name r} (G:Fe e name=some r):Fn Tryz.prog 54 0 [.agg (Ap.dv e),ws name] [] (fun d' b'=>d'=.tup [vk r.1,.val (.bool r.2)]/\b'=[]):=by
 unfold Fe at G
 refine Dx 0 22 Tryz.func54 fun _ _ _=>?_
 refine Bt 4 fun B G=>?_
 refine G7 (fun (x11_1:Int)=>mk [(1,ws name),(9,.sl 9 (Aj Ad.enc e.Endpoints)),(10,.val (.int .i64 (e.Endpoints.length:Int))),(11,vk x11_1)] [] 0) G (B9 []) ?_
 rintro x11_1 m1 o1 G hn1
 unfold Fe.l1 at G
 exact Hf
instance aQx:Wk 54:=⟨_,@eN⟩
theorem lN {e l day r} (G:Ck e l day=some r):Fn Tryz.prog 25 0 [.agg (Ap.dv e),.sl 11 (Aj Aa.enc l),vk day] [] (fun d' b'=>d'=.tup [.sl 1 (Aj eI r.1),vk r.2]/\b'=[]):=by
 unfold Ck at G
 refine Dx 0 58 Tryz.func25 fun _ _ _=>?_
 refine Md (.l 4 (.e 1)) fun _ _ _ B G=>?_
 refine Au <| Ba (ι:=Bool) (fun (x21_1:Bool)=>mk [(1,.sl 11 (Aj Aa.enc l)),(2,vk day),(3,.ptr 0 0),(21,.val (.bool x21_1))] [(0,.box (Ap.dv e) 36)] 1) (fun (x21_1:Bool)=>Ck.j1 e l day x21_1=some r) ?_ ?_
 exact Cf
 rintro x21_1 G
 unfold Ck.j1 at G
 refine D4 (.l 0 (.e 5)) fun _ B G=>?_
 refine G7 (fun ((x24_2,out_2):Int×List Int)=>mk [(2,vk day),(3,.ptr 0 0),(8,.row 1),(22,.sl 11 (Aj Aa.enc l)),(23,.val (.int .i64 (l.length:Int))),(24,vk x24_2)] [(0,.box (Ap.dv e) 36),(1,.row 3 1 (Aj eI out_2))] 2) G (B9 [(0,0)]) ?_
 rintro⟨x24_2,out_2⟩ m2 o2 G hn2
 unfold Ck.l2 at G
 refine D4 (.r 2 (.e 1)) fun _ B G=>?_
 refine Ba (ι:=List Int) (fun (out_4:List Int)=>mk [(2,vk day),(3,.ptr 0 0),(8,.row 1),(22,.sl 11 (Aj Aa.enc l)),(23,.val (.int .i64 (l.length:Int))),(24,vk x24_2)] [(0,.box (Ap.dv e) 36),(1,.row 3 1 (Aj eI out_4))] 2) (fun (out_4:List Int)=>Ck.j4 x24_2 out_4=some o2) ?_ ?_
 refine Bt 6 fun _ _ _ _ B G=>?_
 refine Ba (ι:=Bool) (fun (x51_3:Bool)=>mk [(2,vk day),(3,.ptr 0 0),(8,.row 1),(9,vk x24_2),(22,.sl 11 (Aj Aa.enc l)),(23,.val (.int .i64 (l.length:Int))),(24,vk x24_2),(51,.val (.bool x51_3))] [(0,.box (Ap.dv e) 36),(1,.row 3 1 (Aj eI out_2))] 2) (fun (x51_3:Bool)=>Ck.j3 x24_2 out_2 x51_3=some o2) ?_ ?_
 refine Bb (Df _ _ []) (by kernel_rfl) [0,1,3,7,3,31,63,127,255,511,255,2047,4095,255,16383,32767] 130 258 B rfl rfl (by kernel_rfl) ?_
 exact Cf
 rintro x51_3 G
 unfold Ck.j3 at G
 refine D4 (.r 0 (.e 1)) fun _ B G=>?_
 refine Hj Eb z3 I7 ([x24_2]:List Int) eI ?_
 exact Cf
 rintro out_4 G
 unfold Ck.j4 at G
 exact Hf
instance aRw:Wk 25:=⟨_,@lN⟩
theorem Yb {a b r} (G:Eu a b=some r):Fn Tryz.prog 26 0 [.sl 1 (Aj eI a),.sl 1 (Aj eI b)] [] (fun d' b'=>d'=.val (.bool r)/\b'=[]):=by
 unfold Eu at G
 refine Dx 0 26 Tryz.func26 fun _ _ _=>?_
 refine Md (.l 3 (.e 4)) fun _ B G=>?_
 refine G7 (fun (x13_1:Int)=>mk [(0,.sl 1 (Aj eI a)),(1,.sl 1 (Aj eI b)),(12,.val (.int .i64 (a.length:Int))),(13,vk x13_1)] [] 0) G (B9 []) ?_
 rintro x13_1 m1 o1 G hn1
 unfold Eu.l1 at G
 refine D4 (.r 2 (.e 4)) fun _ B G=>?_
 refine Au <| Bb (Df _ _ []) (by kernel_rfl) [0,0,3,7,0,0,48,112,255] 24 96 B rfl rfl (by kernel_rfl) ?_
 exact Cf
instance aQz:Wk 26:=⟨_,@Yb⟩
theorem Sk {t raw day l r} (G:Ar t raw day l=some r):Fn Tryz.prog 3 0 [.sl 1 (Aj eI t),.agg (Aa.dv raw),vk day,.sl 11 (Aj Aa.enc l)] [] (fun d' b'=>d'=.val (.bool r)/\b'=[]):=by
 unfold Ar at G
 refine Dx 0 231 Tryz.func3 fun _ _ _=>?_
 refine Bt 1 fun B G=>?_
 refine Au <| Ba (ι:=Bool) (fun (x47_1:Bool)=>mk [(0,.sl 1 (Aj eI t)),(2,vk day),(3,.sl 11 (Aj Aa.enc l)),(5,.ptr 0 0),(47,.val (.bool x47_1))] [(0,.box (Aa.dv raw) 26)] 1) (fun (x47_1:Bool)=>Ar.j1 t raw day l x47_1=some r) ?_ ?_
 exact Cf
 rintro x47_1 G
 unfold Ar.j1 at G
 refine D4 (.l 0 (.e 2)) fun _ B G=>?_
 obtain⟨y_3,hy_3,G⟩:=Ak G
 refine F6 (rd:=[]) (ps:=[]) (gs:=[]) false rfl (Zh hy_3) rfl rfl (.cons .sl .nil) rfl rfl (by intro h; cases h) rfl (by intro h; first | (cases h; done) | exact⟨_,_,⟨rfl,rfl⟩,by simp,by simp⟩) ?_
 rintro _ _ ⟨rfl,rfl⟩
 refine Bt 2 fun y_4 _ B G=>?_
 refine Ba (ι:=Ab×Ap) (fun ((d_2,s_2):Ab×Ap)=>mk [(2,vk day),(3,.sl 11 (Aj Aa.enc l)),(5,.ptr 0 0),(9,.ptr 1 0),(10,.ptr 2 0)] [(0,.box (Aa.dv raw) 26),(1,.box [.sl 1 (Aj eI d_2.L),vk d_2.At] 61),(2,.box (Ap.dv s_2) 36)] 3) (fun ((d_2,s_2):Ab×Ap)=>Ar.j2 raw day l d_2 s_2=some r) ?_ ?_
 exact Cf
 rintro⟨d_2,s_2⟩ G
 unfold Ar.j2 at G
 refine I9 2 fun y_7 _ B G=>?_
 refine Au <| Bb (Df _ _ []) (by kernel_rfl) [0,0,2,6,14,0,63,0,128,511,1023] 27 115 B rfl rfl (by kernel_rfl) ?_
 refine Bt 2 fun _ _ B G=>?_
 obtain⟨y_8,hy_8,G⟩:=Ak G
 refine F6 (rd:=[1]) (ps:=[1]) (gs:=[]) false rfl (Qx hy_8) rfl rfl (.cons (.ptr rfl) (.cons (.agg (.cons .val (.cons .val (.cons .val (.cons .sl (.cons .val (.cons .sl (.cons .sl (.cons .sl (.cons .val .nil)))))))))) (.cons .val .nil))) ⟨_,_,_,rfl,.head _,⟨_,rfl,(by repeat' (first | exact Nk.nil | apply Nk.cons | exact Ag.val | exact Ag.sl | exact Ag.nils | exact Ag.ptr rfl | exact Ag.rowK rfl))⟩,rfl⟩ rfl (by intro h; cases h) rfl (by intro h; first | (cases h; done) | exact⟨_,_,⟨rfl,rfl⟩,by simp,by simp⟩) ?_
 rintro _ _ ⟨rfl,rfl⟩
 refine Bt 0 fun B G=>?_
 refine Hj Pz eH I8 ([raw]:List Aa) Aa.enc ?_
 refine Bt 4 fun l_2 _ B G=>?_
 refine G7 (fun (x72_3:Int)=>mk [(2,vk day),(3,.sl 11 (Aj Aa.enc l)),(5,.ptr 0 0),(9,.ptr 1 0),(10,.ptr 2 0),(11,vk y_7.1),(12,.sl 11 (Aj Aa.enc l_2)),(70,.sl 9 (Aj Ad.enc s_2.Endpoints)),(71,.val (.int .i64 (s_2.Endpoints.length:Int))),(72,vk x72_3)] [(0,.box (Aa.dv raw) 26),(1,.box [.sl 1 (Aj eI y_8.2.L),vk y_8.2.At] 61),(2,.box (Ap.dv s_2) 36)] 3) G (B9 [(0,0),(1,1),(2,2)]) ?_
 rintro x72_3 m3 o3 G hn3
 unfold Ar.l3 at G
 refine I9 2 fun B G=>?_
 refine Jf rfl G (fun _ G=>?_) fun _ G=>?_
 refine Bt 11 fun e_2 _ _ _ l_4 _ B G=>?_
 refine G7 (fun (x81_4:Int)=>mk [(2,vk day),(3,.sl 11 (Aj Aa.enc l)),(5,.ptr 0 0),(9,.ptr 1 0),(10,.ptr 2 0),(11,vk y_7.1),(12,.sl 11 (Aj Aa.enc l_2)),(14,.ptr 3 0),(70,.sl 9 (Aj Ad.enc s_2.Endpoints)),(71,.val (.int .i64 (s_2.Endpoints.length:Int))),(72,vk x72_3),(79,.row 4),(80,.val (.int .i64 (l_4.length:Int))),(81,vk x81_4)] [(0,.box (Aa.dv raw) 26),(1,.box [.sl 1 (Aj eI y_8.2.L),vk y_8.2.At] 61),(2,.box (Ap.dv s_2) 36),(3,.box (Ad.dv e_2) 43),(4,.row 26 11 (Aj Aa.enc l_4))] 5) G (B9 [(0,0),(1,1),(2,2),(3,27),(4,67)]) ?_
 rintro x81_4 m4 o4 G hn4
 unfold Ar.l4 at G
 refine I9 2 fun B G=>?_
 refine Jf rfl G (fun _ G=>?_) fun _ G=>?_
 refine Bt 6 fun _ _ B G=>?_
 refine Au <| Bb (Df _ _ []) (by kernel_rfl) [0,0,3,0,0,31,63] 45 101 B rfl rfl (by kernel_rfl) ?_
 exact Cf
 refine Bt 1 fun B G=>?_
 refine Au <| Bb (Df _ _ []) (by kernel_rfl) [0,1,0,7,0,31,63,0] 13 77 B rfl rfl (by kernel_rfl) ?_
 refine Bt 1 fun y_11 _ B G=>?_
 refine Hj Pz eH I8 ([y_11,raw]:List Aa) Aa.enc ?_
 refine Bt 1 fun B G=>?_
 refine G7 (fun (x100_5:Int)=>mk [(2,vk day),(3,.sl 11 (Aj Aa.enc l)),(5,.ptr 0 0),(9,.ptr 1 0),(10,.ptr 2 0),(11,vk y_7.1),(12,.sl 11 (Aj Aa.enc l_2)),(14,.ptr 3 0),(70,.sl 9 (Aj Ad.enc s_2.Endpoints)),(71,.val (.int .i64 (s_2.Endpoints.length:Int))),(72,vk x72_3),(98,.row 4),(99,.val (.int .i64 (([y_11,raw]:List Aa).length:Int))),(100,vk x100_5)] [(0,.box (Aa.dv raw) 26),(1,.box [.sl 1 (Aj eI y_8.2.L),vk y_8.2.At] 61),(2,.box (Ap.dv s_2) 36),(3,.box (Ad.dv e_2) 43),(4,.row 26 11 (Aj Aa.enc ([y_11,raw]:List Aa)))] 5) G (B9 [(0,0),(1,1),(2,2),(3,3),(4,53)]) ?_
 rintro x100_5 m5 o5 G hn5
 unfold Ar.l5 at G
 refine D4 (.r 2 (.e 7)) fun _ _ _ B G=>?_
 obtain⟨y_12,hy_12,G⟩:=Ak G
 refine F6 (rd:=[]) (ps:=[]) (gs:=[]) false rfl (Lj hy_12) rfl rfl (.cons (.agg (.cons .val (.cons .val (.cons .val (.cons .sl (.cons .val (.cons .sl (.cons .sl (.cons .sl (.cons .val .nil)))))))))) (.cons (.agg (.cons .val (.cons .val (.cons .val (.cons .val (.cons .val (.cons .val (.cons .val (.cons .val (.cons .val (.cons .val (.cons .val .nil)))))))))))) .nil)) rfl rfl (by intro h; cases h) rfl (by intro h; first | (cases h; done) | exact⟨_,_,⟨rfl,rfl⟩,by simp,by simp⟩) ?_
 rintro _ _ ⟨rfl,rfl⟩
 refine Bt 3 fun _ _ B G=>?_
 obtain⟨y_14,hy_14,G⟩:=Ak G
 refine F6 (rd:=[]) (ps:=[]) (gs:=[]) false rfl (L8 hy_14) rfl rfl (.cons (.agg (.cons .val (.cons .val (.cons .val (.cons .sl (.cons .val (.cons .sl (.cons .sl (.cons .sl (.cons .val .nil)))))))))) (.cons (.agg (.cons .val (.cons .val (.cons .val (.cons .val (.cons .val (.cons .val (.cons .val (.cons .val (.cons .val (.cons .val (.cons .val .nil)))))))))))) (.cons .sl .nil))) rfl rfl (by intro h; cases h) rfl (by intro h; first | (cases h; done) | exact⟨_,_,⟨rfl,rfl⟩,by simp,by simp⟩) ?_
 rintro _ _ ⟨rfl,rfl⟩
 refine Bt 6 fun _ _ _ _ _ _ B G=>?_
 refine Ba (ι:=Bool) (fun (x173_6:Bool)=>mk [(2,vk day),(3,.sl 11 (Aj Aa.enc l)),(5,.ptr 0 0),(9,.ptr 1 0),(10,.ptr 2 0),(11,vk y_7.1),(12,.sl 11 (Aj Aa.enc l_2)),(14,.ptr 3 0),(70,.sl 9 (Aj Ad.enc s_2.Endpoints)),(71,.val (.int .i64 (s_2.Endpoints.length:Int))),(72,vk x72_3),(98,.row 4),(99,.val (.int .i64 (([y_11,raw]:List Aa).length:Int))),(100,vk x100_5),(173,.val (.bool x173_6))] [(0,.box (Aa.dv raw) 26),(1,.box [.sl 1 (Aj eI y_8.2.L),vk y_8.2.At] 61),(2,.box (Ap.dv s_2) 36),(3,.box (Ad.dv e_2) 43),(4,.row 26 11 (Aj Aa.enc ([y_11,raw]:List Aa)))] 5) (fun (x173_6:Bool)=>Ar.j6 x100_5 x173_6=some o5) ?_ ?_
 refine Md (.l 1 (.l 0 (.l 0 (.l 1 (.e 0))))) fun _ _ _ _ B G=>?_
 obtain⟨y_18,hy_18,G⟩:=Ak G
 refine P5 [61] [] [] true (S1 hy_18) ?_
 refine Md (.l 0 (.e 0)) fun _ B G=>?_
 obtain⟨y_19,hy_19,G⟩:=Ak G
 refine P5 [197] [] [] true (S1 hy_19) ?_
 exact Cf
 rintro x173_6 G
 unfold Ar.j6 at G
 exact Hf
 refine Bt 2 fun B G=>?_
 obtain⟨y_20,hy_20,G⟩:=Ak G
 refine F6 (rd:=[]) (ps:=[]) (gs:=[]) false rfl (Xg hy_20) rfl rfl (.cons (.agg (.cons .sl (.cons .sl (.cons .sl .nil)))) .nil) rfl rfl (by intro h; cases h) rfl (by intro h; first | (cases h; done) | exact⟨_,_,⟨rfl,rfl⟩,by simp,by simp⟩) ?_
 rintro _ _ ⟨rfl,rfl⟩
 refine Bt 0 fun B G=>?_
 refine Au <| Bb (Df _ _ []) (by kernel_rfl) [0,1,0,0,8,24,56,124,255,511] 43 123 B rfl rfl (by kernel_rfl) ?_
 refine Bt 3 fun _ he_5 y_21 _ B G=>?_
 refine Vn aB9 he_5 (x':=y_21.1) ?_
 refine Bt 0 fun B G=>?_
 refine Au <| Au <| Ew (σ':=mk [(2,vk day),(10,.ptr 0 0),(11,vk y_7.1),(12,.sl 11 (Aj Aa.enc l_2)),(31,.ptr 1 0)] [(0,.box (Ap.dv s_2) 36),(1,.box [.sl 9 (Aj Ad.enc (C3 y_20.Endpoints ((0:Int).toNat) y_21.1)),.sl 2 (Aj A3.enc y_20.Edges),.sl 5 (Aj Bf.enc y_20.Items)] 36)] 2) (B9 [(0,2),(1,27)]) ?_
 refine Bt 1 fun B G=>?_
 refine Hj aJy z36 aM5 ([s_2,(Ap.mk (C3 y_20.Endpoints ((0:Int).toNat) y_21.1) y_20.Edges y_20.Items)]:List Ap) Ap.enc ?_
 refine Bt 1 fun B G=>?_
 refine G7 (fun (x191_8:Int)=>mk [(2,vk day),(11,vk y_7.1),(12,.sl 11 (Aj Aa.enc l_2)),(189,.row 0),(190,.val (.int .i64 (([s_2,(Ap.mk (C3 y_20.Endpoints ((0:Int).toNat) y_21.1) y_20.Edges y_20.Items)]:List Ap).length:Int))),(191,vk x191_8)] [(0,.row 36 3 (Aj Ap.enc ([s_2,(Ap.mk (C3 y_20.Endpoints ((0:Int).toNat) y_21.1) y_20.Edges y_20.Items)]:List Ap)))] 1) G (B9 [(0,18)]) ?_
 rintro x191_8 m8 o8 G hn8
 unfold Ar.l8 at G
 refine D4 (.r 2 (.e 7)) fun _ e_6 _ B G=>?_
 refine Hj Eb z3 I7 ([day,y_7.1,W (y_7.1 + 1)]:List Int) eI ?_
 refine Bt 1 fun B G=>?_
 refine G7 (fun (x201_9:Int)=>mk [(2,vk day),(11,vk y_7.1),(12,.sl 11 (Aj Aa.enc l_2)),(33,.ptr 0 0),(189,.row 1),(190,.val (.int .i64 (([s_2,(Ap.mk (C3 y_20.Endpoints ((0:Int).toNat) y_21.1) y_20.Edges y_20.Items)]:List Ap).length:Int))),(191,vk x191_8),(199,.row 2),(200,.val (.int .i64 (([day,y_7.1,W (y_7.1 + 1)]:List Int).length:Int))),(201,vk x201_9)] [(0,.box (Ap.dv e_6) 36),(1,.row 36 3 (Aj Ap.enc ([s_2,(Ap.mk (C3 y_20.Endpoints ((0:Int).toNat) y_21.1) y_20.Edges y_20.Items)]:List Ap))),(2,.row 3 1 (Aj eI ([day,y_7.1,W (y_7.1 + 1)]:List Int)))] 3) G (B9 [(0,25),(1,0),(2,73)]) ?_
 rintro x201_9 m9 o9 G hn9
 unfold Ar.l9 at G
 refine D4 (.r 2 (.e 10)) fun _ _ _ _ _ _ _ B G=>?_
 refine Ba (ι:=Bool) (fun (x227_10:Bool)=>mk [(2,vk day),(11,vk y_7.1),(12,.sl 11 (Aj Aa.enc l_2)),(33,.ptr 0 0),(189,.row 1),(190,.val (.int .i64 (([s_2,(Ap.mk (C3 y_20.Endpoints ((0:Int).toNat) y_21.1) y_20.Edges y_20.Items)]:List Ap).length:Int))),(191,vk x191_8),(199,.row 2),(200,.val (.int .i64 (([day,y_7.1,W (y_7.1 + 1)]:List Int).length:Int))),(201,vk x201_9),(227,.val (.bool x227_10))] [(0,.box (Ap.dv e_6) 36),(1,.row 36 3 (Aj Ap.enc ([s_2,(Ap.mk (C3 y_20.Endpoints ((0:Int).toNat) y_21.1) y_20.Edges y_20.Items)]:List Ap))),(2,.row 3 1 (Aj eI ([day,y_7.1,W (y_7.1 + 1)]:List Int)))] 3) (fun (x227_10:Bool)=>Ar.j10 x201_9 x227_10=some o9) ?_ ?_
 exact Cf
 rintro x227_10 G
 unfold Ar.j10 at G
 exact Hf
instance wk3:Wk 3:=⟨_,@Sk⟩
end Go.Proofs.YtbpchmikjiinpaaGreat
