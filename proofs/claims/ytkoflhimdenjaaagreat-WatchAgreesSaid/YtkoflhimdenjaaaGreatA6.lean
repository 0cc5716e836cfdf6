import Derived.Test.YtkoflhimdenjaaaGreatT1
import Derived.Test.YtkoflhimdenjaaaGreatA4
import Derived.Test.YtkoflhimdenjaaaGreatA5
set_option linter.unusedVariables false
set_option linter.unusedSimpArgs false
set_option maxRecDepth 100000
set_option maxHeartbeats 1600000
namespace Go.Proofs.YtkoflhimdenjaaaGreat
open Go.RowKit
theorem Tc (a:Am) (b:Am) (r:Bool) (G:Cd a b=some r):Fn Tryz.prog 175 0 [.agg (Am.dv a),.agg (Am.dv b)] [] (fun d' b'=>d'=.val (.bool r)/\b'=[]):=by
 unfold Cd at G
 refine Fn.of Tryz.func175 rfl rfl rfl fun w0 I ρ0=>?_
 show B4 _ ⟨w0,I,ρ0,0,0,46⟩ _ _ _
 refine Bk 0 24 Ay fun B=>?_
 refine Ak <| Bs (ι:=Bool) (fun (x26_1:Bool)=>mk [(2,.ptr 0 0),(3,.ptr 1 0),(26,.val (.bool x26_1))] [(0,.box (Am.dv a) 37),(1,.box (Am.dv b) 37)] 2) (fun (x26_1:Bool)=>Cd.j1 a b x26_1=some r) ?_ ?_
 refine Al (Ch _ _ []) 24 192 B rfl rfl ?_
 refine Aw ?_
 refine C1 rfl rfl (U9 a.Key b.Key) rfl rfl ?_
 refine Aw ?_
 rcases Dj G with ⟨h2,G⟩ | ⟨h2,G⟩
 refine Bi fun B=>?_
 exact⟨true,G,Av [(0,0),(1,8)]⟩
 refine Aw ?_
 rcases Dj G with ⟨h4,G⟩ | ⟨h4,G⟩
 refine Bi fun B=>?_
 exact⟨true,G,Av [(0,0),(1,8)]⟩
 refine Bi fun B=>?_
 exact⟨!decide ((a.Chain.length:Int)=(b.Chain.length:Int)),G,Av [(0,0),(1,8)]⟩
 rintro x26_1 G
 replace G:Cd.j1 a b x26_1=some r:=G
 show B4 _ _ _ _ (mk _ _ _)
 unfold Cd.j1 at G
 refine Cr rfl G (fun h7 G=>?_) fun h7 G=>?_
 refine Ca 2 10 Ay ?_
 exact Df
 refine C9 ?_
 refine Ak <| Bk 2 34 Ay fun B=>?_
 refine Aq <| Jp (fun (x30_2:Int)=>mk [(2,.ptr 0 0),(3,.ptr 1 0),(29,.val (.int .i64 (a.Chain.length:Int))),(30,vk x30_2)] [(0,.box (Am.dv a) 37),(1,.box (Am.dv b) 37)] 2) G (Av [(0,0),(1,1)]) ?_
 rintro x30_2 m2 o2 G hn2
 replace G:Cd.l2 a b x30_2=some o2:=G
 show B4 _ _ _ _ (mk _ _ _)
 unfold Cd.l2 at G
 refine Bk 2 10 Ay fun B=>?_
 refine Ak <| Cr rfl G (fun h11 G=>?_) fun h11 G=>?_
 refine C9 ?_
 refine Ak <| Aq <| Bk 10 26 B fun B=>?_
 refine Ak <| Bu (Ch _ _ []) (by kernel_rfl) [0,1,0,7,15,0,32,0,224,480,1023,2047] 26 122 B rfl rfl (by kernel_rfl) ?_
 refine Aw ?_
 obtain⟨e,he,G⟩:=Ab G
 refine Aw ?_
 refine Wv he ?_
 refine Aw ?_
 obtain⟨e_2,he_2,G⟩:=Ab G
 refine Aw ?_
 refine Wv he_2 ?_
 obtain⟨y,hy,G⟩:=Ab G
 refine Dl (Qw _ _ _ hy) ?_
 refine Bi fun B=>?_
 refine Cr rfl G (fun h14 G=>?_) fun h14 G=>?_
 refine Bk 122 130 B fun B=>?_
 refine Fj ?_
 replace G:=Ce G hn2
 exact Ts
 refine C9 ?_
 refine Al (Ch _ _ []) 122 138 B rfl rfl ?_
 refine Bi fun B=>?_
 obtain rfl:=oi_ G
 exact⟨(W (x30_2 + 1),m2),aBj _,hn2,Av [(0,0),(1,1)]⟩
 refine Jl ?_
 replace G:=Ce G hn2
 refine Bk 10 18 B fun B=>?_
 exact K0
theorem eO (c:A7) (r:Bool) (G:Kw c=some r):Fn Tryz.prog 126 0 [.agg (A7.dv c)] [] (fun d' b'=>d'=.val (.bool r)/\b'=[]):=by
 unfold Kw at G
 refine Fn.of Tryz.func126 rfl rfl rfl fun w0 I ρ0=>?_
 show B4 _ ⟨w0,I,ρ0,0,0,34⟩ _ _ _
 refine Bk 0 16 Ay fun B=>?_
 refine Ca 16 56 B ?_
 refine Aw ?_
 refine Mv cM aEh z37 ?_
 obtain⟨y,hy,G⟩:=Ab G
 refine Dl (Tc _ _ _ hy) ?_
 refine Bi fun B=>?_
 refine Ak <| Bk 56 72 B fun B=>?_
 refine Aq <| Bk 72 88 B fun B=>?_
 refine Cr rfl G (fun h5 G=>?_) fun h5 G=>?_
 refine Ca 88 104 B ?_
 exact Df
 refine Bk 88 104 B fun B=>?_
 refine Cr rfl G (fun h8 G=>?_) fun h8 G=>?_
 refine Ca 104 136 B ?_
 exact Df
 refine C9 ?_
 refine Ca 104 240 B ?_
 refine Aw ?_
 rcases Dj G with ⟨h10,G⟩ | ⟨h10,G⟩
 refine Aw ?_
 rcases Dj G with ⟨h11,G⟩ | ⟨h11,G⟩
 refine Aw ?_
 rcases Dj G with ⟨h12,G⟩ | ⟨h12,G⟩
 exact Df
 exact Df
 exact Df
 exact Df
theorem Z8 (e:Af) (kind:Int) (r:(List Int)×Bool×Bool) (G:B8 e kind=some r):Fn Tryz.prog 127 0 [.agg (Af.dv e),vk kind] [] (fun d' b'=>d'=.tup [.sl 1 (As eI r.1),.val (.bool r.2.1),.val (.bool r.2.2)]/\b'=[]):=by
 unfold B8 at G
 refine Fn.of Tryz.func127 rfl rfl rfl fun w0 I ρ0=>?_
 show B4 _ ⟨w0,I,ρ0,0,0,29⟩ _ _ _
 refine Bk 0 32 Ay fun B=>?_
 refine Ak <| Bk 32 40 B fun B=>?_
 refine Aq <| Bs (ι:=Bool) (fun (x8_1:Bool)=>mk [(1,vk kind),(2,.ptr 0 0),(7,vk kind),(8,.val (.bool x8_1))] [(0,.box (Af.dv e) 43)] 1) (fun (x8_1:Bool)=>B8.j1 e kind x8_1=some r) ?_ ?_
 refine Bk 40 56 B fun B=>?_
 refine Cr rfl G (fun h4 G=>?_) fun h4 G=>?_
 refine C9 ?_
 exact⟨decide (kind=1),G,Av [(0,0)]⟩
 refine Al (Ch _ _ []) 56 72 B rfl rfl ?_
 refine Bi fun B=>?_
 exact⟨decide (kind=2),G,Av [(0,0)]⟩
 rintro x8_1 G
 replace G:B8.j1 e kind x8_1=some r:=G
 show B4 _ _ _ _ (mk _ _ _)
 unfold B8.j1 at G
 refine Cr rfl G (fun h6 G=>?_) fun h6 G=>?_
 refine Ca 1 57 Ay ?_
 exact Df
 refine Bs (ι:=Bool) (fun (x15_2:Bool)=>mk [(1,vk kind),(2,.ptr 0 0),(7,vk kind),(15,.val (.bool x15_2))] [(0,.box (Af.dv e) 43)] 1) (fun (x15_2:Bool)=>B8.j2 e kind x15_2=some r) ?_ ?_
 refine Bk 1 17 Ay fun B=>?_
 refine Cr rfl G (fun h9 G=>?_) fun h9 G=>?_
 refine C9 ?_
 exact⟨decide (kind=7),G,Av [(0,0)]⟩
 refine Al (Ch _ _ []) 17 33 B rfl rfl ?_
 refine Bi fun B=>?_
 exact⟨decide (kind=8),G,Av [(0,0)]⟩
 rintro x15_2 G
 replace G:B8.j2 e kind x15_2=some r:=G
 show B4 _ _ _ _ (mk _ _ _)
 unfold B8.j2 at G
 refine Cr rfl G (fun h11 G=>?_) fun h11 G=>?_
 refine Ca 1 57 Ay ?_
 exact Df
 refine Bs (ι:=Bool) (fun (x22_3:Bool)=>mk [(1,vk kind),(2,.ptr 0 0),(22,.val (.bool x22_3))] [(0,.box (Af.dv e) 43)] 1) (fun (x22_3:Bool)=>B8.j3 e kind x22_3=some r) ?_ ?_
 refine Bk 1 17 Ay fun B=>?_
 refine Cr rfl G (fun h14 G=>?_) fun h14 G=>?_
 refine C9 ?_
 exact⟨decide (kind=9),G,Av [(0,0)]⟩
 refine Al (Ch _ _ []) 17 33 B rfl rfl ?_
 refine Bi fun B=>?_
 exact⟨decide (kind=10),G,Av [(0,0)]⟩
 rintro x22_3 G
 replace G:B8.j3 e kind x22_3=some r:=G
 show B4 _ _ _ _ (mk _ _ _)
 unfold B8.j3 at G
 refine Cr rfl G (fun h16 G=>?_) fun h16 G=>?_
 refine Ca 1 57 Ay ?_
 exact Df
 refine C9 ?_
 refine Bk 1 25 Ay fun B=>?_
 exact K0
theorem Mt (l:(List Int)) (n:Int) (r:Int) (G:Dg l n=some r):Fn Tryz.prog 128 0 [.sl 1 (As eI l),vk n] [] (fun d' b'=>d'=vk r/\b'=[]):=by
 unfold Dg at G
 refine Fn.of Tryz.func128 rfl rfl rfl fun w0 I ρ0=>?_
 show B4 _ ⟨w0,I,ρ0,0,0,19⟩ _ _ _
 refine Bk 0 8 Ay fun B=>?_
 refine Ak <| Bk 8 32 B fun B=>?_
 refine Aq <| Jp (fun (x9_1:Int)=>mk [(1,vk n),(7,.sl 1 (As eI l)),(8,.val (.int .i64 (l.length:Int))),(9,vk x9_1)] [] 0) G (Av []) ?_
 rintro x9_1 m1 o1 G hn1
 replace G:Dg.l1 l n x9_1=some o1:=G
 show B4 _ _ _ _ (mk _ _ _)
 unfold Dg.l1 at G
 refine Bk 0 8 Ay fun B=>?_
 refine Ak <| Cr rfl G (fun h4 G=>?_) fun h4 G=>?_
 refine C9 ?_
 refine Ak <| Aq <| Ca 8 48 B ?_
 refine Aw ?_
 obtain⟨e,he,G⟩:=Ab G
 refine Aw ?_
 refine Rg he ?_
 refine Bi fun B=>?_
 refine Bk 48 72 B fun B=>?_
 refine Cr rfl G (fun h7 G=>?_) fun h7 G=>?_
 refine Bk 72 88 B fun B=>?_
 refine Fj ?_
 replace G:=Ce G hn1
 exact Ts
 refine C9 ?_
 refine Al (Ch _ _ []) 72 88 B rfl rfl ?_
 refine Bi fun B=>?_
 obtain rfl:=oi_ G
 exact⟨(W (x9_1 + 1),m1),aBj _,hn1,Av []⟩
 refine Jl ?_
 replace G:=Ce G hn1
 refine Bk 8 16 B fun B=>?_
 exact K0
theorem X6 (b:Bool) (r:Int) (G:M8 b=some r):Fn Tryz.prog 176 0 [.val (.bool b)] [] (fun d' b'=>d'=vk r/\b'=[]):=by
 unfold M8 at G
 refine Fn.of Tryz.func176 rfl rfl rfl fun w0 I ρ0=>?_
 show B4 _ ⟨w0,I,ρ0,0,0,4⟩ _ _ _
 refine Bk 0 8 Ay fun B=>?_
 refine Ak <| Bk 8 16 B fun B=>?_
 refine Cr rfl G (fun h3 G=>?_) fun h3 G=>?_
 refine Ca 16 24 B ?_
 exact Df
 refine C9 ?_
 refine Bk 16 24 B fun B=>?_
 exact K0
theorem cE (e:Af) (kind:Int) (r:Int×Bool) (G:Mq e kind=some r):Fn Tryz.prog 129 0 [.agg (Af.dv e),vk kind] [] (fun d' b'=>d'=.tup [vk r.1,.val (.bool r.2)]/\b'=[]):=by
 unfold Mq at G
 refine Fn.of Tryz.func129 rfl rfl rfl fun w0 I ρ0=>?_
 show B4 _ ⟨w0,I,ρ0,0,0,25⟩ _ _ _
 refine Bk 0 24 Ay fun B=>?_
 refine Ak <| Bk 24 32 B fun B=>?_
 refine Aq <| Bk 32 48 B fun B=>?_
 refine Cr rfl G (fun h4 G=>?_) fun h4 G=>?_
 refine Ca 48 80 B ?_
 exact Df
 refine Bk 48 64 B fun B=>?_
 refine Cr rfl G (fun h7 G=>?_) fun h7 G=>?_
 refine Ca 64 96 B ?_
 exact Df
 refine Bk 64 80 B fun B=>?_
 refine Cr rfl G (fun h10 G=>?_) fun h10 G=>?_
 refine Ca 80 120 B ?_
 refine Aw ?_
 obtain⟨y,hy,G⟩:=Ab G
 refine Dl (X6 _ _ hy) ?_
 exact Df
 refine Bk 80 96 B fun B=>?_
 refine Cr rfl G (fun h13 G=>?_) fun h13 G=>?_
 refine Ca 96 136 B ?_
 refine Aw ?_
 obtain⟨y_2,hy_2,G⟩:=Ab G
 refine Dl (X6 _ _ hy_2) ?_
 exact Df
 refine C9 ?_
 refine Bk 96 112 B fun B=>?_
 exact K0
theorem Rh (e:Af) (id:Int) (r:Int×Int) (G:Cu e id=some r):Fn Tryz.prog 130 0 [.agg (Af.dv e),vk id] [] (fun d' b'=>d'=.tup [vk r.1,vk r.2]/\b'=[]):=by
 unfold Cu at G
 refine Fn.of Tryz.func130 rfl rfl rfl fun w0 I ρ0=>?_
 show B4 _ ⟨w0,I,ρ0,0,0,30⟩ _ _ _
 refine Bk 0 24 Ay fun B=>?_
 refine Bk 24 40 B fun B=>?_
 refine Ak <| Bk 40 72 B fun B=>?_
 refine Aq <| Jp (fun ((n_1,at_1,x13_1):Int×Int×Int)=>mk [(1,vk id),(6,vk n_1),(7,vk at_1),(11,.sl 4 (As Am.enc e.Identities)),(12,.val (.int .i64 (e.Identities.length:Int))),(13,vk x13_1)] [] 0) G (Av []) ?_
 rintro⟨n_1,at_1,x13_1⟩ m1 o1 G hn1
 replace G:Cu.l1 e id n_1 at_1 x13_1=some o1:=G
 show B4 _ _ _ _ (mk _ _ _)
 unfold Cu.l1 at G
 refine Bk 0 8 Ay fun B=>?_
 refine Ak <| Cr rfl G (fun h5 G=>?_) fun h5 G=>?_
 refine C9 ?_
 refine Bs (ι:=Int×Int) (fun ((n_3,at_3):Int×Int)=>mk [(1,vk id),(6,vk n_3),(7,vk at_3),(11,.sl 4 (As Am.enc e.Identities)),(12,.val (.int .i64 (e.Identities.length:Int))),(13,vk x13_1)] [] 0) (fun ((n_3,at_3):Int×Int)=>Cu.j3 x13_1 n_3 at_3=some o1) ?_ ?_
 refine Aq <| Ca 8 56 B ?_
 refine Aw ?_
 obtain⟨e_2,he_2,G⟩:=Ab G
 refine Aw ?_
 refine Wv he_2 ?_
 refine Bi fun B=>?_
 refine Bk 56 88 B fun B=>?_
 refine Cr rfl G (fun h8 G=>?_) fun h8 G=>?_
 refine Bs (ι:=Int) (fun (at_2:Int)=>mk [(1,vk id),(6,vk n_1),(7,vk at_2),(11,.sl 4 (As Am.enc e.Identities)),(12,.val (.int .i64 (e.Identities.length:Int))),(13,vk x13_1)] [] 0) (fun (at_2:Int)=>Cu.j2 n_1 x13_1 at_2=some o1) ?_ ?_
 refine Bk 88 104 B fun B=>?_
 refine Cr rfl G (fun h10 G=>?_) fun h10 G=>?_
 refine Al (Ch _ _ []) 104 120 B rfl rfl ?_
 refine Bi fun B=>?_
 exact⟨x13_1,G,Av []⟩
 refine C9 ?_
 exact⟨at_1,G,Av []⟩
 rintro at_2 G
 replace G:Cu.j2 n_1 x13_1 at_2=some o1:=G
 show B4 _ _ _ _ (mk _ _ _)
 unfold Cu.j2 at G
 refine Al (Ch _ _ []) 0 24 Ay rfl rfl ?_
 refine Bi fun B=>?_
 exact⟨(W (n_1 + 1),at_2),G,Av []⟩
 refine C9 ?_
 exact⟨(n_1,at_1),G,Av []⟩
 rintro⟨n_3,at_3⟩ G
 replace G:Cu.j3 x13_1 n_3 at_3=some o1:=G
 show B4 _ _ _ _ (mk _ _ _)
 unfold Cu.j3 at G
 refine Al (Ch _ _ []) 0 16 Ay rfl rfl ?_
 refine Bi fun B=>?_
 obtain rfl:=oi_ G
 exact⟨((n_3,at_3,W (x13_1 + 1)),m1),aBj _,hn1,Av []⟩
 refine Jl ?_
 replace G:=Ce G hn1
 refine Bk 8 40 B fun B=>?_
 exact K0
theorem Yk (e:Af) (c:A7) (r:Int) (G:Ax e c=some r):Fn Tryz.prog 98 0 [.agg (Af.dv e),.agg (A7.dv c)] [] (fun d' b'=>d'=vk r/\b'=[]):=by
 unfold Ax at G
 refine Fn.of Tryz.func98 rfl rfl rfl fun w0 I ρ0=>?_
 show B4 _ ⟨w0,I,ρ0,0,0,118⟩ _ _ _
 refine Bk 0 24 Ay fun B=>?_
 refine Ak <| Ca 24 48 B ?_
 refine Aw ?_
 obtain⟨y,hy,G⟩:=Ab G
 refine Dl (Qb _ _ hy) ?_
 refine Bi fun B=>?_
 refine Cr rfl G (fun h3 G=>?_) fun h3 G=>?_
 refine Ca 48 56 B ?_
 exact Df
 refine C9 ?_
 refine Ak <| Ca 48 72 B ?_
 refine Aw ?_
 obtain⟨y_2,hy_2,G⟩:=Ab G
 refine Dl (eO _ _ hy_2) ?_
 refine Bi fun B=>?_
 refine Cr rfl G (fun h6 G=>?_) fun h6 G=>?_
 refine Ca 72 80 B ?_
 exact Df
 refine C9 ?_
 refine Bs (ι:=Unit) (fun (_:Unit)=>mk [(2,.ptr 0 0),(3,.ptr 1 0)] [(0,.box (Af.dv e) 43),(1,.box (A7.dv c) 39)] 2) (fun (_:Unit)=>Ax.j5 e c=some r) ?_ ?_
 refine Bk 72 88 B fun B=>?_
 refine Aq <| Bk 88 104 B fun B=>?_
 refine Cr rfl G (fun h10 G=>?_) fun h10 G=>?_
 refine Bs (ι:=Bool) (fun (x34_1:Bool)=>mk [(2,.ptr 0 0),(3,.ptr 1 0),(34,.val (.bool x34_1))] [(0,.box (Af.dv e) 43),(1,.box (A7.dv c) 39)] 2) (fun (x34_1:Bool)=>Ax.j1 e c x34_1=some r) ?_ ?_
 refine Al (Ch _ _ []) 104 192 B rfl rfl ?_
 refine Aw ?_
 rcases Dj G with ⟨h11,G⟩ | ⟨h11,G⟩
 refine Bi fun B=>?_
 exact⟨true,G,Av [(0,0),(1,8)]⟩
 refine Bi fun B=>?_
 exact⟨decide ((e.Suites.length:Int) < c.At),G,Av [(0,0),(1,8)]⟩
 rintro x34_1 G
 replace G:Ax.j1 e c x34_1=some r:=G
 show B4 _ _ _ _ (mk _ _ _)
 unfold Ax.j1 at G
 refine Cr rfl G (fun h14 G=>?_) fun h14 G=>?_
 refine Ca 2 10 Ay ?_
 exact Df
 refine C9 ?_
 exact⟨(),G,Av [(0,0),(1,1)]⟩
 refine Bk 104 120 B fun B=>?_
 refine Cr rfl G (fun h17 G=>?_) fun h17 G=>?_
 refine Bs (ι:=Bool) (fun (x47_2:Bool)=>mk [(2,.ptr 0 0),(3,.ptr 1 0),(47,.val (.bool x47_2))] [(0,.box (Af.dv e) 43),(1,.box (A7.dv c) 39)] 2) (fun (x47_2:Bool)=>Ax.j2 e c x47_2=some r) ?_ ?_
 refine Al (Ch _ _ []) 120 208 B rfl rfl ?_
 refine Aw ?_
 rcases Dj G with ⟨h18,G⟩ | ⟨h18,G⟩
 refine Bi fun B=>?_
 exact⟨true,G,Av [(0,0),(1,8)]⟩
 refine Bi fun B=>?_
 exact⟨decide ((e.Identities.length:Int) < c.At),G,Av [(0,0),(1,8)]⟩
 rintro x47_2 G
 replace G:Ax.j2 e c x47_2=some r:=G
 show B4 _ _ _ _ (mk _ _ _)
 unfold Ax.j2 at G
 refine Cr rfl G (fun h21 G=>?_) fun h21 G=>?_
 refine Ca 2 10 Ay ?_
 exact Df
 refine C9 ?_
 exact⟨(),G,Av [(0,0),(1,1)]⟩
 refine Bs (ι:=Bool) (fun (x48_3:Bool)=>mk [(2,.ptr 0 0),(3,.ptr 1 0),(48,.val (.bool x48_3))] [(0,.box (Af.dv e) 43),(1,.box (A7.dv c) 39)] 2) (fun (x48_3:Bool)=>Ax.j3 e c x48_3=some r) ?_ ?_
 refine Bk 120 136 B fun B=>?_
 refine Cr rfl G (fun h24 G=>?_) fun h24 G=>?_
 refine C9 ?_
 exact⟨decide (c.Kind=11),G,Av [(0,0),(1,8)]⟩
 refine Al (Ch _ _ []) 136 152 B rfl rfl ?_
 refine Bi fun B=>?_
 exact⟨decide (c.Kind=12),G,Av [(0,0),(1,8)]⟩
 rintro x48_3 G
 replace G:Ax.j3 e c x48_3=some r:=G
 show B4 _ _ _ _ (mk _ _ _)
 unfold Ax.j3 at G
 refine Cr rfl G (fun h26 G=>?_) fun h26 G=>?_
 refine Bs (ι:=Bool) (fun (x58_4:Bool)=>mk [(2,.ptr 0 0),(3,.ptr 1 0),(58,.val (.bool x58_4))] [(0,.box (Af.dv e) 43),(1,.box (A7.dv c) 39)] 2) (fun (x58_4:Bool)=>Ax.j4 e c x58_4=some r) ?_ ?_
 refine Al (Ch _ _ []) 2 66 Ay rfl rfl ?_
 refine Aw ?_
 rcases Dj G with ⟨h27,G⟩ | ⟨h27,G⟩
 refine Bi fun B=>?_
 exact⟨!decide (c.Number=1),G,Av [(0,0),(1,1)]⟩
 refine Bi fun B=>?_
 exact⟨false,G,Av [(0,0),(1,1)]⟩
 rintro x58_4 G
 replace G:Ax.j4 e c x58_4=some r:=G
 show B4 _ _ _ _ (mk _ _ _)
 unfold Ax.j4 at G
 refine Cr rfl G (fun h30 G=>?_) fun h30 G=>?_
 refine Ca 2 10 Ay ?_
 exact Df
 refine C9 ?_
 exact⟨(),G,Av [(0,0),(1,1)]⟩
 refine C9 ?_
 exact⟨(),G,Av [(0,0),(1,1)]⟩
 rintro _ G
 replace G:Ax.j5 e c=some r:=G
 show B4 _ _ _ _ (mk _ _ _)
 unfold Ax.j5 at G
 refine Ak <| Ca 2 90 Ay ?_
 refine Aw ?_
 obtain⟨y_3,hy_3,G⟩:=Ab G
 refine Dl (Z8 _ _ _ hy_3) ?_
 refine Bi fun B=>?_
 refine Bs (ι:=Bool) (fun (x76_6:Bool)=>mk [(2,.ptr 0 0),(3,.ptr 1 0),(76,.val (.bool x76_6))] [(0,.box (Af.dv e) 43),(1,.box (A7.dv c) 39)] 2) (fun (x76_6:Bool)=>Ax.j6 e c x76_6=some r) ?_ ?_
 refine Al (Ch _ _ []) 90 170 B rfl rfl ?_
 refine Aw ?_
 rcases Dj G with ⟨h33,G⟩ | ⟨h33,G⟩
 refine Aw ?_
 obtain⟨y_4,hy_4,G⟩:=Ab G
 refine Dl (Mt _ _ _ hy_4) ?_
 refine Aw ?_
 refine C1 (Dx rfl rfl h33) rfl (aAk aD4) rfl rfl ?_
 refine Bi fun B=>?_
 exact⟨decide ((decide (0<=y_4))=y_3.2.1),G,Av [(0,0),(1,1)]⟩
 refine Bi fun B=>?_
 exact⟨false,G,Av [(0,0),(1,1)]⟩
 rintro x76_6 G
 replace G:Ax.j6 e c x76_6=some r:=G
 show B4 _ _ _ _ (mk _ _ _)
 unfold Ax.j6 at G
 refine Cr rfl G (fun h36 G=>?_) fun h36 G=>?_
 refine Ca 2 10 Ay ?_
 exact Df
 refine C9 ?_
 refine Ak <| Ca 2 74 Ay ?_
 refine Aw ?_
 obtain⟨y_5,hy_5,G⟩:=Ab G
 refine Dl (cE _ _ _ hy_5) ?_
 refine Bi fun B=>?_
 refine Bs (ι:=Bool) (fun (x90_7:Bool)=>mk [(2,.ptr 0 0),(3,.ptr 1 0),(90,.val (.bool x90_7))] [(0,.box (Af.dv e) 43),(1,.box (A7.dv c) 39)] 2) (fun (x90_7:Bool)=>Ax.j7 e c x90_7=some r) ?_ ?_
 refine Al (Ch _ _ []) 74 130 B rfl rfl ?_
 refine Aw ?_
 rcases Dj G with ⟨h39,G⟩ | ⟨h39,G⟩
 refine Bi fun B=>?_
 exact⟨decide (y_5.1=c.Number),G,Av [(0,0),(1,1)]⟩
 refine Bi fun B=>?_
 exact⟨false,G,Av [(0,0),(1,1)]⟩
 rintro x90_7 G
 replace G:Ax.j7 e c x90_7=some r:=G
 show B4 _ _ _ _ (mk _ _ _)
 unfold Ax.j7 at G
 refine Cr rfl G (fun h42 G=>?_) fun h42 G=>?_
 refine Ca 2 10 Ay ?_
 exact Df
 refine C9 ?_
 refine Bs (ι:=Unit) (fun (_:Unit)=>mk [(2,.ptr 0 0),(3,.ptr 1 0)] [(0,.box (Af.dv e) 43),(1,.box (A7.dv c) 39)] 2) (fun (_:Unit)=>Ax.j8 e c=some r) ?_ ?_
 refine Bk 2 26 Ay fun B=>?_
 refine Cr rfl G (fun h45 G=>?_) fun h45 G=>?_
 refine Ca 26 106 B ?_
 refine Aw ?_
 obtain⟨y_6,hy_6,G⟩:=Ab G
 refine Dl (Rh _ _ _ hy_6) ?_
 refine Bi fun B=>?_
 refine Bk 106 122 B fun B=>?_
 refine Cr rfl G (fun h48 G=>?_) fun h48 G=>?_
 refine Ca 122 130 B ?_
 exact Df
 refine C9 ?_
 exact⟨(),G,Av [(0,0),(1,1)]⟩
 refine C9 ?_
 exact⟨(),G,Av [(0,0),(1,1)]⟩
 rintro _ G
 replace G:Ax.j8 e c=some r:=G
 show B4 _ _ _ _ (mk _ _ _)
 unfold Ax.j8 at G
 refine Ak <| Bk 2 26 Ay fun B=>?_
 refine Cr rfl G (fun h51 G=>?_) fun h51 G=>?_
 refine Ca 26 98 B ?_
 refine Aw ?_
 obtain⟨y_7,hy_7,G⟩:=Ab G
 refine Dl (Rh _ _ _ hy_7) ?_
 refine Bi fun B=>?_
 refine Ak <| Bk 98 114 B fun B=>?_
 refine Cr rfl G (fun h54 G=>?_) fun h54 G=>?_
 refine Ca 114 122 B ?_
 exact Df
 refine C9 ?_
 refine Bk 114 130 B fun B=>?_
 refine Cr rfl G (fun h57 G=>?_) fun h57 G=>?_
 refine Ca 130 138 B ?_
 exact Df
 refine C9 ?_
 refine Bk 130 138 B fun B=>?_
 exact K0
 refine C9 ?_
 refine Bk 26 34 B fun B=>?_
 exact K0
theorem M6 (a:Am) (r:Am) (G:De a=some r):Fn Tryz.prog 80 0 [.agg (Am.dv a)] [] (fun d' b'=>d'=.agg (Am.dv r)/\b'=[]):=by
 unfold De at G
 refine Fn.of Tryz.func80 rfl rfl rfl fun w0 I ρ0=>?_
 show B4 _ ⟨w0,I,ρ0,0,0,30⟩ _ _ _
 refine Bk 0 16 Ay fun B=>?_
 refine Ca 16 72 B ?_
 refine Aw ?_
 refine Mv cM aEh z37 ?_
 refine Bi fun B=>?_
 refine Ak <| Bk 72 104 B fun B=>?_
 refine Aq <| Jp (fun ((x14_1,l_1):Int×List Ae)=>mk [(2,.ptr 0 0),(3,.ptr 1 0),(12,.sl 15 (As Ae.enc a.Chain)),(13,.val (.int .i64 (a.Chain.length:Int))),(14,vk x14_1)] [(0,.box [.val (.int .i64 0),.val (.int .i64 0),.val (.int .i64 0),.val (.slice none 0 0)] 37),(1,.box [vk a.Key.Alg,vk a.Key.Bits,vk a.KeyId,.row 2] 37),(2,.row 111 15 (As Ae.enc l_1))] 3) G (Av [(0,8),(1,56)]) ?_
 rintro⟨x14_1,l_1⟩ m1 o1 G hn1
 replace G:De.l1 a x14_1 l_1=some o1:=G
 show B4 _ _ _ _ (mk _ _ _)
 unfold De.l1 at G
 refine Bk 3 11 Ay fun B=>?_
 refine Ak <| Cr rfl G (fun h5 G=>?_) fun h5 G=>?_
 refine C9 ?_
 refine Ak <| Aq <| Ca 11 43 B ?_
 obtain⟨e,he,G⟩:=Ab G
 refine Aw ?_
 refine Wv he ?_
 refine Bi fun B=>?_
 refine Ca 43 83 B ?_
 refine Aw ?_
 obtain⟨l,hl,G⟩:=Ab G
 refine C1 rfl rfl (Dp Yd Zq .nil rfl .sl rfl hl rfl) rfl rfl ?_
 refine Bi fun B=>?_
 refine Ey (σ':=mk [(2,.ptr 0 0),(3,.ptr 1 0),(5,.ptr 2 0),(12,.sl 15 (As Ae.enc a.Chain)),(13,.val (.int .i64 (a.Chain.length:Int))),(14,vk x14_1)] [(0,.box [.val (.int .i64 0),.val (.int .i64 0),.val (.int .i64 0),.val (.slice none 0 0)] 37),(1,.box [vk a.Key.Alg,vk a.Key.Bits,vk a.KeyId,.row 3] 37),(2,.box [vk e.Serial,ws e.Issuer,ws e.Subject,vk e.Key.Alg,vk e.Key.Bits,vk e.KeyId,vk e.Hash.Alg,vk e.Hash.Bits,vk e.From,vk e.To,.val (.bool e.Authority),vk e.Path,.sl 1 (As eS l),vk e.Seal.Key,vk e.Seal.Sum] 111),(3,.row 111 15 (As Ae.enc l_1))] 4) (Av [(0,0),(1,1),(2,27),(3,2)]) ?_
 refine Al (Ch _ _ []) 4 60 Ay rfl rfl ?_
 refine Aw ?_
 refine Kx yN rI aAd ([(Ae.mk e.Serial e.Issuer e.Subject e.Key e.KeyId e.Hash e.From e.To e.Authority e.Path l e.Seal)]:List Ae) Ae.enc ?_
 obtain⟨l_2,hl_2,G⟩:=Ab G
 refine Gs (rd:=[3,28]) rfl rfl (Dp yN Ae.enc_len .row rfl .row rfl hl_2 rfl) rfl rfl ?_
 refine Bi fun B=>?_
 refine Al (Ch _ _ []) 60 76 B rfl rfl ?_
 refine Bi fun B=>?_
 obtain rfl:=oi_ G
 exact⟨((W (x14_1 + 1),l_2),m1),aBj _,hn1,Av [(0,0),(1,1),(2,36)]⟩
 refine Jl ?_
 replace G:=Ce G hn1
 refine Bk 11 27 B fun B=>?_
 exact K0
theorem V8 (e:Af) (r:Af) (G:E8 e=some r):Fn Tryz.prog 55 0 [.agg (Af.dv e)] [] (fun d' b'=>d'=.agg (Af.dv r)/\b'=[]):=by
 unfold E8 at G
 refine Fn.of Tryz.func55 rfl rfl rfl fun w0 I ρ0=>?_
 show B4 _ ⟨w0,I,ρ0,0,0,36⟩ _ _ _
 refine Bk 0 16 Ay fun B=>?_
 refine Bk 16 40 B fun B=>?_
 refine Ak <| Bu (Ch _ _ []) (by kernel_rfl) [0,1,3,0,8,31,0,64,255,7,1023,2047,4095,8191,16383] 40 160 B rfl rfl (by kernel_rfl) ?_
 refine Aw ?_
 obtain⟨l,hl,G⟩:=Ab G
 refine C1 rfl rfl (Dp F0 Ka .nil rfl .sl rfl hl rfl) rfl rfl ?_
 refine Aw ?_
 obtain⟨l_2,hl_2,G⟩:=Ab G
 refine C1 rfl rfl (Dp F0 Ka .nil rfl .sl rfl hl_2 rfl) rfl rfl ?_
 refine Aw ?_
 obtain⟨l_3,hl_3,G⟩:=Ab G
 refine C1 rfl rfl (Dp F0 Ka .nil rfl .sl rfl hl_3 rfl) rfl rfl ?_
 refine Bi fun B=>?_
 refine Bk 160 176 B fun B=>?_
 refine Ak <| Bk 176 208 B fun B=>?_
 refine Aq <| Jp (fun ((x23_1,l_1):Int×List Am)=>mk [(2,.ptr 0 0),(3,.ptr 1 0),(21,.sl 4 (As Am.enc e.Identities)),(22,.val (.int .i64 (e.Identities.length:Int))),(23,vk x23_1)] [(0,.box [.val (.string (⟨#[]⟩:ByteArray)),.val (.int .i64 0),.val (.int .i64 0),.val (.slice none 0 0),.val (.bool false),.val (.slice none 0 0),.val (.slice none 0 0),.val (.slice none 0 0),.val (.bool false)] 43),(1,.box [ws e.Name,vk e.Least,vk e.Most,.row 2,.val (.bool e.OwnOrder),.row 3,.row 4,.row 5,.val (.bool e.Fallback)] 43),(2,.row 3 1 (As eI l)),(3,.row 37 4 (As Am.enc l_1)),(4,.row 3 1 (As eI l_2)),(5,.row 3 1 (As eI l_3))] 6) G (Av [(0,8),(1,24),(2,56),(4,80),(5,104)]) ?_
 rintro⟨x23_1,l_1⟩ m1 o1 G hn1
 replace G:E8.l1 e l l_2 l_3 x23_1 l_1=some o1:=G
 show B4 _ _ _ _ (mk _ _ _)
 unfold E8.l1 at G
 refine Bk 6 14 Ay fun B=>?_
 refine Ak <| Cr rfl G (fun h7 G=>?_) fun h7 G=>?_
 refine C9 ?_
 refine Ak <| Aq <| Ca 14 46 B ?_
 obtain⟨e_2,he_2,G⟩:=Ab G
 refine Aw ?_
 refine Wv he_2 ?_
 refine Bi fun B=>?_
 refine Bu (Ch _ _ []) (by kernel_rfl) [0,1,0,4,12,31,63,127] 46 110 B rfl rfl (by kernel_rfl) ?_
 refine Aw ?_
 obtain⟨y,hy,G⟩:=Ab G
 refine Dl (M6 _ _ hy) ?_
 refine Kx Vu z37 aBo ([y]:List Am) Am.enc ?_
 obtain⟨l_4,hl_4,G⟩:=Ab G
 refine Gs (rd:=[3,78]) rfl rfl (Dp Vu Am.enc_len .row rfl .row rfl hl_4 rfl) rfl rfl ?_
 refine Bi fun B=>?_
 refine Al (Ch _ _ []) 110 126 B rfl rfl ?_
 refine Bi fun B=>?_
 obtain rfl:=oi_ G
 exact⟨((W (x23_1 + 1),l_4),m1),aBj _,hn1,Av [(0,0),(1,1),(2,2),(3,86),(4,4),(5,5)]⟩
 refine Jl ?_
 replace G:=Ce G hn1
 refine Bk 14 30 B fun B=>?_
 exact K0
theorem Vj (l:(List Int)) (at':Int) (n:Int) (r:(List Int)) (G:Ky l at' n=some r):Fn Tryz.prog 131 0 [.sl 1 (As eI l),vk at',vk n] [] (fun d' b'=>d'=.sl 1 (As eI r)/\b'=[]):=by
 unfold Ky at G
 refine Fn.of Tryz.func131 rfl rfl rfl fun w0 I ρ0=>?_
 show B4 _ ⟨w0,I,ρ0,0,0,21⟩ _ _ _
 refine Bk 0 8 Ay fun B=>?_
 refine Ca 8 48 B ?_
 refine Aw ?_
 obtain⟨l_2,hl_2,G⟩:=Ab G
 refine C1 rfl rfl (Mf F0 Ka hl_2) rfl rfl ?_
 obtain⟨l_3,hl_3,G⟩:=Ab G
 refine C1 rfl rfl (Dp F0 Ka .nil rfl .sl rfl hl_3 rfl) rfl rfl ?_
 refine Bi fun B=>?_
 refine Ca 48 88 B ?_
 refine Aw ?_
 refine Kx F0 z3 Oq ([n]:List Int) eI ?_
 obtain⟨l_4,hl_4,G⟩:=Ab G
 refine Gs (rd:=[32,64]) rfl rfl (Dp F0 Ka .row rfl .row rfl hl_4 rfl) rfl rfl ?_
 refine Bi fun B=>?_
 refine Ca 88 136 B ?_
 refine Aw ?_
 obtain⟨l_5,hl_5,G⟩:=Ab G
 refine C1 rfl rfl (T1 F0 Ka hl_5) rfl rfl ?_
 obtain⟨l_6,hl_6,G⟩:=Ab G
 refine Gs (rd:=[72]) rfl rfl (Dp F0 Ka .row rfl .sl rfl hl_6 rfl) rfl rfl ?_
 exact Df
theorem Ng (l:(List Int)) (at':Int) (r:(List Int)) (G:Hq l at'=some r):Fn Tryz.prog 132 0 [.sl 1 (As eI l),vk at'] [] (fun d' b'=>d'=.sl 1 (As eI r)/\b'=[]):=by
 unfold Hq at G
 refine Fn.of Tryz.func132 rfl rfl rfl fun w0 I ρ0=>?_
 show B4 _ ⟨w0,I,ρ0,0,0,16⟩ _ _ _
 refine Bk 0 8 Ay fun B=>?_
 refine Ca 8 48 B ?_
 refine Aw ?_
 obtain⟨l_2,hl_2,G⟩:=Ab G
 refine C1 rfl rfl (Mf F0 Ka hl_2) rfl rfl ?_
 obtain⟨l_3,hl_3,G⟩:=Ab G
 refine C1 rfl rfl (Dp F0 Ka .nil rfl .sl rfl hl_3 rfl) rfl rfl ?_
 refine Bi fun B=>?_
 refine Ca 48 104 B ?_
 refine Aw ?_
 obtain⟨l_4,hl_4,G⟩:=Ab G
 refine C1 rfl rfl (T1 F0 Ka hl_4) rfl rfl ?_
 obtain⟨l_5,hl_5,G⟩:=Ab G
 refine Gs (rd:=[32]) rfl rfl (Dp F0 Ka .row rfl .sl rfl hl_5 rfl) rfl rfl ?_
 exact Df
theorem S2 (l:(List Int)) (n:Int) (r:(List Int)) (G:Ct l n=some r):Fn Tryz.prog 133 0 [.sl 1 (As eI l),vk n] [] (fun d' b'=>d'=.sl 1 (As eI r)/\b'=[]):=by
 unfold Ct at G
 refine Fn.of Tryz.func133 rfl rfl rfl fun w0 I ρ0=>?_
 show B4 _ ⟨w0,I,ρ0,0,0,24⟩ _ _ _
 refine Bk 0 8 Ay fun B=>?_
 refine Bk 8 16 B fun B=>?_
 refine Ak <| Aq <| Jp (fun (at_1:Int)=>mk [(0,.sl 1 (As eI l)),(1,vk n),(5,vk at_1)] [] 0) G (Av []) ?_
 rintro at_1 m1 o1 G hn1
 replace G:Ct.l1 l n at_1=some o1:=G
 show B4 _ _ _ _ (mk _ _ _)
 unfold Ct.l1 at G
 refine Ak <| Bs (ι:=Bool) (fun (x17_2:Bool)=>mk [(0,.sl 1 (As eI l)),(1,vk n),(5,vk at_1),(17,.val (.bool x17_2))] [] 0) (fun (x17_2:Bool)=>Ct.j2 l n at_1 x17_2=some o1) ?_ ?_
 refine Al (Ch _ _ []) 0 96 Ay rfl rfl ?_
 refine Aw ?_
 rcases Dj G with ⟨h3,G⟩ | ⟨h3,G⟩
 refine Aw ?_
 obtain⟨e,he,G⟩:=Ab G
 refine Aw ?_
 refine Rg he ?_
 refine Bi fun B=>?_
 exact⟨decide (e < n),G,Av []⟩
 refine Bi fun B=>?_
 exact⟨false,G,Av []⟩
 rintro x17_2 G
 replace G:Ct.j2 l n at_1 x17_2=some o1:=G
 show B4 _ _ _ _ (mk _ _ _)
 unfold Ct.j2 at G
 refine Cr rfl G (fun h6 G=>?_) fun h6 G=>?_
 refine C9 ?_
 refine Aq <| Al (Ch _ _ []) 0 24 Ay rfl rfl ?_
 refine Bi fun B=>?_
 obtain rfl:=oi_ G
 exact⟨(W (at_1 + 1),m1),aBj _,hn1,Av []⟩
 refine Jl ?_
 replace G:=Ce G hn1
 refine Ca 0 40 Ay ?_
 refine Aw ?_
 obtain⟨y,hy,G⟩:=Ab G
 refine Dl (Vj _ _ _ _ hy) ?_
 exact Df
theorem gL (e:Af) (c:A7) (r:Af) (G:Dn e c=some r):Fn Tryz.prog 99 0 [.agg (Af.dv e),.agg (A7.dv c)] [] (fun d' b'=>d'=.agg (Af.dv r)/\b'=[]):=by
 unfold Dn at G
 refine Fn.of Tryz.func99 rfl rfl rfl fun w0 I ρ0=>?_
 show B4 _ ⟨w0,I,ρ0,0,0,140⟩ _ _ _
 refine Bk 0 24 Ay fun B=>?_
 refine Ca 24 56 B ?_
 refine Aw ?_
 obtain⟨y,hy,G⟩:=Ab G
 refine Dl (V8 _ _ hy) ?_
 refine Bi fun B=>?_
 refine Bs (ι:=Int×Int×List Int×Bool×List Am×List Int×List Int×Bool) (fun ((out_1,out_1_2,out_1_3,out_1_4,out_1_5,out_1_6,out_1_7,out_1_8):Int×Int×List Int×Bool×List Am×List Int×List Int×Bool)=>mk [(4,.ptr 0 0),(5,.ptr 1 0)] [(0,.box [.val (.string (⟨#[]⟩:ByteArray)),.val (.int .i64 0),.val (.int .i64 0),.val (.slice none 0 0),.val (.bool false),.val (.slice none 0 0),.val (.slice none 0 0),.val (.slice none 0 0),.val (.bool false)] 43),(1,.box [ws y.Name,vk out_1,vk out_1_2,.sl 1 (As eI out_1_3),.val (.bool out_1_4),.sl 4 (As Am.enc out_1_5),.sl 1 (As eI out_1_6),.sl 1 (As eI out_1_7),.val (.bool out_1_8)] 43)] 2) (fun ((out_1,out_1_2,out_1_3,out_1_4,out_1_5,out_1_6,out_1_7,out_1_8):Int×Int×List Int×Bool×List Am×List Int×List Int×Bool)=>Dn.j1 y out_1 out_1_2 out_1_3 out_1_4 out_1_5 out_1_6 out_1_7 out_1_8=some r) ?_ ?_
 refine Bk 56 72 B fun B=>?_
 refine Aq <| Bk 72 88 B fun B=>?_
 refine Cr rfl G (fun h5 G=>?_) fun h5 G=>?_
 refine Al (Ch _ _ []) 88 160 B rfl rfl ?_
 refine Aw ?_
 obtain⟨y_2,hy_2,G⟩:=Ab G
 refine Dl (Vj _ _ _ _ hy_2) ?_
 refine Bi fun B=>?_
 exact⟨(y.Least,y.Most,y_2,y.OwnOrder,y.Identities,y.Anchors,y.Hashes,y.Fallback),G,Av [(0,16),(1,40)]⟩
 refine Bk 88 104 B fun B=>?_
 refine Cr rfl G (fun h8 G=>?_) fun h8 G=>?_
 refine Bu (Ch _ _ []) (by kernel_rfl) [0,1,0,4,0,16,60,127,255,511] 104 184 B rfl rfl (by kernel_rfl) ?_
 refine Aw ?_
 obtain⟨y_3,hy_3,G⟩:=Ab G
 refine Dl (Mt _ _ _ hy_3) ?_
 obtain⟨y_4,hy_4,G⟩:=Ab G
 refine Dl (Ng _ _ _ hy_4) ?_
 refine Bi fun B=>?_
 exact⟨(y.Least,y.Most,y_4,y.OwnOrder,y.Identities,y.Anchors,y.Hashes,y.Fallback),G,Av [(0,16),(1,40)]⟩
 refine Bk 104 120 B fun B=>?_
 refine Cr rfl G (fun h11 G=>?_) fun h11 G=>?_
 refine Al (Ch _ _ []) 120 152 B rfl rfl ?_
 refine Bi fun B=>?_
 exact⟨(y.Least,c.Number,y.Suites,y.OwnOrder,y.Identities,y.Anchors,y.Hashes,y.Fallback),G,Av [(0,16),(1,40)]⟩
 refine Bk 120 136 B fun B=>?_
 refine Cr rfl G (fun h14 G=>?_) fun h14 G=>?_
 refine Al (Ch _ _ []) 136 168 B rfl rfl ?_
 refine Bi fun B=>?_
 exact⟨(c.Number,y.Most,y.Suites,y.OwnOrder,y.Identities,y.Anchors,y.Hashes,y.Fallback),G,Av [(0,16),(1,40)]⟩
 refine Bk 136 152 B fun B=>?_
 refine Cr rfl G (fun h17 G=>?_) fun h17 G=>?_
 refine Ca 152 208 B ?_
 refine Aw ?_
 obtain⟨l,hl,G⟩:=Ab G
 refine C1 rfl rfl (Mf Vu Am.enc_len hl) rfl rfl ?_
 obtain⟨l_2,hl_2,G⟩:=Ab G
 refine C1 rfl rfl (Dp Vu Am.enc_len .nil rfl .sl rfl hl_2 rfl) rfl rfl ?_
 refine Bi fun B=>?_
 refine Ca 208 264 B ?_
 refine Aw ?_
 obtain⟨y_5,hy_5,G⟩:=Ab G
 refine Dl (M6 _ _ hy_5) ?_
 refine Kx Vu z37 aBo ([y_5]:List Am) Am.enc ?_
 obtain⟨l_3,hl_3,G⟩:=Ab G
 refine Gs (rd:=[192,240]) rfl rfl (Dp Vu Am.enc_len .row rfl .row rfl hl_3 rfl) rfl rfl ?_
 refine Bi fun B=>?_
 refine Al (Ch _ _ []) 264 336 B rfl rfl ?_
 refine Aw ?_
 obtain⟨l_4,hl_4,G⟩:=Ab G
 refine C1 rfl rfl (T1 Vu Am.enc_len hl_4) rfl rfl ?_
 obtain⟨l_5,hl_5,G⟩:=Ab G
 refine Gs (rd:=[248]) rfl rfl (Dp Vu Am.enc_len .row rfl .sl rfl hl_5 rfl) rfl rfl ?_
 refine Bi fun B=>?_
 exact⟨(y.Least,y.Most,y.Suites,y.OwnOrder,l_5,y.Anchors,y.Hashes,y.Fallback),G,Av [(0,16),(1,40)]⟩
 refine Bk 152 168 B fun B=>?_
 refine Cr rfl G (fun h22 G=>?_) fun h22 G=>?_
 refine Ca 168 240 B ?_
 refine Aw ?_
 obtain⟨y_6,hy_6,G⟩:=Ab G
 refine Dl (Rh _ _ _ hy_6) ?_
 refine Bi fun B=>?_
 refine Ca 240 288 B ?_
 refine Aw ?_
 obtain⟨l_6,hl_6,G⟩:=Ab G
 refine C1 rfl rfl (Mf Vu Am.enc_len hl_6) rfl rfl ?_
 obtain⟨l_7,hl_7,G⟩:=Ab G
 refine C1 rfl rfl (Dp Vu Am.enc_len .nil rfl .sl rfl hl_7 rfl) rfl rfl ?_
 refine Bi fun B=>?_
 refine Al (Ch _ _ []) 288 360 B rfl rfl ?_
 refine Aw ?_
 obtain⟨l_8,hl_8,G⟩:=Ab G
 refine C1 rfl rfl (T1 Vu Am.enc_len hl_8) rfl rfl ?_
 obtain⟨l_9,hl_9,G⟩:=Ab G
 refine Gs (rd:=[272]) rfl rfl (Dp Vu Am.enc_len .row rfl .sl rfl hl_9 rfl) rfl rfl ?_
 refine Bi fun B=>?_
 exact⟨(y.Least,y.Most,y.Suites,y.OwnOrder,l_9,y.Anchors,y.Hashes,y.Fallback),G,Av [(0,16),(1,40)]⟩
 refine Bk 168 184 B fun B=>?_
 refine Cr rfl G (fun h27 G=>?_) fun h27 G=>?_
 refine Al (Ch _ _ []) 184 240 B rfl rfl ?_
 refine Aw ?_
 obtain⟨y_7,hy_7,G⟩:=Ab G
 refine Dl (S2 _ _ _ hy_7) ?_
 refine Bi fun B=>?_
 exact⟨(y.Least,y.Most,y.Suites,y.OwnOrder,y.Identities,y_7,y.Hashes,y.Fallback),G,Av [(0,16),(1,40)]⟩
 refine Bk 184 200 B fun B=>?_
 refine Cr rfl G (fun h30 G=>?_) fun h30 G=>?_
 refine Bu (Ch _ _ []) (by kernel_rfl) [0,1,0,4,0,16,60,127,255,511] 200 280 B rfl rfl (by kernel_rfl) ?_
 refine Aw ?_
 obtain⟨y_8,hy_8,G⟩:=Ab G
 refine Dl (Mt _ _ _ hy_8) ?_
 obtain⟨y_9,hy_9,G⟩:=Ab G
 refine Dl (Ng _ _ _ hy_9) ?_
 refine Bi fun B=>?_
 exact⟨(y.Least,y.Most,y.Suites,y.OwnOrder,y.Identities,y_9,y.Hashes,y.Fallback),G,Av [(0,16),(1,40)]⟩
 refine Bk 200 216 B fun B=>?_
 refine Cr rfl G (fun h33 G=>?_) fun h33 G=>?_
 refine Al (Ch _ _ []) 216 272 B rfl rfl ?_
 refine Aw ?_
 obtain⟨y_10,hy_10,G⟩:=Ab G
 refine Dl (S2 _ _ _ hy_10) ?_
 refine Bi fun B=>?_
 exact⟨(y.Least,y.Most,y.Suites,y.OwnOrder,y.Identities,y.Anchors,y_10,y.Fallback),G,Av [(0,16),(1,40)]⟩
 refine Bk 216 232 B fun B=>?_
 refine Cr rfl G (fun h36 G=>?_) fun h36 G=>?_
 refine Bu (Ch _ _ []) (by kernel_rfl) [0,1,0,4,0,16,60,127,255,511] 232 312 B rfl rfl (by kernel_rfl) ?_
 refine Aw ?_
 obtain⟨y_11,hy_11,G⟩:=Ab G
 refine Dl (Mt _ _ _ hy_11) ?_
 obtain⟨y_12,hy_12,G⟩:=Ab G
 refine Dl (Ng _ _ _ hy_12) ?_
 refine Bi fun B=>?_
 exact⟨(y.Least,y.Most,y.Suites,y.OwnOrder,y.Identities,y.Anchors,y_12,y.Fallback),G,Av [(0,16),(1,40)]⟩
 refine Bk 232 248 B fun B=>?_
 refine Cr rfl G (fun h39 G=>?_) fun h39 G=>?_
 refine Al (Ch _ _ []) 248 288 B rfl rfl ?_
 refine Bi fun B=>?_
 exact⟨(y.Least,y.Most,y.Suites,y.OwnOrder,y.Identities,y.Anchors,y.Hashes,decide (c.Number=1)),G,Av [(0,16),(1,40)]⟩
 refine Bk 248 264 B fun B=>?_
 refine Cr rfl G (fun h42 G=>?_) fun h42 G=>?_
 refine Al (Ch _ _ []) 264 304 B rfl rfl ?_
 refine Bi fun B=>?_
 exact⟨(y.Least,y.Most,y.Suites,decide (c.Number=1),y.Identities,y.Anchors,y.Hashes,y.Fallback),G,Av [(0,16),(1,40)]⟩
 refine C9 ?_
 exact⟨(y.Least,y.Most,y.Suites,y.OwnOrder,y.Identities,y.Anchors,y.Hashes,y.Fallback),G,Av [(0,16),(1,40)]⟩
 rintro⟨out_1,out_1_2,out_1_3,out_1_4,out_1_5,out_1_6,out_1_7,out_1_8⟩ G
 replace G:Dn.j1 y out_1 out_1_2 out_1_3 out_1_4 out_1_5 out_1_6 out_1_7 out_1_8=some r:=G
 show B4 _ _ _ _ (mk _ _ _)
 unfold Dn.j1 at G
 refine Bk 2 18 Ay fun B=>?_
 exact K0
end Go.Proofs.YtkoflhimdenjaaaGreat
