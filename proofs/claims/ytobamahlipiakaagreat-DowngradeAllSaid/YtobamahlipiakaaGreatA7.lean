import Derived.Test.YtobamahlipiakaaGreatT1
import Derived.Test.YtobamahlipiakaaGreatEU
import Derived.Test.YtobamahlipiakaaGreatA1
import Derived.Test.YtobamahlipiakaaGreatA2
import Derived.Test.YtobamahlipiakaaGreatA3
import Derived.Test.YtobamahlipiakaaGreatA5
import Derived.Test.YtobamahlipiakaaGreatA6
set_option linter.unusedVariables false
set_option linter.unusedSimpArgs false
set_option maxRecDepth 100000
set_option maxHeartbeats 40000000
namespace Go.Proofs.YtobamahlipiakaaGreat
open Go.RowKit
theorem Nb {x':List Aa} {cmp:Aa->Aa->Option (Int)} (hf_cmp:∀ (x0:Aa) (x1:Aa) (y:Int),cmp x0 x1=some y->Fn Tryz.prog 44 0 [.agg (Aa.dv x0),.agg (Aa.dv x1)] [] (fun d' b'=>d'=vj y/\b'=[])) {r:(List Aa)} (G:Dr x' cmp=some r):Fn Tryz.prog 43 1 [.row 0,.clo 44 0 []] [.row 40 4 (Ai Aa.enc x')] (fun d' b'=>d'=.tup []/\b'=[.row 40 4 (Ai Aa.enc r)]):=by
 unfold Dr at G
 refine Ea 1 14 Tryz.func43 fun _ _ _=>?_
 refine Br 4 fun y _ B G=>?_
 obtain⟨y_2,hy_2,G⟩:=An G
 refine R9 [0] [0] [] false (@Fk x' 0 (x'.length:Int) y cmp hf_cmp _ hy_2) ?_
 exact Cj
theorem cM {client server day weak r} (G:Av client server day weak=some r):Fn Tryz.prog 13 0 [.agg (Ac.dv client),.agg (Ac.dv server),vj day,vj weak] [] (fun d' b'=>d'=.tup [.sl 4 (Ai Aa.enc r.1),vj r.2]/\b'=[]):=by
 unfold Av at G
 refine Ea 0 87 Tryz.func13 fun _ _ _=>?_
 refine Br 3 fun B G=>?_
 refine A4 (ι:=Bool) (fun (x17_1:Bool)=>mk [(3,vj weak),(4,.ptr 0 0),(5,.ptr 1 0),(6,.ptr 2 0),(17,.val (.bool x17_1))] [(0,.box (Ac.dv client) 29),(1,.box (Ac.dv server) 29),(2,.box [vj day] 3)] 3) (fun (x17_1:Bool)=>Av.j1 client server day weak x17_1=some r) ?_ ?_
 exact Cj
 rintro x17_1 G
 unfold Av.j1 at G
 refine Dx (.l 0 (.e 0)) fun _ B G=>?_
 refine A4 (ι:=Bool) (fun (x26_2:Bool)=>mk [(3,vj weak),(4,.ptr 0 0),(5,.ptr 1 0),(6,.ptr 2 0),(26,.val (.bool x26_2))] [(0,.box (Ac.dv client) 29),(1,.box (Ac.dv server) 29),(2,.box [vj day] 3)] 3) (fun (x26_2:Bool)=>Av.j2 client server day weak x26_2=some r) ?_ ?_
 exact Cj
 rintro x26_2 G
 unfold Av.j2 at G
 refine Dx (.l 0 (.e 2)) fun _ B G=>?_
 refine Ay <| Hg (σ':=mk [(3,vj weak),(4,.ptr 0 0),(5,.ptr 1 0),(6,.ptr 2 0),(10,.ptr 3 0)] [(0,.box (Ac.dv client) 29),(1,.box (Ac.dv server) 29),(2,.box [vj day] 3),(3,.box [.row 4] 33),(4,.row 40 4 (Ai Aa.enc ([]:List Aa)))] 5) (Cd [(0,0),(1,1),(2,2),(3,3)]) ?_
 refine Hg (σ':=mk [(3,vj weak),(4,.elt (((Ac.ec client):List C).drop 0)),(5,.elt (((Ac.ec server):List C).drop 0)),(6,.elt (([.int .i64 day]:List C).drop 0)),(10,.ptr 0 0)] [(0,.box [.row 1] 33),(1,.row 40 4 (Ai Aa.enc ([]:List Aa)))] 2) ((by exact Rr.lists [(0,3),(1,4)] rfl rfl ⟨⟨_,rfl,.val _⟩,⟨_,rfl,.frzb (ks:=[none,none,none,some 1,none,some 4,some 1,some 1,none]) rfl (.cons .str (.cons .int (.cons .int (.cons .sl (.cons .bool (.cons .sl (.cons .sl (.cons .sl (.cons .bool .nil))))))))) (H3 rfl)⟩,⟨_,rfl,.frzb (ks:=[none,none,none,some 1,none,some 4,some 1,some 1,none]) rfl (.cons .str (.cons .int (.cons .int (.cons .sl (.cons .bool (.cons .sl (.cons .sl (.cons .sl (.cons .bool .nil))))))))) (H3 rfl)⟩,⟨_,rfl,.frzb (ks:=[none]) rfl (.cons .int .nil) (H3 rfl)⟩,⟨_,rfl,.ptr rfl⟩,trivial⟩ ⟨.inl ⟨3,_,rfl,rfl,⟨rfl,.cons (.row rfl) .nil⟩⟩,.inl ⟨4,_,rfl,rfl,⟨rfl,rfl,rfl⟩⟩,trivial⟩)) ?_
 refine Br 2 fun B G=>?_
 refine F0 rfl rfl (Jy pZ jA (by decide) (aEi rfl)) rfl rfl ?_
 refine F0 rfl rfl (Gq jA (c:=.int .i64 client.Most) rfl) rfl rfl ?_
 refine Br 0 fun B G=>?_
 refine A4 (ι:=Int) (fun (least_5:Int)=>mk [(3,vj weak),(4,.elt (((Ac.ec client):List C).drop 0)),(10,.ptr 0 0),(11,.clo 37 0 [.elt (((Ac.ec client):List C).drop 0),.elt (((Ac.ec server):List C).drop 0),.elt (([.int .i64 day]:List C).drop 0),.ptr 0 0]),(12,vj least_5)] [(0,.box [.row 1] 33),(1,.row 40 4 (Ai Aa.enc ([]:List Aa)))] 2) (fun (least_5:Int)=>Av.j5 client server day weak least_5=some r) ?_ ?_
 refine Br 1 fun B G=>?_
 refine F0 rfl rfl (Jy aBe ty4 (by decide) (aEi rfl)) rfl rfl ?_
 refine F0 rfl rfl (Gq ty4 (c:=.bool client.Fallback) rfl) rfl rfl ?_
 refine Jf (.r 0 (.e 1)) fun _ B G=>?_
 refine F0 rfl rfl (Jy uH jA (by decide) (aEi rfl)) rfl rfl ?_
 refine F0 rfl rfl (Gq jA (c:=.int .i64 client.Least) rfl) rfl rfl ?_
 exact Cj
 rintro least_5 G
 unfold Av.j5 at G
 refine Lg 2 fun B G=>?_
 refine F0 rfl rfl (Jy pZ jA (by decide) (aEi rfl)) rfl rfl ?_
 refine F0 rfl rfl (Gq jA (c:=.int .i64 client.Most) rfl) rfl rfl ?_
 refine Br 1 fun B G=>?_
 refine He (fun ((most_6,l_6):Int×List Aa)=>mk [(3,vj weak),(4,.elt (((Ac.ec client):List C).drop 0)),(10,.ptr 0 0),(11,.clo 37 0 [.elt (((Ac.ec client):List C).drop 0),.elt (((Ac.ec server):List C).drop 0),.elt (([.int .i64 day]:List C).drop 0),.ptr 0 0]),(12,vj least_5),(13,vj most_6)] [(0,.box [.row 1] 33),(1,.row 40 4 (Ai Aa.enc l_6))] 2) G (Cd [(0,0),(1,1)]) ?_
 rintro⟨most_6,l_6⟩ m6 o6 G hn6
 unfold Av.l6 at G
 refine Lg 2 fun B G=>?_
 refine Kd rfl G (fun _ G=>?_) fun _ G=>?_
 refine Br 4 fun B G=>?_
 refine F0 rfl rfl (Jy vL qS (by decide) (aEi rfl)) rfl rfl ?_
 refine F0 rfl rfl (Gq qS (c:=.sl 1 (Ai eI client.Suites)) rfl) rfl rfl ?_
 obtain⟨y_3,hy_3,G⟩:=An G
 refine eR (rd:=[0,1]) (ps:=[0]) (gs:=[1]) false rfl rfl (Np hy_3) rfl rfl (.cons .val (.cons .sl (.cons .elt (.cons .elt (.cons .elt (.cons (.ptr rfl) .nil)))))) ⟨_,_,_,rfl,.head _,⟨_,rfl,(by repeat' (first | exact K0.nil | apply K0.cons | exact Ag.val | exact Ag.sl | exact Ag.nils | exact Ag.ptr rfl | exact Ag.rowK rfl))⟩,⟨_,_,_,rfl,.tail _ (.head _),rfl,rfl⟩⟩ rfl (by intro h; cases h) rfl (by intro h; first | (cases h; done) | exact⟨_,_,⟨rfl,rfl⟩,by simp,by simp⟩) ?_
 rintro _ _ ⟨rfl,rfl⟩
 exact Cj
 refine Br 3 fun B G=>?_
 refine F0 rfl rfl (Jy pZ jA (by decide) (aEi rfl)) rfl rfl ?_
 refine F0 rfl rfl (Gq jA (c:=.int .i64 client.Most) rfl) rfl rfl ?_
 refine Br 1 fun B G=>?_
 refine He (fun ((most_7,l_7):Int×List Aa)=>mk [(3,vj weak),(4,.elt (((Ac.ec client):List C).drop 0)),(10,.ptr 0 0),(11,.clo 37 0 [.elt (((Ac.ec client):List C).drop 0),.elt (((Ac.ec server):List C).drop 0),.elt (([.int .i64 day]:List C).drop 0),.ptr 0 0]),(14,vj most_7)] [(0,.box [.row 1] 33),(1,.row 40 4 (Ai Aa.enc l_7))] 2) G (Cd [(0,0),(1,1)]) ?_
 rintro⟨most_7,l_7⟩ m7 o7 G hn7
 unfold Av.l7 at G
 refine Lg 2 fun B G=>?_
 refine F0 rfl rfl (Jy uH jA (by decide) (aEi rfl)) rfl rfl ?_
 refine F0 rfl rfl (Gq jA (c:=.int .i64 client.Least) rfl) rfl rfl ?_
 refine Br 0 fun B G=>?_
 refine Kd rfl G (fun _ G=>?_) fun _ G=>?_
 refine Br 4 fun B G=>?_
 refine F0 rfl rfl (Jy vL qS (by decide) (aEi rfl)) rfl rfl ?_
 refine F0 rfl rfl (Gq qS (c:=.sl 1 (Ai eI client.Suites)) rfl) rfl rfl ?_
 refine Br 1 fun B G=>?_
 refine He (fun ((x71_8,l_8):Int×List Aa)=>mk [(3,vj weak),(4,.elt (((Ac.ec client):List C).drop 0)),(10,.ptr 0 0),(11,.clo 37 0 [.elt (((Ac.ec client):List C).drop 0),.elt (((Ac.ec server):List C).drop 0),.elt (([.int .i64 day]:List C).drop 0),.ptr 0 0]),(14,vj most_7),(69,.sl 1 (Ai eI client.Suites)),(70,.val (.int .i64 (client.Suites.length:Int))),(71,vj x71_8)] [(0,.box [.row 1] 33),(1,.row 40 4 (Ai Aa.enc l_8))] 2) G (Cd [(0,0),(1,1)]) ?_
 rintro⟨x71_8,l_8⟩ m8 o8 G hn8
 unfold Av.l8 at G
 refine Dx (.r 2 (.e 1)) fun _ B G=>?_
 refine A4 (ι:=List Aa) (fun (l_9:List Aa)=>mk [(3,vj weak),(4,.elt (((Ac.ec client):List C).drop 0)),(10,.ptr 0 0),(11,.clo 37 0 [.elt (((Ac.ec client):List C).drop 0),.elt (((Ac.ec server):List C).drop 0),.elt (([.int .i64 day]:List C).drop 0),.ptr 0 0]),(14,vj most_7),(69,.sl 1 (Ai eI client.Suites)),(70,.val (.int .i64 (client.Suites.length:Int))),(71,vj x71_8)] [(0,.box [.row 1] 33),(1,.row 40 4 (Ai Aa.enc l_9))] 2) (fun (l_9:List Aa)=>Av.j9 x71_8 l_9=some o8) ?_ ?_
 refine Jf (.r 6 (.e 0)) fun e _ _ _ _ B G=>?_
 refine Ci (D9 _ _ [82]) 58 98 B rfl rfl ?_
 refine Br 0 fun B G=>?_
 refine Rk Er z3 Ia ([e]:List Int) eI ?_
 obtain⟨y_5,hy_5,G⟩:=An G
 refine eR (rd:=[0,1]) (ps:=[0]) (gs:=[1]) false rfl rfl (Np hy_5) rfl rfl (.cons .val (.cons .sl (.cons .elt (.cons .elt (.cons .elt (.cons (.ptr rfl) .nil)))))) ⟨_,_,_,rfl,.head _,⟨_,rfl,(by repeat' (first | exact K0.nil | apply K0.cons | exact Ag.val | exact Ag.sl | exact Ag.nils | exact Ag.ptr rfl | exact Ag.rowK rfl))⟩,⟨_,_,_,rfl,.tail _ (.head _),rfl,rfl⟩⟩ rfl (by intro h; cases h) rfl (by intro h; first | (cases h; done) | exact⟨_,_,⟨rfl,rfl⟩,by simp,by simp⟩) ?_
 rintro _ _ ⟨rfl,rfl⟩
 exact Cj
 rintro l_9 G
 unfold Av.j9 at G
 exact Gn
 refine Br 2 fun B G=>?_
 obtain⟨y_6,hy_6,G⟩:=An G
 refine R9 [1] [1] [] false (@Nb l_7 (fun x0 x1=>E9 x0 x1) (fun x0 x1 yy hh=>@P3 x0 x1 yy hh) _ hy_6) ?_
 exact Cj
instance aX3:Wk 13:=⟨_,@cM⟩
theorem aO {server o r} (G:Fx server o=some r):Fn Tryz.prog 56 0 [.agg (Ac.dv server),.agg [vj o.Version,vj o.Suite]] [] (fun d' b'=>d'=.tup [.sl 2 (Ai Ao.enc r.1),vj r.2]/\b'=[]):=by
 unfold Fx at G
 refine Ea 0 57 Tryz.func56 fun _ _ _=>?_
 refine Jf (.l 5 (.l 5 (.l 5 (.e 5)))) fun _ _ _ y_2 _ _ _ _ _ e _ B G=>?_
 refine A4 (ι:=Int) (fun (s_1:Int)=>mk [(7,.ptr 0 0),(11,.ptr 1 0)] [(0,.box [vj y_2.1.Code,vk y_2.1.Name,vj y_2.1.Exchange.Alg,vj s_1,vj y_2.1.Sign.Alg,vj y_2.1.Sign.Bits,vj y_2.1.Cipher.Alg,vj y_2.1.Cipher.Bits,vj y_2.1.Mac.Alg,vj y_2.1.Mac.Bits,vj y_2.1.Least,vj y_2.1.Most] 47),(1,.box [vj e.Key.Alg,vj e.Key.Bits] 45)] 2) (fun (s_1:Int)=>Fx.j1 y_2 e s_1=some r) ?_ ?_
 exact Cj
 rintro s_1 G
 unfold Fx.j1 at G
 refine Lg 1 fun B G=>?_
 refine Iz aFo rV aOy ([(Ao.mk y_2.1.Exchange.Alg s_1),e.Key,y_2.1.Cipher,y_2.1.Mac]:List Ao) Ao.enc ?_
 exact Cj
instance aY5:Wk 56:=⟨_,@aO⟩
theorem nM {r' r} (G:Ob r'=some r):Fn Tryz.prog 200 0 [.agg (Aw.dv r')] [] (fun d' b'=>d'=.val (.bool r)/\b'=[]):=by
 unfold Ob at G
 refine Ea 0 48 Tryz.func200 fun _ _ _=>?_
 exact Cj
instance aUf:Wk 200:=⟨_,@nM⟩
theorem Un {r' r} (G:Hx r'=some r):Fn Tryz.prog 199 0 [.agg (Aw.dv r')] [] (fun d' b'=>d'=.val (.bool r)/\b'=[]):=by
 unfold Hx at G
 refine Ea 0 6 Tryz.func199 fun _ _ _=>?_
 exact Cj
instance aWm:Wk 199:=⟨_,@Un⟩
theorem Mp {s:(List Aw)} {f:Aw->Option (Bool)} (hf_f:∀ (x0:Aw) (y:Bool),f x0=some y->Fn Tryz.prog 199 0 [.agg (Aw.dv x0)] [] (fun d' b'=>d'=.val (.bool y)/\b'=[])) {r:Int} (G:Cb s f=some r):Fn Tryz.prog 217 0 [.sl 6 (Ai Aw.enc s),.clo 199 0 []] [] (fun d' b'=>d'=vj r/\b'=[]):=by
 unfold Cb at G
 refine Ea 0 19 Tryz.func217 fun _ _ _=>?_
 refine Br 4 fun B G=>?_
 refine He (fun (x8_1:Int)=>mk [(0,.sl 6 (Ai Aw.enc s)),(1,.clo 199 0 []),(7,.val (.int .i64 (s.length:Int))),(8,vj x8_1)] [] 0) G (Cd []) ?_
 rintro x8_1 m1 o1 G hn1
 unfold Cb.l1 at G
 refine Dx (.r 2 (.e 7)) fun _ e _ B G=>?_
 obtain⟨y,hy,G⟩:=An G
 refine E1 (rd:=[]) (ps:=[]) (gs:=[]) false rfl rfl (hf_f e _ hy) rfl rfl (.cons (.agg (.cons .val (.cons .val (.cons .val (.cons .val (.cons .val (.cons .val .nil))))))) .nil) rfl rfl (by intro h; cases h) rfl rfl rfl rfl ?_
 exact Cj
theorem Lv {s:(List Aw)} {f:Aw->Option (Bool)} (hf_f:∀ (x0:Aw) (y:Bool),f x0=some y->Fn Tryz.prog 199 0 [.agg (Aw.dv x0)] [] (fun d' b'=>d'=.val (.bool y)/\b'=[])) {r:Bool} (G:F4 s f=some r):Fn Tryz.prog 198 0 [.sl 6 (Ai Aw.enc s),.clo 199 0 []] [] (fun d' b'=>d'=.val (.bool r)/\b'=[]):=by
 unfold F4 at G
 refine Ea 0 9 Tryz.func198 fun _ _ _=>?_
 refine Br 2 fun B G=>?_
 obtain⟨y,hy,G⟩:=An G
 refine L9 (@Mp s f hf_f _ hy) ?_
 exact Cj
theorem sT {k r} (G:Pp k=some r):Fn Tryz.prog 203 0 [.agg [vj k.Purpose,vj k.Days]] [] (fun d' b'=>d'=.val (.bool r)/\b'=[]):=by
 unfold Pp at G
 refine Ea 0 21 Tryz.func203 fun _ _ _=>?_
 exact Cj
instance aU3:Wk 203:=⟨_,@sT⟩
theorem Uj {k r} (G:Hv k=some r):Fn Tryz.prog 202 0 [.agg [vj k.Purpose,vj k.Days]] [] (fun d' b'=>d'=.val (.bool r)/\b'=[]):=by
 unfold Hv at G
 refine Ea 0 6 Tryz.func202 fun _ _ _=>?_
 exact Cj
instance aVw:Wk 202:=⟨_,@Uj⟩
theorem Mf {s:(List Bl)} {f:Bl->Option (Bool)} (hf_f:∀ (x0:Bl) (y:Bool),f x0=some y->Fn Tryz.prog 202 0 [.agg [vj x0.Purpose,vj x0.Days]] [] (fun d' b'=>d'=.val (.bool y)/\b'=[])) {r:Int} (G:Ca s f=some r):Fn Tryz.prog 218 0 [.sl 2 (Ai Bl.enc s),.clo 202 0 []] [] (fun d' b'=>d'=vj r/\b'=[]):=by
 unfold Ca at G
 refine Ea 0 19 Tryz.func218 fun _ _ _=>?_
 refine Br 4 fun B G=>?_
 refine He (fun (x8_1:Int)=>mk [(0,.sl 2 (Ai Bl.enc s)),(1,.clo 202 0 []),(7,.val (.int .i64 (s.length:Int))),(8,vj x8_1)] [] 0) G (Cd []) ?_
 rintro x8_1 m1 o1 G hn1
 unfold Ca.l1 at G
 refine Dx (.r 2 (.e 7)) fun _ e _ B G=>?_
 obtain⟨y,hy,G⟩:=An G
 refine E1 (rd:=[]) (ps:=[]) (gs:=[]) false rfl rfl (hf_f e _ hy) rfl rfl (.cons (.agg (.cons .val (.cons .val .nil))) .nil) rfl rfl (by intro h; cases h) rfl rfl rfl rfl ?_
 exact Cj
theorem Ln {s:(List Bl)} {f:Bl->Option (Bool)} (hf_f:∀ (x0:Bl) (y:Bool),f x0=some y->Fn Tryz.prog 202 0 [.agg [vj x0.Purpose,vj x0.Days]] [] (fun d' b'=>d'=.val (.bool y)/\b'=[])) {r:Bool} (G:F2 s f=some r):Fn Tryz.prog 201 0 [.sl 2 (Ai Bl.enc s),.clo 202 0 []] [] (fun d' b'=>d'=.val (.bool r)/\b'=[]):=by
 unfold F2 at G
 refine Ea 0 9 Tryz.func201 fun _ _ _=>?_
 refine Br 2 fun B G=>?_
 obtain⟨y,hy,G⟩:=An G
 refine L9 (@Mf s f hf_f _ hy) ?_
 exact Cj
theorem oT {p r} (G:Fm p=some r):Fn Tryz.prog 180 0 [.agg [.sl 6 (Ai Aw.enc p.Rules),.sl 2 (Ai Bl.enc p.Keeps)]] [] (fun d' b'=>d'=vj r/\b'=[]):=by
 unfold Fm at G
 refine Ea 0 25 Tryz.func180 fun _ _ _=>?_
 refine Br 1 fun B G=>?_
 refine A4 (ι:=Bool) (fun (wrong_1:Bool)=>mk [(1,.ptr 0 0),(3,.val (.bool wrong_1))] [(0,.box [.sl 6 (Ai Aw.enc p.Rules),.sl 2 (Ai Bl.enc p.Keeps)] 67)] 1) (fun (wrong_1:Bool)=>Fm.j1 p wrong_1=some r) ?_ ?_
 refine Br 1 fun B G=>?_
 obtain⟨y,hy,G⟩:=An G
 refine L9 (@Lv p.Rules (fun x0=>Hx x0) (fun x0 yy hh=>@Un x0 yy hh) _ hy) ?_
 refine Jf (.l 0 (.e 0)) fun _ B G=>?_
 obtain⟨y_2,hy_2,G⟩:=An G
 refine L9 (@Ln p.Keeps (fun x0=>Hv x0) (fun x0 yy hh=>@Uj x0 yy hh) _ hy_2) ?_
 exact Cj
 rintro wrong_1 G
 unfold Fm.j1 at G
 try dsimp only at G
 refine Rp rfl ?_
 refine Ay <| A4 (ι:=Bool) (fun (x24_2:Bool)=>mk [(24,.val (.bool x24_2))] [] 0) (fun (x24_2:Bool)=>Fm.j2 x24_2=some r) ?_ ?_
 exact Cj
 rintro x24_2 G
 unfold Fm.j2 at G
 exact Gn
instance aVq:Wk 180:=⟨_,@oT⟩
theorem cG {p u purpose day r} (G:Fw p u purpose day=some r):Fn Tryz.prog 144 0 [.agg [.sl 6 (Ai Aw.enc p.Rules),.sl 2 (Ai Bl.enc p.Keeps)],.agg [vj u.Alg,vj u.Bits],vj purpose,vj day] [] (fun d' b'=>d'=vj r/\b'=[]):=by
 unfold Fw at G
 refine Ea 0 34 Tryz.func144 fun _ _ _=>?_
 refine Jf (.l 5 (.l 5 (.e 0))) fun _ _ _ _ _ _ B G=>?_
 refine A4 (ι:=Bool) (fun (x19_1:Bool)=>mk [(19,.val (.bool x19_1))] [] 0) (fun (x19_1:Bool)=>Fw.j1 x19_1=some r) ?_ ?_
 exact Cj
 rintro x19_1 G
 unfold Fw.j1 at G
 exact Gn
instance aWy:Wk 144:=⟨_,@cG⟩
theorem Mr {s r} (G:Hr s=some r):Fn Tryz.prog 181 0 [.sl 6 (Ai Aw.enc s)] [] (fun d' b'=>d'=.clo 204 0 [.elt (([.sl 6 (Ai Aw.enc r)]:List C).drop 0)]/\b'=[]):=by
 unfold Hr at G
 refine Ea 0 4 Tryz.func181 fun _ _ _=>?_
 refine Br 1 fun B G=>?_
 refine Ay <| Hg (σ':=mk [(1,.elt (([.sl 6 (Ai Aw.enc s)]:List C).drop 0))] [] 0) ((by exact Rr.lists [] rfl rfl ⟨⟨_,rfl,.frzb (ks:=[some 6]) rfl (.cons .sl .nil) (H3 rfl)⟩,trivial⟩ trivial)) ?_
 exact Cj
instance aV8:Wk 181:=⟨_,@Mr⟩
theorem Q3 {r' u purpose r} (G:D3 r' u purpose=some r):Fn Tryz.prog 182 0 [.agg (Aw.dv r'),.agg [vj u.Alg,vj u.Bits],vj purpose] [] (fun d' b'=>d'=.val (.bool r)/\b'=[]):=by
 unfold D3 at G
 refine Ea 0 43 Tryz.func182 fun _ _ _=>?_
 refine Br 1 fun B G=>?_
 refine Ay <| A4 (ι:=Bool) (fun (x27_1:Bool)=>mk [(3,.ptr 0 0),(4,.ptr 1 0),(27,.val (.bool x27_1))] [(0,.box (Aw.dv r') 83),(1,.box [vj u.Alg,vj u.Bits] 45)] 2) (fun (x27_1:Bool)=>D3.j1 r' u x27_1=some r) ?_ ?_
 exact Cj
 rintro x27_1 G
 unfold D3.j1 at G
 exact Gn
instance aXe:Wk 182:=⟨_,@Q3⟩
end Go.Proofs.YtobamahlipiakaaGreat
