import Derived.Test.YtobamahlipiakaaGreatT1
import Derived.Test.YtobamahlipiakaaGreatEU
import Derived.Test.YtobamahlipiakaaGreatA7
import Derived.Test.YtobamahlipiakaaGreatA13
set_option linter.unusedVariables false
set_option linter.unusedSimpArgs false
set_option maxRecDepth 100000
set_option maxHeartbeats 40000000
namespace Go.Proofs.YtobamahlipiakaaGreat
open Go.RowKit
theorem Oj {w c0 r} (G:Ho w c0=some r):Fn Tryz.prog 54 0 [.agg (Aa.dv w),.elt (([.int .i64 c0.Version,.int .i64 c0.Suite]:List C).drop 0)] [] (fun d' b'=>d'=.val (.bool r)/\b'=[]):=by
 unfold Ho at G
 refine Ea 0 8 Tryz.func54 fun _ _ _=>?_
 refine Br 2 fun B G=>?_
 refine F0 rfl rfl (I2 aHe (cs2:=[.int .i64 c0.Version,.int .i64 c0.Suite]) rfl (aEi rfl)) rfl rfl ?_
 refine F0 rfl rfl (Pb w.Outcome c0) rfl rfl ?_
 exact Cj
instance aYd:Wk 54:=⟨_,@Oj⟩
theorem La {s:(List Aa)} {f:Aa->Option (Bool)} {f_c0:Ap} (hf_f:∀ (x0:Aa) (y:Bool),f x0=some y->Fn Tryz.prog 54 0 [.agg (Aa.dv x0),.elt (([.int .i64 f_c0.Version,.int .i64 f_c0.Suite]:List C).drop 0)] [] (fun d' b'=>d'=.val (.bool y)/\b'=[])) {r:Int} (G:Bx s f=some r):Fn Tryz.prog 84 0 [.sl 4 (Ai Aa.enc s),.clo 54 0 [.elt (([.int .i64 f_c0.Version,.int .i64 f_c0.Suite]:List C).drop 0)]] [] (fun d' b'=>d'=vj r/\b'=[]):=by
 unfold Bx at G
 refine Ea 0 19 Tryz.func84 fun _ _ _=>?_
 refine Br 4 fun B G=>?_
 refine He (fun (x8_1:Int)=>mk [(0,.sl 4 (Ai Aa.enc s)),(1,.clo 54 0 [.elt (([.int .i64 f_c0.Version,.int .i64 f_c0.Suite]:List C).drop 0)]),(7,.val (.int .i64 (s.length:Int))),(8,vj x8_1)] [] 0) G (Cd []) ?_
 rintro x8_1 m1 o1 G hn1
 unfold Bx.l1 at G
 refine Dx (.r 2 (.e 7)) fun _ e _ B G=>?_
 obtain⟨y,hy,G⟩:=An G
 refine E1 (rd:=[]) (ps:=[]) (gs:=[]) false rfl rfl (hf_f e _ hy) rfl rfl (.cons (.agg (.cons .val (.cons .val (.cons .val (.cons .sl .nil))))) (.cons .elt .nil)) rfl rfl (by intro h; cases h) rfl rfl rfl rfl ?_
 exact Cj
theorem Kj {s:(List Aa)} {f:Aa->Option (Bool)} {f_c0:Ap} (hf_f:∀ (x0:Aa) (y:Bool),f x0=some y->Fn Tryz.prog 54 0 [.agg (Aa.dv x0),.elt (([.int .i64 f_c0.Version,.int .i64 f_c0.Suite]:List C).drop 0)] [] (fun d' b'=>d'=.val (.bool y)/\b'=[])) {r:Bool} (G:D2 s f=some r):Fn Tryz.prog 39 0 [.sl 4 (Ai Aa.enc s),.clo 54 0 [.elt (([.int .i64 f_c0.Version,.int .i64 f_c0.Suite]:List C).drop 0)]] [] (fun d' b'=>d'=.val (.bool r)/\b'=[]):=by
 unfold D2 at G
 refine Ea 0 9 Tryz.func39 fun _ _ _=>?_
 refine Br 2 fun B G=>?_
 obtain⟨y,hy,G⟩:=An G
 refine L9 (@La s f f_c0 hf_f _ hy) ?_
 exact Cj
theorem W3 {client server day weak o r} (G:Gg client server day weak o=some r):Fn Tryz.prog 22 0 [.agg (Ac.dv client),.agg (Ac.dv server),vj day,vj weak,.agg [vj o.Version,vj o.Suite]] [] (fun d' b'=>d'=.tup [.val (.bool r.1),vj r.2]/\b'=[]):=by
 unfold Gg at G
 refine Ea 0 26 Tryz.func22 fun _ _ _=>?_
 refine Br 3 fun y _ B G=>?_
 refine Ay <| Hg (σ':=mk [(9,.elt (([.int .i64 o.Version,.int .i64 o.Suite]:List C).drop 0)),(12,.sl 4 (Ai Aa.enc y.1)),(13,vj y.2)] [] 0) ((by exact Rr.lists [] rfl rfl ⟨⟨_,rfl,.frzb (ks:=[none,none]) rfl (.cons .int (.cons .int .nil)) (H3 rfl)⟩,⟨_,rfl,.sl _ _⟩,⟨_,rfl,.val _⟩,trivial⟩ trivial)) ?_
 refine Br 1 fun B G=>?_
 obtain⟨y_2,hy_2,G⟩:=An G
 refine L9 (@Kj y.1 (fun x0=>Ho x0 o) o (fun x0 yy hh=>@Oj x0 o yy hh) _ hy_2) ?_
 exact Cj
instance aZc:Wk 22:=⟨_,@W3⟩
theorem fM {client server day r} (G:H5 client server day=some r):Fn Tryz.prog 20 0 [.agg (Ac.dv client),.agg (Ac.dv server),vj day] [] (fun d' b'=>d'=.tup [.agg [vj r.1.Version,vj r.1.Suite],vj r.2]/\b'=[]):=by
 unfold H5 at G
 refine Ea 0 20 Tryz.func20 fun _ _ _=>?_
 exact Cj
instance aZ4:Wk 20:=⟨_,@fM⟩
end Go.Proofs.YtobamahlipiakaaGreat
