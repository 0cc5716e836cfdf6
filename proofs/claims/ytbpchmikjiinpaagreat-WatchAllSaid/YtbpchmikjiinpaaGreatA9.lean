import Derived.Test.YtbpchmikjiinpaaGreatT1
import Derived.Test.YtbpchmikjiinpaaGreatEU
import Derived.Test.YtbpchmikjiinpaaGreatA7
import Derived.Test.YtbpchmikjiinpaaGreatA8
set_option linter.unusedVariables false
set_option linter.unusedSimpArgs false
set_option maxRecDepth 100000
set_option maxHeartbeats 40000000
namespace Go.Proofs.YtbpchmikjiinpaaGreat
open Go.RowKit
theorem Vi {c r} (G:Ic c=some r):Fn Tryz.prog 122 0 [.agg (Ah.dv c)] [] (fun d' b'=>d'=vk r/\b'=[]):=by
 unfold Ic at G
 refine Dx 0 6 Tryz.func122 fun _ _ _=>?_
 exact Cf
instance aNd:Wk 122:=⟨_,@Vi⟩
theorem Y2 {key id l r} (G:Cl key id l=some r):Fn Tryz.prog 96 0 [.agg [vk key.Alg,vk key.Bits],vk id,.sl 15 (Aj Ah.enc l)] [] (fun d' b'=>d'=.val (.bool r)/\b'=[]):=by
 unfold Cl at G
 refine Dx 0 57 Tryz.func96 fun _ _ _=>?_
 refine Bt 1 fun B G=>?_
 refine Au <| Ba (ι:=Bool) (fun (x27_1:Bool)=>mk [(1,vk id),(2,.sl 15 (Aj Ah.enc l)),(3,.ptr 0 0),(27,.val (.bool x27_1))] [(0,.box [vk key.Alg,vk key.Bits] 24)] 1) (fun (x27_1:Bool)=>Cl.j1 key id l x27_1=some r) ?_ ?_
 exact Cf
 rintro x27_1 G
 unfold Cl.j1 at G
 refine D4 (.l 0 (.e 4)) fun _ B G=>?_
 refine G7 (fun (x30_2:Int)=>mk [(1,vk id),(2,.sl 15 (Aj Ah.enc l)),(3,.ptr 0 0),(28,.sl 15 (Aj Ah.enc l)),(29,.val (.int .i64 (l.length:Int))),(30,vk x30_2)] [(0,.box [vk key.Alg,vk key.Bits] 24)] 1) G (B9 [(0,0)]) ?_
 rintro x30_2 m2 o2 G hn2
 unfold Cl.l2 at G
 refine D4 (.l 2 (.e 1)) fun _ B G=>?_
 refine Au <| Bb (Df _ _ []) (by kernel_rfl) [0,1,3,7,15,31,63,127,15,511,1023,2047,4095,8191,16383,2047,65535,131071,262143,524287] 9 169 B rfl rfl (by kernel_rfl) ?_
 refine Md (.l 0 (.e 3)) fun h19 e_2 he_2 B G=>?_
 refine Et (Nn rfl rfl h19) rfl (Lg e_2.Key key) rfl rfl ?_
 exact Cf
instance aRr:Wk 96:=⟨_,@Y2⟩
theorem Rh {r} (G:Ju=some r):Fn Tryz.prog 97 0 [.val (.func (.func 100) #[] #[])] [] (fun d' b'=>d'=.clo 98 0 [.elt (([.raw (.func (.func 100) #[] #[])]:List C).drop 0)]/\b'=[]):=by
 unfold Ju at G
 refine Dx 0 4 Tryz.func97 fun _ _ _=>?_
 refine Bt 1 fun B G=>?_
 refine Au <| Ew (σ':=mk [(1,.elt (([.raw (.func (.func 100) #[] #[])]:List C).drop 0))] [] 0) ((by exact O5.lists [] rfl rfl ⟨⟨_,rfl,.frzb (ks:=[none]) rfl (.cons .func .nil) (Fr rfl)⟩,trivial⟩ trivial)) ?_
 exact Cf
theorem O8 {n r} (G:Gn n=some r):Fn Tryz.prog 98 0 [vk n,.elt (([.raw (.func (.func 100) #[] #[])]:List C).drop 0)] [] (fun d' b'=>d'=.val (.bool r)/\b'=[]):=by
 unfold Gn at G
 refine Dx 0 8 Tryz.func98 fun _ _ _=>?_
 refine Bt 2 fun B G=>?_
 refine Et rfl rfl (En aEd (c:=.raw (.func (.func 100) #[] #[])) rfl) rfl rfl ?_
 refine Bt 0 fun B G=>?_
 obtain⟨y,hy,G⟩:=Ak G
 refine Ec (rd:=[]) (ps:=[]) (gs:=[]) false rfl rfl (Qy hy) rfl rfl (.cons .val .nil) rfl rfl (by intro h; cases h) rfl rfl rfl rfl ?_
 exact Cf
theorem Ki {s:(List Int)} {f:Int->Option (Bool)} (hf_f:∀ (x0:Int) (y:Bool),f x0=some y->Fn Tryz.prog 98 0 [vk x0,.elt (([.raw (.func (.func 100) #[] #[])]:List C).drop 0)] [] (fun d' b'=>d'=.val (.bool y)/\b'=[])) {r:Int} (G:Bz s f=some r):Fn Tryz.prog 123 0 [.sl 1 (Aj eI s),.clo 98 0 [.elt (([.raw (.func (.func 100) #[] #[])]:List C).drop 0)]] [] (fun d' b'=>d'=vk r/\b'=[]):=by
 unfold Bz at G
 refine Dx 0 19 Tryz.func123 fun _ _ _=>?_
 refine Bt 4 fun B G=>?_
 refine G7 (fun (x8_1:Int)=>mk [(0,.sl 1 (Aj eI s)),(1,.clo 98 0 [.elt (([.raw (.func (.func 100) #[] #[])]:List C).drop 0)]),(7,.val (.int .i64 (s.length:Int))),(8,vk x8_1)] [] 0) G (B9 []) ?_
 rintro x8_1 m1 o1 G hn1
 unfold Bz.l1 at G
 refine D4 (.r 2 (.e 7)) fun _ e _ B G=>?_
 obtain⟨y,hy,G⟩:=Ak G
 refine Cm (rd:=[]) (ps:=[]) (gs:=[]) false rfl rfl (hf_f e _ hy) rfl rfl (.cons .val (.cons .elt .nil)) rfl rfl (by intro h; cases h) rfl rfl rfl rfl ?_
 exact Cf
theorem Jp {s:(List Int)} {f:Int->Option (Bool)} (hf_f:∀ (x0:Int) (y:Bool),f x0=some y->Fn Tryz.prog 98 0 [vk x0,.elt (([.raw (.func (.func 100) #[] #[])]:List C).drop 0)] [] (fun d' b'=>d'=.val (.bool y)/\b'=[])) {r:Bool} (G:D3 s f=some r):Fn Tryz.prog 99 0 [.sl 1 (Aj eI s),.clo 98 0 [.elt (([.raw (.func (.func 100) #[] #[])]:List C).drop 0)]] [] (fun d' b'=>d'=.val (.bool r)/\b'=[]):=by
 unfold D3 at G
 refine Dx 0 9 Tryz.func99 fun _ _ _=>?_
 refine Bt 2 fun B G=>?_
 obtain⟨y,hy,G⟩:=Ak G
 refine Ni (@Ki s f hf_f _ hy) ?_
 exact Cf
theorem Rb {r} (G:Jx=some r):Fn Tryz.prog 97 0 [.val (.func (.func 101) #[] #[])] [] (fun d' b'=>d'=.clo 98 0 [.elt (([.raw (.func (.func 101) #[] #[])]:List C).drop 0)]/\b'=[]):=by
 unfold Jx at G
 refine Dx 0 4 Tryz.func97 fun _ _ _=>?_
 refine Bt 1 fun B G=>?_
 refine Au <| Ew (σ':=mk [(1,.elt (([.raw (.func (.func 101) #[] #[])]:List C).drop 0))] [] 0) ((by exact O5.lists [] rfl rfl ⟨⟨_,rfl,.frzb (ks:=[none]) rfl (.cons .func .nil) (Fr rfl)⟩,trivial⟩ trivial)) ?_
 exact Cf
theorem Tj {alg r} (G:Kv alg=some r):Fn Tryz.prog 101 0 [vk alg] [] (fun d' b'=>d'=.val (.bool r)/\b'=[]):=by
 unfold Kv at G
 refine Dx 0 6 Tryz.func101 fun _ _ _=>?_
 exact Cf
instance aNq:Wk 101:=⟨_,@Tj⟩
theorem O1 {n r} (G:Gp n=some r):Fn Tryz.prog 98 0 [vk n,.elt (([.raw (.func (.func 101) #[] #[])]:List C).drop 0)] [] (fun d' b'=>d'=.val (.bool r)/\b'=[]):=by
 unfold Gp at G
 refine Dx 0 8 Tryz.func98 fun _ _ _=>?_
 refine Bt 2 fun B G=>?_
 refine Et rfl rfl (En aEd (c:=.raw (.func (.func 101) #[] #[])) rfl) rfl rfl ?_
 refine Bt 0 fun B G=>?_
 obtain⟨y,hy,G⟩:=Ak G
 refine Ec (rd:=[]) (ps:=[]) (gs:=[]) false rfl rfl (Tj hy) rfl rfl (.cons .val .nil) rfl rfl (by intro h; cases h) rfl rfl rfl rfl ?_
 exact Cf
theorem Kg {s:(List Int)} {f:Int->Option (Bool)} (hf_f:∀ (x0:Int) (y:Bool),f x0=some y->Fn Tryz.prog 98 0 [vk x0,.elt (([.raw (.func (.func 101) #[] #[])]:List C).drop 0)] [] (fun d' b'=>d'=.val (.bool y)/\b'=[])) {r:Int} (G:Bz s f=some r):Fn Tryz.prog 123 0 [.sl 1 (Aj eI s),.clo 98 0 [.elt (([.raw (.func (.func 101) #[] #[])]:List C).drop 0)]] [] (fun d' b'=>d'=vk r/\b'=[]):=by
 unfold Bz at G
 refine Dx 0 19 Tryz.func123 fun _ _ _=>?_
 refine Bt 4 fun B G=>?_
 refine G7 (fun (x8_1:Int)=>mk [(0,.sl 1 (Aj eI s)),(1,.clo 98 0 [.elt (([.raw (.func (.func 101) #[] #[])]:List C).drop 0)]),(7,.val (.int .i64 (s.length:Int))),(8,vk x8_1)] [] 0) G (B9 []) ?_
 rintro x8_1 m1 o1 G hn1
 unfold Bz.l1 at G
 refine D4 (.r 2 (.e 7)) fun _ e _ B G=>?_
 obtain⟨y,hy,G⟩:=Ak G
 refine Cm (rd:=[]) (ps:=[]) (gs:=[]) false rfl rfl (hf_f e _ hy) rfl rfl (.cons .val (.cons .elt .nil)) rfl rfl (by intro h; cases h) rfl rfl rfl rfl ?_
 exact Cf
theorem Js {s:(List Int)} {f:Int->Option (Bool)} (hf_f:∀ (x0:Int) (y:Bool),f x0=some y->Fn Tryz.prog 98 0 [vk x0,.elt (([.raw (.func (.func 101) #[] #[])]:List C).drop 0)] [] (fun d' b'=>d'=.val (.bool y)/\b'=[])) {r:Bool} (G:D3 s f=some r):Fn Tryz.prog 99 0 [.sl 1 (Aj eI s),.clo 98 0 [.elt (([.raw (.func (.func 101) #[] #[])]:List C).drop 0)]] [] (fun d' b'=>d'=.val (.bool r)/\b'=[]):=by
 unfold D3 at G
 refine Dx 0 9 Tryz.func99 fun _ _ _=>?_
 refine Bt 2 fun B G=>?_
 obtain⟨y,hy,G⟩:=Ak G
 refine Ni (@Kg s f hf_f _ hy) ?_
 exact Cf
theorem X9 {e r} (G:Bq e=some r):Fn Tryz.prog 68 0 [.agg (Ad.dv e)] [] (fun d' b'=>d'=vk r/\b'=[]):=by
 unfold Bq at G
 refine Dx 0 83 Tryz.func68 fun _ _ _=>?_
 refine Bt 1 fun B G=>?_
 refine Au <| Ba (ι:=Bool) (fun (x32_1:Bool)=>mk [(1,.ptr 0 0),(32,.val (.bool x32_1))] [(0,.box (Ad.dv e) 43)] 1) (fun (x32_1:Bool)=>Bq.j1 e x32_1=some r) ?_ ?_
 exact Cf
 rintro x32_1 G
 unfold Bq.j1 at G
 refine D4 (.l 0 (.e 1)) fun _ B G=>?_
 refine Au <| Ba (ι:=Bool) (fun (x54_2:Bool)=>mk [(1,.ptr 0 0),(54,.val (.bool x54_2))] [(0,.box (Ad.dv e) 43)] 1) (fun (x54_2:Bool)=>Bq.j2 e x54_2=some r) ?_ ?_
 exact Cf
 rintro x54_2 G
 unfold Bq.j2 at G
 refine D4 (.l 0 (.e 4)) fun _ B G=>?_
 refine G7 (fun (x58_3:Int)=>mk [(1,.ptr 0 0),(56,.sl 4 (Aj Am.enc e.Identities)),(57,.val (.int .i64 (e.Identities.length:Int))),(58,vk x58_3)] [(0,.box (Ad.dv e) 43)] 1) G (B9 [(0,0)]) ?_
 rintro x58_3 m3 o3 G hn3
 unfold Bq.l3 at G
 refine D4 (.l 2 (.e 2)) fun _ B G=>?_
 refine Au <| Ba (ι:=Bool) (fun (x82_4:Bool)=>mk [(82,.val (.bool x82_4))] [] 0) (fun (x82_4:Bool)=>Bq.j4 x82_4=some r) ?_ ?_
 refine Bb (Df _ _ []) (by kernel_rfl) [0,1,0,4,15,31,63,127,63,319,1023,2047] 17 113 B rfl rfl (by kernel_rfl) ?_
 refine Bt 0 fun B G=>?_
 obtain⟨y_6,hy_6,G⟩:=Ak G
 refine Ec (rd:=[]) (ps:=[]) (gs:=[]) false rfl rfl (Rh hy_6) rfl rfl (.cons .val .nil) rfl rfl (by intro h; cases h) rfl rfl rfl rfl ?_
 obtain⟨y_7,hy_7,G⟩:=Ak G
 refine Ni (@Jp e.Anchors (fun x0=>Gn x0) (fun x0 y h=>@O8 x0 y h) _ hy_7) ?_
 refine Md (.l 0 (.e 0)) fun h31 B G=>?_
 obtain⟨y_8,hy_8,G⟩:=Ak G
 refine Ec (rd:=[]) (ps:=[]) (gs:=[]) false (Nn rfl rfl h31) rfl (Rb hy_8) rfl rfl (.cons .val .nil) rfl rfl (by intro h; cases h) rfl rfl rfl rfl ?_
 obtain⟨y_9,hy_9,G⟩:=Ak G
 refine Ni (@Js e.Hashes (fun x0=>Gp x0) (fun x0 y h=>@O1 x0 y h) _ hy_9) ?_
 exact Cf
 rintro x82_4 G
 unfold Bq.j4 at G
 exact Hf
instance aQ1:Wk 68:=⟨_,@X9⟩
theorem Gg {p kind u number r} (G:D2 p kind u number=some r):Fn Tryz.prog 69 1 [.ptr 0 0,vk kind,.agg [vk u.Alg,vk u.Bits],vk number] [.box [vk p.at_.Source,ws p.at_.Host,vk p.at_.Machine,vk p.at_.Day,vk p.at_.Confidence,vk p.at_.Kind,ws p.at_.Subject,vk p.at_.Use.Alg,vk p.at_.Use.Bits,vk p.at_.Number,ws p.at_.Text,.row 1] 126,.row 26 11 (Aj Aa.enc p.l)] (fun d' b'=>d'=.tup []/\b'=[.box [vk r.at_.Source,ws r.at_.Host,vk r.at_.Machine,vk r.at_.Day,vk r.at_.Confidence,vk r.at_.Kind,ws r.at_.Subject,vk r.at_.Use.Alg,vk r.at_.Use.Bits,vk r.at_.Number,ws r.at_.Text,.row 1] 126,.row 26 11 (Aj Aa.enc r.l)]):=by
 unfold D2 at G
 refine Dx 2 29 Tryz.func69 fun _ _ _=>?_
 refine Bt 2 fun B G=>?_
 refine Au <| Bb (Df _ _ []) (by kernel_rfl) [0,0,0,1,9,27,59,127,255] 58 130 B rfl rfl (by kernel_rfl) ?_
 refine Bt 0 fun B G=>?_
 refine Bb (Df _ _ []) (by kernel_rfl) [0,0,2,6,14,0,32,126,255,511,1023] 130 218 B rfl rfl (by kernel_rfl) ?_
 refine Bt 0 fun B G=>?_
 refine Hj Pz eH I8 ([(Aa.mk p.at_.Source p.at_.Host p.at_.Machine p.at_.Day p.at_.Confidence kind p.at_.Subject u number p.at_.Text)]:List Aa) Aa.enc ?_
 exact Cf
instance aR3:Wk 69:=⟨_,@Gg⟩
theorem Kd {s r} (G:Cq s=some r):Fn Tryz.prog 102 0 [.sl 11 (Aj Aa.enc s)] [] (fun d' b'=>d'=.row 0/\b'=[.row 26 11 (Aj Aa.enc r)]):=by
 unfold Cq at G
 refine Dx 0 8 Tryz.func102 fun _ _ _=>?_
 refine Bt 1 fun B G=>?_
 refine Au <| Ba (ι:=Bool) (fun (x4_1:Bool)=>mk [(0,.sl 11 (Aj Aa.enc s)),(4,.val (.bool x4_1))] [] 0) (fun (x4_1:Bool)=>Cq.j1 s x4_1=some r) ?_ ?_
 refine Bt 1 fun B G=>?_
 refine zG rfl rfl ⟨_,aDm⟩ rfl ?_
 intro bz hz2
 rcases bz with _ | _
 replace G:=aGx G
 exact Cf
 replace G:=aGv ((nN Aa.enc_len (by decide) (hz2 rfl))) G
 exact Cf
 rintro x4_1 G
 unfold Cq.j1 at G
 refine D4 (.l 0 (.e 2)) fun _ B G=>?_
 refine Et rfl rfl (Fw Pz eH (by decide) rfl rfl rfl rfl I8 (cs:=[]) .nil rfl (l:=([]:List Aa)) (f:=Aa.enc) rfl) rfl rfl ?_
 exact Cf
instance aNm:Wk 102:=⟨_,@Kd⟩
theorem W6 {x' r} (G:Bv x'=some r):Fn Tryz.prog 170 0 [.val (.int .u64 x')] [] (fun d' b'=>d'=vk r/\b'=[]):=by
 unfold Bv at G
 refine Dx 0 25 Tryz.func170 fun _ _ _=>?_
 refine Rk 0 8 Ji fun B=>?_
 refine Ba (ι:=Int×Int) (fun ((x_1,n_1):Int×Int)=>mk [(0,.val (.int .u64 x_1)),(2,vk n_1)] [] 0) (fun ((x_1,n_1):Int×Int)=>Bv.j1 x_1 n_1=some r) ?_ ?_
 refine Rk 8 24 B fun B=>?_
 refine Jf rfl G (fun h3 G=>?_) fun h3 G=>?_
 refine Ol 24 48 B ?_
 refine Me ?_
 obtain⟨q,hq,G⟩:=Ak G
 refine Et rfl rfl (jD hq) rfl rfl ?_
 refine Mf fun B=>?_
 refine B5 (Df _ _ []) 48 56 B rfl rfl ?_
 refine Mf fun B=>?_
 exact⟨(q,32),G,B9 []⟩
 refine Vc ?_
 exact⟨(x',0),G,B9 []⟩
 rintro⟨x_1,n_1⟩ G
 unfold Bv.j1 at G
 try dsimp only at G
 refine R3 rfl ?_
 refine Ba (ι:=Int×Int) (fun ((x_2,n_2):Int×Int)=>mk [(0,.val (.int .u64 x_2)),(2,vk n_2)] [] 0) (fun ((x_2,n_2):Int×Int)=>Bv.j2 x_2 n_2=some r) ?_ ?_
 refine Rk 0 16 Ji fun B=>?_
 refine Jf rfl G (fun h7 G=>?_) fun h7 G=>?_
 refine Ol 16 40 B ?_
 refine Me ?_
 obtain⟨q_2,hq_2,G⟩:=Ak G
 refine Et rfl rfl (jD hq_2) rfl rfl ?_
 refine Mf fun B=>?_
 refine B5 (Df _ _ []) 40 64 B rfl rfl ?_
 refine Mf fun B=>?_
 exact⟨(q_2,W (n_1 + 16)),G,B9 []⟩
 refine Vc ?_
 exact⟨(x_1,n_1),G,B9 []⟩
 rintro⟨x_2,n_2⟩ G
 unfold Bv.j2 at G
 try dsimp only at G
 refine R3 rfl ?_
 refine Ba (ι:=Int×Int) (fun ((x_3,n_3):Int×Int)=>mk [(0,.val (.int .u64 x_3)),(2,vk n_3)] [] 0) (fun ((x_3,n_3):Int×Int)=>Bv.j3 x_3 n_3=some r) ?_ ?_
 refine Rk 0 16 Ji fun B=>?_
 refine Jf rfl G (fun h11 G=>?_) fun h11 G=>?_
 refine Ol 16 40 B ?_
 refine Me ?_
 obtain⟨q_3,hq_3,G⟩:=Ak G
 refine Et rfl rfl (jD hq_3) rfl rfl ?_
 refine Mf fun B=>?_
 refine B5 (Df _ _ []) 40 64 B rfl rfl ?_
 refine Mf fun B=>?_
 exact⟨(q_3,W (n_2 + 8)),G,B9 []⟩
 refine Vc ?_
 exact⟨(x_2,n_2),G,B9 []⟩
 rintro⟨x_3,n_3⟩ G
 unfold Bv.j3 at G
 try dsimp only at G
 refine R3 rfl ?_
 refine Ol 0 56 Ji ?_
 refine Me ?_
 refine Et rfl rfl (gA vJ aFc) rfl rfl ?_
 obtain⟨c,hc,G⟩:=Ak G
 refine Et rfl rfl (wG aJw hc) rfl rfl ?_
 refine Et rfl rfl (fL (u:=c) aFc aKr) rfl rfl ?_
 exact sU
instance aOt:Wk 170:=⟨_,@W6⟩
theorem Zu {x' r} (G:H3 x'=some r):Fn Tryz.prog 125 0 [.val (.int .u64 x')] [] (fun d' b'=>d'=vk r/\b'=[]):=by
 unfold H3 at G
 refine Dx 0 8 Tryz.func125 fun _ _ _=>?_
 refine Bt 1 fun B G=>?_
 refine Au <| rY (fun h=>?_) (fun h=>?_)
 exact absurd h (by first | decide | exact fun h=>nomatch (show false=true from h) | exact fun h=>nomatch (show true=false from h))
 exact Cf
instance aOo:Wk 125:=⟨_,@Zu⟩
theorem Rz {c0 c1 r} (G:H2 c0 c1=some r):Fn Tryz.prog 129 0 [.val (.func (.func 132) #[] #[]),.elt (((Aa.ec c0):List C).drop 0),.elt (((Aa.ec c1):List C).drop 0)] [] (fun d' b'=>d'=.clo 130 0 [.elt (([.raw (.func (.func 132) #[] #[])]:List C).drop 0),.elt (((Aa.ec r.1):List C).drop 0),.elt (((Aa.ec r.2):List C).drop 0)]/\b'=[]):=by
 unfold H2 at G
 refine Dx 0 6 Tryz.func129 fun _ _ _=>?_
 refine Bt 1 fun B G=>?_
 refine Au <| Ew (σ':=mk [(1,.elt (((Aa.ec c0):List C).drop 0)),(2,.elt (((Aa.ec c1):List C).drop 0)),(3,.elt (([.raw (.func (.func 132) #[] #[])]:List C).drop 0))] [] 0) ((by exact O5.lists [] rfl rfl ⟨⟨_,rfl,.elt _⟩,⟨_,rfl,.elt _⟩,⟨_,rfl,.frzb (ks:=[none]) rfl (.cons .func .nil) (Fr rfl)⟩,trivial⟩ trivial)) ?_
 exact Cf
theorem R2 {c0 c1 r} (G:H0 c0 c1=some r):Fn Tryz.prog 126 0 [.val (.func (.func 133) #[] #[]),.elt (((Aa.ec c0):List C).drop 0),.elt (((Aa.ec c1):List C).drop 0)] [] (fun d' b'=>d'=.clo 127 0 [.elt (([.raw (.func (.func 133) #[] #[])]:List C).drop 0),.elt (((Aa.ec r.1):List C).drop 0),.elt (((Aa.ec r.2):List C).drop 0)]/\b'=[]):=by
 unfold H0 at G
 refine Dx 0 6 Tryz.func126 fun _ _ _=>?_
 refine Bt 1 fun B G=>?_
 refine Au <| Ew (σ':=mk [(1,.elt (((Aa.ec c0):List C).drop 0)),(2,.elt (((Aa.ec c1):List C).drop 0)),(3,.elt (([.raw (.func (.func 133) #[] #[])]:List C).drop 0))] [] 0) ((by exact O5.lists [] rfl rfl ⟨⟨_,rfl,.elt _⟩,⟨_,rfl,.elt _⟩,⟨_,rfl,.frzb (ks:=[none]) rfl (.cons .func .nil) (Fr rfl)⟩,trivial⟩ trivial)) ?_
 exact Cf
theorem Sh {c0 c1 r} (G:Hr c0 c1=some r):Fn Tryz.prog 126 0 [.val (.func (.func 134) #[] #[]),.elt (((Aa.ec c0):List C).drop 0),.elt (((Aa.ec c1):List C).drop 0)] [] (fun d' b'=>d'=.clo 127 0 [.elt (([.raw (.func (.func 134) #[] #[])]:List C).drop 0),.elt (((Aa.ec r.1):List C).drop 0),.elt (((Aa.ec r.2):List C).drop 0)]/\b'=[]):=by
 unfold Hr at G
 refine Dx 0 6 Tryz.func126 fun _ _ _=>?_
 refine Bt 1 fun B G=>?_
 refine Au <| Ew (σ':=mk [(1,.elt (((Aa.ec c0):List C).drop 0)),(2,.elt (((Aa.ec c1):List C).drop 0)),(3,.elt (([.raw (.func (.func 134) #[] #[])]:List C).drop 0))] [] 0) ((by exact O5.lists [] rfl rfl ⟨⟨_,rfl,.elt _⟩,⟨_,rfl,.elt _⟩,⟨_,rfl,.frzb (ks:=[none]) rfl (.cons .func .nil) (Fr rfl)⟩,trivial⟩ trivial)) ?_
 exact Cf
theorem R7 {c0 c1 r} (G:Hu c0 c1=some r):Fn Tryz.prog 129 0 [.val (.func (.func 135) #[] #[]),.elt (((Aa.ec c0):List C).drop 0),.elt (((Aa.ec c1):List C).drop 0)] [] (fun d' b'=>d'=.clo 130 0 [.elt (([.raw (.func (.func 135) #[] #[])]:List C).drop 0),.elt (((Aa.ec r.1):List C).drop 0),.elt (((Aa.ec r.2):List C).drop 0)]/\b'=[]):=by
 unfold Hu at G
 refine Dx 0 6 Tryz.func129 fun _ _ _=>?_
 refine Bt 1 fun B G=>?_
 refine Au <| Ew (σ':=mk [(1,.elt (((Aa.ec c0):List C).drop 0)),(2,.elt (((Aa.ec c1):List C).drop 0)),(3,.elt (([.raw (.func (.func 135) #[] #[])]:List C).drop 0))] [] 0) ((by exact O5.lists [] rfl rfl ⟨⟨_,rfl,.elt _⟩,⟨_,rfl,.elt _⟩,⟨_,rfl,.frzb (ks:=[none]) rfl (.cons .func .nil) (Fr rfl)⟩,trivial⟩ trivial)) ?_
 exact Cf
theorem Ru {c0 c1 r} (G:H1 c0 c1=some r):Fn Tryz.prog 126 0 [.val (.func (.func 136) #[] #[]),.elt (((Aa.ec c0):List C).drop 0),.elt (((Aa.ec c1):List C).drop 0)] [] (fun d' b'=>d'=.clo 127 0 [.elt (([.raw (.func (.func 136) #[] #[])]:List C).drop 0),.elt (((Aa.ec r.1):List C).drop 0),.elt (((Aa.ec r.2):List C).drop 0)]/\b'=[]):=by
 unfold H1 at G
 refine Dx 0 6 Tryz.func126 fun _ _ _=>?_
 refine Bt 1 fun B G=>?_
 refine Au <| Ew (σ':=mk [(1,.elt (((Aa.ec c0):List C).drop 0)),(2,.elt (((Aa.ec c1):List C).drop 0)),(3,.elt (([.raw (.func (.func 136) #[] #[])]:List C).drop 0))] [] 0) ((by exact O5.lists [] rfl rfl ⟨⟨_,rfl,.elt _⟩,⟨_,rfl,.elt _⟩,⟨_,rfl,.frzb (ks:=[none]) rfl (.cons .func .nil) (Fr rfl)⟩,trivial⟩ trivial)) ?_
 exact Cf
theorem Si {c0 c1 r} (G:Ht c0 c1=some r):Fn Tryz.prog 126 0 [.val (.func (.func 137) #[] #[]),.elt (((Aa.ec c0):List C).drop 0),.elt (((Aa.ec c1):List C).drop 0)] [] (fun d' b'=>d'=.clo 127 0 [.elt (([.raw (.func (.func 137) #[] #[])]:List C).drop 0),.elt (((Aa.ec r.1):List C).drop 0),.elt (((Aa.ec r.2):List C).drop 0)]/\b'=[]):=by
 unfold Ht at G
 refine Dx 0 6 Tryz.func126 fun _ _ _=>?_
 refine Bt 1 fun B G=>?_
 refine Au <| Ew (σ':=mk [(1,.elt (((Aa.ec c0):List C).drop 0)),(2,.elt (((Aa.ec c1):List C).drop 0)),(3,.elt (([.raw (.func (.func 137) #[] #[])]:List C).drop 0))] [] 0) ((by exact O5.lists [] rfl rfl ⟨⟨_,rfl,.elt _⟩,⟨_,rfl,.elt _⟩,⟨_,rfl,.frzb (ks:=[none]) rfl (.cons .func .nil) (Fr rfl)⟩,trivial⟩ trivial)) ?_
 exact Cf
theorem R5 {c0 c1 r} (G:Hy c0 c1=some r):Fn Tryz.prog 126 0 [.val (.func (.func 138) #[] #[]),.elt (((Aa.ec c0):List C).drop 0),.elt (((Aa.ec c1):List C).drop 0)] [] (fun d' b'=>d'=.clo 127 0 [.elt (([.raw (.func (.func 138) #[] #[])]:List C).drop 0),.elt (((Aa.ec r.1):List C).drop 0),.elt (((Aa.ec r.2):List C).drop 0)]/\b'=[]):=by
 unfold Hy at G
 refine Dx 0 6 Tryz.func126 fun _ _ _=>?_
 refine Bt 1 fun B G=>?_
 refine Au <| Ew (σ':=mk [(1,.elt (((Aa.ec c0):List C).drop 0)),(2,.elt (((Aa.ec c1):List C).drop 0)),(3,.elt (([.raw (.func (.func 138) #[] #[])]:List C).drop 0))] [] 0) ((by exact O5.lists [] rfl rfl ⟨⟨_,rfl,.elt _⟩,⟨_,rfl,.elt _⟩,⟨_,rfl,.frzb (ks:=[none]) rfl (.cons .func .nil) (Fr rfl)⟩,trivial⟩ trivial)) ?_
 exact Cf
theorem R8 {c0 c1 r} (G:Hx c0 c1=some r):Fn Tryz.prog 126 0 [.val (.func (.func 139) #[] #[]),.elt (((Aa.ec c0):List C).drop 0),.elt (((Aa.ec c1):List C).drop 0)] [] (fun d' b'=>d'=.clo 127 0 [.elt (([.raw (.func (.func 139) #[] #[])]:List C).drop 0),.elt (((Aa.ec r.1):List C).drop 0),.elt (((Aa.ec r.2):List C).drop 0)]/\b'=[]):=by
 unfold Hx at G
 refine Dx 0 6 Tryz.func126 fun _ _ _=>?_
 refine Bt 1 fun B G=>?_
 refine Au <| Ew (σ':=mk [(1,.elt (((Aa.ec c0):List C).drop 0)),(2,.elt (((Aa.ec c1):List C).drop 0)),(3,.elt (([.raw (.func (.func 139) #[] #[])]:List C).drop 0))] [] 0) ((by exact O5.lists [] rfl rfl ⟨⟨_,rfl,.elt _⟩,⟨_,rfl,.elt _⟩,⟨_,rfl,.frzb (ks:=[none]) rfl (.cons .func .nil) (Fr rfl)⟩,trivial⟩ trivial)) ?_
 exact Cf
theorem Sn {c0 c1 r} (G:Hs c0 c1=some r):Fn Tryz.prog 129 0 [.val (.func (.func 140) #[] #[]),.elt (((Aa.ec c0):List C).drop 0),.elt (((Aa.ec c1):List C).drop 0)] [] (fun d' b'=>d'=.clo 130 0 [.elt (([.raw (.func (.func 140) #[] #[])]:List C).drop 0),.elt (((Aa.ec r.1):List C).drop 0),.elt (((Aa.ec r.2):List C).drop 0)]/\b'=[]):=by
 unfold Hs at G
 refine Dx 0 6 Tryz.func129 fun _ _ _=>?_
 refine Bt 1 fun B G=>?_
 refine Au <| Ew (σ':=mk [(1,.elt (((Aa.ec c0):List C).drop 0)),(2,.elt (((Aa.ec c1):List C).drop 0)),(3,.elt (([.raw (.func (.func 140) #[] #[])]:List C).drop 0))] [] 0) ((by exact O5.lists [] rfl rfl ⟨⟨_,rfl,.elt _⟩,⟨_,rfl,.elt _⟩,⟨_,rfl,.frzb (ks:=[none]) rfl (.cons .func .nil) (Fr rfl)⟩,trivial⟩ trivial)) ?_
 exact Cf
theorem Sj {c0 c1 r} (G:Hw c0 c1=some r):Fn Tryz.prog 126 0 [.val (.func (.func 141) #[] #[]),.elt (((Aa.ec c0):List C).drop 0),.elt (((Aa.ec c1):List C).drop 0)] [] (fun d' b'=>d'=.clo 127 0 [.elt (([.raw (.func (.func 141) #[] #[])]:List C).drop 0),.elt (((Aa.ec r.1):List C).drop 0),.elt (((Aa.ec r.2):List C).drop 0)]/\b'=[]):=by
 unfold Hw at G
 refine Dx 0 6 Tryz.func126 fun _ _ _=>?_
 refine Bt 1 fun B G=>?_
 refine Au <| Ew (σ':=mk [(1,.elt (((Aa.ec c0):List C).drop 0)),(2,.elt (((Aa.ec c1):List C).drop 0)),(3,.elt (([.raw (.func (.func 141) #[] #[])]:List C).drop 0))] [] 0) ((by exact O5.lists [] rfl rfl ⟨⟨_,rfl,.elt _⟩,⟨_,rfl,.elt _⟩,⟨_,rfl,.frzb (ks:=[none]) rfl (.cons .func .nil) (Fr rfl)⟩,trivial⟩ trivial)) ?_
 exact Cf
theorem Ro {c0 c1 r} (G:Hz c0 c1=some r):Fn Tryz.prog 126 0 [.val (.func (.func 142) #[] #[]),.elt (((Aa.ec c0):List C).drop 0),.elt (((Aa.ec c1):List C).drop 0)] [] (fun d' b'=>d'=.clo 127 0 [.elt (([.raw (.func (.func 142) #[] #[])]:List C).drop 0),.elt (((Aa.ec r.1):List C).drop 0),.elt (((Aa.ec r.2):List C).drop 0)]/\b'=[]):=by
 unfold Hz at G
 refine Dx 0 6 Tryz.func126 fun _ _ _=>?_
 refine Bt 1 fun B G=>?_
 refine Au <| Ew (σ':=mk [(1,.elt (((Aa.ec c0):List C).drop 0)),(2,.elt (((Aa.ec c1):List C).drop 0)),(3,.elt (([.raw (.func (.func 142) #[] #[])]:List C).drop 0))] [] 0) ((by exact O5.lists [] rfl rfl ⟨⟨_,rfl,.elt _⟩,⟨_,rfl,.elt _⟩,⟨_,rfl,.frzb (ks:=[none]) rfl (.cons .func .nil) (Fr rfl)⟩,trivial⟩ trivial)) ?_
 exact Cf
theorem Mj {f r} (G:I1 f=some r):Fn Tryz.prog 132 0 [.agg (Aa.dv f)] [] (fun d' b'=>d'=ws r/\b'=[]):=by
 unfold I1 at G
 refine Dx 0 5 Tryz.func132 fun _ _ _=>?_
 exact Cf
instance aOd:Wk 132:=⟨_,@Mj⟩
theorem Na {a b r} (G:Ft a b=some r):Fn Tryz.prog 172 0 [ws a,ws b] [] (fun d' b'=>d'=vk r/\b'=[]):=by
 unfold Ft at G
 refine Dx 0 8 Tryz.func172 fun _ _ _=>?_
 refine Bt 2 fun B G=>?_
 refine Mn (rd:=[]) rfl rfl (.extV rfl aB4 (aL6 a b)) rfl rfl (fun _=>⟨_,rfl⟩) ?_
 rintro _ rfl
 exact Cf
instance aNu:Wk 172:=⟨_,@Na⟩
theorem Xq {a b r} (G:G1 a b=some r):Fn Tryz.prog 131 0 [ws a,ws b] [] (fun d' b'=>d'=vk r/\b'=[]):=by
 unfold G1 at G
 refine Dx 0 8 Tryz.func131 fun _ _ _=>?_
 exact Cf
instance aNi:Wk 131:=⟨_,@Xq⟩
theorem Pq {c1 c2 r} (G:Gz c1 c2=some r):Fn Tryz.prog 130 0 [.elt (([.raw (.func (.func 132) #[] #[])]:List C).drop 0),.elt (((Aa.ec c1):List C).drop 0),.elt (((Aa.ec c2):List C).drop 0)] [] (fun d' b'=>d'=vk r/\b'=[]):=by
 unfold Gz at G
 refine Dx 0 11 Tryz.func130 fun _ _ _=>?_
 refine Bt 1 fun B G=>?_
 refine Au <| Bb (Df _ _ []) (by kernel_rfl) [0,0,3,0,0,31,63,127] 8 72 B rfl rfl (by kernel_rfl) ?_
 refine Et rfl rfl (En cG (c:=.raw (.func (.func 132) #[] #[])) rfl) rfl rfl ?_
 refine Et rfl rfl (Ef Nz (cs2:=(Aa.ec c1)) rfl (aCt rfl)) rfl rfl ?_
 obtain⟨y,hy,G⟩:=Ak G
 refine Ec (rd:=[]) (ps:=[]) (gs:=[]) false rfl rfl (Mj hy) rfl rfl (.cons (.agg (.cons .val (.cons .val (.cons .val (.cons .val (.cons .val (.cons .val (.cons .val (.cons .val (.cons .val (.cons .val (.cons .val .nil)))))))))))) .nil) rfl rfl (by intro h; cases h) rfl rfl rfl rfl ?_
 refine Et rfl rfl (En cG (c:=.raw (.func (.func 132) #[] #[])) rfl) rfl rfl ?_
 refine Et rfl rfl (Ef Nz (cs2:=(Aa.ec c2)) rfl (aCt rfl)) rfl rfl ?_
 obtain⟨y_2,hy_2,G⟩:=Ak G
 refine Ec (rd:=[]) (ps:=[]) (gs:=[]) false rfl rfl (Mj hy_2) rfl rfl (.cons (.agg (.cons .val (.cons .val (.cons .val (.cons .val (.cons .val (.cons .val (.cons .val (.cons .val (.cons .val (.cons .val (.cons .val .nil)))))))))))) .nil) rfl rfl (by intro h; cases h) rfl rfl rfl rfl ?_
 exact Cf
end Go.Proofs.YtbpchmikjiinpaaGreat
