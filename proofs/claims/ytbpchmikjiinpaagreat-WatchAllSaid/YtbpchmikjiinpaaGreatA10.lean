import Derived.Test.YtbpchmikjiinpaaGreatT1
import Derived.Test.YtbpchmikjiinpaaGreatEU
import Derived.Test.YtbpchmikjiinpaaGreatA9
set_option linter.unusedVariables false
set_option linter.unusedSimpArgs false
set_option maxRecDepth 100000
set_option maxHeartbeats 40000000
namespace Go.Proofs.YtbpchmikjiinpaaGreat
open Go.RowKit
theorem Mr {f r} (G:Is f=some r):Fn Tryz.prog 133 0 [.agg (Aa.dv f)] [] (fun d' b'=>d'=vk r/\b'=[]):=by
 unfold Is at G
 refine Dx 0 5 Tryz.func133 fun _ _ _=>?_
 exact Cf
instance aNt:Wk 133:=⟨_,@Mr⟩
theorem Zm {x' r} (G:Kw x'=some r):Fn Tryz.prog 171 0 [vk x'] [] (fun d' b'=>d'=.val (.bool r)/\b'=[]):=by
 unfold Kw at G
 refine Dx 0 6 Tryz.func171 fun _ _ _=>?_
 exact Cf
instance aN0:Wk 171:=⟨_,@Zm⟩
theorem Xm {x' y r} (G:Ed x' y=some r):Fn Tryz.prog 128 0 [vk x',vk y] [] (fun d' b'=>d'=vk r/\b'=[]):=by
 unfold Ed at G
 refine Dx 0 20 Tryz.func128 fun _ _ _=>?_
 exact Cf
instance aOm:Wk 128:=⟨_,@Xm⟩
theorem Pp {c1 c2 r} (G:Gs c1 c2=some r):Fn Tryz.prog 127 0 [.elt (([.raw (.func (.func 133) #[] #[])]:List C).drop 0),.elt (((Aa.ec c1):List C).drop 0),.elt (((Aa.ec c2):List C).drop 0)] [] (fun d' b'=>d'=vk r/\b'=[]):=by
 unfold Gs at G
 refine Dx 0 11 Tryz.func127 fun _ _ _=>?_
 refine Bt 1 fun B G=>?_
 refine Au <| Bb (Df _ _ []) (by kernel_rfl) [0,0,3,0,0,31,63,127] 8 72 B rfl rfl (by kernel_rfl) ?_
 refine Et rfl rfl (En Od (c:=.raw (.func (.func 133) #[] #[])) rfl) rfl rfl ?_
 refine Et rfl rfl (Ef Nz (cs2:=(Aa.ec c1)) rfl (aCt rfl)) rfl rfl ?_
 obtain⟨y,hy,G⟩:=Ak G
 refine Ec (rd:=[]) (ps:=[]) (gs:=[]) false rfl rfl (Mr hy) rfl rfl (.cons (.agg (.cons .val (.cons .val (.cons .val (.cons .val (.cons .val (.cons .val (.cons .val (.cons .val (.cons .val (.cons .val (.cons .val .nil)))))))))))) .nil) rfl rfl (by intro h; cases h) rfl rfl rfl rfl ?_
 refine Et rfl rfl (En Od (c:=.raw (.func (.func 133) #[] #[])) rfl) rfl rfl ?_
 refine Et rfl rfl (Ef Nz (cs2:=(Aa.ec c2)) rfl (aCt rfl)) rfl rfl ?_
 obtain⟨y_2,hy_2,G⟩:=Ak G
 refine Ec (rd:=[]) (ps:=[]) (gs:=[]) false rfl rfl (Mr hy_2) rfl rfl (.cons (.agg (.cons .val (.cons .val (.cons .val (.cons .val (.cons .val (.cons .val (.cons .val (.cons .val (.cons .val (.cons .val (.cons .val .nil)))))))))))) .nil) rfl rfl (by intro h; cases h) rfl rfl rfl rfl ?_
 exact Cf
theorem Mm {f r} (G:I4 f=some r):Fn Tryz.prog 134 0 [.agg (Aa.dv f)] [] (fun d' b'=>d'=vk r/\b'=[]):=by
 unfold I4 at G
 refine Dx 0 5 Tryz.func134 fun _ _ _=>?_
 exact Cf
instance aNl:Wk 134:=⟨_,@Mm⟩
theorem Qe {c1 c2 r} (G:Gt c1 c2=some r):Fn Tryz.prog 127 0 [.elt (([.raw (.func (.func 134) #[] #[])]:List C).drop 0),.elt (((Aa.ec c1):List C).drop 0),.elt (((Aa.ec c2):List C).drop 0)] [] (fun d' b'=>d'=vk r/\b'=[]):=by
 unfold Gt at G
 refine Dx 0 11 Tryz.func127 fun _ _ _=>?_
 refine Bt 1 fun B G=>?_
 refine Au <| Bb (Df _ _ []) (by kernel_rfl) [0,0,3,0,0,31,63,127] 8 72 B rfl rfl (by kernel_rfl) ?_
 refine Et rfl rfl (En Od (c:=.raw (.func (.func 134) #[] #[])) rfl) rfl rfl ?_
 refine Et rfl rfl (Ef Nz (cs2:=(Aa.ec c1)) rfl (aCt rfl)) rfl rfl ?_
 obtain⟨y,hy,G⟩:=Ak G
 refine Ec (rd:=[]) (ps:=[]) (gs:=[]) false rfl rfl (Mm hy) rfl rfl (.cons (.agg (.cons .val (.cons .val (.cons .val (.cons .val (.cons .val (.cons .val (.cons .val (.cons .val (.cons .val (.cons .val (.cons .val .nil)))))))))))) .nil) rfl rfl (by intro h; cases h) rfl rfl rfl rfl ?_
 refine Et rfl rfl (En Od (c:=.raw (.func (.func 134) #[] #[])) rfl) rfl rfl ?_
 refine Et rfl rfl (Ef Nz (cs2:=(Aa.ec c2)) rfl (aCt rfl)) rfl rfl ?_
 obtain⟨y_2,hy_2,G⟩:=Ak G
 refine Ec (rd:=[]) (ps:=[]) (gs:=[]) false rfl rfl (Mm hy_2) rfl rfl (.cons (.agg (.cons .val (.cons .val (.cons .val (.cons .val (.cons .val (.cons .val (.cons .val (.cons .val (.cons .val (.cons .val (.cons .val .nil)))))))))))) .nil) rfl rfl (by intro h; cases h) rfl rfl rfl rfl ?_
 exact Cf
theorem Mh {f r} (G:Iv f=some r):Fn Tryz.prog 135 0 [.agg (Aa.dv f)] [] (fun d' b'=>d'=ws r/\b'=[]):=by
 unfold Iv at G
 refine Dx 0 5 Tryz.func135 fun _ _ _=>?_
 exact Cf
instance aPd:Wk 135:=⟨_,@Mh⟩
theorem Qg {c1 c2 r} (G:G5 c1 c2=some r):Fn Tryz.prog 130 0 [.elt (([.raw (.func (.func 135) #[] #[])]:List C).drop 0),.elt (((Aa.ec c1):List C).drop 0),.elt (((Aa.ec c2):List C).drop 0)] [] (fun d' b'=>d'=vk r/\b'=[]):=by
 unfold G5 at G
 refine Dx 0 11 Tryz.func130 fun _ _ _=>?_
 refine Bt 1 fun B G=>?_
 refine Au <| Bb (Df _ _ []) (by kernel_rfl) [0,0,3,0,0,31,63,127] 8 72 B rfl rfl (by kernel_rfl) ?_
 refine Et rfl rfl (En cG (c:=.raw (.func (.func 135) #[] #[])) rfl) rfl rfl ?_
 refine Et rfl rfl (Ef Nz (cs2:=(Aa.ec c1)) rfl (aCt rfl)) rfl rfl ?_
 obtain⟨y,hy,G⟩:=Ak G
 refine Ec (rd:=[]) (ps:=[]) (gs:=[]) false rfl rfl (Mh hy) rfl rfl (.cons (.agg (.cons .val (.cons .val (.cons .val (.cons .val (.cons .val (.cons .val (.cons .val (.cons .val (.cons .val (.cons .val (.cons .val .nil)))))))))))) .nil) rfl rfl (by intro h; cases h) rfl rfl rfl rfl ?_
 refine Et rfl rfl (En cG (c:=.raw (.func (.func 135) #[] #[])) rfl) rfl rfl ?_
 refine Et rfl rfl (Ef Nz (cs2:=(Aa.ec c2)) rfl (aCt rfl)) rfl rfl ?_
 obtain⟨y_2,hy_2,G⟩:=Ak G
 refine Ec (rd:=[]) (ps:=[]) (gs:=[]) false rfl rfl (Mh hy_2) rfl rfl (.cons (.agg (.cons .val (.cons .val (.cons .val (.cons .val (.cons .val (.cons .val (.cons .val (.cons .val (.cons .val (.cons .val (.cons .val .nil)))))))))))) .nil) rfl rfl (by intro h; cases h) rfl rfl rfl rfl ?_
 exact Cf
theorem Ml {f r} (G:I5 f=some r):Fn Tryz.prog 136 0 [.agg (Aa.dv f)] [] (fun d' b'=>d'=vk r/\b'=[]):=by
 unfold I5 at G
 refine Dx 0 5 Tryz.func136 fun _ _ _=>?_
 exact Cf
instance aOv:Wk 136:=⟨_,@Ml⟩
theorem Qc {c1 c2 r} (G:Gv c1 c2=some r):Fn Tryz.prog 127 0 [.elt (([.raw (.func (.func 136) #[] #[])]:List C).drop 0),.elt (((Aa.ec c1):List C).drop 0),.elt (((Aa.ec c2):List C).drop 0)] [] (fun d' b'=>d'=vk r/\b'=[]):=by
 unfold Gv at G
 refine Dx 0 11 Tryz.func127 fun _ _ _=>?_
 refine Bt 1 fun B G=>?_
 refine Au <| Bb (Df _ _ []) (by kernel_rfl) [0,0,3,0,0,31,63,127] 8 72 B rfl rfl (by kernel_rfl) ?_
 refine Et rfl rfl (En Od (c:=.raw (.func (.func 136) #[] #[])) rfl) rfl rfl ?_
 refine Et rfl rfl (Ef Nz (cs2:=(Aa.ec c1)) rfl (aCt rfl)) rfl rfl ?_
 obtain⟨y,hy,G⟩:=Ak G
 refine Ec (rd:=[]) (ps:=[]) (gs:=[]) false rfl rfl (Ml hy) rfl rfl (.cons (.agg (.cons .val (.cons .val (.cons .val (.cons .val (.cons .val (.cons .val (.cons .val (.cons .val (.cons .val (.cons .val (.cons .val .nil)))))))))))) .nil) rfl rfl (by intro h; cases h) rfl rfl rfl rfl ?_
 refine Et rfl rfl (En Od (c:=.raw (.func (.func 136) #[] #[])) rfl) rfl rfl ?_
 refine Et rfl rfl (Ef Nz (cs2:=(Aa.ec c2)) rfl (aCt rfl)) rfl rfl ?_
 obtain⟨y_2,hy_2,G⟩:=Ak G
 refine Ec (rd:=[]) (ps:=[]) (gs:=[]) false rfl rfl (Ml hy_2) rfl rfl (.cons (.agg (.cons .val (.cons .val (.cons .val (.cons .val (.cons .val (.cons .val (.cons .val (.cons .val (.cons .val (.cons .val (.cons .val .nil)))))))))))) .nil) rfl rfl (by intro h; cases h) rfl rfl rfl rfl ?_
 exact Cf
theorem Mq {f r} (G:I3 f=some r):Fn Tryz.prog 137 0 [.agg (Aa.dv f)] [] (fun d' b'=>d'=vk r/\b'=[]):=by
 unfold I3 at G
 refine Dx 0 6 Tryz.func137 fun _ _ _=>?_
 exact Cf
instance aNv:Wk 137:=⟨_,@Mq⟩
theorem Pl {c1 c2 r} (G:Gx c1 c2=some r):Fn Tryz.prog 127 0 [.elt (([.raw (.func (.func 137) #[] #[])]:List C).drop 0),.elt (((Aa.ec c1):List C).drop 0),.elt (((Aa.ec c2):List C).drop 0)] [] (fun d' b'=>d'=vk r/\b'=[]):=by
 unfold Gx at G
 refine Dx 0 11 Tryz.func127 fun _ _ _=>?_
 refine Bt 1 fun B G=>?_
 refine Au <| Bb (Df _ _ []) (by kernel_rfl) [0,0,3,0,0,31,63,127] 8 72 B rfl rfl (by kernel_rfl) ?_
 refine Et rfl rfl (En Od (c:=.raw (.func (.func 137) #[] #[])) rfl) rfl rfl ?_
 refine Et rfl rfl (Ef Nz (cs2:=(Aa.ec c1)) rfl (aCt rfl)) rfl rfl ?_
 obtain⟨y,hy,G⟩:=Ak G
 refine Ec (rd:=[]) (ps:=[]) (gs:=[]) false rfl rfl (Mq hy) rfl rfl (.cons (.agg (.cons .val (.cons .val (.cons .val (.cons .val (.cons .val (.cons .val (.cons .val (.cons .val (.cons .val (.cons .val (.cons .val .nil)))))))))))) .nil) rfl rfl (by intro h; cases h) rfl rfl rfl rfl ?_
 refine Et rfl rfl (En Od (c:=.raw (.func (.func 137) #[] #[])) rfl) rfl rfl ?_
 refine Et rfl rfl (Ef Nz (cs2:=(Aa.ec c2)) rfl (aCt rfl)) rfl rfl ?_
 obtain⟨y_2,hy_2,G⟩:=Ak G
 refine Ec (rd:=[]) (ps:=[]) (gs:=[]) false rfl rfl (Mq hy_2) rfl rfl (.cons (.agg (.cons .val (.cons .val (.cons .val (.cons .val (.cons .val (.cons .val (.cons .val (.cons .val (.cons .val (.cons .val (.cons .val .nil)))))))))))) .nil) rfl rfl (by intro h; cases h) rfl rfl rfl rfl ?_
 exact Cf
theorem Ms {f r} (G:Iz f=some r):Fn Tryz.prog 138 0 [.agg (Aa.dv f)] [] (fun d' b'=>d'=vk r/\b'=[]):=by
 unfold Iz at G
 refine Dx 0 6 Tryz.func138 fun _ _ _=>?_
 exact Cf
instance aOk:Wk 138:=⟨_,@Ms⟩
theorem Qj {c1 c2 r} (G:Gy c1 c2=some r):Fn Tryz.prog 127 0 [.elt (([.raw (.func (.func 138) #[] #[])]:List C).drop 0),.elt (((Aa.ec c1):List C).drop 0),.elt (((Aa.ec c2):List C).drop 0)] [] (fun d' b'=>d'=vk r/\b'=[]):=by
 unfold Gy at G
 refine Dx 0 11 Tryz.func127 fun _ _ _=>?_
 refine Bt 1 fun B G=>?_
 refine Au <| Bb (Df _ _ []) (by kernel_rfl) [0,0,3,0,0,31,63,127] 8 72 B rfl rfl (by kernel_rfl) ?_
 refine Et rfl rfl (En Od (c:=.raw (.func (.func 138) #[] #[])) rfl) rfl rfl ?_
 refine Et rfl rfl (Ef Nz (cs2:=(Aa.ec c1)) rfl (aCt rfl)) rfl rfl ?_
 obtain⟨y,hy,G⟩:=Ak G
 refine Ec (rd:=[]) (ps:=[]) (gs:=[]) false rfl rfl (Ms hy) rfl rfl (.cons (.agg (.cons .val (.cons .val (.cons .val (.cons .val (.cons .val (.cons .val (.cons .val (.cons .val (.cons .val (.cons .val (.cons .val .nil)))))))))))) .nil) rfl rfl (by intro h; cases h) rfl rfl rfl rfl ?_
 refine Et rfl rfl (En Od (c:=.raw (.func (.func 138) #[] #[])) rfl) rfl rfl ?_
 refine Et rfl rfl (Ef Nz (cs2:=(Aa.ec c2)) rfl (aCt rfl)) rfl rfl ?_
 obtain⟨y_2,hy_2,G⟩:=Ak G
 refine Ec (rd:=[]) (ps:=[]) (gs:=[]) false rfl rfl (Ms hy_2) rfl rfl (.cons (.agg (.cons .val (.cons .val (.cons .val (.cons .val (.cons .val (.cons .val (.cons .val (.cons .val (.cons .val (.cons .val (.cons .val .nil)))))))))))) .nil) rfl rfl (by intro h; cases h) rfl rfl rfl rfl ?_
 exact Cf
theorem L9 {f r} (G:Ie f=some r):Fn Tryz.prog 139 0 [.agg (Aa.dv f)] [] (fun d' b'=>d'=vk r/\b'=[]):=by
 unfold Ie at G
 refine Dx 0 5 Tryz.func139 fun _ _ _=>?_
 exact Cf
instance aPc:Wk 139:=⟨_,@L9⟩
theorem Pm {c1 c2 r} (G:G4 c1 c2=some r):Fn Tryz.prog 127 0 [.elt (([.raw (.func (.func 139) #[] #[])]:List C).drop 0),.elt (((Aa.ec c1):List C).drop 0),.elt (((Aa.ec c2):List C).drop 0)] [] (fun d' b'=>d'=vk r/\b'=[]):=by
 unfold G4 at G
 refine Dx 0 11 Tryz.func127 fun _ _ _=>?_
 refine Bt 1 fun B G=>?_
 refine Au <| Bb (Df _ _ []) (by kernel_rfl) [0,0,3,0,0,31,63,127] 8 72 B rfl rfl (by kernel_rfl) ?_
 refine Et rfl rfl (En Od (c:=.raw (.func (.func 139) #[] #[])) rfl) rfl rfl ?_
 refine Et rfl rfl (Ef Nz (cs2:=(Aa.ec c1)) rfl (aCt rfl)) rfl rfl ?_
 obtain⟨y,hy,G⟩:=Ak G
 refine Ec (rd:=[]) (ps:=[]) (gs:=[]) false rfl rfl (L9 hy) rfl rfl (.cons (.agg (.cons .val (.cons .val (.cons .val (.cons .val (.cons .val (.cons .val (.cons .val (.cons .val (.cons .val (.cons .val (.cons .val .nil)))))))))))) .nil) rfl rfl (by intro h; cases h) rfl rfl rfl rfl ?_
 refine Et rfl rfl (En Od (c:=.raw (.func (.func 139) #[] #[])) rfl) rfl rfl ?_
 refine Et rfl rfl (Ef Nz (cs2:=(Aa.ec c2)) rfl (aCt rfl)) rfl rfl ?_
 obtain⟨y_2,hy_2,G⟩:=Ak G
 refine Ec (rd:=[]) (ps:=[]) (gs:=[]) false rfl rfl (L9 hy_2) rfl rfl (.cons (.agg (.cons .val (.cons .val (.cons .val (.cons .val (.cons .val (.cons .val (.cons .val (.cons .val (.cons .val (.cons .val (.cons .val .nil)))))))))))) .nil) rfl rfl (by intro h; cases h) rfl rfl rfl rfl ?_
 exact Cf
theorem L7 {f r} (G:H9 f=some r):Fn Tryz.prog 140 0 [.agg (Aa.dv f)] [] (fun d' b'=>d'=ws r/\b'=[]):=by
 unfold H9 at G
 refine Dx 0 5 Tryz.func140 fun _ _ _=>?_
 exact Cf
instance aO0:Wk 140:=⟨_,@L7⟩
theorem Pj {c1 c2 r} (G:Gr c1 c2=some r):Fn Tryz.prog 130 0 [.elt (([.raw (.func (.func 140) #[] #[])]:List C).drop 0),.elt (((Aa.ec c1):List C).drop 0),.elt (((Aa.ec c2):List C).drop 0)] [] (fun d' b'=>d'=vk r/\b'=[]):=by
 unfold Gr at G
 refine Dx 0 11 Tryz.func130 fun _ _ _=>?_
 refine Bt 1 fun B G=>?_
 refine Au <| Bb (Df _ _ []) (by kernel_rfl) [0,0,3,0,0,31,63,127] 8 72 B rfl rfl (by kernel_rfl) ?_
 refine Et rfl rfl (En cG (c:=.raw (.func (.func 140) #[] #[])) rfl) rfl rfl ?_
 refine Et rfl rfl (Ef Nz (cs2:=(Aa.ec c1)) rfl (aCt rfl)) rfl rfl ?_
 obtain⟨y,hy,G⟩:=Ak G
 refine Ec (rd:=[]) (ps:=[]) (gs:=[]) false rfl rfl (L7 hy) rfl rfl (.cons (.agg (.cons .val (.cons .val (.cons .val (.cons .val (.cons .val (.cons .val (.cons .val (.cons .val (.cons .val (.cons .val (.cons .val .nil)))))))))))) .nil) rfl rfl (by intro h; cases h) rfl rfl rfl rfl ?_
 refine Et rfl rfl (En cG (c:=.raw (.func (.func 140) #[] #[])) rfl) rfl rfl ?_
 refine Et rfl rfl (Ef Nz (cs2:=(Aa.ec c2)) rfl (aCt rfl)) rfl rfl ?_
 obtain⟨y_2,hy_2,G⟩:=Ak G
 refine Ec (rd:=[]) (ps:=[]) (gs:=[]) false rfl rfl (L7 hy_2) rfl rfl (.cons (.agg (.cons .val (.cons .val (.cons .val (.cons .val (.cons .val (.cons .val (.cons .val (.cons .val (.cons .val (.cons .val (.cons .val .nil)))))))))))) .nil) rfl rfl (by intro h; cases h) rfl rfl rfl rfl ?_
 exact Cf
theorem L6 {f r} (G:H7 f=some r):Fn Tryz.prog 141 0 [.agg (Aa.dv f)] [] (fun d' b'=>d'=vk r/\b'=[]):=by
 unfold H7 at G
 refine Dx 0 5 Tryz.func141 fun _ _ _=>?_
 exact Cf
instance aOu:Wk 141:=⟨_,@L6⟩
theorem Pi {c1 c2 r} (G:G0 c1 c2=some r):Fn Tryz.prog 127 0 [.elt (([.raw (.func (.func 141) #[] #[])]:List C).drop 0),.elt (((Aa.ec c1):List C).drop 0),.elt (((Aa.ec c2):List C).drop 0)] [] (fun d' b'=>d'=vk r/\b'=[]):=by
 unfold G0 at G
 refine Dx 0 11 Tryz.func127 fun _ _ _=>?_
 refine Bt 1 fun B G=>?_
 refine Au <| Bb (Df _ _ []) (by kernel_rfl) [0,0,3,0,0,31,63,127] 8 72 B rfl rfl (by kernel_rfl) ?_
 refine Et rfl rfl (En Od (c:=.raw (.func (.func 141) #[] #[])) rfl) rfl rfl ?_
 refine Et rfl rfl (Ef Nz (cs2:=(Aa.ec c1)) rfl (aCt rfl)) rfl rfl ?_
 obtain⟨y,hy,G⟩:=Ak G
 refine Ec (rd:=[]) (ps:=[]) (gs:=[]) false rfl rfl (L6 hy) rfl rfl (.cons (.agg (.cons .val (.cons .val (.cons .val (.cons .val (.cons .val (.cons .val (.cons .val (.cons .val (.cons .val (.cons .val (.cons .val .nil)))))))))))) .nil) rfl rfl (by intro h; cases h) rfl rfl rfl rfl ?_
 refine Et rfl rfl (En Od (c:=.raw (.func (.func 141) #[] #[])) rfl) rfl rfl ?_
 refine Et rfl rfl (Ef Nz (cs2:=(Aa.ec c2)) rfl (aCt rfl)) rfl rfl ?_
 obtain⟨y_2,hy_2,G⟩:=Ak G
 refine Ec (rd:=[]) (ps:=[]) (gs:=[]) false rfl rfl (L6 hy_2) rfl rfl (.cons (.agg (.cons .val (.cons .val (.cons .val (.cons .val (.cons .val (.cons .val (.cons .val (.cons .val (.cons .val (.cons .val (.cons .val .nil)))))))))))) .nil) rfl rfl (by intro h; cases h) rfl rfl rfl rfl ?_
 exact Cf
theorem L2 {f r} (G:Ib f=some r):Fn Tryz.prog 142 0 [.agg (Aa.dv f)] [] (fun d' b'=>d'=vk r/\b'=[]):=by
 unfold Ib at G
 refine Dx 0 5 Tryz.func142 fun _ _ _=>?_
 exact Cf
instance aNx:Wk 142:=⟨_,@L2⟩
theorem Qb {c1 c2 r} (G:G6 c1 c2=some r):Fn Tryz.prog 127 0 [.elt (([.raw (.func (.func 142) #[] #[])]:List C).drop 0),.elt (((Aa.ec c1):List C).drop 0),.elt (((Aa.ec c2):List C).drop 0)] [] (fun d' b'=>d'=vk r/\b'=[]):=by
 unfold G6 at G
 refine Dx 0 11 Tryz.func127 fun _ _ _=>?_
 refine Bt 1 fun B G=>?_
 refine Au <| Bb (Df _ _ []) (by kernel_rfl) [0,0,3,0,0,31,63,127] 8 72 B rfl rfl (by kernel_rfl) ?_
 refine Et rfl rfl (En Od (c:=.raw (.func (.func 142) #[] #[])) rfl) rfl rfl ?_
 refine Et rfl rfl (Ef Nz (cs2:=(Aa.ec c1)) rfl (aCt rfl)) rfl rfl ?_
 obtain⟨y,hy,G⟩:=Ak G
 refine Ec (rd:=[]) (ps:=[]) (gs:=[]) false rfl rfl (L2 hy) rfl rfl (.cons (.agg (.cons .val (.cons .val (.cons .val (.cons .val (.cons .val (.cons .val (.cons .val (.cons .val (.cons .val (.cons .val (.cons .val .nil)))))))))))) .nil) rfl rfl (by intro h; cases h) rfl rfl rfl rfl ?_
 refine Et rfl rfl (En Od (c:=.raw (.func (.func 142) #[] #[])) rfl) rfl rfl ?_
 refine Et rfl rfl (Ef Nz (cs2:=(Aa.ec c2)) rfl (aCt rfl)) rfl rfl ?_
 obtain⟨y_2,hy_2,G⟩:=Ak G
 refine Ec (rd:=[]) (ps:=[]) (gs:=[]) false rfl rfl (L2 hy_2) rfl rfl (.cons (.agg (.cons .val (.cons .val (.cons .val (.cons .val (.cons .val (.cons .val (.cons .val (.cons .val (.cons .val (.cons .val (.cons .val .nil)))))))))))) .nil) rfl rfl (by intro h; cases h) rfl rfl rfl rfl ?_
 exact Cf
theorem Tb {a b r} (G:H6 a b=some r):Fn Tryz.prog 104 0 [.agg (Aa.dv a),.agg (Aa.dv b)] [] (fun d' b'=>d'=vk r/\b'=[]):=by
 unfold H6 at G
 refine Dx 0 46 Tryz.func104 fun _ _ _=>?_
 refine Rk 0 24 Ji fun B=>?_
 refine Au <| Ew (σ':=mk [(2,.elt (((Aa.ec a):List C).drop 0)),(3,.elt (((Aa.ec b):List C).drop 0))] [] 0) ((by exact O5.lists [] rfl rfl ⟨⟨_,rfl,.frzb (ks:=[none,none,none,none,none,none,none,none,none,none,none]) rfl (.cons .int (.cons .str (.cons .int (.cons .int (.cons .int (.cons .int (.cons .str (.cons .int (.cons .int (.cons .int (.cons .str .nil))))))))))) (Fr rfl)⟩,⟨_,rfl,.frzb (ks:=[none,none,none,none,none,none,none,none,none,none,none]) rfl (.cons .int (.cons .str (.cons .int (.cons .int (.cons .int (.cons .int (.cons .str (.cons .int (.cons .int (.cons .int (.cons .str .nil))))))))))) (Fr rfl)⟩,trivial⟩ trivial)) ?_
 refine B5 (Df _ _ []) 0 16 Ji rfl rfl ?_
 refine Mf fun B=>?_
 refine Rk 16 32 B fun B=>?_
 refine Au <| Ol 32 232 B ?_
 refine Me ?_
 obtain⟨y,hy,G⟩:=Ak G
 refine Cm (rd:=[]) (ps:=[]) (gs:=[]) false rfl rfl (Rz hy) rfl rfl (.cons .val (.cons .elt (.cons .elt .nil))) rfl rfl (by intro h; cases h) rfl rfl rfl rfl ?_
 refine Me ?_
 obtain⟨y_2,hy_2,G⟩:=Ak G
 refine Cm (rd:=[]) (ps:=[]) (gs:=[]) false rfl rfl (R2 hy_2) rfl rfl (.cons .val (.cons .elt (.cons .elt .nil))) rfl rfl (by intro h; cases h) rfl rfl rfl rfl ?_
 refine Me ?_
 obtain⟨y_3,hy_3,G⟩:=Ak G
 refine Cm (rd:=[]) (ps:=[]) (gs:=[]) false rfl rfl (Sh hy_3) rfl rfl (.cons .val (.cons .elt (.cons .elt .nil))) rfl rfl (by intro h; cases h) rfl rfl rfl rfl ?_
 refine Me ?_
 obtain⟨y_4,hy_4,G⟩:=Ak G
 refine Cm (rd:=[]) (ps:=[]) (gs:=[]) false rfl rfl (R7 hy_4) rfl rfl (.cons .val (.cons .elt (.cons .elt .nil))) rfl rfl (by intro h; cases h) rfl rfl rfl rfl ?_
 refine Me ?_
 obtain⟨y_5,hy_5,G⟩:=Ak G
 refine Cm (rd:=[]) (ps:=[]) (gs:=[]) false rfl rfl (Ru hy_5) rfl rfl (.cons .val (.cons .elt (.cons .elt .nil))) rfl rfl (by intro h; cases h) rfl rfl rfl rfl ?_
 refine Me ?_
 obtain⟨y_6,hy_6,G⟩:=Ak G
 refine Cm (rd:=[]) (ps:=[]) (gs:=[]) false rfl rfl (Si hy_6) rfl rfl (.cons .val (.cons .elt (.cons .elt .nil))) rfl rfl (by intro h; cases h) rfl rfl rfl rfl ?_
 refine Me ?_
 obtain⟨y_7,hy_7,G⟩:=Ak G
 refine Cm (rd:=[]) (ps:=[]) (gs:=[]) false rfl rfl (R5 hy_7) rfl rfl (.cons .val (.cons .elt (.cons .elt .nil))) rfl rfl (by intro h; cases h) rfl rfl rfl rfl ?_
 refine Me ?_
 obtain⟨y_8,hy_8,G⟩:=Ak G
 refine Cm (rd:=[]) (ps:=[]) (gs:=[]) false rfl rfl (R8 hy_8) rfl rfl (.cons .val (.cons .elt (.cons .elt .nil))) rfl rfl (by intro h; cases h) rfl rfl rfl rfl ?_
 refine Me ?_
 obtain⟨y_9,hy_9,G⟩:=Ak G
 refine Cm (rd:=[]) (ps:=[]) (gs:=[]) false rfl rfl (Sn hy_9) rfl rfl (.cons .val (.cons .elt (.cons .elt .nil))) rfl rfl (by intro h; cases h) rfl rfl rfl rfl ?_
 refine Me ?_
 obtain⟨y_10,hy_10,G⟩:=Ak G
 refine Cm (rd:=[]) (ps:=[]) (gs:=[]) false rfl rfl (Sj hy_10) rfl rfl (.cons .val (.cons .elt (.cons .elt .nil))) rfl rfl (by intro h; cases h) rfl rfl rfl rfl ?_
 refine Me ?_
 obtain⟨y_11,hy_11,G⟩:=Ak G
 refine Cm (rd:=[]) (ps:=[]) (gs:=[]) false rfl rfl (Ro hy_11) rfl rfl (.cons .val (.cons .elt (.cons .elt .nil))) rfl rfl (by intro h; cases h) rfl rfl rfl rfl ?_
 refine Mn (rd:=[]) rfl rfl (.buildV (r:=[.clo 130 0 [.elt (([.raw (.func (.func 132) #[] #[])]:List C).drop 0),.elt (((Aa.ec y.1):List C).drop 0),.elt (((Aa.ec y.2):List C).drop 0)],.clo 127 0 [.elt (([.raw (.func (.func 133) #[] #[])]:List C).drop 0),.elt (((Aa.ec y_2.1):List C).drop 0),.elt (((Aa.ec y_2.2):List C).drop 0)],.clo 127 0 [.elt (([.raw (.func (.func 134) #[] #[])]:List C).drop 0),.elt (((Aa.ec y_3.1):List C).drop 0),.elt (((Aa.ec y_3.2):List C).drop 0)],.clo 130 0 [.elt (([.raw (.func (.func 135) #[] #[])]:List C).drop 0),.elt (((Aa.ec y_4.1):List C).drop 0),.elt (((Aa.ec y_4.2):List C).drop 0)],.clo 127 0 [.elt (([.raw (.func (.func 136) #[] #[])]:List C).drop 0),.elt (((Aa.ec y_5.1):List C).drop 0),.elt (((Aa.ec y_5.2):List C).drop 0)],.clo 127 0 [.elt (([.raw (.func (.func 137) #[] #[])]:List C).drop 0),.elt (((Aa.ec y_6.1):List C).drop 0),.elt (((Aa.ec y_6.2):List C).drop 0)],.clo 127 0 [.elt (([.raw (.func (.func 138) #[] #[])]:List C).drop 0),.elt (((Aa.ec y_7.1):List C).drop 0),.elt (((Aa.ec y_7.2):List C).drop 0)],.clo 127 0 [.elt (([.raw (.func (.func 139) #[] #[])]:List C).drop 0),.elt (((Aa.ec y_8.1):List C).drop 0),.elt (((Aa.ec y_8.2):List C).drop 0)],.clo 130 0 [.elt (([.raw (.func (.func 140) #[] #[])]:List C).drop 0),.elt (((Aa.ec y_9.1):List C).drop 0),.elt (((Aa.ec y_9.2):List C).drop 0)],.clo 127 0 [.elt (([.raw (.func (.func 141) #[] #[])]:List C).drop 0),.elt (((Aa.ec y_10.1):List C).drop 0),.elt (((Aa.ec y_10.2):List C).drop 0)],.clo 127 0 [.elt (([.raw (.func (.func 142) #[] #[])]:List C).drop 0),.elt (((Aa.ec y_11.1):List C).drop 0),.elt (((Aa.ec y_11.2):List C).drop 0)]]) (pl:=[(0,.clo 130 0 [.elt (([.raw (.func (.func 132) #[] #[])]:List C).drop 0),.elt (((Aa.ec y.1):List C).drop 0),.elt (((Aa.ec y.2):List C).drop 0)]),(1,.clo 127 0 [.elt (([.raw (.func (.func 133) #[] #[])]:List C).drop 0),.elt (((Aa.ec y_2.1):List C).drop 0),.elt (((Aa.ec y_2.2):List C).drop 0)]),(2,.clo 127 0 [.elt (([.raw (.func (.func 134) #[] #[])]:List C).drop 0),.elt (((Aa.ec y_3.1):List C).drop 0),.elt (((Aa.ec y_3.2):List C).drop 0)]),(3,.clo 130 0 [.elt (([.raw (.func (.func 135) #[] #[])]:List C).drop 0),.elt (((Aa.ec y_4.1):List C).drop 0),.elt (((Aa.ec y_4.2):List C).drop 0)]),(4,.clo 127 0 [.elt (([.raw (.func (.func 136) #[] #[])]:List C).drop 0),.elt (((Aa.ec y_5.1):List C).drop 0),.elt (((Aa.ec y_5.2):List C).drop 0)]),(5,.clo 127 0 [.elt (([.raw (.func (.func 137) #[] #[])]:List C).drop 0),.elt (((Aa.ec y_6.1):List C).drop 0),.elt (((Aa.ec y_6.2):List C).drop 0)]),(6,.clo 127 0 [.elt (([.raw (.func (.func 138) #[] #[])]:List C).drop 0),.elt (((Aa.ec y_7.1):List C).drop 0),.elt (((Aa.ec y_7.2):List C).drop 0)]),(7,.clo 127 0 [.elt (([.raw (.func (.func 139) #[] #[])]:List C).drop 0),.elt (((Aa.ec y_8.1):List C).drop 0),.elt (((Aa.ec y_8.2):List C).drop 0)]),(8,.clo 130 0 [.elt (([.raw (.func (.func 140) #[] #[])]:List C).drop 0),.elt (((Aa.ec y_9.1):List C).drop 0),.elt (((Aa.ec y_9.2):List C).drop 0)]),(9,.clo 127 0 [.elt (([.raw (.func (.func 141) #[] #[])]:List C).drop 0),.elt (((Aa.ec y_10.1):List C).drop 0),.elt (((Aa.ec y_10.2):List C).drop 0)])]) (pi:=10) Q8 aK0 (by decide) (by kernel_rfl) rfl (by decide) rfl) rfl rfl (fun _=>⟨_,rfl⟩) ?_
 rintro _ rfl
 refine Mn (rd:=[208]) rfl rfl (.lenV Q8) rfl rfl (fun _=>⟨_,rfl⟩) ?_
 rintro _ rfl
 refine Mf fun B=>?_
 refine Fg <| oD 13 ?_
 refine Z8 ?_
 refine Rk 232 240 B fun B=>?_
 refine Au <| J9 rfl (fun h=>?_) (fun h=>?_)
 refine Vc ?_
 refine Au <| Fg <| Ol 240 264 B ?_
 refine Mn (rd:=[208]) rfl rfl (.idxV (j:=0) Q8 rfl (aCt rfl)) rfl rfl (fun _=>⟨_,rfl⟩) ?_
 rintro _ rfl
 refine Mn (rd:=[208]) rfl rfl (.loadV S9 rfl) rfl rfl (fun _=>⟨_,rfl⟩) ?_
 rintro _ rfl
 refine Mf fun B=>?_
 refine Ol 264 288 B ?_
 refine Me ?_
 obtain⟨y_12,hy_12,G⟩:=Ak G
 refine Cm (rd:=[]) (ps:=[]) (gs:=[]) false rfl rfl (Pq hy_12) rfl rfl (.cons .elt (.cons .elt (.cons .elt .nil))) rfl rfl (by intro h; cases h) rfl rfl rfl rfl ?_
 refine Mf fun B=>?_
 refine Rk 288 304 B fun B=>?_
 refine Jf rfl G (fun h9 G=>?_) fun h9 G=>?_
 refine Ol 304 320 B ?_
 exact sU
 refine Vc ?_
 refine B5 (Df _ _ []) 304 320 B rfl rfl ?_
 refine Et rfl rfl (Qa (z:=1) (by decide)) rfl rfl ?_
 refine Mf fun B=>?_
 refine Z8 ?_
 refine Rk 320 328 B fun B=>?_
 refine Au <| J9 rfl (fun h=>?_) (fun h=>?_)
 refine Vc ?_
 refine Au <| Fg <| Ol 328 352 B ?_
 refine Mn (rd:=[208]) rfl rfl (.idxV (j:=1) Q8 rfl (aCt rfl)) rfl rfl (fun _=>⟨_,rfl⟩) ?_
 rintro _ rfl
 refine Mn (rd:=[208]) rfl rfl (.loadV S9 rfl) rfl rfl (fun _=>⟨_,rfl⟩) ?_
 rintro _ rfl
 refine Mf fun B=>?_
 refine Ol 352 376 B ?_
 refine Me ?_
 obtain⟨y_13,hy_13,G⟩:=Ak G
 refine Cm (rd:=[]) (ps:=[]) (gs:=[]) false rfl rfl (Pp hy_13) rfl rfl (.cons .elt (.cons .elt (.cons .elt .nil))) rfl rfl (by intro h; cases h) rfl rfl rfl rfl ?_
 refine Mf fun B=>?_
 refine Rk 376 392 B fun B=>?_
 refine Jf rfl G (fun h16 G=>?_) fun h16 G=>?_
 refine Ol 392 408 B ?_
 exact sU
 refine Vc ?_
 refine B5 (Df _ _ []) 392 408 B rfl rfl ?_
 refine Et rfl rfl (Qa (z:=2) (by decide)) rfl rfl ?_
 refine Mf fun B=>?_
 refine Z8 ?_
 refine Rk 408 416 B fun B=>?_
 refine Au <| J9 rfl (fun h=>?_) (fun h=>?_)
 refine Vc ?_
 refine Au <| Fg <| Ol 416 440 B ?_
 refine Mn (rd:=[208]) rfl rfl (.idxV (j:=2) Q8 rfl (aCt rfl)) rfl rfl (fun _=>⟨_,rfl⟩) ?_
 rintro _ rfl
 refine Mn (rd:=[208]) rfl rfl (.loadV S9 rfl) rfl rfl (fun _=>⟨_,rfl⟩) ?_
 rintro _ rfl
 refine Mf fun B=>?_
 refine Ol 440 464 B ?_
 refine Me ?_
 obtain⟨y_14,hy_14,G⟩:=Ak G
 refine Cm (rd:=[]) (ps:=[]) (gs:=[]) false rfl rfl (Qe hy_14) rfl rfl (.cons .elt (.cons .elt (.cons .elt .nil))) rfl rfl (by intro h; cases h) rfl rfl rfl rfl ?_
 refine Mf fun B=>?_
 refine Rk 464 480 B fun B=>?_
 refine Jf rfl G (fun h23 G=>?_) fun h23 G=>?_
 refine Ol 480 496 B ?_
 exact sU
 refine Vc ?_
 refine B5 (Df _ _ []) 480 496 B rfl rfl ?_
 refine Et rfl rfl (Qa (z:=3) (by decide)) rfl rfl ?_
 refine Mf fun B=>?_
 refine Z8 ?_
 refine Rk 496 504 B fun B=>?_
 refine Au <| J9 rfl (fun h=>?_) (fun h=>?_)
 refine Vc ?_
 refine Au <| Fg <| Ol 504 528 B ?_
 refine Mn (rd:=[208]) rfl rfl (.idxV (j:=3) Q8 rfl (aCt rfl)) rfl rfl (fun _=>⟨_,rfl⟩) ?_
 rintro _ rfl
 refine Mn (rd:=[208]) rfl rfl (.loadV S9 rfl) rfl rfl (fun _=>⟨_,rfl⟩) ?_
 rintro _ rfl
 refine Mf fun B=>?_
 refine Ol 528 552 B ?_
 refine Me ?_
 obtain⟨y_15,hy_15,G⟩:=Ak G
 refine Cm (rd:=[]) (ps:=[]) (gs:=[]) false rfl rfl (Qg hy_15) rfl rfl (.cons .elt (.cons .elt (.cons .elt .nil))) rfl rfl (by intro h; cases h) rfl rfl rfl rfl ?_
 refine Mf fun B=>?_
 refine Rk 552 568 B fun B=>?_
 refine Jf rfl G (fun h30 G=>?_) fun h30 G=>?_
 refine Ol 568 584 B ?_
 exact sU
 refine Vc ?_
 refine B5 (Df _ _ []) 568 584 B rfl rfl ?_
 refine Et rfl rfl (Qa (z:=4) (by decide)) rfl rfl ?_
 refine Mf fun B=>?_
 refine Z8 ?_
 refine Rk 584 592 B fun B=>?_
 refine Au <| J9 rfl (fun h=>?_) (fun h=>?_)
 refine Vc ?_
 refine Au <| Fg <| Ol 592 616 B ?_
 refine Mn (rd:=[208]) rfl rfl (.idxV (j:=4) Q8 rfl (aCt rfl)) rfl rfl (fun _=>⟨_,rfl⟩) ?_
 rintro _ rfl
 refine Mn (rd:=[208]) rfl rfl (.loadV S9 rfl) rfl rfl (fun _=>⟨_,rfl⟩) ?_
 rintro _ rfl
 refine Mf fun B=>?_
 refine Ol 616 640 B ?_
 refine Me ?_
 obtain⟨y_16,hy_16,G⟩:=Ak G
 refine Cm (rd:=[]) (ps:=[]) (gs:=[]) false rfl rfl (Qc hy_16) rfl rfl (.cons .elt (.cons .elt (.cons .elt .nil))) rfl rfl (by intro h; cases h) rfl rfl rfl rfl ?_
 refine Mf fun B=>?_
 refine Rk 640 656 B fun B=>?_
 refine Jf rfl G (fun h37 G=>?_) fun h37 G=>?_
 refine Ol 656 672 B ?_
 exact sU
 refine Vc ?_
 refine B5 (Df _ _ []) 656 672 B rfl rfl ?_
 refine Et rfl rfl (Qa (z:=5) (by decide)) rfl rfl ?_
 refine Mf fun B=>?_
 refine Z8 ?_
 refine Rk 672 680 B fun B=>?_
 refine Au <| J9 rfl (fun h=>?_) (fun h=>?_)
 refine Vc ?_
 refine Au <| Fg <| Ol 680 704 B ?_
 refine Mn (rd:=[208]) rfl rfl (.idxV (j:=5) Q8 rfl (aCt rfl)) rfl rfl (fun _=>⟨_,rfl⟩) ?_
 rintro _ rfl
 refine Mn (rd:=[208]) rfl rfl (.loadV S9 rfl) rfl rfl (fun _=>⟨_,rfl⟩) ?_
 rintro _ rfl
 refine Mf fun B=>?_
 refine Ol 704 728 B ?_
 refine Me ?_
 obtain⟨y_17,hy_17,G⟩:=Ak G
 refine Cm (rd:=[]) (ps:=[]) (gs:=[]) false rfl rfl (Pl hy_17) rfl rfl (.cons .elt (.cons .elt (.cons .elt .nil))) rfl rfl (by intro h; cases h) rfl rfl rfl rfl ?_
 refine Mf fun B=>?_
 refine Rk 728 744 B fun B=>?_
 refine Jf rfl G (fun h44 G=>?_) fun h44 G=>?_
 refine Ol 744 760 B ?_
 exact sU
 refine Vc ?_
 refine B5 (Df _ _ []) 744 760 B rfl rfl ?_
 refine Et rfl rfl (Qa (z:=6) (by decide)) rfl rfl ?_
 refine Mf fun B=>?_
 refine Z8 ?_
 refine Rk 760 768 B fun B=>?_
 refine Au <| J9 rfl (fun h=>?_) (fun h=>?_)
 refine Vc ?_
 refine Au <| Fg <| Ol 768 792 B ?_
 refine Mn (rd:=[208]) rfl rfl (.idxV (j:=6) Q8 rfl (aCt rfl)) rfl rfl (fun _=>⟨_,rfl⟩) ?_
 rintro _ rfl
 refine Mn (rd:=[208]) rfl rfl (.loadV S9 rfl) rfl rfl (fun _=>⟨_,rfl⟩) ?_
 rintro _ rfl
 refine Mf fun B=>?_
 refine Ol 792 816 B ?_
 refine Me ?_
 obtain⟨y_18,hy_18,G⟩:=Ak G
 refine Cm (rd:=[]) (ps:=[]) (gs:=[]) false rfl rfl (Qj hy_18) rfl rfl (.cons .elt (.cons .elt (.cons .elt .nil))) rfl rfl (by intro h; cases h) rfl rfl rfl rfl ?_
 refine Mf fun B=>?_
 refine Rk 816 832 B fun B=>?_
 refine Jf rfl G (fun h51 G=>?_) fun h51 G=>?_
 refine Ol 832 848 B ?_
 exact sU
 refine Vc ?_
 refine B5 (Df _ _ []) 832 848 B rfl rfl ?_
 refine Et rfl rfl (Qa (z:=7) (by decide)) rfl rfl ?_
 refine Mf fun B=>?_
 refine Z8 ?_
 refine Rk 848 856 B fun B=>?_
 refine Au <| J9 rfl (fun h=>?_) (fun h=>?_)
 refine Vc ?_
 refine Au <| Fg <| Ol 856 880 B ?_
 refine Mn (rd:=[208]) rfl rfl (.idxV (j:=7) Q8 rfl (aCt rfl)) rfl rfl (fun _=>⟨_,rfl⟩) ?_
 rintro _ rfl
 refine Mn (rd:=[208]) rfl rfl (.loadV S9 rfl) rfl rfl (fun _=>⟨_,rfl⟩) ?_
 rintro _ rfl
 refine Mf fun B=>?_
 refine Ol 880 904 B ?_
 refine Me ?_
 obtain⟨y_19,hy_19,G⟩:=Ak G
 refine Cm (rd:=[]) (ps:=[]) (gs:=[]) false rfl rfl (Pm hy_19) rfl rfl (.cons .elt (.cons .elt (.cons .elt .nil))) rfl rfl (by intro h; cases h) rfl rfl rfl rfl ?_
 refine Mf fun B=>?_
 refine Rk 904 920 B fun B=>?_
 refine Jf rfl G (fun h58 G=>?_) fun h58 G=>?_
 refine Ol 920 936 B ?_
 exact sU
 refine Vc ?_
 refine B5 (Df _ _ []) 920 936 B rfl rfl ?_
 refine Et rfl rfl (Qa (z:=8) (by decide)) rfl rfl ?_
 refine Mf fun B=>?_
 refine Z8 ?_
 refine Rk 936 944 B fun B=>?_
 refine Au <| J9 rfl (fun h=>?_) (fun h=>?_)
 refine Vc ?_
 refine Au <| Fg <| Ol 944 968 B ?_
 refine Mn (rd:=[208]) rfl rfl (.idxV (j:=8) Q8 rfl (aCt rfl)) rfl rfl (fun _=>⟨_,rfl⟩) ?_
 rintro _ rfl
 refine Mn (rd:=[208]) rfl rfl (.loadV S9 rfl) rfl rfl (fun _=>⟨_,rfl⟩) ?_
 rintro _ rfl
 refine Mf fun B=>?_
 refine Ol 968 992 B ?_
 refine Me ?_
 obtain⟨y_20,hy_20,G⟩:=Ak G
 refine Cm (rd:=[]) (ps:=[]) (gs:=[]) false rfl rfl (Pj hy_20) rfl rfl (.cons .elt (.cons .elt (.cons .elt .nil))) rfl rfl (by intro h; cases h) rfl rfl rfl rfl ?_
 refine Mf fun B=>?_
 refine Rk 992 1008 B fun B=>?_
 refine Jf rfl G (fun h65 G=>?_) fun h65 G=>?_
 refine Ol 1008 1024 B ?_
 exact sU
 refine Vc ?_
 refine B5 (Df _ _ []) 1008 1024 B rfl rfl ?_
 refine Et rfl rfl (Qa (z:=9) (by decide)) rfl rfl ?_
 refine Mf fun B=>?_
 refine Z8 ?_
 refine Rk 1024 1032 B fun B=>?_
 refine Au <| J9 rfl (fun h=>?_) (fun h=>?_)
 refine Vc ?_
 refine Au <| Fg <| Ol 1032 1056 B ?_
 refine Mn (rd:=[208]) rfl rfl (.idxV (j:=9) Q8 rfl (aCt rfl)) rfl rfl (fun _=>⟨_,rfl⟩) ?_
 rintro _ rfl
 refine Mn (rd:=[208]) rfl rfl (.loadV S9 rfl) rfl rfl (fun _=>⟨_,rfl⟩) ?_
 rintro _ rfl
 refine Mf fun B=>?_
 refine Ol 1056 1080 B ?_
 refine Me ?_
 obtain⟨y_21,hy_21,G⟩:=Ak G
 refine Cm (rd:=[]) (ps:=[]) (gs:=[]) false rfl rfl (Pi hy_21) rfl rfl (.cons .elt (.cons .elt (.cons .elt .nil))) rfl rfl (by intro h; cases h) rfl rfl rfl rfl ?_
 refine Mf fun B=>?_
 refine Rk 1080 1096 B fun B=>?_
 refine Jf rfl G (fun h72 G=>?_) fun h72 G=>?_
 refine Ol 1096 1112 B ?_
 exact sU
 refine Vc ?_
 refine B5 (Df _ _ []) 1096 1112 B rfl rfl ?_
 refine Et rfl rfl (Qa (z:=10) (by decide)) rfl rfl ?_
 refine Mf fun B=>?_
 refine Z8 ?_
 refine Rk 1112 1120 B fun B=>?_
 refine Au <| J9 rfl (fun h=>?_) (fun h=>?_)
 refine Vc ?_
 refine Au <| Fg <| Ol 1120 1144 B ?_
 refine Mn (rd:=[208]) rfl rfl (.idxV (j:=10) Q8 rfl (aCt rfl)) rfl rfl (fun _=>⟨_,rfl⟩) ?_
 rintro _ rfl
 refine Mn (rd:=[208]) rfl rfl (.loadV S9 rfl) rfl rfl (fun _=>⟨_,rfl⟩) ?_
 rintro _ rfl
 refine Mf fun B=>?_
 refine Ol 1144 1168 B ?_
 refine Me ?_
 obtain⟨y_22,hy_22,G⟩:=Ak G
 refine Cm (rd:=[]) (ps:=[]) (gs:=[]) false rfl rfl (Qb hy_22) rfl rfl (.cons .elt (.cons .elt (.cons .elt .nil))) rfl rfl (by intro h; cases h) rfl rfl rfl rfl ?_
 refine Mf fun B=>?_
 refine Rk 1168 1184 B fun B=>?_
 refine Jf rfl G (fun h79 G=>?_) fun h79 G=>?_
 refine Ol 1184 1200 B ?_
 exact sU
 refine Vc ?_
 refine B5 (Df _ _ []) 1184 1200 B rfl rfl ?_
 refine Et rfl rfl (Qa (z:=11) (by decide)) rfl rfl ?_
 refine Mf fun B=>?_
 refine Z8 ?_
 refine Rk 1200 1208 B fun B=>?_
 refine Au <| J9 rfl (fun h=>?_) (fun h=>?_)
 exact absurd h (by first | decide | exact fun h=>nomatch (show false=true from h) | exact fun h=>nomatch (show true=false from h))
 refine ex_ ?_
 refine Rk 1208 1216 B fun B=>?_
 exact t3_
 exact absurd h (by first | decide | exact fun h=>nomatch (show false=true from h) | exact fun h=>nomatch (show true=false from h))
 exact absurd h (by first | decide | exact fun h=>nomatch (show false=true from h) | exact fun h=>nomatch (show true=false from h))
 exact absurd h (by first | decide | exact fun h=>nomatch (show false=true from h) | exact fun h=>nomatch (show true=false from h))
 exact absurd h (by first | decide | exact fun h=>nomatch (show false=true from h) | exact fun h=>nomatch (show true=false from h))
 exact absurd h (by first | decide | exact fun h=>nomatch (show false=true from h) | exact fun h=>nomatch (show true=false from h))
 exact absurd h (by first | decide | exact fun h=>nomatch (show false=true from h) | exact fun h=>nomatch (show true=false from h))
 exact absurd h (by first | decide | exact fun h=>nomatch (show false=true from h) | exact fun h=>nomatch (show true=false from h))
 exact absurd h (by first | decide | exact fun h=>nomatch (show false=true from h) | exact fun h=>nomatch (show true=false from h))
 exact absurd h (by first | decide | exact fun h=>nomatch (show false=true from h) | exact fun h=>nomatch (show true=false from h))
 exact absurd h (by first | decide | exact fun h=>nomatch (show false=true from h) | exact fun h=>nomatch (show true=false from h))
 exact absurd h (by first | decide | exact fun h=>nomatch (show false=true from h) | exact fun h=>nomatch (show true=false from h))
instance aN7:Wk 104:=⟨_,@Tb⟩
end Go.Proofs.YtbpchmikjiinpaaGreat
