import Derived.Test.YtkoflhimdenjaaaGreatT1
import Derived.Test.YtkoflhimdenjaaaGreatA9
set_option linter.unusedVariables false
set_option linter.unusedSimpArgs false
set_option maxRecDepth 100000
set_option maxHeartbeats 40000000
namespace Go.Proofs.YtkoflhimdenjaaaGreat
open Go.RowKit
theorem Qt (c0:Aa) (c1:Aa) (r:(Aa×Aa)) (G:Hk c0 c1=some r):Fn Tryz.prog 145 0 [.val (.func (.func 151) #[] #[]),.elt (((Aa.ec c0):List C).drop 0),.elt (((Aa.ec c1):List C).drop 0)] [] (fun d' b'=>d'=.clo 146 0 [.elt (([.raw (.func (.func 151) #[] #[])]:List C).drop 0),.elt (((Aa.ec r.1):List C).drop 0),.elt (((Aa.ec r.2):List C).drop 0)]/\b'=[]):=by
 unfold Hk at G
 refine Fn.of Tryz.func145 rfl rfl rfl fun w0 I ρ0=>?_
 show B4 _ ⟨w0,I,ρ0,0,0,6⟩ _ _ _
 refine Bk 0 16 Ay fun B=>?_
 refine Ak <| Ey (σ':=mk [(1,.elt (((Aa.ec c0):List C).drop 0)),(2,.elt (((Aa.ec c1):List C).drop 0)),(3,.elt (([.raw (.func (.func 151) #[] #[])]:List C).drop 0))] [] 0) ((by exact Pt.lists [] rfl rfl ⟨⟨_,rfl,.elt _⟩,⟨_,rfl,.elt _⟩,⟨_,rfl,.frzb (ks:=[none]) rfl (.cons .func .nil) (Fg rfl)⟩,trivial⟩ trivial)) ?_
 refine Al (Ch _ _ []) 0 16 Ay rfl rfl ?_
 exact Df
theorem Q3 (c0:Aa) (c1:Aa) (r:(Aa×Aa)) (G:Hl c0 c1=some r):Fn Tryz.prog 142 0 [.val (.func (.func 152) #[] #[]),.elt (((Aa.ec c0):List C).drop 0),.elt (((Aa.ec c1):List C).drop 0)] [] (fun d' b'=>d'=.clo 143 0 [.elt (([.raw (.func (.func 152) #[] #[])]:List C).drop 0),.elt (((Aa.ec r.1):List C).drop 0),.elt (((Aa.ec r.2):List C).drop 0)]/\b'=[]):=by
 unfold Hl at G
 refine Fn.of Tryz.func142 rfl rfl rfl fun w0 I ρ0=>?_
 show B4 _ ⟨w0,I,ρ0,0,0,6⟩ _ _ _
 refine Bk 0 16 Ay fun B=>?_
 refine Ak <| Ey (σ':=mk [(1,.elt (((Aa.ec c0):List C).drop 0)),(2,.elt (((Aa.ec c1):List C).drop 0)),(3,.elt (([.raw (.func (.func 152) #[] #[])]:List C).drop 0))] [] 0) ((by exact Pt.lists [] rfl rfl ⟨⟨_,rfl,.elt _⟩,⟨_,rfl,.elt _⟩,⟨_,rfl,.frzb (ks:=[none]) rfl (.cons .func .nil) (Fg rfl)⟩,trivial⟩ trivial)) ?_
 refine Al (Ch _ _ []) 0 16 Ay rfl rfl ?_
 exact Df
theorem Qp (c0:Aa) (c1:Aa) (r:(Aa×Aa)) (G:Hb c0 c1=some r):Fn Tryz.prog 142 0 [.val (.func (.func 153) #[] #[]),.elt (((Aa.ec c0):List C).drop 0),.elt (((Aa.ec c1):List C).drop 0)] [] (fun d' b'=>d'=.clo 143 0 [.elt (([.raw (.func (.func 153) #[] #[])]:List C).drop 0),.elt (((Aa.ec r.1):List C).drop 0),.elt (((Aa.ec r.2):List C).drop 0)]/\b'=[]):=by
 unfold Hb at G
 refine Fn.of Tryz.func142 rfl rfl rfl fun w0 I ρ0=>?_
 show B4 _ ⟨w0,I,ρ0,0,0,6⟩ _ _ _
 refine Bk 0 16 Ay fun B=>?_
 refine Ak <| Ey (σ':=mk [(1,.elt (((Aa.ec c0):List C).drop 0)),(2,.elt (((Aa.ec c1):List C).drop 0)),(3,.elt (([.raw (.func (.func 153) #[] #[])]:List C).drop 0))] [] 0) ((by exact Pt.lists [] rfl rfl ⟨⟨_,rfl,.elt _⟩,⟨_,rfl,.elt _⟩,⟨_,rfl,.frzb (ks:=[none]) rfl (.cons .func .nil) (Fg rfl)⟩,trivial⟩ trivial)) ?_
 refine Al (Ch _ _ []) 0 16 Ay rfl rfl ?_
 exact Df
theorem Qz (c0:Aa) (c1:Aa) (r:(Aa×Aa)) (G:Hm c0 c1=some r):Fn Tryz.prog 142 0 [.val (.func (.func 154) #[] #[]),.elt (((Aa.ec c0):List C).drop 0),.elt (((Aa.ec c1):List C).drop 0)] [] (fun d' b'=>d'=.clo 143 0 [.elt (([.raw (.func (.func 154) #[] #[])]:List C).drop 0),.elt (((Aa.ec r.1):List C).drop 0),.elt (((Aa.ec r.2):List C).drop 0)]/\b'=[]):=by
 unfold Hm at G
 refine Fn.of Tryz.func142 rfl rfl rfl fun w0 I ρ0=>?_
 show B4 _ ⟨w0,I,ρ0,0,0,6⟩ _ _ _
 refine Bk 0 16 Ay fun B=>?_
 refine Ak <| Ey (σ':=mk [(1,.elt (((Aa.ec c0):List C).drop 0)),(2,.elt (((Aa.ec c1):List C).drop 0)),(3,.elt (([.raw (.func (.func 154) #[] #[])]:List C).drop 0))] [] 0) ((by exact Pt.lists [] rfl rfl ⟨⟨_,rfl,.elt _⟩,⟨_,rfl,.elt _⟩,⟨_,rfl,.frzb (ks:=[none]) rfl (.cons .func .nil) (Fg rfl)⟩,trivial⟩ trivial)) ?_
 refine Al (Ch _ _ []) 0 16 Ay rfl rfl ?_
 exact Df
theorem Qu (c0:Aa) (c1:Aa) (r:(Aa×Aa)) (G:He c0 c1=some r):Fn Tryz.prog 142 0 [.val (.func (.func 155) #[] #[]),.elt (((Aa.ec c0):List C).drop 0),.elt (((Aa.ec c1):List C).drop 0)] [] (fun d' b'=>d'=.clo 143 0 [.elt (([.raw (.func (.func 155) #[] #[])]:List C).drop 0),.elt (((Aa.ec r.1):List C).drop 0),.elt (((Aa.ec r.2):List C).drop 0)]/\b'=[]):=by
 unfold He at G
 refine Fn.of Tryz.func142 rfl rfl rfl fun w0 I ρ0=>?_
 show B4 _ ⟨w0,I,ρ0,0,0,6⟩ _ _ _
 refine Bk 0 16 Ay fun B=>?_
 refine Ak <| Ey (σ':=mk [(1,.elt (((Aa.ec c0):List C).drop 0)),(2,.elt (((Aa.ec c1):List C).drop 0)),(3,.elt (([.raw (.func (.func 155) #[] #[])]:List C).drop 0))] [] 0) ((by exact Pt.lists [] rfl rfl ⟨⟨_,rfl,.elt _⟩,⟨_,rfl,.elt _⟩,⟨_,rfl,.frzb (ks:=[none]) rfl (.cons .func .nil) (Fg rfl)⟩,trivial⟩ trivial)) ?_
 refine Al (Ch _ _ []) 0 16 Ay rfl rfl ?_
 exact Df
theorem Qq (c0:Aa) (c1:Aa) (r:(Aa×Aa)) (G:Ha c0 c1=some r):Fn Tryz.prog 145 0 [.val (.func (.func 156) #[] #[]),.elt (((Aa.ec c0):List C).drop 0),.elt (((Aa.ec c1):List C).drop 0)] [] (fun d' b'=>d'=.clo 146 0 [.elt (([.raw (.func (.func 156) #[] #[])]:List C).drop 0),.elt (((Aa.ec r.1):List C).drop 0),.elt (((Aa.ec r.2):List C).drop 0)]/\b'=[]):=by
 unfold Ha at G
 refine Fn.of Tryz.func145 rfl rfl rfl fun w0 I ρ0=>?_
 show B4 _ ⟨w0,I,ρ0,0,0,6⟩ _ _ _
 refine Bk 0 16 Ay fun B=>?_
 refine Ak <| Ey (σ':=mk [(1,.elt (((Aa.ec c0):List C).drop 0)),(2,.elt (((Aa.ec c1):List C).drop 0)),(3,.elt (([.raw (.func (.func 156) #[] #[])]:List C).drop 0))] [] 0) ((by exact Pt.lists [] rfl rfl ⟨⟨_,rfl,.elt _⟩,⟨_,rfl,.elt _⟩,⟨_,rfl,.frzb (ks:=[none]) rfl (.cons .func .nil) (Fg rfl)⟩,trivial⟩ trivial)) ?_
 refine Al (Ch _ _ []) 0 16 Ay rfl rfl ?_
 exact Df
theorem Q1 (c0:Aa) (c1:Aa) (r:(Aa×Aa)) (G:Hg c0 c1=some r):Fn Tryz.prog 142 0 [.val (.func (.func 157) #[] #[]),.elt (((Aa.ec c0):List C).drop 0),.elt (((Aa.ec c1):List C).drop 0)] [] (fun d' b'=>d'=.clo 143 0 [.elt (([.raw (.func (.func 157) #[] #[])]:List C).drop 0),.elt (((Aa.ec r.1):List C).drop 0),.elt (((Aa.ec r.2):List C).drop 0)]/\b'=[]):=by
 unfold Hg at G
 refine Fn.of Tryz.func142 rfl rfl rfl fun w0 I ρ0=>?_
 show B4 _ ⟨w0,I,ρ0,0,0,6⟩ _ _ _
 refine Bk 0 16 Ay fun B=>?_
 refine Ak <| Ey (σ':=mk [(1,.elt (((Aa.ec c0):List C).drop 0)),(2,.elt (((Aa.ec c1):List C).drop 0)),(3,.elt (([.raw (.func (.func 157) #[] #[])]:List C).drop 0))] [] 0) ((by exact Pt.lists [] rfl rfl ⟨⟨_,rfl,.elt _⟩,⟨_,rfl,.elt _⟩,⟨_,rfl,.frzb (ks:=[none]) rfl (.cons .func .nil) (Fg rfl)⟩,trivial⟩ trivial)) ?_
 refine Al (Ch _ _ []) 0 16 Ay rfl rfl ?_
 exact Df
theorem Q8 (c0:Aa) (c1:Aa) (r:(Aa×Aa)) (G:Hf c0 c1=some r):Fn Tryz.prog 142 0 [.val (.func (.func 158) #[] #[]),.elt (((Aa.ec c0):List C).drop 0),.elt (((Aa.ec c1):List C).drop 0)] [] (fun d' b'=>d'=.clo 143 0 [.elt (([.raw (.func (.func 158) #[] #[])]:List C).drop 0),.elt (((Aa.ec r.1):List C).drop 0),.elt (((Aa.ec r.2):List C).drop 0)]/\b'=[]):=by
 unfold Hf at G
 refine Fn.of Tryz.func142 rfl rfl rfl fun w0 I ρ0=>?_
 show B4 _ ⟨w0,I,ρ0,0,0,6⟩ _ _ _
 refine Bk 0 16 Ay fun B=>?_
 refine Ak <| Ey (σ':=mk [(1,.elt (((Aa.ec c0):List C).drop 0)),(2,.elt (((Aa.ec c1):List C).drop 0)),(3,.elt (([.raw (.func (.func 158) #[] #[])]:List C).drop 0))] [] 0) ((by exact Pt.lists [] rfl rfl ⟨⟨_,rfl,.elt _⟩,⟨_,rfl,.elt _⟩,⟨_,rfl,.frzb (ks:=[none]) rfl (.cons .func .nil) (Fg rfl)⟩,trivial⟩ trivial)) ?_
 refine Al (Ch _ _ []) 0 16 Ay rfl rfl ?_
 exact Df
theorem N7 (f:Aa) (r:ByteArray) (G:Il f=some r):Fn Tryz.prog 148 0 [.agg (Aa.dv f)] [] (fun d' b'=>d'=ws r/\b'=[]):=by
 unfold Il at G
 refine Fn.of Tryz.func148 rfl rfl rfl fun w0 I ρ0=>?_
 show B4 _ ⟨w0,I,ρ0,0,0,5⟩ _ _ _
 refine Bk 0 16 Ay fun B=>?_
 refine Bk 16 40 B fun B=>?_
 exact K0
theorem L7 (a:ByteArray) (b:ByteArray) (r:Int) (G:Fc a b=some r):Fn Tryz.prog 192 0 [ws a,ws b] [] (fun d' b'=>d'=vk r/\b'=[]):=by
 unfold Fc at G
 refine Fn.of Tryz.func192 rfl rfl rfl fun w0 I ρ0=>?_
 show B4 _ ⟨w0,I,ρ0,0,0,8⟩ _ _ _
 refine Bk 0 8 Ay fun B=>?_
 refine Ca 8 40 B ?_
 refine Aw ?_
 refine Lh (rd:=[]) rfl rfl (.extV rfl zC (aH2 a b)) rfl rfl (fun _=>⟨_,rfl⟩) ?_
 rintro _ rfl
 exact Df
theorem Lx (a:ByteArray) (b:ByteArray) (r:Int) (G:Ga a b=some r):Fn Tryz.prog 147 0 [ws a,ws b] [] (fun d' b'=>d'=vk r/\b'=[]):=by
 unfold Ga at G
 refine Fn.of Tryz.func147 rfl rfl rfl fun w0 I ρ0=>?_
 show B4 _ ⟨w0,I,ρ0,0,0,8⟩ _ _ _
 refine Bk 0 8 Ay fun B=>?_
 refine Ca 8 40 B ?_
 refine Aw ?_
 obtain⟨y,hy,G⟩:=Ab G
 refine Dl (L7 _ _ _ hy) ?_
 exact Df
theorem Oe (c1:Aa) (c2:Aa) (r:Int) (G:Gd c1 c2=some r):Fn Tryz.prog 146 0 [.elt (([.raw (.func (.func 148) #[] #[])]:List C).drop 0),.elt (((Aa.ec c1):List C).drop 0),.elt (((Aa.ec c2):List C).drop 0)] [] (fun d' b'=>d'=vk r/\b'=[]):=by
 unfold Gd at G
 refine Fn.of Tryz.func146 rfl rfl rfl fun w0 I ρ0=>?_
 show B4 _ ⟨w0,I,ρ0,0,0,11⟩ _ _ _
 refine Bk 0 8 Ay fun B=>?_
 refine Ak <| Bu (Ch _ _ []) (by kernel_rfl) [0,0,3,0,0,31,63,127] 8 72 B rfl rfl (by kernel_rfl) ?_
 refine C1 rfl rfl (Da Zo (c:=.raw (.func (.func 148) #[] #[])) rfl) rfl rfl ?_
 refine C1 rfl rfl (D4 My (cs2:=(Aa.ec c1)) rfl (aBe rfl)) rfl rfl ?_
 obtain⟨y,hy,G⟩:=Ab G
 refine Ed (rd:=[]) (ps:=[]) (gs:=[]) false rfl rfl (N7 _ _ hy) rfl rfl (.cons (.agg (.cons .val (.cons .val (.cons .val (.cons .val (.cons .val (.cons .val (.cons .val (.cons .val (.cons .val (.cons .val (.cons .val .nil)))))))))))) .nil) rfl rfl (by intro h; cases h) rfl rfl rfl rfl ?_
 refine C1 rfl rfl (Da Zo (c:=.raw (.func (.func 148) #[] #[])) rfl) rfl rfl ?_
 refine C1 rfl rfl (D4 My (cs2:=(Aa.ec c2)) rfl (aBe rfl)) rfl rfl ?_
 obtain⟨y_2,hy_2,G⟩:=Ab G
 refine Ed (rd:=[]) (ps:=[]) (gs:=[]) false rfl rfl (N7 _ _ hy_2) rfl rfl (.cons (.agg (.cons .val (.cons .val (.cons .val (.cons .val (.cons .val (.cons .val (.cons .val (.cons .val (.cons .val (.cons .val (.cons .val .nil)))))))))))) .nil) rfl rfl (by intro h; cases h) rfl rfl rfl rfl ?_
 obtain⟨y_3,hy_3,G⟩:=Ab G
 refine Dl (Lx _ _ _ hy_3) ?_
 exact Df
theorem O4 (f:Aa) (r:Int) (G:Ie f=some r):Fn Tryz.prog 149 0 [.agg (Aa.dv f)] [] (fun d' b'=>d'=vk r/\b'=[]):=by
 unfold Ie at G
 refine Fn.of Tryz.func149 rfl rfl rfl fun w0 I ρ0=>?_
 show B4 _ ⟨w0,I,ρ0,0,0,5⟩ _ _ _
 refine Bk 0 16 Ay fun B=>?_
 refine Bk 16 40 B fun B=>?_
 exact K0
theorem Sf (x':Int) (r:Bool) (G:Jx x'=some r):Fn Tryz.prog 191 0 [vk x'] [] (fun d' b'=>d'=.val (.bool r)/\b'=[]):=by
 unfold Jx at G
 refine Fn.of Tryz.func191 rfl rfl rfl fun w0 I ρ0=>?_
 show B4 _ ⟨w0,I,ρ0,0,0,6⟩ _ _ _
 refine Bk 0 8 Ay fun B=>?_
 refine Bk 8 40 B fun B=>?_
 exact K0
theorem Fp (x':Int) (y:Int) (r:Int) (G:D7 x' y=some r):Fn Tryz.prog 144 0 [vk x',vk y] [] (fun d' b'=>d'=vk r/\b'=[]):=by
 unfold D7 at G
 refine Fn.of Tryz.func144 rfl rfl rfl fun w0 I ρ0=>?_
 show B4 _ ⟨w0,I,ρ0,0,0,20⟩ _ _ _
 refine Bk 0 8 Ay fun B=>?_
 refine Ca 8 32 B ?_
 refine Aw ?_
 obtain⟨y_2,hy_2,G⟩:=Ab G
 refine Dl (Sf _ _ hy_2) ?_
 refine Bi fun B=>?_
 refine Ca 32 56 B ?_
 refine Aw ?_
 obtain⟨y_3,hy_3,G⟩:=Ab G
 refine Dl (Sf _ _ hy_3) ?_
 refine Bi fun B=>?_
 refine Ak <| Bk 56 64 B fun B=>?_
 refine Cr rfl G (fun h5 G=>?_) fun h5 G=>?_
 refine Ak <| Bk 64 72 B fun B=>?_
 refine Cr rfl G (fun h7 G=>?_) fun h7 G=>?_
 refine Ca 72 80 B ?_
 exact Df
 refine C9 ?_
 refine Bk 72 80 B fun B=>?_
 exact K0
 refine C9 ?_
 refine Ak <| Bk 64 72 B fun B=>?_
 refine Cr rfl G (fun h11 G=>?_) fun h11 G=>?_
 refine Ca 72 80 B ?_
 exact Df
 refine C9 ?_
 refine Ak <| Bk 72 96 B fun B=>?_
 refine Cr rfl G (fun h14 G=>?_) fun h14 G=>?_
 refine Ca 96 104 B ?_
 exact Df
 refine C9 ?_
 refine Ak <| Bk 96 120 B fun B=>?_
 refine Cr rfl G (fun h17 G=>?_) fun h17 G=>?_
 refine Ca 120 128 B ?_
 exact Df
 refine C9 ?_
 refine Bk 120 128 B fun B=>?_
 exact K0
theorem Pb (c1:Aa) (c2:Aa) (r:Int) (G:Gf c1 c2=some r):Fn Tryz.prog 143 0 [.elt (([.raw (.func (.func 149) #[] #[])]:List C).drop 0),.elt (((Aa.ec c1):List C).drop 0),.elt (((Aa.ec c2):List C).drop 0)] [] (fun d' b'=>d'=vk r/\b'=[]):=by
 unfold Gf at G
 refine Fn.of Tryz.func143 rfl rfl rfl fun w0 I ρ0=>?_
 show B4 _ ⟨w0,I,ρ0,0,0,11⟩ _ _ _
 refine Bk 0 8 Ay fun B=>?_
 refine Ak <| Bu (Ch _ _ []) (by kernel_rfl) [0,0,3,0,0,31,63,127] 8 72 B rfl rfl (by kernel_rfl) ?_
 refine C1 rfl rfl (Da M5 (c:=.raw (.func (.func 149) #[] #[])) rfl) rfl rfl ?_
 refine C1 rfl rfl (D4 My (cs2:=(Aa.ec c1)) rfl (aBe rfl)) rfl rfl ?_
 obtain⟨y,hy,G⟩:=Ab G
 refine Ed (rd:=[]) (ps:=[]) (gs:=[]) false rfl rfl (O4 _ _ hy) rfl rfl (.cons (.agg (.cons .val (.cons .val (.cons .val (.cons .val (.cons .val (.cons .val (.cons .val (.cons .val (.cons .val (.cons .val (.cons .val .nil)))))))))))) .nil) rfl rfl (by intro h; cases h) rfl rfl rfl rfl ?_
 refine C1 rfl rfl (Da M5 (c:=.raw (.func (.func 149) #[] #[])) rfl) rfl rfl ?_
 refine C1 rfl rfl (D4 My (cs2:=(Aa.ec c2)) rfl (aBe rfl)) rfl rfl ?_
 obtain⟨y_2,hy_2,G⟩:=Ab G
 refine Ed (rd:=[]) (ps:=[]) (gs:=[]) false rfl rfl (O4 _ _ hy_2) rfl rfl (.cons (.agg (.cons .val (.cons .val (.cons .val (.cons .val (.cons .val (.cons .val (.cons .val (.cons .val (.cons .val (.cons .val (.cons .val .nil)))))))))))) .nil) rfl rfl (by intro h; cases h) rfl rfl rfl rfl ?_
 obtain⟨y_3,hy_3,G⟩:=Ab G
 refine Dl (Fp _ _ _ hy_3) ?_
 exact Df
theorem Oo (f:Aa) (r:Int) (G:If f=some r):Fn Tryz.prog 150 0 [.agg (Aa.dv f)] [] (fun d' b'=>d'=vk r/\b'=[]):=by
 unfold If at G
 refine Fn.of Tryz.func150 rfl rfl rfl fun w0 I ρ0=>?_
 show B4 _ ⟨w0,I,ρ0,0,0,5⟩ _ _ _
 refine Bk 0 16 Ay fun B=>?_
 refine Bk 16 40 B fun B=>?_
 exact K0
theorem Pd (c1:Aa) (c2:Aa) (r:Int) (G:Gi c1 c2=some r):Fn Tryz.prog 143 0 [.elt (([.raw (.func (.func 150) #[] #[])]:List C).drop 0),.elt (((Aa.ec c1):List C).drop 0),.elt (((Aa.ec c2):List C).drop 0)] [] (fun d' b'=>d'=vk r/\b'=[]):=by
 unfold Gi at G
 refine Fn.of Tryz.func143 rfl rfl rfl fun w0 I ρ0=>?_
 show B4 _ ⟨w0,I,ρ0,0,0,11⟩ _ _ _
 refine Bk 0 8 Ay fun B=>?_
 refine Ak <| Bu (Ch _ _ []) (by kernel_rfl) [0,0,3,0,0,31,63,127] 8 72 B rfl rfl (by kernel_rfl) ?_
 refine C1 rfl rfl (Da M5 (c:=.raw (.func (.func 150) #[] #[])) rfl) rfl rfl ?_
 refine C1 rfl rfl (D4 My (cs2:=(Aa.ec c1)) rfl (aBe rfl)) rfl rfl ?_
 obtain⟨y,hy,G⟩:=Ab G
 refine Ed (rd:=[]) (ps:=[]) (gs:=[]) false rfl rfl (Oo _ _ hy) rfl rfl (.cons (.agg (.cons .val (.cons .val (.cons .val (.cons .val (.cons .val (.cons .val (.cons .val (.cons .val (.cons .val (.cons .val (.cons .val .nil)))))))))))) .nil) rfl rfl (by intro h; cases h) rfl rfl rfl rfl ?_
 refine C1 rfl rfl (Da M5 (c:=.raw (.func (.func 150) #[] #[])) rfl) rfl rfl ?_
 refine C1 rfl rfl (D4 My (cs2:=(Aa.ec c2)) rfl (aBe rfl)) rfl rfl ?_
 obtain⟨y_2,hy_2,G⟩:=Ab G
 refine Ed (rd:=[]) (ps:=[]) (gs:=[]) false rfl rfl (Oo _ _ hy_2) rfl rfl (.cons (.agg (.cons .val (.cons .val (.cons .val (.cons .val (.cons .val (.cons .val (.cons .val (.cons .val (.cons .val (.cons .val (.cons .val .nil)))))))))))) .nil) rfl rfl (by intro h; cases h) rfl rfl rfl rfl ?_
 obtain⟨y_3,hy_3,G⟩:=Ab G
 refine Dl (Fp _ _ _ hy_3) ?_
 exact Df
theorem Om (f:Aa) (r:ByteArray) (G:Ir f=some r):Fn Tryz.prog 151 0 [.agg (Aa.dv f)] [] (fun d' b'=>d'=ws r/\b'=[]):=by
 unfold Ir at G
 refine Fn.of Tryz.func151 rfl rfl rfl fun w0 I ρ0=>?_
 show B4 _ ⟨w0,I,ρ0,0,0,5⟩ _ _ _
 refine Bk 0 16 Ay fun B=>?_
 refine Bk 16 40 B fun B=>?_
 exact K0
theorem Ov (c1:Aa) (c2:Aa) (r:Int) (G:F7 c1 c2=some r):Fn Tryz.prog 146 0 [.elt (([.raw (.func (.func 151) #[] #[])]:List C).drop 0),.elt (((Aa.ec c1):List C).drop 0),.elt (((Aa.ec c2):List C).drop 0)] [] (fun d' b'=>d'=vk r/\b'=[]):=by
 unfold F7 at G
 refine Fn.of Tryz.func146 rfl rfl rfl fun w0 I ρ0=>?_
 show B4 _ ⟨w0,I,ρ0,0,0,11⟩ _ _ _
 refine Bk 0 8 Ay fun B=>?_
 refine Ak <| Bu (Ch _ _ []) (by kernel_rfl) [0,0,3,0,0,31,63,127] 8 72 B rfl rfl (by kernel_rfl) ?_
 refine C1 rfl rfl (Da Zo (c:=.raw (.func (.func 151) #[] #[])) rfl) rfl rfl ?_
 refine C1 rfl rfl (D4 My (cs2:=(Aa.ec c1)) rfl (aBe rfl)) rfl rfl ?_
 obtain⟨y,hy,G⟩:=Ab G
 refine Ed (rd:=[]) (ps:=[]) (gs:=[]) false rfl rfl (Om _ _ hy) rfl rfl (.cons (.agg (.cons .val (.cons .val (.cons .val (.cons .val (.cons .val (.cons .val (.cons .val (.cons .val (.cons .val (.cons .val (.cons .val .nil)))))))))))) .nil) rfl rfl (by intro h; cases h) rfl rfl rfl rfl ?_
 refine C1 rfl rfl (Da Zo (c:=.raw (.func (.func 151) #[] #[])) rfl) rfl rfl ?_
 refine C1 rfl rfl (D4 My (cs2:=(Aa.ec c2)) rfl (aBe rfl)) rfl rfl ?_
 obtain⟨y_2,hy_2,G⟩:=Ab G
 refine Ed (rd:=[]) (ps:=[]) (gs:=[]) false rfl rfl (Om _ _ hy_2) rfl rfl (.cons (.agg (.cons .val (.cons .val (.cons .val (.cons .val (.cons .val (.cons .val (.cons .val (.cons .val (.cons .val (.cons .val (.cons .val .nil)))))))))))) .nil) rfl rfl (by intro h; cases h) rfl rfl rfl rfl ?_
 obtain⟨y_3,hy_3,G⟩:=Ab G
 refine Dl (Lx _ _ _ hy_3) ?_
 exact Df
theorem O5 (f:Aa) (r:Int) (G:Ij f=some r):Fn Tryz.prog 152 0 [.agg (Aa.dv f)] [] (fun d' b'=>d'=vk r/\b'=[]):=by
 unfold Ij at G
 refine Fn.of Tryz.func152 rfl rfl rfl fun w0 I ρ0=>?_
 show B4 _ ⟨w0,I,ρ0,0,0,5⟩ _ _ _
 refine Bk 0 16 Ay fun B=>?_
 refine Bk 16 40 B fun B=>?_
 exact K0
theorem Of (c1:Aa) (c2:Aa) (r:Int) (G:Gn c1 c2=some r):Fn Tryz.prog 143 0 [.elt (([.raw (.func (.func 152) #[] #[])]:List C).drop 0),.elt (((Aa.ec c1):List C).drop 0),.elt (((Aa.ec c2):List C).drop 0)] [] (fun d' b'=>d'=vk r/\b'=[]):=by
 unfold Gn at G
 refine Fn.of Tryz.func143 rfl rfl rfl fun w0 I ρ0=>?_
 show B4 _ ⟨w0,I,ρ0,0,0,11⟩ _ _ _
 refine Bk 0 8 Ay fun B=>?_
 refine Ak <| Bu (Ch _ _ []) (by kernel_rfl) [0,0,3,0,0,31,63,127] 8 72 B rfl rfl (by kernel_rfl) ?_
 refine C1 rfl rfl (Da M5 (c:=.raw (.func (.func 152) #[] #[])) rfl) rfl rfl ?_
 refine C1 rfl rfl (D4 My (cs2:=(Aa.ec c1)) rfl (aBe rfl)) rfl rfl ?_
 obtain⟨y,hy,G⟩:=Ab G
 refine Ed (rd:=[]) (ps:=[]) (gs:=[]) false rfl rfl (O5 _ _ hy) rfl rfl (.cons (.agg (.cons .val (.cons .val (.cons .val (.cons .val (.cons .val (.cons .val (.cons .val (.cons .val (.cons .val (.cons .val (.cons .val .nil)))))))))))) .nil) rfl rfl (by intro h; cases h) rfl rfl rfl rfl ?_
 refine C1 rfl rfl (Da M5 (c:=.raw (.func (.func 152) #[] #[])) rfl) rfl rfl ?_
 refine C1 rfl rfl (D4 My (cs2:=(Aa.ec c2)) rfl (aBe rfl)) rfl rfl ?_
 obtain⟨y_2,hy_2,G⟩:=Ab G
 refine Ed (rd:=[]) (ps:=[]) (gs:=[]) false rfl rfl (O5 _ _ hy_2) rfl rfl (.cons (.agg (.cons .val (.cons .val (.cons .val (.cons .val (.cons .val (.cons .val (.cons .val (.cons .val (.cons .val (.cons .val (.cons .val .nil)))))))))))) .nil) rfl rfl (by intro h; cases h) rfl rfl rfl rfl ?_
 obtain⟨y_3,hy_3,G⟩:=Ab G
 refine Dl (Fp _ _ _ hy_3) ?_
 exact Df
theorem Pn (f:Aa) (r:Int) (G:Is f=some r):Fn Tryz.prog 153 0 [.agg (Aa.dv f)] [] (fun d' b'=>d'=vk r/\b'=[]):=by
 unfold Is at G
 refine Fn.of Tryz.func153 rfl rfl rfl fun w0 I ρ0=>?_
 show B4 _ ⟨w0,I,ρ0,0,0,6⟩ _ _ _
 refine Bk 0 16 Ay fun B=>?_
 refine Bk 16 48 B fun B=>?_
 exact K0
theorem Oa (c1:Aa) (c2:Aa) (r:Int) (G:Gk c1 c2=some r):Fn Tryz.prog 143 0 [.elt (([.raw (.func (.func 153) #[] #[])]:List C).drop 0),.elt (((Aa.ec c1):List C).drop 0),.elt (((Aa.ec c2):List C).drop 0)] [] (fun d' b'=>d'=vk r/\b'=[]):=by
 unfold Gk at G
 refine Fn.of Tryz.func143 rfl rfl rfl fun w0 I ρ0=>?_
 show B4 _ ⟨w0,I,ρ0,0,0,11⟩ _ _ _
 refine Bk 0 8 Ay fun B=>?_
 refine Ak <| Bu (Ch _ _ []) (by kernel_rfl) [0,0,3,0,0,31,63,127] 8 72 B rfl rfl (by kernel_rfl) ?_
 refine C1 rfl rfl (Da M5 (c:=.raw (.func (.func 153) #[] #[])) rfl) rfl rfl ?_
 refine C1 rfl rfl (D4 My (cs2:=(Aa.ec c1)) rfl (aBe rfl)) rfl rfl ?_
 obtain⟨y,hy,G⟩:=Ab G
 refine Ed (rd:=[]) (ps:=[]) (gs:=[]) false rfl rfl (Pn _ _ hy) rfl rfl (.cons (.agg (.cons .val (.cons .val (.cons .val (.cons .val (.cons .val (.cons .val (.cons .val (.cons .val (.cons .val (.cons .val (.cons .val .nil)))))))))))) .nil) rfl rfl (by intro h; cases h) rfl rfl rfl rfl ?_
 refine C1 rfl rfl (Da M5 (c:=.raw (.func (.func 153) #[] #[])) rfl) rfl rfl ?_
 refine C1 rfl rfl (D4 My (cs2:=(Aa.ec c2)) rfl (aBe rfl)) rfl rfl ?_
 obtain⟨y_2,hy_2,G⟩:=Ab G
 refine Ed (rd:=[]) (ps:=[]) (gs:=[]) false rfl rfl (Pn _ _ hy_2) rfl rfl (.cons (.agg (.cons .val (.cons .val (.cons .val (.cons .val (.cons .val (.cons .val (.cons .val (.cons .val (.cons .val (.cons .val (.cons .val .nil)))))))))))) .nil) rfl rfl (by intro h; cases h) rfl rfl rfl rfl ?_
 obtain⟨y_3,hy_3,G⟩:=Ab G
 refine Dl (Fp _ _ _ hy_3) ?_
 exact Df
theorem O7 (f:Aa) (r:Int) (G:Ih f=some r):Fn Tryz.prog 154 0 [.agg (Aa.dv f)] [] (fun d' b'=>d'=vk r/\b'=[]):=by
 unfold Ih at G
 refine Fn.of Tryz.func154 rfl rfl rfl fun w0 I ρ0=>?_
 show B4 _ ⟨w0,I,ρ0,0,0,6⟩ _ _ _
 refine Bk 0 16 Ay fun B=>?_
 refine Bk 16 48 B fun B=>?_
 exact K0
theorem Pg (c1:Aa) (c2:Aa) (r:Int) (G:Gh c1 c2=some r):Fn Tryz.prog 143 0 [.elt (([.raw (.func (.func 154) #[] #[])]:List C).drop 0),.elt (((Aa.ec c1):List C).drop 0),.elt (((Aa.ec c2):List C).drop 0)] [] (fun d' b'=>d'=vk r/\b'=[]):=by
 unfold Gh at G
 refine Fn.of Tryz.func143 rfl rfl rfl fun w0 I ρ0=>?_
 show B4 _ ⟨w0,I,ρ0,0,0,11⟩ _ _ _
 refine Bk 0 8 Ay fun B=>?_
 refine Ak <| Bu (Ch _ _ []) (by kernel_rfl) [0,0,3,0,0,31,63,127] 8 72 B rfl rfl (by kernel_rfl) ?_
 refine C1 rfl rfl (Da M5 (c:=.raw (.func (.func 154) #[] #[])) rfl) rfl rfl ?_
 refine C1 rfl rfl (D4 My (cs2:=(Aa.ec c1)) rfl (aBe rfl)) rfl rfl ?_
 obtain⟨y,hy,G⟩:=Ab G
 refine Ed (rd:=[]) (ps:=[]) (gs:=[]) false rfl rfl (O7 _ _ hy) rfl rfl (.cons (.agg (.cons .val (.cons .val (.cons .val (.cons .val (.cons .val (.cons .val (.cons .val (.cons .val (.cons .val (.cons .val (.cons .val .nil)))))))))))) .nil) rfl rfl (by intro h; cases h) rfl rfl rfl rfl ?_
 refine C1 rfl rfl (Da M5 (c:=.raw (.func (.func 154) #[] #[])) rfl) rfl rfl ?_
 refine C1 rfl rfl (D4 My (cs2:=(Aa.ec c2)) rfl (aBe rfl)) rfl rfl ?_
 obtain⟨y_2,hy_2,G⟩:=Ab G
 refine Ed (rd:=[]) (ps:=[]) (gs:=[]) false rfl rfl (O7 _ _ hy_2) rfl rfl (.cons (.agg (.cons .val (.cons .val (.cons .val (.cons .val (.cons .val (.cons .val (.cons .val (.cons .val (.cons .val (.cons .val (.cons .val .nil)))))))))))) .nil) rfl rfl (by intro h; cases h) rfl rfl rfl rfl ?_
 obtain⟨y_3,hy_3,G⟩:=Ab G
 refine Dl (Fp _ _ _ hy_3) ?_
 exact Df
theorem Nm (f:Aa) (r:Int) (G:Ht f=some r):Fn Tryz.prog 155 0 [.agg (Aa.dv f)] [] (fun d' b'=>d'=vk r/\b'=[]):=by
 unfold Ht at G
 refine Fn.of Tryz.func155 rfl rfl rfl fun w0 I ρ0=>?_
 show B4 _ ⟨w0,I,ρ0,0,0,5⟩ _ _ _
 refine Bk 0 16 Ay fun B=>?_
 refine Bk 16 40 B fun B=>?_
 exact K0
theorem O9 (c1:Aa) (c2:Aa) (r:Int) (G:F9 c1 c2=some r):Fn Tryz.prog 143 0 [.elt (([.raw (.func (.func 155) #[] #[])]:List C).drop 0),.elt (((Aa.ec c1):List C).drop 0),.elt (((Aa.ec c2):List C).drop 0)] [] (fun d' b'=>d'=vk r/\b'=[]):=by
 unfold F9 at G
 refine Fn.of Tryz.func143 rfl rfl rfl fun w0 I ρ0=>?_
 show B4 _ ⟨w0,I,ρ0,0,0,11⟩ _ _ _
 refine Bk 0 8 Ay fun B=>?_
 refine Ak <| Bu (Ch _ _ []) (by kernel_rfl) [0,0,3,0,0,31,63,127] 8 72 B rfl rfl (by kernel_rfl) ?_
 refine C1 rfl rfl (Da M5 (c:=.raw (.func (.func 155) #[] #[])) rfl) rfl rfl ?_
 refine C1 rfl rfl (D4 My (cs2:=(Aa.ec c1)) rfl (aBe rfl)) rfl rfl ?_
 obtain⟨y,hy,G⟩:=Ab G
 refine Ed (rd:=[]) (ps:=[]) (gs:=[]) false rfl rfl (Nm _ _ hy) rfl rfl (.cons (.agg (.cons .val (.cons .val (.cons .val (.cons .val (.cons .val (.cons .val (.cons .val (.cons .val (.cons .val (.cons .val (.cons .val .nil)))))))))))) .nil) rfl rfl (by intro h; cases h) rfl rfl rfl rfl ?_
 refine C1 rfl rfl (Da M5 (c:=.raw (.func (.func 155) #[] #[])) rfl) rfl rfl ?_
 refine C1 rfl rfl (D4 My (cs2:=(Aa.ec c2)) rfl (aBe rfl)) rfl rfl ?_
 obtain⟨y_2,hy_2,G⟩:=Ab G
 refine Ed (rd:=[]) (ps:=[]) (gs:=[]) false rfl rfl (Nm _ _ hy_2) rfl rfl (.cons (.agg (.cons .val (.cons .val (.cons .val (.cons .val (.cons .val (.cons .val (.cons .val (.cons .val (.cons .val (.cons .val (.cons .val .nil)))))))))))) .nil) rfl rfl (by intro h; cases h) rfl rfl rfl rfl ?_
 obtain⟨y_3,hy_3,G⟩:=Ab G
 refine Dl (Fp _ _ _ hy_3) ?_
 exact Df
theorem Np (f:Aa) (r:ByteArray) (G:Hw f=some r):Fn Tryz.prog 156 0 [.agg (Aa.dv f)] [] (fun d' b'=>d'=ws r/\b'=[]):=by
 unfold Hw at G
 refine Fn.of Tryz.func156 rfl rfl rfl fun w0 I ρ0=>?_
 show B4 _ ⟨w0,I,ρ0,0,0,5⟩ _ _ _
 refine Bk 0 16 Ay fun B=>?_
 refine Bk 16 40 B fun B=>?_
 exact K0
theorem Po (c1:Aa) (c2:Aa) (r:Int) (G:Gl c1 c2=some r):Fn Tryz.prog 146 0 [.elt (([.raw (.func (.func 156) #[] #[])]:List C).drop 0),.elt (((Aa.ec c1):List C).drop 0),.elt (((Aa.ec c2):List C).drop 0)] [] (fun d' b'=>d'=vk r/\b'=[]):=by
 unfold Gl at G
 refine Fn.of Tryz.func146 rfl rfl rfl fun w0 I ρ0=>?_
 show B4 _ ⟨w0,I,ρ0,0,0,11⟩ _ _ _
 refine Bk 0 8 Ay fun B=>?_
 refine Ak <| Bu (Ch _ _ []) (by kernel_rfl) [0,0,3,0,0,31,63,127] 8 72 B rfl rfl (by kernel_rfl) ?_
 refine C1 rfl rfl (Da Zo (c:=.raw (.func (.func 156) #[] #[])) rfl) rfl rfl ?_
 refine C1 rfl rfl (D4 My (cs2:=(Aa.ec c1)) rfl (aBe rfl)) rfl rfl ?_
 obtain⟨y,hy,G⟩:=Ab G
 refine Ed (rd:=[]) (ps:=[]) (gs:=[]) false rfl rfl (Np _ _ hy) rfl rfl (.cons (.agg (.cons .val (.cons .val (.cons .val (.cons .val (.cons .val (.cons .val (.cons .val (.cons .val (.cons .val (.cons .val (.cons .val .nil)))))))))))) .nil) rfl rfl (by intro h; cases h) rfl rfl rfl rfl ?_
 refine C1 rfl rfl (Da Zo (c:=.raw (.func (.func 156) #[] #[])) rfl) rfl rfl ?_
 refine C1 rfl rfl (D4 My (cs2:=(Aa.ec c2)) rfl (aBe rfl)) rfl rfl ?_
 obtain⟨y_2,hy_2,G⟩:=Ab G
 refine Ed (rd:=[]) (ps:=[]) (gs:=[]) false rfl rfl (Np _ _ hy_2) rfl rfl (.cons (.agg (.cons .val (.cons .val (.cons .val (.cons .val (.cons .val (.cons .val (.cons .val (.cons .val (.cons .val (.cons .val (.cons .val .nil)))))))))))) .nil) rfl rfl (by intro h; cases h) rfl rfl rfl rfl ?_
 obtain⟨y_3,hy_3,G⟩:=Ab G
 refine Dl (Lx _ _ _ hy_3) ?_
 exact Df
theorem No (f:Aa) (r:Int) (G:Hu f=some r):Fn Tryz.prog 157 0 [.agg (Aa.dv f)] [] (fun d' b'=>d'=vk r/\b'=[]):=by
 unfold Hu at G
 refine Fn.of Tryz.func157 rfl rfl rfl fun w0 I ρ0=>?_
 show B4 _ ⟨w0,I,ρ0,0,0,5⟩ _ _ _
 refine Bk 0 16 Ay fun B=>?_
 refine Bk 16 40 B fun B=>?_
 exact K0
theorem Pi (c1:Aa) (c2:Aa) (r:Int) (G:Gc c1 c2=some r):Fn Tryz.prog 143 0 [.elt (([.raw (.func (.func 157) #[] #[])]:List C).drop 0),.elt (((Aa.ec c1):List C).drop 0),.elt (((Aa.ec c2):List C).drop 0)] [] (fun d' b'=>d'=vk r/\b'=[]):=by
 unfold Gc at G
 refine Fn.of Tryz.func143 rfl rfl rfl fun w0 I ρ0=>?_
 show B4 _ ⟨w0,I,ρ0,0,0,11⟩ _ _ _
 refine Bk 0 8 Ay fun B=>?_
 refine Ak <| Bu (Ch _ _ []) (by kernel_rfl) [0,0,3,0,0,31,63,127] 8 72 B rfl rfl (by kernel_rfl) ?_
 refine C1 rfl rfl (Da M5 (c:=.raw (.func (.func 157) #[] #[])) rfl) rfl rfl ?_
 refine C1 rfl rfl (D4 My (cs2:=(Aa.ec c1)) rfl (aBe rfl)) rfl rfl ?_
 obtain⟨y,hy,G⟩:=Ab G
 refine Ed (rd:=[]) (ps:=[]) (gs:=[]) false rfl rfl (No _ _ hy) rfl rfl (.cons (.agg (.cons .val (.cons .val (.cons .val (.cons .val (.cons .val (.cons .val (.cons .val (.cons .val (.cons .val (.cons .val (.cons .val .nil)))))))))))) .nil) rfl rfl (by intro h; cases h) rfl rfl rfl rfl ?_
 refine C1 rfl rfl (Da M5 (c:=.raw (.func (.func 157) #[] #[])) rfl) rfl rfl ?_
 refine C1 rfl rfl (D4 My (cs2:=(Aa.ec c2)) rfl (aBe rfl)) rfl rfl ?_
 obtain⟨y_2,hy_2,G⟩:=Ab G
 refine Ed (rd:=[]) (ps:=[]) (gs:=[]) false rfl rfl (No _ _ hy_2) rfl rfl (.cons (.agg (.cons .val (.cons .val (.cons .val (.cons .val (.cons .val (.cons .val (.cons .val (.cons .val (.cons .val (.cons .val (.cons .val .nil)))))))))))) .nil) rfl rfl (by intro h; cases h) rfl rfl rfl rfl ?_
 obtain⟨y_3,hy_3,G⟩:=Ab G
 refine Dl (Fp _ _ _ hy_3) ?_
 exact Df
theorem Nr (f:Aa) (r:Int) (G:Hz f=some r):Fn Tryz.prog 158 0 [.agg (Aa.dv f)] [] (fun d' b'=>d'=vk r/\b'=[]):=by
 unfold Hz at G
 refine Fn.of Tryz.func158 rfl rfl rfl fun w0 I ρ0=>?_
 show B4 _ ⟨w0,I,ρ0,0,0,5⟩ _ _ _
 refine Bk 0 16 Ay fun B=>?_
 refine Bk 16 40 B fun B=>?_
 exact K0
theorem On (c1:Aa) (c2:Aa) (r:Int) (G:Gj c1 c2=some r):Fn Tryz.prog 143 0 [.elt (([.raw (.func (.func 158) #[] #[])]:List C).drop 0),.elt (((Aa.ec c1):List C).drop 0),.elt (((Aa.ec c2):List C).drop 0)] [] (fun d' b'=>d'=vk r/\b'=[]):=by
 unfold Gj at G
 refine Fn.of Tryz.func143 rfl rfl rfl fun w0 I ρ0=>?_
 show B4 _ ⟨w0,I,ρ0,0,0,11⟩ _ _ _
 refine Bk 0 8 Ay fun B=>?_
 refine Ak <| Bu (Ch _ _ []) (by kernel_rfl) [0,0,3,0,0,31,63,127] 8 72 B rfl rfl (by kernel_rfl) ?_
 refine C1 rfl rfl (Da M5 (c:=.raw (.func (.func 158) #[] #[])) rfl) rfl rfl ?_
 refine C1 rfl rfl (D4 My (cs2:=(Aa.ec c1)) rfl (aBe rfl)) rfl rfl ?_
 obtain⟨y,hy,G⟩:=Ab G
 refine Ed (rd:=[]) (ps:=[]) (gs:=[]) false rfl rfl (Nr _ _ hy) rfl rfl (.cons (.agg (.cons .val (.cons .val (.cons .val (.cons .val (.cons .val (.cons .val (.cons .val (.cons .val (.cons .val (.cons .val (.cons .val .nil)))))))))))) .nil) rfl rfl (by intro h; cases h) rfl rfl rfl rfl ?_
 refine C1 rfl rfl (Da M5 (c:=.raw (.func (.func 158) #[] #[])) rfl) rfl rfl ?_
 refine C1 rfl rfl (D4 My (cs2:=(Aa.ec c2)) rfl (aBe rfl)) rfl rfl ?_
 obtain⟨y_2,hy_2,G⟩:=Ab G
 refine Ed (rd:=[]) (ps:=[]) (gs:=[]) false rfl rfl (Nr _ _ hy_2) rfl rfl (.cons (.agg (.cons .val (.cons .val (.cons .val (.cons .val (.cons .val (.cons .val (.cons .val (.cons .val (.cons .val (.cons .val (.cons .val .nil)))))))))))) .nil) rfl rfl (by intro h; cases h) rfl rfl rfl rfl ?_
 obtain⟨y_3,hy_3,G⟩:=Ab G
 refine Dl (Fp _ _ _ hy_3) ?_
 exact Df
theorem Yg (a:Aa) (b:Aa) (r:Int) (G:Hn a b=some r):Fn Tryz.prog 112 0 [.agg (Aa.dv a),.agg (Aa.dv b)] [] (fun d' b'=>d'=vk r/\b'=[]):=by
 unfold Hn at G
 refine Fn.of Tryz.func112 rfl rfl rfl fun w0 I ρ0=>?_
 show B4 _ ⟨w0,I,ρ0,0,0,46⟩ _ _ _
 refine Bk 0 24 Ay fun B=>?_
 refine Ak <| Ey (σ':=mk [(2,.elt (((Aa.ec a):List C).drop 0)),(3,.elt (((Aa.ec b):List C).drop 0))] [] 0) ((by exact Pt.lists [] rfl rfl ⟨⟨_,rfl,.frzb (ks:=[none,none,none,none,none,none,none,none,none,none,none]) rfl (.cons .int (.cons .str (.cons .int (.cons .int (.cons .int (.cons .int (.cons .str (.cons .int (.cons .int (.cons .int (.cons .str .nil))))))))))) (Fg rfl)⟩,⟨_,rfl,.frzb (ks:=[none,none,none,none,none,none,none,none,none,none,none]) rfl (.cons .int (.cons .str (.cons .int (.cons .int (.cons .int (.cons .int (.cons .str (.cons .int (.cons .int (.cons .int (.cons .str .nil))))))))))) (Fg rfl)⟩,trivial⟩ trivial)) ?_
 refine Al (Ch _ _ []) 0 16 Ay rfl rfl ?_
 refine Bi fun B=>?_
 refine Bk 16 32 B fun B=>?_
 refine Ak <| Ca 32 232 B ?_
 refine Aw ?_
 obtain⟨y,hy,G⟩:=Ab G
 refine Cw (rd:=[]) (ps:=[]) (gs:=[]) false rfl rfl (Rc _ _ _ hy) rfl rfl (.cons .val (.cons .elt (.cons .elt .nil))) rfl rfl (by intro h; cases h) rfl rfl rfl rfl ?_
 refine Aw ?_
 obtain⟨y_2,hy_2,G⟩:=Ab G
 refine Cw (rd:=[]) (ps:=[]) (gs:=[]) false rfl rfl (Q5 _ _ _ hy_2) rfl rfl (.cons .val (.cons .elt (.cons .elt .nil))) rfl rfl (by intro h; cases h) rfl rfl rfl rfl ?_
 refine Aw ?_
 obtain⟨y_3,hy_3,G⟩:=Ab G
 refine Cw (rd:=[]) (ps:=[]) (gs:=[]) false rfl rfl (Qh _ _ _ hy_3) rfl rfl (.cons .val (.cons .elt (.cons .elt .nil))) rfl rfl (by intro h; cases h) rfl rfl rfl rfl ?_
 refine Aw ?_
 obtain⟨y_4,hy_4,G⟩:=Ab G
 refine Cw (rd:=[]) (ps:=[]) (gs:=[]) false rfl rfl (Qt _ _ _ hy_4) rfl rfl (.cons .val (.cons .elt (.cons .elt .nil))) rfl rfl (by intro h; cases h) rfl rfl rfl rfl ?_
 refine Aw ?_
 obtain⟨y_5,hy_5,G⟩:=Ab G
 refine Cw (rd:=[]) (ps:=[]) (gs:=[]) false rfl rfl (Q3 _ _ _ hy_5) rfl rfl (.cons .val (.cons .elt (.cons .elt .nil))) rfl rfl (by intro h; cases h) rfl rfl rfl rfl ?_
 refine Aw ?_
 obtain⟨y_6,hy_6,G⟩:=Ab G
 refine Cw (rd:=[]) (ps:=[]) (gs:=[]) false rfl rfl (Qp _ _ _ hy_6) rfl rfl (.cons .val (.cons .elt (.cons .elt .nil))) rfl rfl (by intro h; cases h) rfl rfl rfl rfl ?_
 refine Aw ?_
 obtain⟨y_7,hy_7,G⟩:=Ab G
 refine Cw (rd:=[]) (ps:=[]) (gs:=[]) false rfl rfl (Qz _ _ _ hy_7) rfl rfl (.cons .val (.cons .elt (.cons .elt .nil))) rfl rfl (by intro h; cases h) rfl rfl rfl rfl ?_
 refine Aw ?_
 obtain⟨y_8,hy_8,G⟩:=Ab G
 refine Cw (rd:=[]) (ps:=[]) (gs:=[]) false rfl rfl (Qu _ _ _ hy_8) rfl rfl (.cons .val (.cons .elt (.cons .elt .nil))) rfl rfl (by intro h; cases h) rfl rfl rfl rfl ?_
 refine Aw ?_
 obtain⟨y_9,hy_9,G⟩:=Ab G
 refine Cw (rd:=[]) (ps:=[]) (gs:=[]) false rfl rfl (Qq _ _ _ hy_9) rfl rfl (.cons .val (.cons .elt (.cons .elt .nil))) rfl rfl (by intro h; cases h) rfl rfl rfl rfl ?_
 refine Aw ?_
 obtain⟨y_10,hy_10,G⟩:=Ab G
 refine Cw (rd:=[]) (ps:=[]) (gs:=[]) false rfl rfl (Q1 _ _ _ hy_10) rfl rfl (.cons .val (.cons .elt (.cons .elt .nil))) rfl rfl (by intro h; cases h) rfl rfl rfl rfl ?_
 refine Aw ?_
 obtain⟨y_11,hy_11,G⟩:=Ab G
 refine Cw (rd:=[]) (ps:=[]) (gs:=[]) false rfl rfl (Q8 _ _ _ hy_11) rfl rfl (.cons .val (.cons .elt (.cons .elt .nil))) rfl rfl (by intro h; cases h) rfl rfl rfl rfl ?_
 refine Lh (rd:=[]) rfl rfl (.buildV (r:=[.clo 146 0 [.elt (([.raw (.func (.func 148) #[] #[])]:List C).drop 0),.elt (((Aa.ec y.1):List C).drop 0),.elt (((Aa.ec y.2):List C).drop 0)],.clo 143 0 [.elt (([.raw (.func (.func 149) #[] #[])]:List C).drop 0),.elt (((Aa.ec y_2.1):List C).drop 0),.elt (((Aa.ec y_2.2):List C).drop 0)],.clo 143 0 [.elt (([.raw (.func (.func 150) #[] #[])]:List C).drop 0),.elt (((Aa.ec y_3.1):List C).drop 0),.elt (((Aa.ec y_3.2):List C).drop 0)],.clo 146 0 [.elt (([.raw (.func (.func 151) #[] #[])]:List C).drop 0),.elt (((Aa.ec y_4.1):List C).drop 0),.elt (((Aa.ec y_4.2):List C).drop 0)],.clo 143 0 [.elt (([.raw (.func (.func 152) #[] #[])]:List C).drop 0),.elt (((Aa.ec y_5.1):List C).drop 0),.elt (((Aa.ec y_5.2):List C).drop 0)],.clo 143 0 [.elt (([.raw (.func (.func 153) #[] #[])]:List C).drop 0),.elt (((Aa.ec y_6.1):List C).drop 0),.elt (((Aa.ec y_6.2):List C).drop 0)],.clo 143 0 [.elt (([.raw (.func (.func 154) #[] #[])]:List C).drop 0),.elt (((Aa.ec y_7.1):List C).drop 0),.elt (((Aa.ec y_7.2):List C).drop 0)],.clo 143 0 [.elt (([.raw (.func (.func 155) #[] #[])]:List C).drop 0),.elt (((Aa.ec y_8.1):List C).drop 0),.elt (((Aa.ec y_8.2):List C).drop 0)],.clo 146 0 [.elt (([.raw (.func (.func 156) #[] #[])]:List C).drop 0),.elt (((Aa.ec y_9.1):List C).drop 0),.elt (((Aa.ec y_9.2):List C).drop 0)],.clo 143 0 [.elt (([.raw (.func (.func 157) #[] #[])]:List C).drop 0),.elt (((Aa.ec y_10.1):List C).drop 0),.elt (((Aa.ec y_10.2):List C).drop 0)],.clo 143 0 [.elt (([.raw (.func (.func 158) #[] #[])]:List C).drop 0),.elt (((Aa.ec y_11.1):List C).drop 0),.elt (((Aa.ec y_11.2):List C).drop 0)]]) (pl:=[(0,.clo 146 0 [.elt (([.raw (.func (.func 148) #[] #[])]:List C).drop 0),.elt (((Aa.ec y.1):List C).drop 0),.elt (((Aa.ec y.2):List C).drop 0)]),(1,.clo 143 0 [.elt (([.raw (.func (.func 149) #[] #[])]:List C).drop 0),.elt (((Aa.ec y_2.1):List C).drop 0),.elt (((Aa.ec y_2.2):List C).drop 0)]),(2,.clo 143 0 [.elt (([.raw (.func (.func 150) #[] #[])]:List C).drop 0),.elt (((Aa.ec y_3.1):List C).drop 0),.elt (((Aa.ec y_3.2):List C).drop 0)]),(3,.clo 146 0 [.elt (([.raw (.func (.func 151) #[] #[])]:List C).drop 0),.elt (((Aa.ec y_4.1):List C).drop 0),.elt (((Aa.ec y_4.2):List C).drop 0)]),(4,.clo 143 0 [.elt (([.raw (.func (.func 152) #[] #[])]:List C).drop 0),.elt (((Aa.ec y_5.1):List C).drop 0),.elt (((Aa.ec y_5.2):List C).drop 0)]),(5,.clo 143 0 [.elt (([.raw (.func (.func 153) #[] #[])]:List C).drop 0),.elt (((Aa.ec y_6.1):List C).drop 0),.elt (((Aa.ec y_6.2):List C).drop 0)]),(6,.clo 143 0 [.elt (([.raw (.func (.func 154) #[] #[])]:List C).drop 0),.elt (((Aa.ec y_7.1):List C).drop 0),.elt (((Aa.ec y_7.2):List C).drop 0)]),(7,.clo 143 0 [.elt (([.raw (.func (.func 155) #[] #[])]:List C).drop 0),.elt (((Aa.ec y_8.1):List C).drop 0),.elt (((Aa.ec y_8.2):List C).drop 0)]),(8,.clo 146 0 [.elt (([.raw (.func (.func 156) #[] #[])]:List C).drop 0),.elt (((Aa.ec y_9.1):List C).drop 0),.elt (((Aa.ec y_9.2):List C).drop 0)]),(9,.clo 143 0 [.elt (([.raw (.func (.func 157) #[] #[])]:List C).drop 0),.elt (((Aa.ec y_10.1):List C).drop 0),.elt (((Aa.ec y_10.2):List C).drop 0)])]) (pi:=10) P2 aFk (by decide) (by kernel_rfl) rfl (by decide) rfl) rfl rfl (fun _=>⟨_,rfl⟩) ?_
 rintro _ rfl
 refine Lh (rd:=[208]) rfl rfl (.lenV P2) rfl rfl (fun _=>⟨_,rfl⟩) ?_
 rintro _ rfl
 refine Bi fun B=>?_
 refine Aq <| lH 13 ?_
 refine Yp ?_
 refine Bk 232 240 B fun B=>?_
 refine Ak <| Jg rfl (fun h=>?_) (fun h=>?_)
 refine C9 ?_
 refine Ak <| Aq <| Ca 240 264 B ?_
 refine Lh (rd:=[208]) rfl rfl (.idxV (j:=0) P2 rfl (aBe rfl)) rfl rfl (fun _=>⟨_,rfl⟩) ?_
 rintro _ rfl
 refine Lh (rd:=[208]) rfl rfl (.loadV Sd rfl) rfl rfl (fun _=>⟨_,rfl⟩) ?_
 rintro _ rfl
 refine Bi fun B=>?_
 refine Ca 264 288 B ?_
 refine Aw ?_
 obtain⟨y_12,hy_12,G⟩:=Ab G
 refine Cw (rd:=[]) (ps:=[]) (gs:=[]) false rfl rfl (Oe _ _ _ hy_12) rfl rfl (.cons .elt (.cons .elt (.cons .elt .nil))) rfl rfl (by intro h; cases h) rfl rfl rfl rfl ?_
 refine Bi fun B=>?_
 refine Bk 288 304 B fun B=>?_
 refine Cr rfl G (fun h9 G=>?_) fun h9 G=>?_
 refine Ca 304 320 B ?_
 exact Df
 refine C9 ?_
 refine Al (Ch _ _ []) 304 320 B rfl rfl ?_
 refine C1 rfl rfl (Pm (z:=1) (by decide)) rfl rfl ?_
 refine Bi fun B=>?_
 refine Yp ?_
 refine Bk 320 328 B fun B=>?_
 refine Ak <| Jg rfl (fun h=>?_) (fun h=>?_)
 refine C9 ?_
 refine Ak <| Aq <| Ca 328 352 B ?_
 refine Lh (rd:=[208]) rfl rfl (.idxV (j:=1) P2 rfl (aBe rfl)) rfl rfl (fun _=>⟨_,rfl⟩) ?_
 rintro _ rfl
 refine Lh (rd:=[208]) rfl rfl (.loadV Sd rfl) rfl rfl (fun _=>⟨_,rfl⟩) ?_
 rintro _ rfl
 refine Bi fun B=>?_
 refine Ca 352 376 B ?_
 refine Aw ?_
 obtain⟨y_13,hy_13,G⟩:=Ab G
 refine Cw (rd:=[]) (ps:=[]) (gs:=[]) false rfl rfl (Pb _ _ _ hy_13) rfl rfl (.cons .elt (.cons .elt (.cons .elt .nil))) rfl rfl (by intro h; cases h) rfl rfl rfl rfl ?_
 refine Bi fun B=>?_
 refine Bk 376 392 B fun B=>?_
 refine Cr rfl G (fun h16 G=>?_) fun h16 G=>?_
 refine Ca 392 408 B ?_
 exact Df
 refine C9 ?_
 refine Al (Ch _ _ []) 392 408 B rfl rfl ?_
 refine C1 rfl rfl (Pm (z:=2) (by decide)) rfl rfl ?_
 refine Bi fun B=>?_
 refine Yp ?_
 refine Bk 408 416 B fun B=>?_
 refine Ak <| Jg rfl (fun h=>?_) (fun h=>?_)
 refine C9 ?_
 refine Ak <| Aq <| Ca 416 440 B ?_
 refine Lh (rd:=[208]) rfl rfl (.idxV (j:=2) P2 rfl (aBe rfl)) rfl rfl (fun _=>⟨_,rfl⟩) ?_
 rintro _ rfl
 refine Lh (rd:=[208]) rfl rfl (.loadV Sd rfl) rfl rfl (fun _=>⟨_,rfl⟩) ?_
 rintro _ rfl
 refine Bi fun B=>?_
 refine Ca 440 464 B ?_
 refine Aw ?_
 obtain⟨y_14,hy_14,G⟩:=Ab G
 refine Cw (rd:=[]) (ps:=[]) (gs:=[]) false rfl rfl (Pd _ _ _ hy_14) rfl rfl (.cons .elt (.cons .elt (.cons .elt .nil))) rfl rfl (by intro h; cases h) rfl rfl rfl rfl ?_
 refine Bi fun B=>?_
 refine Bk 464 480 B fun B=>?_
 refine Cr rfl G (fun h23 G=>?_) fun h23 G=>?_
 refine Ca 480 496 B ?_
 exact Df
 refine C9 ?_
 refine Al (Ch _ _ []) 480 496 B rfl rfl ?_
 refine C1 rfl rfl (Pm (z:=3) (by decide)) rfl rfl ?_
 refine Bi fun B=>?_
 refine Yp ?_
 refine Bk 496 504 B fun B=>?_
 refine Ak <| Jg rfl (fun h=>?_) (fun h=>?_)
 refine C9 ?_
 refine Ak <| Aq <| Ca 504 528 B ?_
 refine Lh (rd:=[208]) rfl rfl (.idxV (j:=3) P2 rfl (aBe rfl)) rfl rfl (fun _=>⟨_,rfl⟩) ?_
 rintro _ rfl
 refine Lh (rd:=[208]) rfl rfl (.loadV Sd rfl) rfl rfl (fun _=>⟨_,rfl⟩) ?_
 rintro _ rfl
 refine Bi fun B=>?_
 refine Ca 528 552 B ?_
 refine Aw ?_
 obtain⟨y_15,hy_15,G⟩:=Ab G
 refine Cw (rd:=[]) (ps:=[]) (gs:=[]) false rfl rfl (Ov _ _ _ hy_15) rfl rfl (.cons .elt (.cons .elt (.cons .elt .nil))) rfl rfl (by intro h; cases h) rfl rfl rfl rfl ?_
 refine Bi fun B=>?_
 refine Bk 552 568 B fun B=>?_
 refine Cr rfl G (fun h30 G=>?_) fun h30 G=>?_
 refine Ca 568 584 B ?_
 exact Df
 refine C9 ?_
 refine Al (Ch _ _ []) 568 584 B rfl rfl ?_
 refine C1 rfl rfl (Pm (z:=4) (by decide)) rfl rfl ?_
 refine Bi fun B=>?_
 refine Yp ?_
 refine Bk 584 592 B fun B=>?_
 refine Ak <| Jg rfl (fun h=>?_) (fun h=>?_)
 refine C9 ?_
 refine Ak <| Aq <| Ca 592 616 B ?_
 refine Lh (rd:=[208]) rfl rfl (.idxV (j:=4) P2 rfl (aBe rfl)) rfl rfl (fun _=>⟨_,rfl⟩) ?_
 rintro _ rfl
 refine Lh (rd:=[208]) rfl rfl (.loadV Sd rfl) rfl rfl (fun _=>⟨_,rfl⟩) ?_
 rintro _ rfl
 refine Bi fun B=>?_
 refine Ca 616 640 B ?_
 refine Aw ?_
 obtain⟨y_16,hy_16,G⟩:=Ab G
 refine Cw (rd:=[]) (ps:=[]) (gs:=[]) false rfl rfl (Of _ _ _ hy_16) rfl rfl (.cons .elt (.cons .elt (.cons .elt .nil))) rfl rfl (by intro h; cases h) rfl rfl rfl rfl ?_
 refine Bi fun B=>?_
 refine Bk 640 656 B fun B=>?_
 refine Cr rfl G (fun h37 G=>?_) fun h37 G=>?_
 refine Ca 656 672 B ?_
 exact Df
 refine C9 ?_
 refine Al (Ch _ _ []) 656 672 B rfl rfl ?_
 refine C1 rfl rfl (Pm (z:=5) (by decide)) rfl rfl ?_
 refine Bi fun B=>?_
 refine Yp ?_
 refine Bk 672 680 B fun B=>?_
 refine Ak <| Jg rfl (fun h=>?_) (fun h=>?_)
 refine C9 ?_
 refine Ak <| Aq <| Ca 680 704 B ?_
 refine Lh (rd:=[208]) rfl rfl (.idxV (j:=5) P2 rfl (aBe rfl)) rfl rfl (fun _=>⟨_,rfl⟩) ?_
 rintro _ rfl
 refine Lh (rd:=[208]) rfl rfl (.loadV Sd rfl) rfl rfl (fun _=>⟨_,rfl⟩) ?_
 rintro _ rfl
 refine Bi fun B=>?_
 refine Ca 704 728 B ?_
 refine Aw ?_
 obtain⟨y_17,hy_17,G⟩:=Ab G
 refine Cw (rd:=[]) (ps:=[]) (gs:=[]) false rfl rfl (Oa _ _ _ hy_17) rfl rfl (.cons .elt (.cons .elt (.cons .elt .nil))) rfl rfl (by intro h; cases h) rfl rfl rfl rfl ?_
 refine Bi fun B=>?_
 refine Bk 728 744 B fun B=>?_
 refine Cr rfl G (fun h44 G=>?_) fun h44 G=>?_
 refine Ca 744 760 B ?_
 exact Df
 refine C9 ?_
 refine Al (Ch _ _ []) 744 760 B rfl rfl ?_
 refine C1 rfl rfl (Pm (z:=6) (by decide)) rfl rfl ?_
 refine Bi fun B=>?_
 refine Yp ?_
 refine Bk 760 768 B fun B=>?_
 refine Ak <| Jg rfl (fun h=>?_) (fun h=>?_)
 refine C9 ?_
 refine Ak <| Aq <| Ca 768 792 B ?_
 refine Lh (rd:=[208]) rfl rfl (.idxV (j:=6) P2 rfl (aBe rfl)) rfl rfl (fun _=>⟨_,rfl⟩) ?_
 rintro _ rfl
 refine Lh (rd:=[208]) rfl rfl (.loadV Sd rfl) rfl rfl (fun _=>⟨_,rfl⟩) ?_
 rintro _ rfl
 refine Bi fun B=>?_
 refine Ca 792 816 B ?_
 refine Aw ?_
 obtain⟨y_18,hy_18,G⟩:=Ab G
 refine Cw (rd:=[]) (ps:=[]) (gs:=[]) false rfl rfl (Pg _ _ _ hy_18) rfl rfl (.cons .elt (.cons .elt (.cons .elt .nil))) rfl rfl (by intro h; cases h) rfl rfl rfl rfl ?_
 refine Bi fun B=>?_
 refine Bk 816 832 B fun B=>?_
 refine Cr rfl G (fun h51 G=>?_) fun h51 G=>?_
 refine Ca 832 848 B ?_
 exact Df
 refine C9 ?_
 refine Al (Ch _ _ []) 832 848 B rfl rfl ?_
 refine C1 rfl rfl (Pm (z:=7) (by decide)) rfl rfl ?_
 refine Bi fun B=>?_
 refine Yp ?_
 refine Bk 848 856 B fun B=>?_
 refine Ak <| Jg rfl (fun h=>?_) (fun h=>?_)
 refine C9 ?_
 refine Ak <| Aq <| Ca 856 880 B ?_
 refine Lh (rd:=[208]) rfl rfl (.idxV (j:=7) P2 rfl (aBe rfl)) rfl rfl (fun _=>⟨_,rfl⟩) ?_
 rintro _ rfl
 refine Lh (rd:=[208]) rfl rfl (.loadV Sd rfl) rfl rfl (fun _=>⟨_,rfl⟩) ?_
 rintro _ rfl
 refine Bi fun B=>?_
 refine Ca 880 904 B ?_
 refine Aw ?_
 obtain⟨y_19,hy_19,G⟩:=Ab G
 refine Cw (rd:=[]) (ps:=[]) (gs:=[]) false rfl rfl (O9 _ _ _ hy_19) rfl rfl (.cons .elt (.cons .elt (.cons .elt .nil))) rfl rfl (by intro h; cases h) rfl rfl rfl rfl ?_
 refine Bi fun B=>?_
 refine Bk 904 920 B fun B=>?_
 refine Cr rfl G (fun h58 G=>?_) fun h58 G=>?_
 refine Ca 920 936 B ?_
 exact Df
 refine C9 ?_
 refine Al (Ch _ _ []) 920 936 B rfl rfl ?_
 refine C1 rfl rfl (Pm (z:=8) (by decide)) rfl rfl ?_
 refine Bi fun B=>?_
 refine Yp ?_
 refine Bk 936 944 B fun B=>?_
 refine Ak <| Jg rfl (fun h=>?_) (fun h=>?_)
 refine C9 ?_
 refine Ak <| Aq <| Ca 944 968 B ?_
 refine Lh (rd:=[208]) rfl rfl (.idxV (j:=8) P2 rfl (aBe rfl)) rfl rfl (fun _=>⟨_,rfl⟩) ?_
 rintro _ rfl
 refine Lh (rd:=[208]) rfl rfl (.loadV Sd rfl) rfl rfl (fun _=>⟨_,rfl⟩) ?_
 rintro _ rfl
 refine Bi fun B=>?_
 refine Ca 968 992 B ?_
 refine Aw ?_
 obtain⟨y_20,hy_20,G⟩:=Ab G
 refine Cw (rd:=[]) (ps:=[]) (gs:=[]) false rfl rfl (Po _ _ _ hy_20) rfl rfl (.cons .elt (.cons .elt (.cons .elt .nil))) rfl rfl (by intro h; cases h) rfl rfl rfl rfl ?_
 refine Bi fun B=>?_
 refine Bk 992 1008 B fun B=>?_
 refine Cr rfl G (fun h65 G=>?_) fun h65 G=>?_
 refine Ca 1008 1024 B ?_
 exact Df
 refine C9 ?_
 refine Al (Ch _ _ []) 1008 1024 B rfl rfl ?_
 refine C1 rfl rfl (Pm (z:=9) (by decide)) rfl rfl ?_
 refine Bi fun B=>?_
 refine Yp ?_
 refine Bk 1024 1032 B fun B=>?_
 refine Ak <| Jg rfl (fun h=>?_) (fun h=>?_)
 refine C9 ?_
 refine Ak <| Aq <| Ca 1032 1056 B ?_
 refine Lh (rd:=[208]) rfl rfl (.idxV (j:=9) P2 rfl (aBe rfl)) rfl rfl (fun _=>⟨_,rfl⟩) ?_
 rintro _ rfl
 refine Lh (rd:=[208]) rfl rfl (.loadV Sd rfl) rfl rfl (fun _=>⟨_,rfl⟩) ?_
 rintro _ rfl
 refine Bi fun B=>?_
 refine Ca 1056 1080 B ?_
 refine Aw ?_
 obtain⟨y_21,hy_21,G⟩:=Ab G
 refine Cw (rd:=[]) (ps:=[]) (gs:=[]) false rfl rfl (Pi _ _ _ hy_21) rfl rfl (.cons .elt (.cons .elt (.cons .elt .nil))) rfl rfl (by intro h; cases h) rfl rfl rfl rfl ?_
 refine Bi fun B=>?_
 refine Bk 1080 1096 B fun B=>?_
 refine Cr rfl G (fun h72 G=>?_) fun h72 G=>?_
 refine Ca 1096 1112 B ?_
 exact Df
 refine C9 ?_
 refine Al (Ch _ _ []) 1096 1112 B rfl rfl ?_
 refine C1 rfl rfl (Pm (z:=10) (by decide)) rfl rfl ?_
 refine Bi fun B=>?_
 refine Yp ?_
 refine Bk 1112 1120 B fun B=>?_
 refine Ak <| Jg rfl (fun h=>?_) (fun h=>?_)
 refine C9 ?_
 refine Ak <| Aq <| Ca 1120 1144 B ?_
 refine Lh (rd:=[208]) rfl rfl (.idxV (j:=10) P2 rfl (aBe rfl)) rfl rfl (fun _=>⟨_,rfl⟩) ?_
 rintro _ rfl
 refine Lh (rd:=[208]) rfl rfl (.loadV Sd rfl) rfl rfl (fun _=>⟨_,rfl⟩) ?_
 rintro _ rfl
 refine Bi fun B=>?_
 refine Ca 1144 1168 B ?_
 refine Aw ?_
 obtain⟨y_22,hy_22,G⟩:=Ab G
 refine Cw (rd:=[]) (ps:=[]) (gs:=[]) false rfl rfl (On _ _ _ hy_22) rfl rfl (.cons .elt (.cons .elt (.cons .elt .nil))) rfl rfl (by intro h; cases h) rfl rfl rfl rfl ?_
 refine Bi fun B=>?_
 refine Bk 1168 1184 B fun B=>?_
 refine Cr rfl G (fun h79 G=>?_) fun h79 G=>?_
 refine Ca 1184 1200 B ?_
 exact Df
 refine C9 ?_
 refine Al (Ch _ _ []) 1184 1200 B rfl rfl ?_
 refine C1 rfl rfl (Pm (z:=11) (by decide)) rfl rfl ?_
 refine Bi fun B=>?_
 refine Yp ?_
 refine Bk 1200 1208 B fun B=>?_
 refine Ak <| Jg rfl (fun h=>?_) (fun h=>?_)
 exact absurd h (by first | decide | exact fun h=>nomatch (show false=true from h) | exact fun h=>nomatch (show true=false from h))
 refine Jl ?_
 refine Bk 1208 1216 B fun B=>?_
 exact K0
 exact absurd h (by first | decide | exact fun h=>nomatch (show false=true from h) | exact fun h=>nomatch (show true=false from h))
 exact absurd h (by first | decide | exact fun h=>nomatch (show false=true from h) | exact fun h=>nomatch (show true=false from h))
 exact absurd h (by first | decide | exact fun h=>nomatch (show false=true from h) | exact fun h=>nomatch (show true=false from h))
 exact absurd h (by first | decide | exact fun h=>nomatch (show false=true from h) | exact fun h=>nomatch (show true=false from h))
 exact absurd h (by first | decide | exact fun h=>nomatch (show false=true from h) | exact fun h=>nomatch (show true=false from h))
 exact absurd h (by first | decide | exact fun h=>nomatch (show false=true from h) | exact fun h=>nomatch (show true=false from h))
 exact absurd h (by first | decide | exact fun h=>nomatch (show false=true from h) | exact fun h=>nomatch (show true=false from h))
 exact absurd h (by first | decide | exact fun h=>nomatch (show false=true from h) | exact fun h=>nomatch (show true=false from h))
 exact absurd h (by first | decide | exact fun h=>nomatch (show false=true from h) | exact fun h=>nomatch (show true=false from h))
 exact absurd h (by first | decide | exact fun h=>nomatch (show false=true from h) | exact fun h=>nomatch (show true=false from h))
 exact absurd h (by first | decide | exact fun h=>nomatch (show false=true from h) | exact fun h=>nomatch (show true=false from h))
end Go.Proofs.YtkoflhimdenjaaaGreat
