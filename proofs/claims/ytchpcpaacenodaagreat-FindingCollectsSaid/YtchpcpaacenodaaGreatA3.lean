import Derived.Test.YtchpcpaacenodaaGreatT1
import Derived.Test.YtchpcpaacenodaaGreatA2
set_option linter.unusedVariables false
set_option linter.unusedSimpArgs false
set_option maxRecDepth 100000
set_option maxHeartbeats 40000000
namespace Go.Proofs.YtchpcpaacenodaaGreat
open Go.RowKit
theorem Qm (c0:Aa) (c1:Aa) (r:(Aa×Aa)) (G:Ho c0 c1=some r):Fn Tryz.prog 92 0 [.val (.func (.func 108) #[] #[]),.elt (((Aa.ec c0):List C).drop 0),.elt (((Aa.ec c1):List C).drop 0)] [] (fun d' b'=>d'=.clo 93 0 [.elt (([.raw (.func (.func 108) #[] #[])]:List C).drop 0),.elt (((Aa.ec r.1):List C).drop 0),.elt (((Aa.ec r.2):List C).drop 0)]/\b'=[]):=by
 unfold Ho at G
 refine Fn.of Tryz.func92 rfl rfl rfl fun w0 I ρ0=>?_
 show B3 _ ⟨w0,I,ρ0,0,0,6⟩ _ _ _
 refine Bf 0 16 Ay fun B=>?_
 refine Aj <| Fw (σ':=mk [(1,.elt (((Aa.ec c0):List C).drop 0)),(2,.elt (((Aa.ec c1):List C).drop 0)),(3,.elt (([.raw (.func (.func 108) #[] #[])]:List C).drop 0))] [] 0) ((by exact Ru.lists [] rfl rfl ⟨⟨_,rfl,.elt _⟩,⟨_,rfl,.elt _⟩,⟨_,rfl,.frzb (ks:=[none]) rfl (.cons .func .nil) (Gz rfl)⟩,trivial⟩ trivial)) ?_
 refine Ak (B6 _ _ []) 0 16 Ay rfl rfl ?_
 exact De
theorem Pa (f:Aa) (r:ByteArray) (G:Ip f=some r):Fn Tryz.prog 98 0 [.agg (Aa.dv f)] [] (fun d' b'=>d'=ws r/\b'=[]):=by
 unfold Ip at G
 refine Fn.of Tryz.func98 rfl rfl rfl fun w0 I ρ0=>?_
 show B3 _ ⟨w0,I,ρ0,0,0,5⟩ _ _ _
 refine Bf 0 16 Ay fun B=>?_
 refine Bf 16 40 B fun B=>?_
 exact Lf
theorem Mb (a:ByteArray) (b:ByteArray) (r:Int) (G:Fj a b=some r):Fn Tryz.prog 139 0 [ws a,ws b] [] (fun d' b'=>d'=vk r/\b'=[]):=by
 unfold Fj at G
 refine Fn.of Tryz.func139 rfl rfl rfl fun w0 I ρ0=>?_
 show B3 _ ⟨w0,I,ρ0,0,0,8⟩ _ _ _
 refine Bf 0 8 Ay fun B=>?_
 refine Cc 8 40 B ?_
 refine As ?_
 refine Mw (rd:=[]) rfl rfl (.extV rfl xZ (aHm a b)) rfl rfl (fun _=>⟨_,rfl⟩) ?_
 rintro _ rfl
 exact De
theorem Lz (a:ByteArray) (b:ByteArray) (r:Int) (G:Gk a b=some r):Fn Tryz.prog 97 0 [ws a,ws b] [] (fun d' b'=>d'=vk r/\b'=[]):=by
 unfold Gk at G
 refine Fn.of Tryz.func97 rfl rfl rfl fun w0 I ρ0=>?_
 show B3 _ ⟨w0,I,ρ0,0,0,8⟩ _ _ _
 refine Bf 0 8 Ay fun B=>?_
 refine Cc 8 40 B ?_
 refine As ?_
 obtain⟨y,hy,G⟩:=Ab G
 refine Dh (Mb _ _ _ hy) ?_
 exact De
theorem Pv (c1:Aa) (c2:Aa) (r:Int) (G:G4 c1 c2=some r):Fn Tryz.prog 96 0 [.elt (([.raw (.func (.func 98) #[] #[])]:List C).drop 0),.elt (((Aa.ec c1):List C).drop 0),.elt (((Aa.ec c2):List C).drop 0)] [] (fun d' b'=>d'=vk r/\b'=[]):=by
 unfold G4 at G
 refine Fn.of Tryz.func96 rfl rfl rfl fun w0 I ρ0=>?_
 show B3 _ ⟨w0,I,ρ0,0,0,11⟩ _ _ _
 refine Bf 0 8 Ay fun B=>?_
 refine Aj <| Bn (B6 _ _ []) (by kernel_rfl) [0,0,3,0,0,31,63,127] 8 72 B rfl rfl (by kernel_rfl) ?_
 refine C0 rfl rfl (Do aV (c:=.raw (.func (.func 98) #[] #[])) rfl) rfl rfl ?_
 refine C0 rfl rfl (D5 Nc (cs2:=(Aa.ec c1)) rfl (aD6 rfl)) rfl rfl ?_
 obtain⟨y,hy,G⟩:=Ab G
 refine Eo (rd:=[]) (ps:=[]) (gs:=[]) false rfl rfl (Pa _ _ hy) rfl rfl (.cons (.agg (.cons .val (.cons .val (.cons .val (.cons .val (.cons .val (.cons .val (.cons .val (.cons .val (.cons .val (.cons .val (.cons .val .nil)))))))))))) .nil) rfl rfl (by intro h; cases h) rfl rfl rfl rfl ?_
 refine C0 rfl rfl (Do aV (c:=.raw (.func (.func 98) #[] #[])) rfl) rfl rfl ?_
 refine C0 rfl rfl (D5 Nc (cs2:=(Aa.ec c2)) rfl (aD6 rfl)) rfl rfl ?_
 obtain⟨y_2,hy_2,G⟩:=Ab G
 refine Eo (rd:=[]) (ps:=[]) (gs:=[]) false rfl rfl (Pa _ _ hy_2) rfl rfl (.cons (.agg (.cons .val (.cons .val (.cons .val (.cons .val (.cons .val (.cons .val (.cons .val (.cons .val (.cons .val (.cons .val (.cons .val .nil)))))))))))) .nil) rfl rfl (by intro h; cases h) rfl rfl rfl rfl ?_
 obtain⟨y_3,hy_3,G⟩:=Ab G
 refine Dh (Lz _ _ _ hy_3) ?_
 exact De
theorem Oo (f:Aa) (r:Int) (G:In f=some r):Fn Tryz.prog 99 0 [.agg (Aa.dv f)] [] (fun d' b'=>d'=vk r/\b'=[]):=by
 unfold In at G
 refine Fn.of Tryz.func99 rfl rfl rfl fun w0 I ρ0=>?_
 show B3 _ ⟨w0,I,ρ0,0,0,5⟩ _ _ _
 refine Bf 0 16 Ay fun B=>?_
 refine Bf 16 40 B fun B=>?_
 exact Lf
theorem Su (x':Int) (r:Bool) (G:J7 x'=some r):Fn Tryz.prog 138 0 [vk x'] [] (fun d' b'=>d'=.val (.bool r)/\b'=[]):=by
 unfold J7 at G
 refine Fn.of Tryz.func138 rfl rfl rfl fun w0 I ρ0=>?_
 show B3 _ ⟨w0,I,ρ0,0,0,6⟩ _ _ _
 refine Bf 0 8 Ay fun B=>?_
 refine Bf 8 40 B fun B=>?_
 exact Lf
theorem F1 (x':Int) (y:Int) (r:Int) (G:Ek x' y=some r):Fn Tryz.prog 94 0 [vk x',vk y] [] (fun d' b'=>d'=vk r/\b'=[]):=by
 unfold Ek at G
 refine Fn.of Tryz.func94 rfl rfl rfl fun w0 I ρ0=>?_
 show B3 _ ⟨w0,I,ρ0,0,0,20⟩ _ _ _
 refine Bf 0 8 Ay fun B=>?_
 refine Cc 8 32 B ?_
 refine As ?_
 obtain⟨y_2,hy_2,G⟩:=Ab G
 refine Dh (Su _ _ hy_2) ?_
 refine Bd fun B=>?_
 refine Cc 32 56 B ?_
 refine As ?_
 obtain⟨y_3,hy_3,G⟩:=Ab G
 refine Dh (Su _ _ hy_3) ?_
 refine Bd fun B=>?_
 refine Aj <| Bf 56 64 B fun B=>?_
 refine Cp rfl G (fun h5 G=>?_) fun h5 G=>?_
 refine Aj <| Bf 64 72 B fun B=>?_
 refine Cp rfl G (fun h7 G=>?_) fun h7 G=>?_
 refine Cc 72 80 B ?_
 exact De
 refine C8 ?_
 refine Bf 72 80 B fun B=>?_
 exact Lf
 refine C8 ?_
 refine Aj <| Bf 64 72 B fun B=>?_
 refine Cp rfl G (fun h11 G=>?_) fun h11 G=>?_
 refine Cc 72 80 B ?_
 exact De
 refine C8 ?_
 refine Aj <| Bf 72 96 B fun B=>?_
 refine Cp rfl G (fun h14 G=>?_) fun h14 G=>?_
 refine Cc 96 104 B ?_
 exact De
 refine C8 ?_
 refine Aj <| Bf 96 120 B fun B=>?_
 refine Cp rfl G (fun h17 G=>?_) fun h17 G=>?_
 refine Cc 120 128 B ?_
 exact De
 refine C8 ?_
 refine Bf 120 128 B fun B=>?_
 exact Lf
theorem Px (c1:Aa) (c2:Aa) (r:Int) (G:G3 c1 c2=some r):Fn Tryz.prog 93 0 [.elt (([.raw (.func (.func 99) #[] #[])]:List C).drop 0),.elt (((Aa.ec c1):List C).drop 0),.elt (((Aa.ec c2):List C).drop 0)] [] (fun d' b'=>d'=vk r/\b'=[]):=by
 unfold G3 at G
 refine Fn.of Tryz.func93 rfl rfl rfl fun w0 I ρ0=>?_
 show B3 _ ⟨w0,I,ρ0,0,0,11⟩ _ _ _
 refine Bf 0 8 Ay fun B=>?_
 refine Aj <| Bn (B6 _ _ []) (by kernel_rfl) [0,0,3,0,0,31,63,127] 8 72 B rfl rfl (by kernel_rfl) ?_
 refine C0 rfl rfl (Do M4 (c:=.raw (.func (.func 99) #[] #[])) rfl) rfl rfl ?_
 refine C0 rfl rfl (D5 Nc (cs2:=(Aa.ec c1)) rfl (aD6 rfl)) rfl rfl ?_
 obtain⟨y,hy,G⟩:=Ab G
 refine Eo (rd:=[]) (ps:=[]) (gs:=[]) false rfl rfl (Oo _ _ hy) rfl rfl (.cons (.agg (.cons .val (.cons .val (.cons .val (.cons .val (.cons .val (.cons .val (.cons .val (.cons .val (.cons .val (.cons .val (.cons .val .nil)))))))))))) .nil) rfl rfl (by intro h; cases h) rfl rfl rfl rfl ?_
 refine C0 rfl rfl (Do M4 (c:=.raw (.func (.func 99) #[] #[])) rfl) rfl rfl ?_
 refine C0 rfl rfl (D5 Nc (cs2:=(Aa.ec c2)) rfl (aD6 rfl)) rfl rfl ?_
 obtain⟨y_2,hy_2,G⟩:=Ab G
 refine Eo (rd:=[]) (ps:=[]) (gs:=[]) false rfl rfl (Oo _ _ hy_2) rfl rfl (.cons (.agg (.cons .val (.cons .val (.cons .val (.cons .val (.cons .val (.cons .val (.cons .val (.cons .val (.cons .val (.cons .val (.cons .val .nil)))))))))))) .nil) rfl rfl (by intro h; cases h) rfl rfl rfl rfl ?_
 obtain⟨y_3,hy_3,G⟩:=Ab G
 refine Dh (F1 _ _ _ hy_3) ?_
 exact De
theorem Pf (f:Aa) (r:Int) (G:Ir f=some r):Fn Tryz.prog 100 0 [.agg (Aa.dv f)] [] (fun d' b'=>d'=vk r/\b'=[]):=by
 unfold Ir at G
 refine Fn.of Tryz.func100 rfl rfl rfl fun w0 I ρ0=>?_
 show B3 _ ⟨w0,I,ρ0,0,0,5⟩ _ _ _
 refine Bf 0 16 Ay fun B=>?_
 refine Bf 16 40 B fun B=>?_
 exact Lf
theorem O3 (c1:Aa) (c2:Aa) (r:Int) (G:Gq c1 c2=some r):Fn Tryz.prog 93 0 [.elt (([.raw (.func (.func 100) #[] #[])]:List C).drop 0),.elt (((Aa.ec c1):List C).drop 0),.elt (((Aa.ec c2):List C).drop 0)] [] (fun d' b'=>d'=vk r/\b'=[]):=by
 unfold Gq at G
 refine Fn.of Tryz.func93 rfl rfl rfl fun w0 I ρ0=>?_
 show B3 _ ⟨w0,I,ρ0,0,0,11⟩ _ _ _
 refine Bf 0 8 Ay fun B=>?_
 refine Aj <| Bn (B6 _ _ []) (by kernel_rfl) [0,0,3,0,0,31,63,127] 8 72 B rfl rfl (by kernel_rfl) ?_
 refine C0 rfl rfl (Do M4 (c:=.raw (.func (.func 100) #[] #[])) rfl) rfl rfl ?_
 refine C0 rfl rfl (D5 Nc (cs2:=(Aa.ec c1)) rfl (aD6 rfl)) rfl rfl ?_
 obtain⟨y,hy,G⟩:=Ab G
 refine Eo (rd:=[]) (ps:=[]) (gs:=[]) false rfl rfl (Pf _ _ hy) rfl rfl (.cons (.agg (.cons .val (.cons .val (.cons .val (.cons .val (.cons .val (.cons .val (.cons .val (.cons .val (.cons .val (.cons .val (.cons .val .nil)))))))))))) .nil) rfl rfl (by intro h; cases h) rfl rfl rfl rfl ?_
 refine C0 rfl rfl (Do M4 (c:=.raw (.func (.func 100) #[] #[])) rfl) rfl rfl ?_
 refine C0 rfl rfl (D5 Nc (cs2:=(Aa.ec c2)) rfl (aD6 rfl)) rfl rfl ?_
 obtain⟨y_2,hy_2,G⟩:=Ab G
 refine Eo (rd:=[]) (ps:=[]) (gs:=[]) false rfl rfl (Pf _ _ hy_2) rfl rfl (.cons (.agg (.cons .val (.cons .val (.cons .val (.cons .val (.cons .val (.cons .val (.cons .val (.cons .val (.cons .val (.cons .val (.cons .val .nil)))))))))))) .nil) rfl rfl (by intro h; cases h) rfl rfl rfl rfl ?_
 obtain⟨y_3,hy_3,G⟩:=Ab G
 refine Dh (F1 _ _ _ hy_3) ?_
 exact De
theorem Ox (f:Aa) (r:ByteArray) (G:Im f=some r):Fn Tryz.prog 101 0 [.agg (Aa.dv f)] [] (fun d' b'=>d'=ws r/\b'=[]):=by
 unfold Im at G
 refine Fn.of Tryz.func101 rfl rfl rfl fun w0 I ρ0=>?_
 show B3 _ ⟨w0,I,ρ0,0,0,5⟩ _ _ _
 refine Bf 0 16 Ay fun B=>?_
 refine Bf 16 40 B fun B=>?_
 exact Lf
theorem On (c1:Aa) (c2:Aa) (r:Int) (G:G0 c1 c2=some r):Fn Tryz.prog 96 0 [.elt (([.raw (.func (.func 101) #[] #[])]:List C).drop 0),.elt (((Aa.ec c1):List C).drop 0),.elt (((Aa.ec c2):List C).drop 0)] [] (fun d' b'=>d'=vk r/\b'=[]):=by
 unfold G0 at G
 refine Fn.of Tryz.func96 rfl rfl rfl fun w0 I ρ0=>?_
 show B3 _ ⟨w0,I,ρ0,0,0,11⟩ _ _ _
 refine Bf 0 8 Ay fun B=>?_
 refine Aj <| Bn (B6 _ _ []) (by kernel_rfl) [0,0,3,0,0,31,63,127] 8 72 B rfl rfl (by kernel_rfl) ?_
 refine C0 rfl rfl (Do aV (c:=.raw (.func (.func 101) #[] #[])) rfl) rfl rfl ?_
 refine C0 rfl rfl (D5 Nc (cs2:=(Aa.ec c1)) rfl (aD6 rfl)) rfl rfl ?_
 obtain⟨y,hy,G⟩:=Ab G
 refine Eo (rd:=[]) (ps:=[]) (gs:=[]) false rfl rfl (Ox _ _ hy) rfl rfl (.cons (.agg (.cons .val (.cons .val (.cons .val (.cons .val (.cons .val (.cons .val (.cons .val (.cons .val (.cons .val (.cons .val (.cons .val .nil)))))))))))) .nil) rfl rfl (by intro h; cases h) rfl rfl rfl rfl ?_
 refine C0 rfl rfl (Do aV (c:=.raw (.func (.func 101) #[] #[])) rfl) rfl rfl ?_
 refine C0 rfl rfl (D5 Nc (cs2:=(Aa.ec c2)) rfl (aD6 rfl)) rfl rfl ?_
 obtain⟨y_2,hy_2,G⟩:=Ab G
 refine Eo (rd:=[]) (ps:=[]) (gs:=[]) false rfl rfl (Ox _ _ hy_2) rfl rfl (.cons (.agg (.cons .val (.cons .val (.cons .val (.cons .val (.cons .val (.cons .val (.cons .val (.cons .val (.cons .val (.cons .val (.cons .val .nil)))))))))))) .nil) rfl rfl (by intro h; cases h) rfl rfl rfl rfl ?_
 obtain⟨y_3,hy_3,G⟩:=Ab G
 refine Dh (Lz _ _ _ hy_3) ?_
 exact De
theorem Ov (f:Aa) (r:Int) (G:Io f=some r):Fn Tryz.prog 102 0 [.agg (Aa.dv f)] [] (fun d' b'=>d'=vk r/\b'=[]):=by
 unfold Io at G
 refine Fn.of Tryz.func102 rfl rfl rfl fun w0 I ρ0=>?_
 show B3 _ ⟨w0,I,ρ0,0,0,5⟩ _ _ _
 refine Bf 0 16 Ay fun B=>?_
 refine Bf 16 40 B fun B=>?_
 exact Lf
theorem O2 (c1:Aa) (c2:Aa) (r:Int) (G:Gu c1 c2=some r):Fn Tryz.prog 93 0 [.elt (([.raw (.func (.func 102) #[] #[])]:List C).drop 0),.elt (((Aa.ec c1):List C).drop 0),.elt (((Aa.ec c2):List C).drop 0)] [] (fun d' b'=>d'=vk r/\b'=[]):=by
 unfold Gu at G
 refine Fn.of Tryz.func93 rfl rfl rfl fun w0 I ρ0=>?_
 show B3 _ ⟨w0,I,ρ0,0,0,11⟩ _ _ _
 refine Bf 0 8 Ay fun B=>?_
 refine Aj <| Bn (B6 _ _ []) (by kernel_rfl) [0,0,3,0,0,31,63,127] 8 72 B rfl rfl (by kernel_rfl) ?_
 refine C0 rfl rfl (Do M4 (c:=.raw (.func (.func 102) #[] #[])) rfl) rfl rfl ?_
 refine C0 rfl rfl (D5 Nc (cs2:=(Aa.ec c1)) rfl (aD6 rfl)) rfl rfl ?_
 obtain⟨y,hy,G⟩:=Ab G
 refine Eo (rd:=[]) (ps:=[]) (gs:=[]) false rfl rfl (Ov _ _ hy) rfl rfl (.cons (.agg (.cons .val (.cons .val (.cons .val (.cons .val (.cons .val (.cons .val (.cons .val (.cons .val (.cons .val (.cons .val (.cons .val .nil)))))))))))) .nil) rfl rfl (by intro h; cases h) rfl rfl rfl rfl ?_
 refine C0 rfl rfl (Do M4 (c:=.raw (.func (.func 102) #[] #[])) rfl) rfl rfl ?_
 refine C0 rfl rfl (D5 Nc (cs2:=(Aa.ec c2)) rfl (aD6 rfl)) rfl rfl ?_
 obtain⟨y_2,hy_2,G⟩:=Ab G
 refine Eo (rd:=[]) (ps:=[]) (gs:=[]) false rfl rfl (Ov _ _ hy_2) rfl rfl (.cons (.agg (.cons .val (.cons .val (.cons .val (.cons .val (.cons .val (.cons .val (.cons .val (.cons .val (.cons .val (.cons .val (.cons .val .nil)))))))))))) .nil) rfl rfl (by intro h; cases h) rfl rfl rfl rfl ?_
 obtain⟨y_3,hy_3,G⟩:=Ab G
 refine Dh (F1 _ _ _ hy_3) ?_
 exact De
theorem Ow (f:Aa) (r:Int) (G:Iu f=some r):Fn Tryz.prog 103 0 [.agg (Aa.dv f)] [] (fun d' b'=>d'=vk r/\b'=[]):=by
 unfold Iu at G
 refine Fn.of Tryz.func103 rfl rfl rfl fun w0 I ρ0=>?_
 show B3 _ ⟨w0,I,ρ0,0,0,6⟩ _ _ _
 refine Bf 0 16 Ay fun B=>?_
 refine Bf 16 48 B fun B=>?_
 exact Lf
theorem Ot (c1:Aa) (c2:Aa) (r:Int) (G:Gv c1 c2=some r):Fn Tryz.prog 93 0 [.elt (([.raw (.func (.func 103) #[] #[])]:List C).drop 0),.elt (((Aa.ec c1):List C).drop 0),.elt (((Aa.ec c2):List C).drop 0)] [] (fun d' b'=>d'=vk r/\b'=[]):=by
 unfold Gv at G
 refine Fn.of Tryz.func93 rfl rfl rfl fun w0 I ρ0=>?_
 show B3 _ ⟨w0,I,ρ0,0,0,11⟩ _ _ _
 refine Bf 0 8 Ay fun B=>?_
 refine Aj <| Bn (B6 _ _ []) (by kernel_rfl) [0,0,3,0,0,31,63,127] 8 72 B rfl rfl (by kernel_rfl) ?_
 refine C0 rfl rfl (Do M4 (c:=.raw (.func (.func 103) #[] #[])) rfl) rfl rfl ?_
 refine C0 rfl rfl (D5 Nc (cs2:=(Aa.ec c1)) rfl (aD6 rfl)) rfl rfl ?_
 obtain⟨y,hy,G⟩:=Ab G
 refine Eo (rd:=[]) (ps:=[]) (gs:=[]) false rfl rfl (Ow _ _ hy) rfl rfl (.cons (.agg (.cons .val (.cons .val (.cons .val (.cons .val (.cons .val (.cons .val (.cons .val (.cons .val (.cons .val (.cons .val (.cons .val .nil)))))))))))) .nil) rfl rfl (by intro h; cases h) rfl rfl rfl rfl ?_
 refine C0 rfl rfl (Do M4 (c:=.raw (.func (.func 103) #[] #[])) rfl) rfl rfl ?_
 refine C0 rfl rfl (D5 Nc (cs2:=(Aa.ec c2)) rfl (aD6 rfl)) rfl rfl ?_
 obtain⟨y_2,hy_2,G⟩:=Ab G
 refine Eo (rd:=[]) (ps:=[]) (gs:=[]) false rfl rfl (Ow _ _ hy_2) rfl rfl (.cons (.agg (.cons .val (.cons .val (.cons .val (.cons .val (.cons .val (.cons .val (.cons .val (.cons .val (.cons .val (.cons .val (.cons .val .nil)))))))))))) .nil) rfl rfl (by intro h; cases h) rfl rfl rfl rfl ?_
 obtain⟨y_3,hy_3,G⟩:=Ab G
 refine Dh (F1 _ _ _ hy_3) ?_
 exact De
theorem Pj (f:Aa) (r:Int) (G:Il f=some r):Fn Tryz.prog 104 0 [.agg (Aa.dv f)] [] (fun d' b'=>d'=vk r/\b'=[]):=by
 unfold Il at G
 refine Fn.of Tryz.func104 rfl rfl rfl fun w0 I ρ0=>?_
 show B3 _ ⟨w0,I,ρ0,0,0,6⟩ _ _ _
 refine Bf 0 16 Ay fun B=>?_
 refine Bf 16 48 B fun B=>?_
 exact Lf
theorem Oz (c1:Aa) (c2:Aa) (r:Int) (G:Gs c1 c2=some r):Fn Tryz.prog 93 0 [.elt (([.raw (.func (.func 104) #[] #[])]:List C).drop 0),.elt (((Aa.ec c1):List C).drop 0),.elt (((Aa.ec c2):List C).drop 0)] [] (fun d' b'=>d'=vk r/\b'=[]):=by
 unfold Gs at G
 refine Fn.of Tryz.func93 rfl rfl rfl fun w0 I ρ0=>?_
 show B3 _ ⟨w0,I,ρ0,0,0,11⟩ _ _ _
 refine Bf 0 8 Ay fun B=>?_
 refine Aj <| Bn (B6 _ _ []) (by kernel_rfl) [0,0,3,0,0,31,63,127] 8 72 B rfl rfl (by kernel_rfl) ?_
 refine C0 rfl rfl (Do M4 (c:=.raw (.func (.func 104) #[] #[])) rfl) rfl rfl ?_
 refine C0 rfl rfl (D5 Nc (cs2:=(Aa.ec c1)) rfl (aD6 rfl)) rfl rfl ?_
 obtain⟨y,hy,G⟩:=Ab G
 refine Eo (rd:=[]) (ps:=[]) (gs:=[]) false rfl rfl (Pj _ _ hy) rfl rfl (.cons (.agg (.cons .val (.cons .val (.cons .val (.cons .val (.cons .val (.cons .val (.cons .val (.cons .val (.cons .val (.cons .val (.cons .val .nil)))))))))))) .nil) rfl rfl (by intro h; cases h) rfl rfl rfl rfl ?_
 refine C0 rfl rfl (Do M4 (c:=.raw (.func (.func 104) #[] #[])) rfl) rfl rfl ?_
 refine C0 rfl rfl (D5 Nc (cs2:=(Aa.ec c2)) rfl (aD6 rfl)) rfl rfl ?_
 obtain⟨y_2,hy_2,G⟩:=Ab G
 refine Eo (rd:=[]) (ps:=[]) (gs:=[]) false rfl rfl (Pj _ _ hy_2) rfl rfl (.cons (.agg (.cons .val (.cons .val (.cons .val (.cons .val (.cons .val (.cons .val (.cons .val (.cons .val (.cons .val (.cons .val (.cons .val .nil)))))))))))) .nil) rfl rfl (by intro h; cases h) rfl rfl rfl rfl ?_
 obtain⟨y_3,hy_3,G⟩:=Ab G
 refine Dh (F1 _ _ _ hy_3) ?_
 exact De
theorem Nu (f:Aa) (r:Int) (G:H3 f=some r):Fn Tryz.prog 105 0 [.agg (Aa.dv f)] [] (fun d' b'=>d'=vk r/\b'=[]):=by
 unfold H3 at G
 refine Fn.of Tryz.func105 rfl rfl rfl fun w0 I ρ0=>?_
 show B3 _ ⟨w0,I,ρ0,0,0,5⟩ _ _ _
 refine Bf 0 16 Ay fun B=>?_
 refine Bf 16 40 B fun B=>?_
 exact Lf
theorem Pm (c1:Aa) (c2:Aa) (r:Int) (G:Gw c1 c2=some r):Fn Tryz.prog 93 0 [.elt (([.raw (.func (.func 105) #[] #[])]:List C).drop 0),.elt (((Aa.ec c1):List C).drop 0),.elt (((Aa.ec c2):List C).drop 0)] [] (fun d' b'=>d'=vk r/\b'=[]):=by
 unfold Gw at G
 refine Fn.of Tryz.func93 rfl rfl rfl fun w0 I ρ0=>?_
 show B3 _ ⟨w0,I,ρ0,0,0,11⟩ _ _ _
 refine Bf 0 8 Ay fun B=>?_
 refine Aj <| Bn (B6 _ _ []) (by kernel_rfl) [0,0,3,0,0,31,63,127] 8 72 B rfl rfl (by kernel_rfl) ?_
 refine C0 rfl rfl (Do M4 (c:=.raw (.func (.func 105) #[] #[])) rfl) rfl rfl ?_
 refine C0 rfl rfl (D5 Nc (cs2:=(Aa.ec c1)) rfl (aD6 rfl)) rfl rfl ?_
 obtain⟨y,hy,G⟩:=Ab G
 refine Eo (rd:=[]) (ps:=[]) (gs:=[]) false rfl rfl (Nu _ _ hy) rfl rfl (.cons (.agg (.cons .val (.cons .val (.cons .val (.cons .val (.cons .val (.cons .val (.cons .val (.cons .val (.cons .val (.cons .val (.cons .val .nil)))))))))))) .nil) rfl rfl (by intro h; cases h) rfl rfl rfl rfl ?_
 refine C0 rfl rfl (Do M4 (c:=.raw (.func (.func 105) #[] #[])) rfl) rfl rfl ?_
 refine C0 rfl rfl (D5 Nc (cs2:=(Aa.ec c2)) rfl (aD6 rfl)) rfl rfl ?_
 obtain⟨y_2,hy_2,G⟩:=Ab G
 refine Eo (rd:=[]) (ps:=[]) (gs:=[]) false rfl rfl (Nu _ _ hy_2) rfl rfl (.cons (.agg (.cons .val (.cons .val (.cons .val (.cons .val (.cons .val (.cons .val (.cons .val (.cons .val (.cons .val (.cons .val (.cons .val .nil)))))))))))) .nil) rfl rfl (by intro h; cases h) rfl rfl rfl rfl ?_
 obtain⟨y_3,hy_3,G⟩:=Ab G
 refine Dh (F1 _ _ _ hy_3) ?_
 exact De
theorem Np (f:Aa) (r:ByteArray) (G:H0 f=some r):Fn Tryz.prog 106 0 [.agg (Aa.dv f)] [] (fun d' b'=>d'=ws r/\b'=[]):=by
 unfold H0 at G
 refine Fn.of Tryz.func106 rfl rfl rfl fun w0 I ρ0=>?_
 show B3 _ ⟨w0,I,ρ0,0,0,5⟩ _ _ _
 refine Bf 0 16 Ay fun B=>?_
 refine Bf 16 40 B fun B=>?_
 exact Lf
theorem Pl (c1:Aa) (c2:Aa) (r:Int) (G:Gl c1 c2=some r):Fn Tryz.prog 96 0 [.elt (([.raw (.func (.func 106) #[] #[])]:List C).drop 0),.elt (((Aa.ec c1):List C).drop 0),.elt (((Aa.ec c2):List C).drop 0)] [] (fun d' b'=>d'=vk r/\b'=[]):=by
 unfold Gl at G
 refine Fn.of Tryz.func96 rfl rfl rfl fun w0 I ρ0=>?_
 show B3 _ ⟨w0,I,ρ0,0,0,11⟩ _ _ _
 refine Bf 0 8 Ay fun B=>?_
 refine Aj <| Bn (B6 _ _ []) (by kernel_rfl) [0,0,3,0,0,31,63,127] 8 72 B rfl rfl (by kernel_rfl) ?_
 refine C0 rfl rfl (Do aV (c:=.raw (.func (.func 106) #[] #[])) rfl) rfl rfl ?_
 refine C0 rfl rfl (D5 Nc (cs2:=(Aa.ec c1)) rfl (aD6 rfl)) rfl rfl ?_
 obtain⟨y,hy,G⟩:=Ab G
 refine Eo (rd:=[]) (ps:=[]) (gs:=[]) false rfl rfl (Np _ _ hy) rfl rfl (.cons (.agg (.cons .val (.cons .val (.cons .val (.cons .val (.cons .val (.cons .val (.cons .val (.cons .val (.cons .val (.cons .val (.cons .val .nil)))))))))))) .nil) rfl rfl (by intro h; cases h) rfl rfl rfl rfl ?_
 refine C0 rfl rfl (Do aV (c:=.raw (.func (.func 106) #[] #[])) rfl) rfl rfl ?_
 refine C0 rfl rfl (D5 Nc (cs2:=(Aa.ec c2)) rfl (aD6 rfl)) rfl rfl ?_
 obtain⟨y_2,hy_2,G⟩:=Ab G
 refine Eo (rd:=[]) (ps:=[]) (gs:=[]) false rfl rfl (Np _ _ hy_2) rfl rfl (.cons (.agg (.cons .val (.cons .val (.cons .val (.cons .val (.cons .val (.cons .val (.cons .val (.cons .val (.cons .val (.cons .val (.cons .val .nil)))))))))))) .nil) rfl rfl (by intro h; cases h) rfl rfl rfl rfl ?_
 obtain⟨y_3,hy_3,G⟩:=Ab G
 refine Dh (Lz _ _ _ hy_3) ?_
 exact De
theorem Nr (f:Aa) (r:Int) (G:Hy f=some r):Fn Tryz.prog 107 0 [.agg (Aa.dv f)] [] (fun d' b'=>d'=vk r/\b'=[]):=by
 unfold Hy at G
 refine Fn.of Tryz.func107 rfl rfl rfl fun w0 I ρ0=>?_
 show B3 _ ⟨w0,I,ρ0,0,0,5⟩ _ _ _
 refine Bf 0 16 Ay fun B=>?_
 refine Bf 16 40 B fun B=>?_
 exact Lf
theorem Pe (c1:Aa) (c2:Aa) (r:Int) (G:G1 c1 c2=some r):Fn Tryz.prog 93 0 [.elt (([.raw (.func (.func 107) #[] #[])]:List C).drop 0),.elt (((Aa.ec c1):List C).drop 0),.elt (((Aa.ec c2):List C).drop 0)] [] (fun d' b'=>d'=vk r/\b'=[]):=by
 unfold G1 at G
 refine Fn.of Tryz.func93 rfl rfl rfl fun w0 I ρ0=>?_
 show B3 _ ⟨w0,I,ρ0,0,0,11⟩ _ _ _
 refine Bf 0 8 Ay fun B=>?_
 refine Aj <| Bn (B6 _ _ []) (by kernel_rfl) [0,0,3,0,0,31,63,127] 8 72 B rfl rfl (by kernel_rfl) ?_
 refine C0 rfl rfl (Do M4 (c:=.raw (.func (.func 107) #[] #[])) rfl) rfl rfl ?_
 refine C0 rfl rfl (D5 Nc (cs2:=(Aa.ec c1)) rfl (aD6 rfl)) rfl rfl ?_
 obtain⟨y,hy,G⟩:=Ab G
 refine Eo (rd:=[]) (ps:=[]) (gs:=[]) false rfl rfl (Nr _ _ hy) rfl rfl (.cons (.agg (.cons .val (.cons .val (.cons .val (.cons .val (.cons .val (.cons .val (.cons .val (.cons .val (.cons .val (.cons .val (.cons .val .nil)))))))))))) .nil) rfl rfl (by intro h; cases h) rfl rfl rfl rfl ?_
 refine C0 rfl rfl (Do M4 (c:=.raw (.func (.func 107) #[] #[])) rfl) rfl rfl ?_
 refine C0 rfl rfl (D5 Nc (cs2:=(Aa.ec c2)) rfl (aD6 rfl)) rfl rfl ?_
 obtain⟨y_2,hy_2,G⟩:=Ab G
 refine Eo (rd:=[]) (ps:=[]) (gs:=[]) false rfl rfl (Nr _ _ hy_2) rfl rfl (.cons (.agg (.cons .val (.cons .val (.cons .val (.cons .val (.cons .val (.cons .val (.cons .val (.cons .val (.cons .val (.cons .val (.cons .val .nil)))))))))))) .nil) rfl rfl (by intro h; cases h) rfl rfl rfl rfl ?_
 obtain⟨y_3,hy_3,G⟩:=Ab G
 refine Dh (F1 _ _ _ hy_3) ?_
 exact De
theorem Ns (f:Aa) (r:Int) (G:H1 f=some r):Fn Tryz.prog 108 0 [.agg (Aa.dv f)] [] (fun d' b'=>d'=vk r/\b'=[]):=by
 unfold H1 at G
 refine Fn.of Tryz.func108 rfl rfl rfl fun w0 I ρ0=>?_
 show B3 _ ⟨w0,I,ρ0,0,0,5⟩ _ _ _
 refine Bf 0 16 Ay fun B=>?_
 refine Bf 16 40 B fun B=>?_
 exact Lf
theorem O8 (c1:Aa) (c2:Aa) (r:Int) (G:Gt c1 c2=some r):Fn Tryz.prog 93 0 [.elt (([.raw (.func (.func 108) #[] #[])]:List C).drop 0),.elt (((Aa.ec c1):List C).drop 0),.elt (((Aa.ec c2):List C).drop 0)] [] (fun d' b'=>d'=vk r/\b'=[]):=by
 unfold Gt at G
 refine Fn.of Tryz.func93 rfl rfl rfl fun w0 I ρ0=>?_
 show B3 _ ⟨w0,I,ρ0,0,0,11⟩ _ _ _
 refine Bf 0 8 Ay fun B=>?_
 refine Aj <| Bn (B6 _ _ []) (by kernel_rfl) [0,0,3,0,0,31,63,127] 8 72 B rfl rfl (by kernel_rfl) ?_
 refine C0 rfl rfl (Do M4 (c:=.raw (.func (.func 108) #[] #[])) rfl) rfl rfl ?_
 refine C0 rfl rfl (D5 Nc (cs2:=(Aa.ec c1)) rfl (aD6 rfl)) rfl rfl ?_
 obtain⟨y,hy,G⟩:=Ab G
 refine Eo (rd:=[]) (ps:=[]) (gs:=[]) false rfl rfl (Ns _ _ hy) rfl rfl (.cons (.agg (.cons .val (.cons .val (.cons .val (.cons .val (.cons .val (.cons .val (.cons .val (.cons .val (.cons .val (.cons .val (.cons .val .nil)))))))))))) .nil) rfl rfl (by intro h; cases h) rfl rfl rfl rfl ?_
 refine C0 rfl rfl (Do M4 (c:=.raw (.func (.func 108) #[] #[])) rfl) rfl rfl ?_
 refine C0 rfl rfl (D5 Nc (cs2:=(Aa.ec c2)) rfl (aD6 rfl)) rfl rfl ?_
 obtain⟨y_2,hy_2,G⟩:=Ab G
 refine Eo (rd:=[]) (ps:=[]) (gs:=[]) false rfl rfl (Ns _ _ hy_2) rfl rfl (.cons (.agg (.cons .val (.cons .val (.cons .val (.cons .val (.cons .val (.cons .val (.cons .val (.cons .val (.cons .val (.cons .val (.cons .val .nil)))))))))))) .nil) rfl rfl (by intro h; cases h) rfl rfl rfl rfl ?_
 obtain⟨y_3,hy_3,G⟩:=Ab G
 refine Dh (F1 _ _ _ hy_3) ?_
 exact De
theorem Y4 (a:Aa) (b:Aa) (r:Int) (G:Hw a b=some r):Fn Tryz.prog 69 0 [.agg (Aa.dv a),.agg (Aa.dv b)] [] (fun d' b'=>d'=vk r/\b'=[]):=by
 unfold Hw at G
 refine Fn.of Tryz.func69 rfl rfl rfl fun w0 I ρ0=>?_
 show B3 _ ⟨w0,I,ρ0,0,0,46⟩ _ _ _
 refine Bf 0 24 Ay fun B=>?_
 refine Aj <| Fw (σ':=mk [(2,.elt (((Aa.ec a):List C).drop 0)),(3,.elt (((Aa.ec b):List C).drop 0))] [] 0) ((by exact Ru.lists [] rfl rfl ⟨⟨_,rfl,.frzb (ks:=[none,none,none,none,none,none,none,none,none,none,none]) rfl (.cons .int (.cons .str (.cons .int (.cons .int (.cons .int (.cons .int (.cons .str (.cons .int (.cons .int (.cons .int (.cons .str .nil))))))))))) (Gz rfl)⟩,⟨_,rfl,.frzb (ks:=[none,none,none,none,none,none,none,none,none,none,none]) rfl (.cons .int (.cons .str (.cons .int (.cons .int (.cons .int (.cons .int (.cons .str (.cons .int (.cons .int (.cons .int (.cons .str .nil))))))))))) (Gz rfl)⟩,trivial⟩ trivial)) ?_
 refine Ak (B6 _ _ []) 0 16 Ay rfl rfl ?_
 refine Bd fun B=>?_
 refine Bf 16 32 B fun B=>?_
 refine Aj <| Cc 32 232 B ?_
 refine As ?_
 obtain⟨y,hy,G⟩:=Ab G
 refine Dg (rd:=[]) (ps:=[]) (gs:=[]) false rfl rfl (R8 _ _ _ hy) rfl rfl (.cons .val (.cons .elt (.cons .elt .nil))) rfl rfl (by intro h; cases h) rfl rfl rfl rfl ?_
 refine As ?_
 obtain⟨y_2,hy_2,G⟩:=Ab G
 refine Dg (rd:=[]) (ps:=[]) (gs:=[]) false rfl rfl (R1 _ _ _ hy_2) rfl rfl (.cons .val (.cons .elt (.cons .elt .nil))) rfl rfl (by intro h; cases h) rfl rfl rfl rfl ?_
 refine As ?_
 obtain⟨y_3,hy_3,G⟩:=Ab G
 refine Dg (rd:=[]) (ps:=[]) (gs:=[]) false rfl rfl (Qw _ _ _ hy_3) rfl rfl (.cons .val (.cons .elt (.cons .elt .nil))) rfl rfl (by intro h; cases h) rfl rfl rfl rfl ?_
 refine As ?_
 obtain⟨y_4,hy_4,G⟩:=Ab G
 refine Dg (rd:=[]) (ps:=[]) (gs:=[]) false rfl rfl (Qq _ _ _ hy_4) rfl rfl (.cons .val (.cons .elt (.cons .elt .nil))) rfl rfl (by intro h; cases h) rfl rfl rfl rfl ?_
 refine As ?_
 obtain⟨y_5,hy_5,G⟩:=Ab G
 refine Dg (rd:=[]) (ps:=[]) (gs:=[]) false rfl rfl (Q4 _ _ _ hy_5) rfl rfl (.cons .val (.cons .elt (.cons .elt .nil))) rfl rfl (by intro h; cases h) rfl rfl rfl rfl ?_
 refine As ?_
 obtain⟨y_6,hy_6,G⟩:=Ab G
 refine Dg (rd:=[]) (ps:=[]) (gs:=[]) false rfl rfl (Rf _ _ _ hy_6) rfl rfl (.cons .val (.cons .elt (.cons .elt .nil))) rfl rfl (by intro h; cases h) rfl rfl rfl rfl ?_
 refine As ?_
 obtain⟨y_7,hy_7,G⟩:=Ab G
 refine Dg (rd:=[]) (ps:=[]) (gs:=[]) false rfl rfl (Rk _ _ _ hy_7) rfl rfl (.cons .val (.cons .elt (.cons .elt .nil))) rfl rfl (by intro h; cases h) rfl rfl rfl rfl ?_
 refine As ?_
 obtain⟨y_8,hy_8,G⟩:=Ab G
 refine Dg (rd:=[]) (ps:=[]) (gs:=[]) false rfl rfl (Rc _ _ _ hy_8) rfl rfl (.cons .val (.cons .elt (.cons .elt .nil))) rfl rfl (by intro h; cases h) rfl rfl rfl rfl ?_
 refine As ?_
 obtain⟨y_9,hy_9,G⟩:=Ab G
 refine Dg (rd:=[]) (ps:=[]) (gs:=[]) false rfl rfl (Qy _ _ _ hy_9) rfl rfl (.cons .val (.cons .elt (.cons .elt .nil))) rfl rfl (by intro h; cases h) rfl rfl rfl rfl ?_
 refine As ?_
 obtain⟨y_10,hy_10,G⟩:=Ab G
 refine Dg (rd:=[]) (ps:=[]) (gs:=[]) false rfl rfl (Rl _ _ _ hy_10) rfl rfl (.cons .val (.cons .elt (.cons .elt .nil))) rfl rfl (by intro h; cases h) rfl rfl rfl rfl ?_
 refine As ?_
 obtain⟨y_11,hy_11,G⟩:=Ab G
 refine Dg (rd:=[]) (ps:=[]) (gs:=[]) false rfl rfl (Qm _ _ _ hy_11) rfl rfl (.cons .val (.cons .elt (.cons .elt .nil))) rfl rfl (by intro h; cases h) rfl rfl rfl rfl ?_
 refine Mw (rd:=[]) rfl rfl (.buildV (r:=[.clo 96 0 [.elt (([.raw (.func (.func 98) #[] #[])]:List C).drop 0),.elt (((Aa.ec y.1):List C).drop 0),.elt (((Aa.ec y.2):List C).drop 0)],.clo 93 0 [.elt (([.raw (.func (.func 99) #[] #[])]:List C).drop 0),.elt (((Aa.ec y_2.1):List C).drop 0),.elt (((Aa.ec y_2.2):List C).drop 0)],.clo 93 0 [.elt (([.raw (.func (.func 100) #[] #[])]:List C).drop 0),.elt (((Aa.ec y_3.1):List C).drop 0),.elt (((Aa.ec y_3.2):List C).drop 0)],.clo 96 0 [.elt (([.raw (.func (.func 101) #[] #[])]:List C).drop 0),.elt (((Aa.ec y_4.1):List C).drop 0),.elt (((Aa.ec y_4.2):List C).drop 0)],.clo 93 0 [.elt (([.raw (.func (.func 102) #[] #[])]:List C).drop 0),.elt (((Aa.ec y_5.1):List C).drop 0),.elt (((Aa.ec y_5.2):List C).drop 0)],.clo 93 0 [.elt (([.raw (.func (.func 103) #[] #[])]:List C).drop 0),.elt (((Aa.ec y_6.1):List C).drop 0),.elt (((Aa.ec y_6.2):List C).drop 0)],.clo 93 0 [.elt (([.raw (.func (.func 104) #[] #[])]:List C).drop 0),.elt (((Aa.ec y_7.1):List C).drop 0),.elt (((Aa.ec y_7.2):List C).drop 0)],.clo 93 0 [.elt (([.raw (.func (.func 105) #[] #[])]:List C).drop 0),.elt (((Aa.ec y_8.1):List C).drop 0),.elt (((Aa.ec y_8.2):List C).drop 0)],.clo 96 0 [.elt (([.raw (.func (.func 106) #[] #[])]:List C).drop 0),.elt (((Aa.ec y_9.1):List C).drop 0),.elt (((Aa.ec y_9.2):List C).drop 0)],.clo 93 0 [.elt (([.raw (.func (.func 107) #[] #[])]:List C).drop 0),.elt (((Aa.ec y_10.1):List C).drop 0),.elt (((Aa.ec y_10.2):List C).drop 0)],.clo 93 0 [.elt (([.raw (.func (.func 108) #[] #[])]:List C).drop 0),.elt (((Aa.ec y_11.1):List C).drop 0),.elt (((Aa.ec y_11.2):List C).drop 0)]]) (pl:=[(0,.clo 96 0 [.elt (([.raw (.func (.func 98) #[] #[])]:List C).drop 0),.elt (((Aa.ec y.1):List C).drop 0),.elt (((Aa.ec y.2):List C).drop 0)]),(1,.clo 93 0 [.elt (([.raw (.func (.func 99) #[] #[])]:List C).drop 0),.elt (((Aa.ec y_2.1):List C).drop 0),.elt (((Aa.ec y_2.2):List C).drop 0)]),(2,.clo 93 0 [.elt (([.raw (.func (.func 100) #[] #[])]:List C).drop 0),.elt (((Aa.ec y_3.1):List C).drop 0),.elt (((Aa.ec y_3.2):List C).drop 0)]),(3,.clo 96 0 [.elt (([.raw (.func (.func 101) #[] #[])]:List C).drop 0),.elt (((Aa.ec y_4.1):List C).drop 0),.elt (((Aa.ec y_4.2):List C).drop 0)]),(4,.clo 93 0 [.elt (([.raw (.func (.func 102) #[] #[])]:List C).drop 0),.elt (((Aa.ec y_5.1):List C).drop 0),.elt (((Aa.ec y_5.2):List C).drop 0)]),(5,.clo 93 0 [.elt (([.raw (.func (.func 103) #[] #[])]:List C).drop 0),.elt (((Aa.ec y_6.1):List C).drop 0),.elt (((Aa.ec y_6.2):List C).drop 0)]),(6,.clo 93 0 [.elt (([.raw (.func (.func 104) #[] #[])]:List C).drop 0),.elt (((Aa.ec y_7.1):List C).drop 0),.elt (((Aa.ec y_7.2):List C).drop 0)]),(7,.clo 93 0 [.elt (([.raw (.func (.func 105) #[] #[])]:List C).drop 0),.elt (((Aa.ec y_8.1):List C).drop 0),.elt (((Aa.ec y_8.2):List C).drop 0)]),(8,.clo 96 0 [.elt (([.raw (.func (.func 106) #[] #[])]:List C).drop 0),.elt (((Aa.ec y_9.1):List C).drop 0),.elt (((Aa.ec y_9.2):List C).drop 0)]),(9,.clo 93 0 [.elt (([.raw (.func (.func 107) #[] #[])]:List C).drop 0),.elt (((Aa.ec y_10.1):List C).drop 0),.elt (((Aa.ec y_10.2):List C).drop 0)])]) (pi:=10) Py aEm (by decide) (by kernel_rfl) rfl (by decide) rfl) rfl rfl (fun _=>⟨_,rfl⟩) ?_
 rintro _ rfl
 refine Mw (rd:=[208]) rfl rfl (.lenV Py) rfl rfl (fun _=>⟨_,rfl⟩) ?_
 rintro _ rfl
 refine Bd fun B=>?_
 refine Ap <| kM 13 ?_
 refine Y5 ?_
 refine Bf 232 240 B fun B=>?_
 refine Aj <| Jm rfl (fun h=>?_) (fun h=>?_)
 refine C8 ?_
 refine Aj <| Ap <| Cc 240 264 B ?_
 refine Mw (rd:=[208]) rfl rfl (.idxV (j:=0) Py rfl (aD6 rfl)) rfl rfl (fun _=>⟨_,rfl⟩) ?_
 rintro _ rfl
 refine Mw (rd:=[208]) rfl rfl (.loadV Sy rfl) rfl rfl (fun _=>⟨_,rfl⟩) ?_
 rintro _ rfl
 refine Bd fun B=>?_
 refine Cc 264 288 B ?_
 refine As ?_
 obtain⟨y_12,hy_12,G⟩:=Ab G
 refine Dg (rd:=[]) (ps:=[]) (gs:=[]) false rfl rfl (Pv _ _ _ hy_12) rfl rfl (.cons .elt (.cons .elt (.cons .elt .nil))) rfl rfl (by intro h; cases h) rfl rfl rfl rfl ?_
 refine Bd fun B=>?_
 refine Bf 288 304 B fun B=>?_
 refine Cp rfl G (fun h9 G=>?_) fun h9 G=>?_
 refine Cc 304 320 B ?_
 exact De
 refine C8 ?_
 refine Ak (B6 _ _ []) 304 320 B rfl rfl ?_
 refine C0 rfl rfl (Pt (z:=1) (by decide)) rfl rfl ?_
 refine Bd fun B=>?_
 refine Y5 ?_
 refine Bf 320 328 B fun B=>?_
 refine Aj <| Jm rfl (fun h=>?_) (fun h=>?_)
 refine C8 ?_
 refine Aj <| Ap <| Cc 328 352 B ?_
 refine Mw (rd:=[208]) rfl rfl (.idxV (j:=1) Py rfl (aD6 rfl)) rfl rfl (fun _=>⟨_,rfl⟩) ?_
 rintro _ rfl
 refine Mw (rd:=[208]) rfl rfl (.loadV Sy rfl) rfl rfl (fun _=>⟨_,rfl⟩) ?_
 rintro _ rfl
 refine Bd fun B=>?_
 refine Cc 352 376 B ?_
 refine As ?_
 obtain⟨y_13,hy_13,G⟩:=Ab G
 refine Dg (rd:=[]) (ps:=[]) (gs:=[]) false rfl rfl (Px _ _ _ hy_13) rfl rfl (.cons .elt (.cons .elt (.cons .elt .nil))) rfl rfl (by intro h; cases h) rfl rfl rfl rfl ?_
 refine Bd fun B=>?_
 refine Bf 376 392 B fun B=>?_
 refine Cp rfl G (fun h16 G=>?_) fun h16 G=>?_
 refine Cc 392 408 B ?_
 exact De
 refine C8 ?_
 refine Ak (B6 _ _ []) 392 408 B rfl rfl ?_
 refine C0 rfl rfl (Pt (z:=2) (by decide)) rfl rfl ?_
 refine Bd fun B=>?_
 refine Y5 ?_
 refine Bf 408 416 B fun B=>?_
 refine Aj <| Jm rfl (fun h=>?_) (fun h=>?_)
 refine C8 ?_
 refine Aj <| Ap <| Cc 416 440 B ?_
 refine Mw (rd:=[208]) rfl rfl (.idxV (j:=2) Py rfl (aD6 rfl)) rfl rfl (fun _=>⟨_,rfl⟩) ?_
 rintro _ rfl
 refine Mw (rd:=[208]) rfl rfl (.loadV Sy rfl) rfl rfl (fun _=>⟨_,rfl⟩) ?_
 rintro _ rfl
 refine Bd fun B=>?_
 refine Cc 440 464 B ?_
 refine As ?_
 obtain⟨y_14,hy_14,G⟩:=Ab G
 refine Dg (rd:=[]) (ps:=[]) (gs:=[]) false rfl rfl (O3 _ _ _ hy_14) rfl rfl (.cons .elt (.cons .elt (.cons .elt .nil))) rfl rfl (by intro h; cases h) rfl rfl rfl rfl ?_
 refine Bd fun B=>?_
 refine Bf 464 480 B fun B=>?_
 refine Cp rfl G (fun h23 G=>?_) fun h23 G=>?_
 refine Cc 480 496 B ?_
 exact De
 refine C8 ?_
 refine Ak (B6 _ _ []) 480 496 B rfl rfl ?_
 refine C0 rfl rfl (Pt (z:=3) (by decide)) rfl rfl ?_
 refine Bd fun B=>?_
 refine Y5 ?_
 refine Bf 496 504 B fun B=>?_
 refine Aj <| Jm rfl (fun h=>?_) (fun h=>?_)
 refine C8 ?_
 refine Aj <| Ap <| Cc 504 528 B ?_
 refine Mw (rd:=[208]) rfl rfl (.idxV (j:=3) Py rfl (aD6 rfl)) rfl rfl (fun _=>⟨_,rfl⟩) ?_
 rintro _ rfl
 refine Mw (rd:=[208]) rfl rfl (.loadV Sy rfl) rfl rfl (fun _=>⟨_,rfl⟩) ?_
 rintro _ rfl
 refine Bd fun B=>?_
 refine Cc 528 552 B ?_
 refine As ?_
 obtain⟨y_15,hy_15,G⟩:=Ab G
 refine Dg (rd:=[]) (ps:=[]) (gs:=[]) false rfl rfl (On _ _ _ hy_15) rfl rfl (.cons .elt (.cons .elt (.cons .elt .nil))) rfl rfl (by intro h; cases h) rfl rfl rfl rfl ?_
 refine Bd fun B=>?_
 refine Bf 552 568 B fun B=>?_
 refine Cp rfl G (fun h30 G=>?_) fun h30 G=>?_
 refine Cc 568 584 B ?_
 exact De
 refine C8 ?_
 refine Ak (B6 _ _ []) 568 584 B rfl rfl ?_
 refine C0 rfl rfl (Pt (z:=4) (by decide)) rfl rfl ?_
 refine Bd fun B=>?_
 refine Y5 ?_
 refine Bf 584 592 B fun B=>?_
 refine Aj <| Jm rfl (fun h=>?_) (fun h=>?_)
 refine C8 ?_
 refine Aj <| Ap <| Cc 592 616 B ?_
 refine Mw (rd:=[208]) rfl rfl (.idxV (j:=4) Py rfl (aD6 rfl)) rfl rfl (fun _=>⟨_,rfl⟩) ?_
 rintro _ rfl
 refine Mw (rd:=[208]) rfl rfl (.loadV Sy rfl) rfl rfl (fun _=>⟨_,rfl⟩) ?_
 rintro _ rfl
 refine Bd fun B=>?_
 refine Cc 616 640 B ?_
 refine As ?_
 obtain⟨y_16,hy_16,G⟩:=Ab G
 refine Dg (rd:=[]) (ps:=[]) (gs:=[]) false rfl rfl (O2 _ _ _ hy_16) rfl rfl (.cons .elt (.cons .elt (.cons .elt .nil))) rfl rfl (by intro h; cases h) rfl rfl rfl rfl ?_
 refine Bd fun B=>?_
 refine Bf 640 656 B fun B=>?_
 refine Cp rfl G (fun h37 G=>?_) fun h37 G=>?_
 refine Cc 656 672 B ?_
 exact De
 refine C8 ?_
 refine Ak (B6 _ _ []) 656 672 B rfl rfl ?_
 refine C0 rfl rfl (Pt (z:=5) (by decide)) rfl rfl ?_
 refine Bd fun B=>?_
 refine Y5 ?_
 refine Bf 672 680 B fun B=>?_
 refine Aj <| Jm rfl (fun h=>?_) (fun h=>?_)
 refine C8 ?_
 refine Aj <| Ap <| Cc 680 704 B ?_
 refine Mw (rd:=[208]) rfl rfl (.idxV (j:=5) Py rfl (aD6 rfl)) rfl rfl (fun _=>⟨_,rfl⟩) ?_
 rintro _ rfl
 refine Mw (rd:=[208]) rfl rfl (.loadV Sy rfl) rfl rfl (fun _=>⟨_,rfl⟩) ?_
 rintro _ rfl
 refine Bd fun B=>?_
 refine Cc 704 728 B ?_
 refine As ?_
 obtain⟨y_17,hy_17,G⟩:=Ab G
 refine Dg (rd:=[]) (ps:=[]) (gs:=[]) false rfl rfl (Ot _ _ _ hy_17) rfl rfl (.cons .elt (.cons .elt (.cons .elt .nil))) rfl rfl (by intro h; cases h) rfl rfl rfl rfl ?_
 refine Bd fun B=>?_
 refine Bf 728 744 B fun B=>?_
 refine Cp rfl G (fun h44 G=>?_) fun h44 G=>?_
 refine Cc 744 760 B ?_
 exact De
 refine C8 ?_
 refine Ak (B6 _ _ []) 744 760 B rfl rfl ?_
 refine C0 rfl rfl (Pt (z:=6) (by decide)) rfl rfl ?_
 refine Bd fun B=>?_
 refine Y5 ?_
 refine Bf 760 768 B fun B=>?_
 refine Aj <| Jm rfl (fun h=>?_) (fun h=>?_)
 refine C8 ?_
 refine Aj <| Ap <| Cc 768 792 B ?_
 refine Mw (rd:=[208]) rfl rfl (.idxV (j:=6) Py rfl (aD6 rfl)) rfl rfl (fun _=>⟨_,rfl⟩) ?_
 rintro _ rfl
 refine Mw (rd:=[208]) rfl rfl (.loadV Sy rfl) rfl rfl (fun _=>⟨_,rfl⟩) ?_
 rintro _ rfl
 refine Bd fun B=>?_
 refine Cc 792 816 B ?_
 refine As ?_
 obtain⟨y_18,hy_18,G⟩:=Ab G
 refine Dg (rd:=[]) (ps:=[]) (gs:=[]) false rfl rfl (Oz _ _ _ hy_18) rfl rfl (.cons .elt (.cons .elt (.cons .elt .nil))) rfl rfl (by intro h; cases h) rfl rfl rfl rfl ?_
 refine Bd fun B=>?_
 refine Bf 816 832 B fun B=>?_
 refine Cp rfl G (fun h51 G=>?_) fun h51 G=>?_
 refine Cc 832 848 B ?_
 exact De
 refine C8 ?_
 refine Ak (B6 _ _ []) 832 848 B rfl rfl ?_
 refine C0 rfl rfl (Pt (z:=7) (by decide)) rfl rfl ?_
 refine Bd fun B=>?_
 refine Y5 ?_
 refine Bf 848 856 B fun B=>?_
 refine Aj <| Jm rfl (fun h=>?_) (fun h=>?_)
 refine C8 ?_
 refine Aj <| Ap <| Cc 856 880 B ?_
 refine Mw (rd:=[208]) rfl rfl (.idxV (j:=7) Py rfl (aD6 rfl)) rfl rfl (fun _=>⟨_,rfl⟩) ?_
 rintro _ rfl
 refine Mw (rd:=[208]) rfl rfl (.loadV Sy rfl) rfl rfl (fun _=>⟨_,rfl⟩) ?_
 rintro _ rfl
 refine Bd fun B=>?_
 refine Cc 880 904 B ?_
 refine As ?_
 obtain⟨y_19,hy_19,G⟩:=Ab G
 refine Dg (rd:=[]) (ps:=[]) (gs:=[]) false rfl rfl (Pm _ _ _ hy_19) rfl rfl (.cons .elt (.cons .elt (.cons .elt .nil))) rfl rfl (by intro h; cases h) rfl rfl rfl rfl ?_
 refine Bd fun B=>?_
 refine Bf 904 920 B fun B=>?_
 refine Cp rfl G (fun h58 G=>?_) fun h58 G=>?_
 refine Cc 920 936 B ?_
 exact De
 refine C8 ?_
 refine Ak (B6 _ _ []) 920 936 B rfl rfl ?_
 refine C0 rfl rfl (Pt (z:=8) (by decide)) rfl rfl ?_
 refine Bd fun B=>?_
 refine Y5 ?_
 refine Bf 936 944 B fun B=>?_
 refine Aj <| Jm rfl (fun h=>?_) (fun h=>?_)
 refine C8 ?_
 refine Aj <| Ap <| Cc 944 968 B ?_
 refine Mw (rd:=[208]) rfl rfl (.idxV (j:=8) Py rfl (aD6 rfl)) rfl rfl (fun _=>⟨_,rfl⟩) ?_
 rintro _ rfl
 refine Mw (rd:=[208]) rfl rfl (.loadV Sy rfl) rfl rfl (fun _=>⟨_,rfl⟩) ?_
 rintro _ rfl
 refine Bd fun B=>?_
 refine Cc 968 992 B ?_
 refine As ?_
 obtain⟨y_20,hy_20,G⟩:=Ab G
 refine Dg (rd:=[]) (ps:=[]) (gs:=[]) false rfl rfl (Pl _ _ _ hy_20) rfl rfl (.cons .elt (.cons .elt (.cons .elt .nil))) rfl rfl (by intro h; cases h) rfl rfl rfl rfl ?_
 refine Bd fun B=>?_
 refine Bf 992 1008 B fun B=>?_
 refine Cp rfl G (fun h65 G=>?_) fun h65 G=>?_
 refine Cc 1008 1024 B ?_
 exact De
 refine C8 ?_
 refine Ak (B6 _ _ []) 1008 1024 B rfl rfl ?_
 refine C0 rfl rfl (Pt (z:=9) (by decide)) rfl rfl ?_
 refine Bd fun B=>?_
 refine Y5 ?_
 refine Bf 1024 1032 B fun B=>?_
 refine Aj <| Jm rfl (fun h=>?_) (fun h=>?_)
 refine C8 ?_
 refine Aj <| Ap <| Cc 1032 1056 B ?_
 refine Mw (rd:=[208]) rfl rfl (.idxV (j:=9) Py rfl (aD6 rfl)) rfl rfl (fun _=>⟨_,rfl⟩) ?_
 rintro _ rfl
 refine Mw (rd:=[208]) rfl rfl (.loadV Sy rfl) rfl rfl (fun _=>⟨_,rfl⟩) ?_
 rintro _ rfl
 refine Bd fun B=>?_
 refine Cc 1056 1080 B ?_
 refine As ?_
 obtain⟨y_21,hy_21,G⟩:=Ab G
 refine Dg (rd:=[]) (ps:=[]) (gs:=[]) false rfl rfl (Pe _ _ _ hy_21) rfl rfl (.cons .elt (.cons .elt (.cons .elt .nil))) rfl rfl (by intro h; cases h) rfl rfl rfl rfl ?_
 refine Bd fun B=>?_
 refine Bf 1080 1096 B fun B=>?_
 refine Cp rfl G (fun h72 G=>?_) fun h72 G=>?_
 refine Cc 1096 1112 B ?_
 exact De
 refine C8 ?_
 refine Ak (B6 _ _ []) 1096 1112 B rfl rfl ?_
 refine C0 rfl rfl (Pt (z:=10) (by decide)) rfl rfl ?_
 refine Bd fun B=>?_
 refine Y5 ?_
 refine Bf 1112 1120 B fun B=>?_
 refine Aj <| Jm rfl (fun h=>?_) (fun h=>?_)
 refine C8 ?_
 refine Aj <| Ap <| Cc 1120 1144 B ?_
 refine Mw (rd:=[208]) rfl rfl (.idxV (j:=10) Py rfl (aD6 rfl)) rfl rfl (fun _=>⟨_,rfl⟩) ?_
 rintro _ rfl
 refine Mw (rd:=[208]) rfl rfl (.loadV Sy rfl) rfl rfl (fun _=>⟨_,rfl⟩) ?_
 rintro _ rfl
 refine Bd fun B=>?_
 refine Cc 1144 1168 B ?_
 refine As ?_
 obtain⟨y_22,hy_22,G⟩:=Ab G
 refine Dg (rd:=[]) (ps:=[]) (gs:=[]) false rfl rfl (O8 _ _ _ hy_22) rfl rfl (.cons .elt (.cons .elt (.cons .elt .nil))) rfl rfl (by intro h; cases h) rfl rfl rfl rfl ?_
 refine Bd fun B=>?_
 refine Bf 1168 1184 B fun B=>?_
 refine Cp rfl G (fun h79 G=>?_) fun h79 G=>?_
 refine Cc 1184 1200 B ?_
 exact De
 refine C8 ?_
 refine Ak (B6 _ _ []) 1184 1200 B rfl rfl ?_
 refine C0 rfl rfl (Pt (z:=11) (by decide)) rfl rfl ?_
 refine Bd fun B=>?_
 refine Y5 ?_
 refine Bf 1200 1208 B fun B=>?_
 refine Aj <| Jm rfl (fun h=>?_) (fun h=>?_)
 exact absurd h (by first | decide | exact fun h=>nomatch (show false=true from h) | exact fun h=>nomatch (show true=false from h))
 refine Je ?_
 refine Bf 1208 1216 B fun B=>?_
 exact Lf
 exact absurd h (by first | decide | exact fun h=>nomatch (show false=true from h) | exact fun h=>nomatch (show true=false from h))
 exact absurd h (by first | decide | exact fun h=>nomatch (show false=true from h) | exact fun h=>nomatch (show true=false from h))
 exact absurd h (by first | decide | exact fun h=>nomatch (show false=true from h) | exact fun h=>nomatch (show true=false from h))
 exact absurd h (by first | decide | exact fun h=>nomatch (show false=true from h) | exact fun h=>nomatch (show true=false from h))
 exact absurd h (by first | decide | exact fun h=>nomatch (show false=true from h) | exact fun h=>nomatch (show true=false from h))
 exact absurd h (by first | decide | exact fun h=>nomatch (show false=true from h) | exact fun h=>nomatch (show true=false from h))
 exact absurd h (by first | decide | exact fun h=>nomatch (show false=true from h) | exact fun h=>nomatch (show true=false from h))
 exact absurd h (by first | decide | exact fun h=>nomatch (show false=true from h) | exact fun h=>nomatch (show true=false from h))
 exact absurd h (by first | decide | exact fun h=>nomatch (show false=true from h) | exact fun h=>nomatch (show true=false from h))
 exact absurd h (by first | decide | exact fun h=>nomatch (show false=true from h) | exact fun h=>nomatch (show true=false from h))
 exact absurd h (by first | decide | exact fun h=>nomatch (show false=true from h) | exact fun h=>nomatch (show true=false from h))
end Go.Proofs.YtchpcpaacenodaaGreat
