import Derived.Test.YtkoflhimdenjaaaGreatT1
import Derived.Test.YtkoflhimdenjaaaGreatA7
import Derived.Test.YtkoflhimdenjaaaGreatA8
set_option linter.unusedVariables false
set_option linter.unusedSimpArgs false
set_option maxRecDepth 100000
set_option maxHeartbeats 1600000
namespace Go.Proofs.YtkoflhimdenjaaaGreat
open Go.RowKit
theorem Qn (u:Ar) (kind:Int) (r:Bool) (G:H9 u kind=some r):Fn Tryz.prog 204 0 [.agg [vk u.Alg,vk u.Bits],vk kind] [] (fun d' b'=>d'=.val (.bool r)/\b'=[]):=by
 unfold H9 at G
 refine Fn.of Tryz.func204 rfl rfl rfl fun w0 I ρ0=>?_
 show B4 _ ⟨w0,I,ρ0,0,0,14⟩ _ _ _
 refine Bk 0 16 Ay fun B=>?_
 refine Ca 16 96 B ?_
 refine Aw ?_
 obtain⟨y,hy,G⟩:=Ab G
 refine Dl (Ld _ _ hy) ?_
 refine Aw ?_
 rcases Dj G with ⟨h2,G⟩ | ⟨h2,G⟩
 refine Aw ?_
 obtain⟨y_2,hy_2,G⟩:=Ab G
 refine Dl (Ls _ _ hy_2) ?_
 exact Df
 exact Df
theorem V7 (n:Int) (r:Bool) (G:I6 n=some r):Fn Tryz.prog 205 0 [vk n] [] (fun d' b'=>d'=.val (.bool r)/\b'=[]):=by
 unfold I6 at G
 refine Fn.of Tryz.func205 rfl rfl rfl fun w0 I ρ0=>?_
 show B4 _ ⟨w0,I,ρ0,0,0,9⟩ _ _ _
 refine Bk 0 8 Ay fun B=>?_
 refine Ca 8 64 B ?_
 refine Aw ?_
 rcases Dj G with ⟨h2,G⟩ | ⟨h2,G⟩
 exact Df
 exact Df
theorem Us (c:Ae) (r:Bool) (G:Bl c=some r):Fn Tryz.prog 180 0 [.agg (Ae.dv c)] [] (fun d' b'=>d'=.val (.bool r)/\b'=[]):=by
 unfold Bl at G
 refine Fn.of Tryz.func180 rfl rfl rfl fun w0 I ρ0=>?_
 show B4 _ ⟨w0,I,ρ0,0,0,91⟩ _ _ _
 refine Bk 0 16 Ay fun B=>?_
 refine Ak <| Bs (ι:=Bool) (fun (x28_1:Bool)=>mk [(1,.ptr 0 0),(28,.val (.bool x28_1))] [(0,.box (Ae.dv c) 111)] 1) (fun (x28_1:Bool)=>Bl.j1 c x28_1=some r) ?_ ?_
 refine Al (Ch _ _ []) 16 224 B rfl rfl ?_
 refine Aw ?_
 rcases Dj G with ⟨h2,G⟩ | ⟨h2,G⟩
 refine Bi fun B=>?_
 exact⟨true,G,Av [(0,0)]⟩
 refine Aw ?_
 rcases Dj G with ⟨h4,G⟩ | ⟨h4,G⟩
 refine Bi fun B=>?_
 exact⟨true,G,Av [(0,0)]⟩
 refine Aw ?_
 obtain⟨y,hy,G⟩:=Ab G
 refine Dl (I0 _ _ hy) ?_
 refine Aw ?_
 rcases Dj G with ⟨h6,G⟩ | ⟨h6,G⟩
 refine Bi fun B=>?_
 exact⟨true,G,Av [(0,0)]⟩
 refine Aw ?_
 obtain⟨y_2,hy_2,G⟩:=Ab G
 refine Dl (I0 _ _ hy_2) ?_
 refine Aw ?_
 rcases Dj G with ⟨h8,G⟩ | ⟨h8,G⟩
 refine Bi fun B=>?_
 exact⟨true,G,Av [(0,0)]⟩
 refine Aw ?_
 obtain⟨y_3,hy_3,G⟩:=Ab G
 refine Dl (Ug _ _ hy_3) ?_
 refine Bi fun B=>?_
 exact⟨!y_3,G,Av [(0,0)]⟩
 rintro x28_1 G
 replace G:Bl.j1 c x28_1=some r:=G
 show B4 _ _ _ _ (mk _ _ _)
 unfold Bl.j1 at G
 refine Cr rfl G (fun h11 G=>?_) fun h11 G=>?_
 refine Ca 1 9 Ay ?_
 exact Df
 refine C9 ?_
 refine Ak <| Bs (ι:=Bool) (fun (x58_2:Bool)=>mk [(1,.ptr 0 0),(58,.val (.bool x58_2))] [(0,.box (Ae.dv c) 111)] 1) (fun (x58_2:Bool)=>Bl.j2 c x58_2=some r) ?_ ?_
 refine Al (Ch _ _ []) 1 241 Ay rfl rfl ?_
 refine Aw ?_
 obtain⟨y_4,hy_4,G⟩:=Ab G
 refine Dl (Qn _ _ _ hy_4) ?_
 refine Aw ?_
 rcases Dj G with ⟨h13,G⟩ | ⟨h13,G⟩
 refine Bi fun B=>?_
 exact⟨true,G,Av [(0,0)]⟩
 refine Aw ?_
 obtain⟨y_5,hy_5,G⟩:=Ab G
 refine Dl (Ke _ _ hy_5) ?_
 refine Aw ?_
 rcases Dj G with ⟨h15,G⟩ | ⟨h15,G⟩
 refine Bi fun B=>?_
 exact⟨true,G,Av [(0,0)]⟩
 refine Aw ?_
 obtain⟨y_6,hy_6,G⟩:=Ab G
 refine Dl (Qn _ _ _ hy_6) ?_
 refine Aw ?_
 rcases Dj G with ⟨h17,G⟩ | ⟨h17,G⟩
 refine Bi fun B=>?_
 exact⟨true,G,Av [(0,0)]⟩
 refine Aw ?_
 obtain⟨y_7,hy_7,G⟩:=Ab G
 refine Dl (Ke _ _ hy_7) ?_
 refine Aw ?_
 rcases Dj G with ⟨h19,G⟩ | ⟨h19,G⟩
 refine Bi fun B=>?_
 exact⟨true,G,Av [(0,0)]⟩
 refine Aw ?_
 obtain⟨y_8,hy_8,G⟩:=Ab G
 refine Dl (V7 _ _ hy_8) ?_
 refine Bi fun B=>?_
 exact⟨!y_8,G,Av [(0,0)]⟩
 rintro x58_2 G
 replace G:Bl.j2 c x58_2=some r:=G
 show B4 _ _ _ _ (mk _ _ _)
 unfold Bl.j2 at G
 refine Cr rfl G (fun h22 G=>?_) fun h22 G=>?_
 refine Ca 1 9 Ay ?_
 exact Df
 refine C9 ?_
 refine Ak <| Bs (ι:=Bool) (fun (x73_3:Bool)=>mk [(1,.ptr 0 0),(73,.val (.bool x73_3))] [(0,.box (Ae.dv c) 111)] 1) (fun (x73_3:Bool)=>Bl.j3 c x73_3=some r) ?_ ?_
 refine Al (Ch _ _ []) 1 121 Ay rfl rfl ?_
 refine Aw ?_
 rcases Dj G with ⟨h24,G⟩ | ⟨h24,G⟩
 refine Bi fun B=>?_
 exact⟨true,G,Av [(0,0)]⟩
 refine Aw ?_
 rcases Dj G with ⟨h26,G⟩ | ⟨h26,G⟩
 refine Bi fun B=>?_
 exact⟨true,G,Av [(0,0)]⟩
 refine Bi fun B=>?_
 exact⟨decide (40000 < c.To),G,Av [(0,0)]⟩
 rintro x73_3 G
 replace G:Bl.j3 c x73_3=some r:=G
 show B4 _ _ _ _ (mk _ _ _)
 unfold Bl.j3 at G
 refine Cr rfl G (fun h29 G=>?_) fun h29 G=>?_
 refine Ca 1 9 Ay ?_
 exact Df
 refine C9 ?_
 refine Ca 1 145 Ay ?_
 refine Aw ?_
 rcases Dj G with ⟨h31,G⟩ | ⟨h31,G⟩
 refine Aw ?_
 rcases Dj G with ⟨h32,G⟩ | ⟨h32,G⟩
 refine Aw ?_
 rcases Dj G with ⟨h33,G⟩ | ⟨h33,G⟩
 exact Df
 exact Df
 exact Df
 exact Df
theorem Uu (c:Ae) (r:Int) (G:Hv c=some r):Fn Tryz.prog 138 0 [.agg (Ae.dv c)] [] (fun d' b'=>d'=vk r/\b'=[]):=by
 unfold Hv at G
 refine Fn.of Tryz.func138 rfl rfl rfl fun w0 I ρ0=>?_
 show B4 _ ⟨w0,I,ρ0,0,0,6⟩ _ _ _
 refine Bk 0 16 Ay fun B=>?_
 refine Ak <| Ca 16 40 B ?_
 refine Aw ?_
 obtain⟨y,hy,G⟩:=Ab G
 refine Dl (Us _ _ hy) ?_
 refine Bi fun B=>?_
 refine Cr rfl G (fun h3 G=>?_) fun h3 G=>?_
 refine Ca 40 48 B ?_
 exact Df
 refine C9 ?_
 refine Bk 40 48 B fun B=>?_
 exact K0
theorem Ww (key:Ar) (id:Int) (l:(List Ae)) (r:Bool) (G:Ck key id l=some r):Fn Tryz.prog 104 0 [.agg [vk key.Alg,vk key.Bits],vk id,.sl 15 (As Ae.enc l)] [] (fun d' b'=>d'=.val (.bool r)/\b'=[]):=by
 unfold Ck at G
 refine Fn.of Tryz.func104 rfl rfl rfl fun w0 I ρ0=>?_
 show B4 _ ⟨w0,I,ρ0,0,0,57⟩ _ _ _
 refine Bk 0 16 Ay fun B=>?_
 refine Ak <| Bs (ι:=Bool) (fun (x27_1:Bool)=>mk [(1,vk id),(2,.sl 15 (As Ae.enc l)),(3,.ptr 0 0),(27,.val (.bool x27_1))] [(0,.box [vk key.Alg,vk key.Bits] 34)] 1) (fun (x27_1:Bool)=>Ck.j1 key id l x27_1=some r) ?_ ?_
 refine Al (Ch _ _ []) 16 168 B rfl rfl ?_
 refine Aw ?_
 obtain⟨y,hy,G⟩:=Ab G
 refine Dl (Ld _ _ hy) ?_
 refine Aw ?_
 rcases Dj G with ⟨h2,G⟩ | ⟨h2,G⟩
 refine Bi fun B=>?_
 exact⟨true,G,Av [(0,0)]⟩
 refine Aw ?_
 obtain⟨y_2,hy_2,G⟩:=Ab G
 refine Dl (Ls _ _ hy_2) ?_
 refine Aw ?_
 rcases Dj G with ⟨h4,G⟩ | ⟨h4,G⟩
 refine Bi fun B=>?_
 exact⟨true,G,Av [(0,0)]⟩
 refine Aw ?_
 obtain⟨y_3,hy_3,G⟩:=Ab G
 refine Dl (Ke _ _ hy_3) ?_
 refine Aw ?_
 rcases Dj G with ⟨h6,G⟩ | ⟨h6,G⟩
 refine Bi fun B=>?_
 exact⟨true,G,Av [(0,0)]⟩
 refine Bi fun B=>?_
 exact⟨decide (8 < (l.length:Int)),G,Av [(0,0)]⟩
 rintro x27_1 G
 replace G:Ck.j1 key id l x27_1=some r:=G
 show B4 _ _ _ _ (mk _ _ _)
 unfold Ck.j1 at G
 refine Cr rfl G (fun h9 G=>?_) fun h9 G=>?_
 refine Ca 1 9 Ay ?_
 exact Df
 refine C9 ?_
 refine Ak <| Bk 1 25 Ay fun B=>?_
 refine Aq <| Jp (fun (x30_2:Int)=>mk [(1,vk id),(2,.sl 15 (As Ae.enc l)),(3,.ptr 0 0),(28,.sl 15 (As Ae.enc l)),(29,.val (.int .i64 (l.length:Int))),(30,vk x30_2)] [(0,.box [vk key.Alg,vk key.Bits] 34)] 1) G (Av [(0,0)]) ?_
 rintro x30_2 m2 o2 G hn2
 replace G:Ck.l2 key id l x30_2=some o2:=G
 show B4 _ _ _ _ (mk _ _ _)
 unfold Ck.l2 at G
 refine Bk 1 9 Ay fun B=>?_
 refine Ak <| Cr rfl G (fun h13 G=>?_) fun h13 G=>?_
 refine C9 ?_
 refine Ak <| Aq <| Ca 9 41 B ?_
 obtain⟨e,he,G⟩:=Ab G
 refine Aw ?_
 refine Wv he ?_
 refine Bi fun B=>?_
 refine Ca 41 65 B ?_
 refine Aw ?_
 obtain⟨y_4,hy_4,G⟩:=Ab G
 refine Dl (Uu _ _ hy_4) ?_
 refine Bi fun B=>?_
 refine Cr rfl G (fun h16 G=>?_) fun h16 G=>?_
 refine Bk 65 73 B fun B=>?_
 refine Fj ?_
 replace G:=Ce G hn2
 exact Ts
 refine C9 ?_
 refine Al (Ch _ _ []) 65 81 B rfl rfl ?_
 refine Bi fun B=>?_
 obtain rfl:=oi_ G
 exact⟨(W (x30_2 + 1),m2),aBj _,hn2,Av [(0,0)]⟩
 refine Jl ?_
 replace G:=Ce G hn2
 refine Ak <| Bu (Ch _ _ []) (by kernel_rfl) [0,1,3,7,15,31,63,127,15,511,1023,2047,4095,8191,16383,2047,65535,131071,262143,524287] 9 169 B rfl rfl (by kernel_rfl) ?_
 refine Aw ?_
 rcases Dj G with ⟨h19,G⟩ | ⟨h19,G⟩
 exact Df
 refine Aw ?_
 obtain⟨e_2,he_2,G⟩:=Ab G
 refine Aw ?_
 refine C1 (Dx rfl rfl h19) rfl (Fa eQ Zy (by decide) (Jb Ae.enc_len (B3 he_2) (o:=3) (by decide) rfl)) rfl rfl ?_
 refine C1 (Dx rfl rfl h19) rfl (D4 Zy (Hi Ae.enc_len (B3 he_2) (o:=3) (m:=2) (cs:=[.int .i64 e_2.Key.Alg,.int .i64 e_2.Key.Bits]) rfl (by decide) rfl) (E1 Ae.enc_len (B3 he_2) (o:=3) (m:=2) (by decide) rfl)) rfl rfl ?_
 refine Aw ?_
 refine C1 (Dx rfl rfl h19) rfl (Pl e_2.Key key) rfl rfl ?_
 refine Aw ?_
 rcases Dj G with ⟨h21,G⟩ | ⟨h21,G⟩
 refine Aw ?_
 refine C1 (Dx rfl rfl h21) rfl (Fa dP Sq (by decide) (Jb Ae.enc_len (B3 he_2) (o:=5) (by decide) rfl)) rfl rfl ?_
 refine C1 (Dx rfl rfl h21) rfl (Da Sq (Eo Ae.enc_len (B3 he_2) (o:=5) (c:=.int .i64 e_2.KeyId) rfl rfl)) rfl rfl ?_
 exact Df
 exact Df
theorem Qe  (r:Unit) (G:Ja=some r):Fn Tryz.prog 105 0 [.val (.func (.func 108) #[] #[])] [] (fun d' b'=>d'=.clo 106 0 [.elt (([.raw (.func (.func 108) #[] #[])]:List C).drop 0)]/\b'=[]):=by
 unfold Ja at G
 refine Fn.of Tryz.func105 rfl rfl rfl fun w0 I ρ0=>?_
 show B4 _ ⟨w0,I,ρ0,0,0,4⟩ _ _ _
 refine Bk 0 16 Ay fun B=>?_
 refine Ak <| Ey (σ':=mk [(1,.elt (([.raw (.func (.func 108) #[] #[])]:List C).drop 0))] [] 0) ((by exact Pt.lists [] rfl rfl ⟨⟨_,rfl,.frzb (ks:=[none]) rfl (.cons .func .nil) (Fg rfl)⟩,trivial⟩ trivial)) ?_
 refine Al (Ch _ _ []) 0 16 Ay rfl rfl ?_
 exact Df
theorem Nx (n:Int) (r:Bool) (G:F2 n=some r):Fn Tryz.prog 106 0 [vk n,.elt (([.raw (.func (.func 108) #[] #[])]:List C).drop 0)] [] (fun d' b'=>d'=.val (.bool r)/\b'=[]):=by
 unfold F2 at G
 refine Fn.of Tryz.func106 rfl rfl rfl fun w0 I ρ0=>?_
 show B4 _ ⟨w0,I,ρ0,0,0,8⟩ _ _ _
 refine Bk 0 8 Ay fun B=>?_
 refine Ca 8 48 B ?_
 refine C1 rfl rfl (Da aEg (c:=.raw (.func (.func 108) #[] #[])) rfl) rfl rfl ?_
 refine Aw ?_
 obtain⟨y,hy,G⟩:=Ab G
 refine Ed (rd:=[]) (ps:=[]) (gs:=[]) false rfl rfl (Ke _ _ hy) rfl rfl (.cons .val .nil) rfl rfl (by intro h; cases h) rfl rfl rfl rfl ?_
 exact Df
theorem Jn (s:(List Int)) (f:Int->Option (Bool)) (hf_f:∀ (x0:Int) (y:Bool),f x0=some y->Fn Tryz.prog 106 0 [vk x0,.elt (([.raw (.func (.func 108) #[] #[])]:List C).drop 0)] [] (fun d' b'=>d'=.val (.bool y)/\b'=[])) (r:Int) (G:By s f=some r):Fn Tryz.prog 139 0 [.sl 1 (As eI s),.clo 106 0 [.elt (([.raw (.func (.func 108) #[] #[])]:List C).drop 0)]] [] (fun d' b'=>d'=vk r/\b'=[]):=by
 unfold By at G
 refine Fn.of Tryz.func139 rfl rfl rfl fun w0 I ρ0=>?_
 show B4 _ ⟨w0,I,ρ0,0,0,19⟩ _ _ _
 refine Bk 0 8 Ay fun B=>?_
 refine Ak <| Bk 8 32 B fun B=>?_
 refine Aq <| Jp (fun (x8_1:Int)=>mk [(0,.sl 1 (As eI s)),(1,.clo 106 0 [.elt (([.raw (.func (.func 108) #[] #[])]:List C).drop 0)]),(7,.val (.int .i64 (s.length:Int))),(8,vk x8_1)] [] 0) G (Av []) ?_
 rintro x8_1 m1 o1 G hn1
 replace G:By.l1 s f x8_1=some o1:=G
 show B4 _ _ _ _ (mk _ _ _)
 unfold By.l1 at G
 refine Bk 0 8 Ay fun B=>?_
 refine Ak <| Cr rfl G (fun h4 G=>?_) fun h4 G=>?_
 refine C9 ?_
 refine Ak <| Aq <| Bk 8 24 B fun B=>?_
 refine Ca 24 72 B ?_
 refine Aw ?_
 obtain⟨e,he,G⟩:=Ab G
 refine Aw ?_
 refine Rg he ?_
 obtain⟨y,hy,G⟩:=Ab G
 refine Cw (rd:=[]) (ps:=[]) (gs:=[]) false rfl rfl (hf_f e _ hy) rfl rfl (.cons .val (.cons .elt .nil)) rfl rfl (by intro h; cases h) rfl rfl rfl rfl ?_
 refine G9 fun B=>?_
 refine Cr rfl G (fun h7 G=>?_) fun h7 G=>?_
 refine Bk 72 88 B fun B=>?_
 refine Fj ?_
 replace G:=Ce G hn1
 exact Ts
 refine C9 ?_
 refine Al (Ch _ _ []) 72 88 B rfl rfl ?_
 refine Bi fun B=>?_
 obtain rfl:=oi_ G
 exact⟨(W (x8_1 + 1),m1),aBj _,hn1,Av []⟩
 refine Jl ?_
 replace G:=Ce G hn1
 refine Bk 8 16 B fun B=>?_
 exact K0
theorem I4 (s:(List Int)) (f:Int->Option (Bool)) (hf_f:∀ (x0:Int) (y:Bool),f x0=some y->Fn Tryz.prog 106 0 [vk x0,.elt (([.raw (.func (.func 108) #[] #[])]:List C).drop 0)] [] (fun d' b'=>d'=.val (.bool y)/\b'=[])) (r:Bool) (G:D3 s f=some r):Fn Tryz.prog 107 0 [.sl 1 (As eI s),.clo 106 0 [.elt (([.raw (.func (.func 108) #[] #[])]:List C).drop 0)]] [] (fun d' b'=>d'=.val (.bool r)/\b'=[]):=by
 unfold D3 at G
 refine Fn.of Tryz.func107 rfl rfl rfl fun w0 I ρ0=>?_
 show B4 _ ⟨w0,I,ρ0,0,0,9⟩ _ _ _
 refine Bk 0 8 Ay fun B=>?_
 refine Ca 8 48 B ?_
 refine Aw ?_
 obtain⟨y,hy,G⟩:=Ab G
 refine Dl (Jn s f hf_f _ hy) ?_
 exact Df
theorem P5  (r:Unit) (G:Jc=some r):Fn Tryz.prog 105 0 [.val (.func (.func 109) #[] #[])] [] (fun d' b'=>d'=.clo 106 0 [.elt (([.raw (.func (.func 109) #[] #[])]:List C).drop 0)]/\b'=[]):=by
 unfold Jc at G
 refine Fn.of Tryz.func105 rfl rfl rfl fun w0 I ρ0=>?_
 show B4 _ ⟨w0,I,ρ0,0,0,4⟩ _ _ _
 refine Bk 0 16 Ay fun B=>?_
 refine Ak <| Ey (σ':=mk [(1,.elt (([.raw (.func (.func 109) #[] #[])]:List C).drop 0))] [] 0) ((by exact Pt.lists [] rfl rfl ⟨⟨_,rfl,.frzb (ks:=[none]) rfl (.cons .func .nil) (Fg rfl)⟩,trivial⟩ trivial)) ?_
 refine Al (Ch _ _ []) 0 16 Ay rfl rfl ?_
 exact Df
theorem Yc (alg:Int) (r:Bool) (G:Jy alg=some r):Fn Tryz.prog 109 0 [vk alg] [] (fun d' b'=>d'=.val (.bool r)/\b'=[]):=by
 unfold Jy at G
 refine Fn.of Tryz.func109 rfl rfl rfl fun w0 I ρ0=>?_
 show B4 _ ⟨w0,I,ρ0,0,0,6⟩ _ _ _
 refine Bk 0 8 Ay fun B=>?_
 refine Ca 8 40 B ?_
 refine Aw ?_
 obtain⟨y,hy,G⟩:=Ab G
 refine Dl (Ls _ _ hy) ?_
 exact Df
theorem Nu (n:Int) (r:Bool) (G:F3 n=some r):Fn Tryz.prog 106 0 [vk n,.elt (([.raw (.func (.func 109) #[] #[])]:List C).drop 0)] [] (fun d' b'=>d'=.val (.bool r)/\b'=[]):=by
 unfold F3 at G
 refine Fn.of Tryz.func106 rfl rfl rfl fun w0 I ρ0=>?_
 show B4 _ ⟨w0,I,ρ0,0,0,8⟩ _ _ _
 refine Bk 0 8 Ay fun B=>?_
 refine Ca 8 48 B ?_
 refine C1 rfl rfl (Da aEg (c:=.raw (.func (.func 109) #[] #[])) rfl) rfl rfl ?_
 refine Aw ?_
 obtain⟨y,hy,G⟩:=Ab G
 refine Ed (rd:=[]) (ps:=[]) (gs:=[]) false rfl rfl (Yc _ _ hy) rfl rfl (.cons .val .nil) rfl rfl (by intro h; cases h) rfl rfl rfl rfl ?_
 exact Df
theorem Jm (s:(List Int)) (f:Int->Option (Bool)) (hf_f:∀ (x0:Int) (y:Bool),f x0=some y->Fn Tryz.prog 106 0 [vk x0,.elt (([.raw (.func (.func 109) #[] #[])]:List C).drop 0)] [] (fun d' b'=>d'=.val (.bool y)/\b'=[])) (r:Int) (G:By s f=some r):Fn Tryz.prog 139 0 [.sl 1 (As eI s),.clo 106 0 [.elt (([.raw (.func (.func 109) #[] #[])]:List C).drop 0)]] [] (fun d' b'=>d'=vk r/\b'=[]):=by
 unfold By at G
 refine Fn.of Tryz.func139 rfl rfl rfl fun w0 I ρ0=>?_
 show B4 _ ⟨w0,I,ρ0,0,0,19⟩ _ _ _
 refine Bk 0 8 Ay fun B=>?_
 refine Ak <| Bk 8 32 B fun B=>?_
 refine Aq <| Jp (fun (x8_1:Int)=>mk [(0,.sl 1 (As eI s)),(1,.clo 106 0 [.elt (([.raw (.func (.func 109) #[] #[])]:List C).drop 0)]),(7,.val (.int .i64 (s.length:Int))),(8,vk x8_1)] [] 0) G (Av []) ?_
 rintro x8_1 m1 o1 G hn1
 replace G:By.l1 s f x8_1=some o1:=G
 show B4 _ _ _ _ (mk _ _ _)
 unfold By.l1 at G
 refine Bk 0 8 Ay fun B=>?_
 refine Ak <| Cr rfl G (fun h4 G=>?_) fun h4 G=>?_
 refine C9 ?_
 refine Ak <| Aq <| Bk 8 24 B fun B=>?_
 refine Ca 24 72 B ?_
 refine Aw ?_
 obtain⟨e,he,G⟩:=Ab G
 refine Aw ?_
 refine Rg he ?_
 obtain⟨y,hy,G⟩:=Ab G
 refine Cw (rd:=[]) (ps:=[]) (gs:=[]) false rfl rfl (hf_f e _ hy) rfl rfl (.cons .val (.cons .elt .nil)) rfl rfl (by intro h; cases h) rfl rfl rfl rfl ?_
 refine G9 fun B=>?_
 refine Cr rfl G (fun h7 G=>?_) fun h7 G=>?_
 refine Bk 72 88 B fun B=>?_
 refine Fj ?_
 replace G:=Ce G hn1
 exact Ts
 refine C9 ?_
 refine Al (Ch _ _ []) 72 88 B rfl rfl ?_
 refine Bi fun B=>?_
 obtain rfl:=oi_ G
 exact⟨(W (x8_1 + 1),m1),aBj _,hn1,Av []⟩
 refine Jl ?_
 replace G:=Ce G hn1
 refine Bk 8 16 B fun B=>?_
 exact K0
theorem I1 (s:(List Int)) (f:Int->Option (Bool)) (hf_f:∀ (x0:Int) (y:Bool),f x0=some y->Fn Tryz.prog 106 0 [vk x0,.elt (([.raw (.func (.func 109) #[] #[])]:List C).drop 0)] [] (fun d' b'=>d'=.val (.bool y)/\b'=[])) (r:Bool) (G:D3 s f=some r):Fn Tryz.prog 107 0 [.sl 1 (As eI s),.clo 106 0 [.elt (([.raw (.func (.func 109) #[] #[])]:List C).drop 0)]] [] (fun d' b'=>d'=.val (.bool r)/\b'=[]):=by
 unfold D3 at G
 refine Fn.of Tryz.func107 rfl rfl rfl fun w0 I ρ0=>?_
 show B4 _ ⟨w0,I,ρ0,0,0,9⟩ _ _ _
 refine Bk 0 8 Ay fun B=>?_
 refine Ca 8 48 B ?_
 refine Aw ?_
 obtain⟨y,hy,G⟩:=Ab G
 refine Dl (Jm s f hf_f _ hy) ?_
 exact Df
theorem Xo (e:Af) (r:Int) (G:Br e=some r):Fn Tryz.prog 66 0 [.agg (Af.dv e)] [] (fun d' b'=>d'=vk r/\b'=[]):=by
 unfold Br at G
 refine Fn.of Tryz.func66 rfl rfl rfl fun w0 I ρ0=>?_
 show B4 _ ⟨w0,I,ρ0,0,0,83⟩ _ _ _
 refine Bk 0 16 Ay fun B=>?_
 refine Ak <| Bs (ι:=Bool) (fun (x32_1:Bool)=>mk [(1,.ptr 0 0),(32,.val (.bool x32_1))] [(0,.box (Af.dv e) 43)] 1) (fun (x32_1:Bool)=>Br.j1 e x32_1=some r) ?_ ?_
 refine Al (Ch _ _ []) 16 232 B rfl rfl ?_
 refine Aw ?_
 obtain⟨y,hy,G⟩:=Ab G
 refine Dl (Yq _ _ hy) ?_
 refine Aw ?_
 rcases Dj G with ⟨h2,G⟩ | ⟨h2,G⟩
 refine Bi fun B=>?_
 exact⟨true,G,Av [(0,0)]⟩
 refine Aw ?_
 rcases Dj G with ⟨h4,G⟩ | ⟨h4,G⟩
 refine Bi fun B=>?_
 exact⟨true,G,Av [(0,0)]⟩
 refine Aw ?_
 rcases Dj G with ⟨h6,G⟩ | ⟨h6,G⟩
 refine Bi fun B=>?_
 exact⟨true,G,Av [(0,0)]⟩
 refine Aw ?_
 rcases Dj G with ⟨h8,G⟩ | ⟨h8,G⟩
 refine Bi fun B=>?_
 exact⟨true,G,Av [(0,0)]⟩
 refine Aw ?_
 obtain⟨y_2,hy_2,G⟩:=Ab G
 refine Dl (Vr _ _ hy_2) ?_
 refine Bi fun B=>?_
 exact⟨!y_2,G,Av [(0,0)]⟩
 rintro x32_1 G
 replace G:Br.j1 e x32_1=some r:=G
 show B4 _ _ _ _ (mk _ _ _)
 unfold Br.j1 at G
 refine Cr rfl G (fun h11 G=>?_) fun h11 G=>?_
 refine Ca 1 9 Ay ?_
 exact Df
 refine C9 ?_
 refine Ak <| Bs (ι:=Bool) (fun (x54_2:Bool)=>mk [(1,.ptr 0 0),(54,.val (.bool x54_2))] [(0,.box (Af.dv e) 43)] 1) (fun (x54_2:Bool)=>Br.j2 e x54_2=some r) ?_ ?_
 refine Al (Ch _ _ []) 1 177 Ay rfl rfl ?_
 refine Aw ?_
 rcases Dj G with ⟨h13,G⟩ | ⟨h13,G⟩
 refine Bi fun B=>?_
 exact⟨true,G,Av [(0,0)]⟩
 refine Aw ?_
 rcases Dj G with ⟨h15,G⟩ | ⟨h15,G⟩
 refine Bi fun B=>?_
 exact⟨true,G,Av [(0,0)]⟩
 refine Aw ?_
 obtain⟨y_3,hy_3,G⟩:=Ab G
 refine Dl (N8 _ _ hy_3) ?_
 refine Aw ?_
 rcases Dj G with ⟨h17,G⟩ | ⟨h17,G⟩
 refine Bi fun B=>?_
 exact⟨true,G,Av [(0,0)]⟩
 refine Aw ?_
 obtain⟨y_4,hy_4,G⟩:=Ab G
 refine Dl (N8 _ _ hy_4) ?_
 refine Bi fun B=>?_
 exact⟨!y_4,G,Av [(0,0)]⟩
 rintro x54_2 G
 replace G:Br.j2 e x54_2=some r:=G
 show B4 _ _ _ _ (mk _ _ _)
 unfold Br.j2 at G
 refine Cr rfl G (fun h20 G=>?_) fun h20 G=>?_
 refine Ca 1 9 Ay ?_
 exact Df
 refine C9 ?_
 refine Ak <| Bk 1 33 Ay fun B=>?_
 refine Aq <| Jp (fun (x58_3:Int)=>mk [(1,.ptr 0 0),(56,.sl 4 (As Am.enc e.Identities)),(57,.val (.int .i64 (e.Identities.length:Int))),(58,vk x58_3)] [(0,.box (Af.dv e) 43)] 1) G (Av [(0,0)]) ?_
 rintro x58_3 m3 o3 G hn3
 replace G:Br.l3 e x58_3=some o3:=G
 show B4 _ _ _ _ (mk _ _ _)
 unfold Br.l3 at G
 refine Bk 1 9 Ay fun B=>?_
 refine Ak <| Cr rfl G (fun h24 G=>?_) fun h24 G=>?_
 refine C9 ?_
 refine Ak <| Aq <| Ca 9 41 B ?_
 obtain⟨e_2,he_2,G⟩:=Ab G
 refine Aw ?_
 refine Wv he_2 ?_
 refine Bi fun B=>?_
 refine Ca 41 105 B ?_
 refine Aw ?_
 obtain⟨y_5,hy_5,G⟩:=Ab G
 refine Dl (Ww _ _ _ _ hy_5) ?_
 refine Bi fun B=>?_
 refine Cr rfl G (fun h27 G=>?_) fun h27 G=>?_
 refine Bk 105 113 B fun B=>?_
 refine Fj ?_
 replace G:=Ce G hn3
 exact Ts
 refine C9 ?_
 refine Al (Ch _ _ []) 105 121 B rfl rfl ?_
 refine Bi fun B=>?_
 obtain rfl:=oi_ G
 exact⟨(W (x58_3 + 1),m3),aBj _,hn3,Av [(0,0)]⟩
 refine Jl ?_
 replace G:=Ce G hn3
 refine Bk 9 17 B fun B=>?_
 refine Ak <| Bs (ι:=Bool) (fun (x82_4:Bool)=>mk [(82,.val (.bool x82_4))] [] 0) (fun (x82_4:Bool)=>Br.j4 x82_4=some r) ?_ ?_
 refine Bu (Ch _ _ []) (by kernel_rfl) [0,1,0,4,15,31,63,127,63,319,1023,2047] 17 113 B rfl rfl (by kernel_rfl) ?_
 refine Aw ?_
 obtain⟨y_6,hy_6,G⟩:=Ab G
 refine Ed (rd:=[]) (ps:=[]) (gs:=[]) false rfl rfl (Qe _ hy_6) rfl rfl (.cons .val .nil) rfl rfl (by intro h; cases h) rfl rfl rfl rfl ?_
 obtain⟨y_7,hy_7,G⟩:=Ab G
 refine Dl (I4 e.Anchors (fun x0=>F2 x0) (fun x0 y h=>Nx x0 y h) _ hy_7) ?_
 refine Aw ?_
 rcases Dj G with ⟨h31,G⟩ | ⟨h31,G⟩
 refine Bi fun B=>?_
 exact⟨true,G,Av []⟩
 refine Aw ?_
 obtain⟨y_8,hy_8,G⟩:=Ab G
 refine Ed (rd:=[]) (ps:=[]) (gs:=[]) false (Dx rfl rfl h31) rfl (P5 _ hy_8) rfl rfl (.cons .val .nil) rfl rfl (by intro h; cases h) rfl rfl rfl rfl ?_
 obtain⟨y_9,hy_9,G⟩:=Ab G
 refine Dl (I1 e.Hashes (fun x0=>F3 x0) (fun x0 y h=>Nu x0 y h) _ hy_9) ?_
 refine Bi fun B=>?_
 exact⟨y_9,G,Av []⟩
 rintro x82_4 G
 replace G:Br.j4 x82_4=some r:=G
 show B4 _ _ _ _ (mk _ _ _)
 unfold Br.j4 at G
 refine Cr rfl G (fun h34 G=>?_) fun h34 G=>?_
 refine Ca 0 8 Ay ?_
 exact Df
 refine C9 ?_
 refine Bk 0 8 Ay fun B=>?_
 exact K0
theorem Gx (p:D1) (kind:Int) (u:Ar) (number:Int) (r:D1) (G:D0 p kind u number=some r):Fn Tryz.prog 67 1 [.ptr 0 0,vk kind,.agg [vk u.Alg,vk u.Bits],vk number] [.box [vk p.at_.Source,ws p.at_.Host,vk p.at_.Machine,vk p.at_.Day,vk p.at_.Confidence,vk p.at_.Kind,ws p.at_.Subject,vk p.at_.Use.Alg,vk p.at_.Use.Bits,vk p.at_.Number,ws p.at_.Text,.row 1] 126,.row 48 11 (As Aa.enc p.l)] (fun d' b'=>d'=.tup []/\b'=[.box [vk r.at_.Source,ws r.at_.Host,vk r.at_.Machine,vk r.at_.Day,vk r.at_.Confidence,vk r.at_.Kind,ws r.at_.Subject,vk r.at_.Use.Alg,vk r.at_.Use.Bits,vk r.at_.Number,ws r.at_.Text,.row 1] 126,.row 48 11 (As Aa.enc r.l)]):=by
 unfold D0 at G
 refine Fn.of Tryz.func67 rfl rfl rfl fun w0 I ρ0=>?_
 show B4 _ ⟨w0,I,ρ0,1,2,29⟩ _ _ _
 refine Bk 2 10 Ay fun B=>?_
 refine Bk 10 58 B fun B=>?_
 refine Ak <| Bu (Ch _ _ []) (by kernel_rfl) [0,0,0,1,9,27,59,127,255] 58 130 B rfl rfl (by kernel_rfl) ?_
 refine Bi fun B=>?_
 refine Bu (Ch _ _ []) (by kernel_rfl) [0,0,2,6,14,0,32,126,255,511,1023] 130 218 B rfl rfl (by kernel_rfl) ?_
 refine Aw ?_
 refine Kx Ue z48 K1 ([(Aa.mk p.at_.Source p.at_.Host p.at_.Machine p.at_.Day p.at_.Confidence kind p.at_.Subject u number p.at_.Text)]:List Aa) Aa.enc ?_
 obtain⟨l,hl,G⟩:=Ab G
 refine Gs (rd:=[1,178]) rfl rfl (Dp Ue Aa.enc_len .row rfl .row rfl hl rfl) rfl rfl ?_
 refine Bi fun B=>?_
 obtain rfl:=oi_ G
 exact Ip [(0,0),(1,186)] ⟨rfl,rfl⟩
theorem Mk (s:(List Aa)) (r:(List Aa)) (G:Cl s=some r):Fn Tryz.prog 110 0 [.sl 11 (As Aa.enc s)] [] (fun d' b'=>d'=.row 0/\b'=[.row 48 11 (As Aa.enc r)]):=by
 unfold Cl at G
 refine Fn.of Tryz.func110 rfl rfl rfl fun w0 I ρ0=>?_
 show B4 _ ⟨w0,I,ρ0,0,0,8⟩ _ _ _
 refine Bk 0 8 Ay fun B=>?_
 refine Ak <| Bs (ι:=Bool) (fun (x4_1:Bool)=>mk [(0,.sl 11 (As Aa.enc s)),(4,.val (.bool x4_1))] [] 0) (fun (x4_1:Bool)=>Cl.j1 s x4_1=some r) ?_ ?_
 refine Al (Ch _ _ []) 8 24 B rfl rfl ?_
 refine Aw ?_
 refine wH rfl rfl ⟨_,aEy⟩ rfl ?_
 intro bz hz2
 rcases bz with _ | _
 replace G:=aBq G
 refine G9 fun B=>?_
 exact⟨false,G,Av []⟩
 replace G:=aAj ((lJ Aa.enc_len (by decide) (hz2 rfl))) G
 refine G9 fun B=>?_
 exact⟨true,G,Av []⟩
 rintro x4_1 G
 replace G:Cl.j1 s x4_1=some r:=G
 show B4 _ _ _ _ (mk _ _ _)
 unfold Cl.j1 at G
 refine Cr rfl G (fun h5 G=>?_) fun h5 G=>?_
 refine Ca 0 8 Ay ?_
 exact Df
 refine C9 ?_
 refine Ca 0 32 Ay ?_
 refine C1 rfl rfl (H7 Ue z48 (by decide) rfl rfl rfl rfl K1 (cs:=[]) .nil rfl (l:=([]:List Aa)) (f:=Aa.enc) rfl) rfl rfl ?_
 refine Aw ?_
 obtain⟨l,hl,G⟩:=Ab G
 refine Gs (rd:=[0]) rfl rfl (Dp Ue Aa.enc_len .row rfl .sl rfl hl rfl) rfl rfl ?_
 refine Bi fun B=>?_
 refine Fj ?_
 obtain rfl:=oi_ G
 exact Ip [(0,16)] ⟨rfl,rfl⟩
theorem V6 (x':Int) (r:Int) (G:Bv x'=some r):Fn Tryz.prog 190 0 [.val (.int .u64 x')] [] (fun d' b'=>d'=vk r/\b'=[]):=by
 unfold Bv at G
 refine Fn.of Tryz.func190 rfl rfl rfl fun w0 I ρ0=>?_
 show B4 _ ⟨w0,I,ρ0,0,0,25⟩ _ _ _
 refine Bk 0 8 Ay fun B=>?_
 refine Bs (ι:=Int×Int) (fun ((x_1,n_1):Int×Int)=>mk [(0,.val (.int .u64 x_1)),(2,vk n_1)] [] 0) (fun ((x_1,n_1):Int×Int)=>Bv.j1 x_1 n_1=some r) ?_ ?_
 refine Bk 8 24 B fun B=>?_
 refine Cr rfl G (fun h3 G=>?_) fun h3 G=>?_
 refine Ca 24 48 B ?_
 refine Aw ?_
 obtain⟨q,hq,G⟩:=Ab G
 refine C1 rfl rfl (Xs hq) rfl rfl ?_
 refine Bi fun B=>?_
 refine Al (Ch _ _ []) 48 56 B rfl rfl ?_
 refine Bi fun B=>?_
 exact⟨(q,32),G,Av []⟩
 refine C9 ?_
 exact⟨(x',0),G,Av []⟩
 rintro⟨x_1,n_1⟩ G
 replace G:Bv.j1 x_1 n_1=some r:=G
 show B4 _ _ _ _ (mk _ _ _)
 unfold Bv.j1 at G
 refine Bs (ι:=Int×Int) (fun ((x_2,n_2):Int×Int)=>mk [(0,.val (.int .u64 x_2)),(2,vk n_2)] [] 0) (fun ((x_2,n_2):Int×Int)=>Bv.j2 x_2 n_2=some r) ?_ ?_
 refine Bk 0 16 Ay fun B=>?_
 refine Cr rfl G (fun h7 G=>?_) fun h7 G=>?_
 refine Ca 16 40 B ?_
 refine Aw ?_
 obtain⟨q_2,hq_2,G⟩:=Ab G
 refine C1 rfl rfl (Xs hq_2) rfl rfl ?_
 refine Bi fun B=>?_
 refine Al (Ch _ _ []) 40 64 B rfl rfl ?_
 refine Bi fun B=>?_
 exact⟨(q_2,W (n_1 + 16)),G,Av []⟩
 refine C9 ?_
 exact⟨(x_1,n_1),G,Av []⟩
 rintro⟨x_2,n_2⟩ G
 replace G:Bv.j2 x_2 n_2=some r:=G
 show B4 _ _ _ _ (mk _ _ _)
 unfold Bv.j2 at G
 refine Bs (ι:=Int×Int) (fun ((x_3,n_3):Int×Int)=>mk [(0,.val (.int .u64 x_3)),(2,vk n_3)] [] 0) (fun ((x_3,n_3):Int×Int)=>Bv.j3 x_3 n_3=some r) ?_ ?_
 refine Bk 0 16 Ay fun B=>?_
 refine Cr rfl G (fun h11 G=>?_) fun h11 G=>?_
 refine Ca 16 40 B ?_
 refine Aw ?_
 obtain⟨q_3,hq_3,G⟩:=Ab G
 refine C1 rfl rfl (Xs hq_3) rfl rfl ?_
 refine Bi fun B=>?_
 refine Al (Ch _ _ []) 40 64 B rfl rfl ?_
 refine Bi fun B=>?_
 exact⟨(q_3,W (n_2 + 8)),G,Av []⟩
 refine C9 ?_
 exact⟨(x_2,n_2),G,Av []⟩
 rintro⟨x_3,n_3⟩ G
 replace G:Bv.j3 x_3 n_3=some r:=G
 show B4 _ _ _ _ (mk _ _ _)
 unfold Bv.j3 at G
 refine Ca 0 56 Ay ?_
 refine Aw ?_
 refine C1 rfl rfl (Mo aAw Yw) rfl rfl ?_
 obtain⟨c,hc,G⟩:=Ab G
 refine C1 rfl rfl (fU S4 hc) rfl rfl ?_
 refine C1 rfl rfl (nV (u:=c) Yw Ye) rfl rfl ?_
 exact Df
theorem R9 (x':Int) (r:Int) (G:Ho x'=some r):Fn Tryz.prog 141 0 [.val (.int .u64 x')] [] (fun d' b'=>d'=vk r/\b'=[]):=by
 unfold Ho at G
 refine Fn.of Tryz.func141 rfl rfl rfl fun w0 I ρ0=>?_
 show B4 _ ⟨w0,I,ρ0,0,0,8⟩ _ _ _
 refine Bk 0 8 Ay fun B=>?_
 refine Ak <| oD (fun h=>?_) (fun h=>?_)
 exact absurd h (by first | decide | exact fun h=>nomatch (show false=true from h) | exact fun h=>nomatch (show true=false from h))
 refine C9 ?_
 refine Ca 8 32 B ?_
 refine Aw ?_
 obtain⟨y,hy,G⟩:=Ab G
 refine Dl (V6 _ _ hy) ?_
 exact Df
theorem Rc (c0:Aa) (c1:Aa) (r:(Aa×Aa)) (G:Hc c0 c1=some r):Fn Tryz.prog 145 0 [.val (.func (.func 148) #[] #[]),.elt (((Aa.ec c0):List C).drop 0),.elt (((Aa.ec c1):List C).drop 0)] [] (fun d' b'=>d'=.clo 146 0 [.elt (([.raw (.func (.func 148) #[] #[])]:List C).drop 0),.elt (((Aa.ec r.1):List C).drop 0),.elt (((Aa.ec r.2):List C).drop 0)]/\b'=[]):=by
 unfold Hc at G
 refine Fn.of Tryz.func145 rfl rfl rfl fun w0 I ρ0=>?_
 show B4 _ ⟨w0,I,ρ0,0,0,6⟩ _ _ _
 refine Bk 0 16 Ay fun B=>?_
 refine Ak <| Ey (σ':=mk [(1,.elt (((Aa.ec c0):List C).drop 0)),(2,.elt (((Aa.ec c1):List C).drop 0)),(3,.elt (([.raw (.func (.func 148) #[] #[])]:List C).drop 0))] [] 0) ((by exact Pt.lists [] rfl rfl ⟨⟨_,rfl,.elt _⟩,⟨_,rfl,.elt _⟩,⟨_,rfl,.frzb (ks:=[none]) rfl (.cons .func .nil) (Fg rfl)⟩,trivial⟩ trivial)) ?_
 refine Al (Ch _ _ []) 0 16 Ay rfl rfl ?_
 exact Df
theorem Q5 (c0:Aa) (c1:Aa) (r:(Aa×Aa)) (G:Hj c0 c1=some r):Fn Tryz.prog 142 0 [.val (.func (.func 149) #[] #[]),.elt (((Aa.ec c0):List C).drop 0),.elt (((Aa.ec c1):List C).drop 0)] [] (fun d' b'=>d'=.clo 143 0 [.elt (([.raw (.func (.func 149) #[] #[])]:List C).drop 0),.elt (((Aa.ec r.1):List C).drop 0),.elt (((Aa.ec r.2):List C).drop 0)]/\b'=[]):=by
 unfold Hj at G
 refine Fn.of Tryz.func142 rfl rfl rfl fun w0 I ρ0=>?_
 show B4 _ ⟨w0,I,ρ0,0,0,6⟩ _ _ _
 refine Bk 0 16 Ay fun B=>?_
 refine Ak <| Ey (σ':=mk [(1,.elt (((Aa.ec c0):List C).drop 0)),(2,.elt (((Aa.ec c1):List C).drop 0)),(3,.elt (([.raw (.func (.func 149) #[] #[])]:List C).drop 0))] [] 0) ((by exact Pt.lists [] rfl rfl ⟨⟨_,rfl,.elt _⟩,⟨_,rfl,.elt _⟩,⟨_,rfl,.frzb (ks:=[none]) rfl (.cons .func .nil) (Fg rfl)⟩,trivial⟩ trivial)) ?_
 refine Al (Ch _ _ []) 0 16 Ay rfl rfl ?_
 exact Df
theorem Qh (c0:Aa) (c1:Aa) (r:(Aa×Aa)) (G:Hd c0 c1=some r):Fn Tryz.prog 142 0 [.val (.func (.func 150) #[] #[]),.elt (((Aa.ec c0):List C).drop 0),.elt (((Aa.ec c1):List C).drop 0)] [] (fun d' b'=>d'=.clo 143 0 [.elt (([.raw (.func (.func 150) #[] #[])]:List C).drop 0),.elt (((Aa.ec r.1):List C).drop 0),.elt (((Aa.ec r.2):List C).drop 0)]/\b'=[]):=by
 unfold Hd at G
 refine Fn.of Tryz.func142 rfl rfl rfl fun w0 I ρ0=>?_
 show B4 _ ⟨w0,I,ρ0,0,0,6⟩ _ _ _
 refine Bk 0 16 Ay fun B=>?_
 refine Ak <| Ey (σ':=mk [(1,.elt (((Aa.ec c0):List C).drop 0)),(2,.elt (((Aa.ec c1):List C).drop 0)),(3,.elt (([.raw (.func (.func 150) #[] #[])]:List C).drop 0))] [] 0) ((by exact Pt.lists [] rfl rfl ⟨⟨_,rfl,.elt _⟩,⟨_,rfl,.elt _⟩,⟨_,rfl,.frzb (ks:=[none]) rfl (.cons .func .nil) (Fg rfl)⟩,trivial⟩ trivial)) ?_
 refine Al (Ch _ _ []) 0 16 Ay rfl rfl ?_
 exact Df
end Go.Proofs.YtkoflhimdenjaaaGreat
