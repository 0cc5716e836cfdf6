import Derived.Test.YtkoflhimdenjaaaGreatT1
import Derived.Test.YtkoflhimdenjaaaGreatA1
import Derived.Test.YtkoflhimdenjaaaGreatA4
import Derived.Test.YtkoflhimdenjaaaGreatA5
import Derived.Test.YtkoflhimdenjaaaGreatA6
set_option linter.unusedVariables false
set_option linter.unusedSimpArgs false
set_option maxRecDepth 100000
set_option maxHeartbeats 1600000
namespace Go.Proofs.YtkoflhimdenjaaaGreat
open Go.RowKit
theorem bV (e:Af) (c:A7) (r:Af×Int) (G:K7 e c=some r):Fn Tryz.prog 64 0 [.agg (Af.dv e),.agg (A7.dv c)] [] (fun d' b'=>d'=.tup [.agg (Af.dv r.1),vk r.2]/\b'=[]):=by
 unfold K7 at G
 refine Fn.of Tryz.func64 rfl rfl rfl fun w0 I ρ0=>?_
 show B4 _ ⟨w0,I,ρ0,0,0,23⟩ _ _ _
 refine Bk 0 32 Ay fun B=>?_
 refine Ak <| Ca 32 64 B ?_
 refine Aw ?_
 obtain⟨y,hy,G⟩:=Ab G
 refine Dl (Yk _ _ _ hy) ?_
 refine Bi fun B=>?_
 refine Bk 64 80 B fun B=>?_
 refine Cr rfl G (fun h4 G=>?_) fun h4 G=>?_
 refine Ca 80 112 B ?_
 refine Mv Qo xB z43 ?_
 exact Df
 refine C9 ?_
 refine Ca 80 120 B ?_
 refine Aw ?_
 obtain⟨y_2,hy_2,G⟩:=Ab G
 refine Dl (gL _ _ _ hy_2) ?_
 refine Bi fun B=>?_
 refine Ak <| Ca 120 144 B ?_
 refine Aw ?_
 obtain⟨y_3,hy_3,G⟩:=Ab G
 refine Dl (Qb _ _ hy_3) ?_
 refine Bi fun B=>?_
 refine Cr rfl G (fun h8 G=>?_) fun h8 G=>?_
 refine Ca 144 168 B ?_
 refine Mv Qo xB z43 ?_
 exact Df
 refine C9 ?_
 refine Bk 144 168 B fun B=>?_
 exact K0
theorem gM (e:Bb) (r:Bb) (G:Dw e=some r):Fn Tryz.prog 26 0 [.agg (Bb.dv e)] [] (fun d' b'=>d'=.agg [.row 0,.sl 2 (As Bq.enc r.Edges),.sl 5 (As Cf.enc r.Items)]/\b'=[.row 43 9 (As Af.enc r.Endpoints)]):=by
 unfold Dw at G
 refine Fn.of Tryz.func26 rfl rfl rfl fun w0 I ρ0=>?_
 show B4 _ ⟨w0,I,ρ0,0,0,46⟩ _ _ _
 refine Bk 0 16 Ay fun B=>?_
 refine Ca 16 64 B ?_
 refine Aw ?_
 obtain⟨l,hl,G⟩:=Ab G
 refine C1 rfl rfl (Dp tF Bq.enc_len .nil rfl .sl rfl hl rfl) rfl rfl ?_
 refine Mv Xz sC z31 ?_
 refine Bi fun B=>?_
 refine Ak <| Bk 64 96 B fun B=>?_
 refine Aq <| Jp (fun ((x15_1,l_1):Int×List Af)=>mk [(1,.ptr 0 0),(2,.ptr 1 0),(3,.ptr 2 0),(13,.sl 9 (As Af.enc e.Endpoints)),(14,.val (.int .i64 (e.Endpoints.length:Int))),(15,vk x15_1)] [(0,.box (Bb.dv e) 31),(1,.box [.val (.slice none 0 0),.val (.slice none 0 0),.val (.slice none 0 0)] 31),(2,.box [.row 3,.row 4,.val (.slice none 0 0)] 31),(3,.row 43 9 (As Af.enc l_1)),(4,.row 78 2 (As Bq.enc l))] 5) G (Av [(0,0),(1,8),(2,48),(4,32)]) ?_
 rintro⟨x15_1,l_1⟩ m1 o1 G hn1
 replace G:Dw.l1 e l x15_1 l_1=some o1:=G
 show B4 _ _ _ _ (mk _ _ _)
 unfold Dw.l1 at G
 refine Bk 5 13 Ay fun B=>?_
 refine Ak <| Cr rfl G (fun h5 G=>?_) fun h5 G=>?_
 refine C9 ?_
 refine Ak <| Aq <| Ca 13 45 B ?_
 obtain⟨e_2,he_2,G⟩:=Ab G
 refine Aw ?_
 refine Wv he_2 ?_
 refine Bi fun B=>?_
 refine Bu (Ch _ _ []) (by kernel_rfl) [0,1,0,4,12,31,63,127] 45 109 B rfl rfl (by kernel_rfl) ?_
 refine Aw ?_
 obtain⟨y,hy,G⟩:=Ab G
 refine Dl (V8 _ _ hy) ?_
 refine Kx oU z43 aBv ([y]:List Af) Af.enc ?_
 obtain⟨l_2,hl_2,G⟩:=Ab G
 refine Gs (rd:=[3,77]) rfl rfl (Dp oU Af.enc_len .row rfl .row rfl hl_2 rfl) rfl rfl ?_
 refine Bi fun B=>?_
 refine Al (Ch _ _ []) 109 125 B rfl rfl ?_
 refine Bi fun B=>?_
 obtain rfl:=oi_ G
 exact⟨((W (x15_1 + 1),l_2),m1),aBj _,hn1,Av [(0,0),(1,1),(2,2),(3,85),(4,4)]⟩
 refine Jl ?_
 replace G:=Ce G hn1
 refine Ak <| Bk 13 45 B fun B=>?_
 refine Aq <| Jp (fun ((x30_2,l_2_2):Int×List Cf)=>mk [(2,.ptr 0 0),(3,.ptr 1 0),(28,.sl 5 (As Cf.enc e.Items)),(29,.val (.int .i64 (e.Items.length:Int))),(30,vk x30_2)] [(0,.box [.val (.slice none 0 0),.val (.slice none 0 0),.val (.slice none 0 0)] 31),(1,.box [.row 2,.row 3,.row 4] 31),(2,.row 43 9 (As Af.enc l_1)),(3,.row 78 2 (As Bq.enc l)),(4,.row 81 5 (As Cf.enc l_2_2))] 5) G (Av [(0,1),(1,2),(2,3),(3,4)]) ?_
 rintro⟨x30_2,l_2_2⟩ m2 o2 G hn2
 replace G:Dw.l2 e l l_1 x30_2 l_2_2=some o2:=G
 show B4 _ _ _ _ (mk _ _ _)
 unfold Dw.l2 at G
 refine Bk 5 13 Ay fun B=>?_
 refine Ak <| Cr rfl G (fun h11 G=>?_) fun h11 G=>?_
 refine C9 ?_
 refine Ak <| Aq <| Ca 13 45 B ?_
 obtain⟨e_3,he_3,G⟩:=Ab G
 refine Aw ?_
 refine Wv he_3 ?_
 refine Bi fun B=>?_
 refine Ca 45 85 B ?_
 refine Aw ?_
 obtain⟨l_3,hl_3,G⟩:=Ab G
 refine C1 rfl rfl (Dp wO Co.enc_len .nil rfl .sl rfl hl_3 rfl) rfl rfl ?_
 refine Bi fun B=>?_
 refine Ey (σ':=mk [(2,.ptr 0 0),(3,.ptr 1 0),(7,.ptr 2 0),(28,.sl 5 (As Cf.enc e.Items)),(29,.val (.int .i64 (e.Items.length:Int))),(30,vk x30_2)] [(0,.box [.val (.slice none 0 0),.val (.slice none 0 0),.val (.slice none 0 0)] 31),(1,.box [.row 3,.row 4,.row 5] 31),(2,.box [ws e_3.Name,vk e_3.Kind,vk e_3.Purpose,.sl 3 (As Co.enc l_3),vk e_3.Until] 81),(3,.row 43 9 (As Af.enc l_1)),(4,.row 78 2 (As Bq.enc l)),(5,.row 81 5 (As Cf.enc l_2_2))] 6) (Av [(0,0),(1,1),(2,29),(3,2),(4,3),(5,4)]) ?_
 refine Al (Ch _ _ []) 6 62 Ay rfl rfl ?_
 refine Aw ?_
 refine Kx sH z81 aE0 ([(Cf.mk e_3.Name e_3.Kind e_3.Purpose l_3 e_3.Until)]:List Cf) Cf.enc ?_
 obtain⟨l_4,hl_4,G⟩:=Ab G
 refine Gs (rd:=[5,30]) rfl rfl (Dp sH Cf.enc_len .row rfl .row rfl hl_4 rfl) rfl rfl ?_
 refine Bi fun B=>?_
 refine Al (Ch _ _ []) 62 78 B rfl rfl ?_
 refine Bi fun B=>?_
 obtain rfl:=oi_ G
 exact⟨((W (x30_2 + 1),l_4),m2),aBj _,hn2,Av [(0,0),(1,1),(2,3),(3,4),(4,38)]⟩
 refine Jl ?_
 replace G:=Ce G hn2
 refine Bk 13 29 B fun B=>?_
 refine Fj ?_
 obtain rfl:=oi_ G
 exact Ip [(0,2)] ⟨rfl,rfl⟩
theorem dY (e:Bb) (c:A7) (r:Bb×Int) (G:Ge e c=some r):Fn Tryz.prog 38 0 [.agg (Bb.dv e),.agg (A7.dv c)] [] (fun d' b'=>d'=.tup [.agg (Bb.dv r.1),vk r.2]/\b'=[]):=by
 unfold Ge at G
 refine Fn.of Tryz.func38 rfl rfl rfl fun w0 I ρ0=>?_
 show B4 _ ⟨w0,I,ρ0,0,0,45⟩ _ _ _
 refine Bk 0 32 Ay fun B=>?_
 refine Ak <| Bs (ι:=Bool) (fun (x19_1:Bool)=>mk [(2,.ptr 0 0),(3,.ptr 1 0),(4,.ptr 2 0),(19,.val (.bool x19_1))] [(0,.box (Bb.dv e) 31),(1,.box (A7.dv c) 39),(2,.box [.val (.slice none 0 0),.val (.slice none 0 0),.val (.slice none 0 0)] 31)] 3) (fun (x19_1:Bool)=>Ge.j1 e c x19_1=some r) ?_ ?_
 refine Al (Ch _ _ []) 32 120 B rfl rfl ?_
 refine Aw ?_
 rcases Dj G with ⟨h2,G⟩ | ⟨h2,G⟩
 refine Bi fun B=>?_
 exact⟨true,G,Av [(0,0),(1,8),(2,16)]⟩
 refine Bi fun B=>?_
 exact⟨decide ((e.Endpoints.length:Int)<=c.Endpoint),G,Av [(0,0),(1,8),(2,16)]⟩
 rintro x19_1 G
 replace G:Ge.j1 e c x19_1=some r:=G
 show B4 _ _ _ _ (mk _ _ _)
 unfold Ge.j1 at G
 refine Cr rfl G (fun h5 G=>?_) fun h5 G=>?_
 refine Ca 3 27 Ay ?_
 refine Mv Xz sC z31 ?_
 exact Df
 refine C9 ?_
 refine Ak <| Bu (Ch _ _ []) (by kernel_rfl) [0,1,0,4,15,31,0,127,255,511,511,0,3071,8191] 3 115 Ay rfl rfl (by kernel_rfl) ?_
 refine Aw ?_
 obtain⟨e_2,he_2,G⟩:=Ab G
 refine Aw ?_
 refine Wv he_2 ?_
 refine Aw ?_
 obtain⟨y,hy,G⟩:=Ab G
 refine Dl (bV _ _ _ hy) ?_
 refine Bi fun B=>?_
 refine Ak <| Bk 115 131 B fun B=>?_
 refine Cr rfl G (fun h9 G=>?_) fun h9 G=>?_
 refine Ca 131 163 B ?_
 refine Mv Xz sC z31 ?_
 exact Df
 refine C9 ?_
 refine Ca 131 163 B ?_
 refine Aw ?_
 obtain⟨y_2,hy_2,G⟩:=Ab G
 refine H0 (rd:=[]) (ps:=[]) (gs:=[]) false rfl (gM _ _ hy_2) rfl rfl (.cons (.agg (.cons .sl (.cons .sl (.cons .sl .nil)))) .nil) rfl rfl (by intro h; cases h) rfl (by intro h; first | (cases h; done) | exact⟨_,_,⟨rfl,rfl⟩,by simp,by simp⟩) ?_
 rintro _ _ ⟨rfl,rfl⟩
 refine Bi fun B=>?_
 refine Ca 163 219 B ?_
 refine Aw ?_
 obtain⟨e_3,he_3,G⟩:=Ab G
 refine Aw ?_
 refine Uk aBv he_3 (x':=y.1) ?_
 refine G9 fun B=>?_
 refine Bk 219 243 B fun B=>?_
 exact K0
theorem bP (e:Bb) (c:A7) (r:Bb×Int) (G:K8 e c=some r):Fn Tryz.prog 11 0 [.agg (Bb.dv e),.agg (A7.dv c)] [] (fun d' b'=>d'=.tup [.agg (Bb.dv r.1),vk r.2]/\b'=[]):=by
 unfold K8 at G
 refine Fn.of Tryz.func11 rfl rfl rfl fun w0 I ρ0=>?_
 show B4 _ ⟨w0,I,ρ0,0,0,15⟩ _ _ _
 refine Bk 0 32 Ay fun B=>?_
 refine Ak <| Ca 32 56 B ?_
 refine Aw ?_
 obtain⟨y,hy,G⟩:=Ab G
 refine Dl (cC _ _ hy) ?_
 refine Bi fun B=>?_
 refine Cr rfl G (fun h3 G=>?_) fun h3 G=>?_
 refine Ca 56 80 B ?_
 refine Mv Xz sC z31 ?_
 exact Df
 refine C9 ?_
 refine Ca 56 112 B ?_
 refine Aw ?_
 obtain⟨y_2,hy_2,G⟩:=Ab G
 refine Dl (dY _ _ _ hy_2) ?_
 exact Df
theorem I0 (s:ByteArray) (r:Bool) (G:Cj s=some r):Fn Tryz.prog 118 0 [ws s] [] (fun d' b'=>d'=.val (.bool r)/\b'=[]):=by
 unfold Cj at G
 refine Fn.of Tryz.func118 rfl rfl rfl fun w0 I ρ0=>?_
 show B4 _ ⟨w0,I,ρ0,0,0,27⟩ _ _ _
 refine Bk 0 8 Ay fun B=>?_
 refine Ak <| Ca 8 40 B ?_
 refine Aw ?_
 refine C1 rfl rfl (fH S4 kT Yw) rfl rfl ?_
 refine Bi fun B=>?_
 refine Aq <| Jp (fun (x8_1:Int)=>mk [(0,ws s),(6,.sl 1 (As e8 (Iv s))),(7,.val (.int .i64 ((Iv s).length:Int))),(8,vk x8_1)] [] 0) G (Av []) ?_
 rintro x8_1 m1 o1 G hn1
 replace G:Cj.l1 s x8_1=some o1:=G
 show B4 _ _ _ _ (mk _ _ _)
 unfold Cj.l1 at G
 refine Bk 0 8 Ay fun B=>?_
 refine Ak <| Cr rfl G (fun h4 G=>?_) fun h4 G=>?_
 refine C9 ?_
 refine Ak <| Aq <| Ca 8 32 B ?_
 obtain⟨e,he,G⟩:=Ab G
 refine Aw ?_
 refine Rg he ?_
 refine Bi fun B=>?_
 refine Bs (ι:=Bool) (fun (x17_2:Bool)=>mk [(0,ws s),(6,.sl 1 (As e8 (Iv s))),(7,.val (.int .i64 ((Iv s).length:Int))),(8,vk x8_1),(17,.val (.bool x17_2))] [] 0) (fun (x17_2:Bool)=>Cj.j2 x8_1 x17_2=some o1) ?_ ?_
 refine Al (Ch _ _ []) 32 80 B rfl rfl ?_
 refine Aw ?_
 rcases Dj G with ⟨h6,G⟩ | ⟨h6,G⟩
 refine Bi fun B=>?_
 exact⟨true,G,Av []⟩
 refine Bi fun B=>?_
 exact⟨decide (126 < (e.toNat:Int)),G,Av []⟩
 rintro x17_2 G
 replace G:Cj.j2 x8_1 x17_2=some o1:=G
 show B4 _ _ _ _ (mk _ _ _)
 unfold Cj.j2 at G
 refine Cr rfl G (fun h9 G=>?_) fun h9 G=>?_
 refine Bk 0 8 Ay fun B=>?_
 refine Fj ?_
 replace G:=Ce G hn1
 exact Ts
 refine C9 ?_
 refine Al (Ch _ _ []) 0 16 Ay rfl rfl ?_
 refine Bi fun B=>?_
 obtain rfl:=oi_ G
 exact⟨(W (x8_1 + 1),m1),aBj _,hn1,Av []⟩
 refine Jl ?_
 replace G:=Ce G hn1
 refine Ca 8 80 B ?_
 refine Aw ?_
 refine C1 rfl rfl (Qa S4) rfl rfl ?_
 refine Aw ?_
 rcases Dj G with ⟨h12,G⟩ | ⟨h12,G⟩
 refine Aw ?_
 refine C1 (Dx rfl rfl h12) rfl (Qa S4) rfl rfl ?_
 exact Df
 exact Df
theorem bG  (r:(List Cc)) (G:Oh=some r):Fn Tryz.prog 202 0 [] [] (fun d' b'=>d'=.agg [.val (.string ((r[0]!).name)),.val (.int .i64 ((r[0]!).kind)),.val (.int .i64 ((r[0]!).way)),.sl 1 (As eI ((r[0]!).sizes)),.sl 1 (As eI ((r[0]!).strengths)),.val (.string ((r[1]!).name)),.val (.int .i64 ((r[1]!).kind)),.val (.int .i64 ((r[1]!).way)),.sl 1 (As eI ((r[1]!).sizes)),.sl 1 (As eI ((r[1]!).strengths)),.val (.string ((r[2]!).name)),.val (.int .i64 ((r[2]!).kind)),.val (.int .i64 ((r[2]!).way)),.sl 1 (As eI ((r[2]!).sizes)),.sl 1 (As eI ((r[2]!).strengths)),.val (.string ((r[3]!).name)),.val (.int .i64 ((r[3]!).kind)),.val (.int .i64 ((r[3]!).way)),.sl 1 (As eI ((r[3]!).sizes)),.sl 1 (As eI ((r[3]!).strengths)),.val (.string ((r[4]!).name)),.val (.int .i64 ((r[4]!).kind)),.val (.int .i64 ((r[4]!).way)),.sl 1 (As eI ((r[4]!).sizes)),.sl 1 (As eI ((r[4]!).strengths)),.val (.string ((r[5]!).name)),.val (.int .i64 ((r[5]!).kind)),.val (.int .i64 ((r[5]!).way)),.sl 1 (As eI ((r[5]!).sizes)),.sl 1 (As eI ((r[5]!).strengths)),.val (.string ((r[6]!).name)),.val (.int .i64 ((r[6]!).kind)),.val (.int .i64 ((r[6]!).way)),.sl 1 (As eI ((r[6]!).sizes)),.sl 1 (As eI ((r[6]!).strengths)),.val (.string ((r[7]!).name)),.val (.int .i64 ((r[7]!).kind)),.val (.int .i64 ((r[7]!).way)),.sl 1 (As eI ((r[7]!).sizes)),.sl 1 (As eI ((r[7]!).strengths)),.val (.string ((r[8]!).name)),.val (.int .i64 ((r[8]!).kind)),.val (.int .i64 ((r[8]!).way)),.sl 1 (As eI ((r[8]!).sizes)),.sl 1 (As eI ((r[8]!).strengths)),.val (.string ((r[9]!).name)),.val (.int .i64 ((r[9]!).kind)),.val (.int .i64 ((r[9]!).way)),.sl 1 (As eI ((r[9]!).sizes)),.sl 1 (As eI ((r[9]!).strengths)),.val (.string ((r[10]!).name)),.val (.int .i64 ((r[10]!).kind)),.val (.int .i64 ((r[10]!).way)),.sl 1 (As eI ((r[10]!).sizes)),.sl 1 (As eI ((r[10]!).strengths)),.val (.string ((r[11]!).name)),.val (.int .i64 ((r[11]!).kind)),.val (.int .i64 ((r[11]!).way)),.sl 1 (As eI ((r[11]!).sizes)),.sl 1 (As eI ((r[11]!).strengths)),.val (.string ((r[12]!).name)),.val (.int .i64 ((r[12]!).kind)),.val (.int .i64 ((r[12]!).way)),.sl 1 (As eI ((r[12]!).sizes)),.sl 1 (As eI ((r[12]!).strengths)),.val (.string ((r[13]!).name)),.val (.int .i64 ((r[13]!).kind)),.val (.int .i64 ((r[13]!).way)),.sl 1 (As eI ((r[13]!).sizes)),.sl 1 (As eI ((r[13]!).strengths)),.val (.string ((r[14]!).name)),.val (.int .i64 ((r[14]!).kind)),.val (.int .i64 ((r[14]!).way)),.sl 1 (As eI ((r[14]!).sizes)),.sl 1 (As eI ((r[14]!).strengths)),.val (.string ((r[15]!).name)),.val (.int .i64 ((r[15]!).kind)),.val (.int .i64 ((r[15]!).way)),.sl 1 (As eI ((r[15]!).sizes)),.sl 1 (As eI ((r[15]!).strengths)),.val (.string ((r[16]!).name)),.val (.int .i64 ((r[16]!).kind)),.val (.int .i64 ((r[16]!).way)),.sl 1 (As eI ((r[16]!).sizes)),.sl 1 (As eI ((r[16]!).strengths)),.val (.string ((r[17]!).name)),.val (.int .i64 ((r[17]!).kind)),.val (.int .i64 ((r[17]!).way)),.sl 1 (As eI ((r[17]!).sizes)),.sl 1 (As eI ((r[17]!).strengths)),.val (.string ((r[18]!).name)),.val (.int .i64 ((r[18]!).kind)),.val (.int .i64 ((r[18]!).way)),.sl 1 (As eI ((r[18]!).sizes)),.sl 1 (As eI ((r[18]!).strengths)),.val (.string ((r[19]!).name)),.val (.int .i64 ((r[19]!).kind)),.val (.int .i64 ((r[19]!).way)),.sl 1 (As eI ((r[19]!).sizes)),.sl 1 (As eI ((r[19]!).strengths)),.val (.string ((r[20]!).name)),.val (.int .i64 ((r[20]!).kind)),.val (.int .i64 ((r[20]!).way)),.sl 1 (As eI ((r[20]!).sizes)),.sl 1 (As eI ((r[20]!).strengths)),.val (.string ((r[21]!).name)),.val (.int .i64 ((r[21]!).kind)),.val (.int .i64 ((r[21]!).way)),.sl 1 (As eI ((r[21]!).sizes)),.sl 1 (As eI ((r[21]!).strengths)),.val (.string ((r[22]!).name)),.val (.int .i64 ((r[22]!).kind)),.val (.int .i64 ((r[22]!).way)),.sl 1 (As eI ((r[22]!).sizes)),.sl 1 (As eI ((r[22]!).strengths))]/\b'=[]):=by
 unfold Oh at G
 refine Fn.of Tryz.func202 rfl rfl rfl fun w0 I ρ0=>?_
 show B4 _ ⟨w0,I,ρ0,0,0,46⟩ _ _ _
 refine Bk 0 8 Ay fun B=>?_
 refine Ca 8 376 B ?_
 refine Kx F0 z3 Oq ([18]:List Int) eI ?_
 refine C1 rfl rfl (.build (r:=[.val (.string (⟨#[109,100,53]⟩:ByteArray)),.val (.int .i64 1),.val (.int .i64 0),.val (.slice none 0 0),.row 8]) G0 Kt Nz (by kernel_rfl) rfl) rfl rfl ?_
 refine Kx F0 z3 Oq ([60]:List Int) eI ?_
 refine C1 rfl rfl (.build (r:=[.val (.string (⟨#[115,104,97,49]⟩:ByteArray)),.val (.int .i64 1),.val (.int .i64 0),.val (.slice none 0 0),.row 24]) G0 Kt Nz (by kernel_rfl) rfl) rfl rfl ?_
 refine Kx F0 z3 Oq ([128]:List Int) eI ?_
 refine C1 rfl rfl (.build (r:=[.val (.string (⟨#[115,104,97,50,53,54]⟩:ByteArray)),.val (.int .i64 1),.val (.int .i64 0),.val (.slice none 0 0),.row 40]) G0 Kt Nz (by kernel_rfl) rfl) rfl rfl ?_
 refine Kx F0 z3 Oq ([192]:List Int) eI ?_
 refine C1 rfl rfl (.build (r:=[.val (.string (⟨#[115,104,97,51,56,52]⟩:ByteArray)),.val (.int .i64 1),.val (.int .i64 0),.val (.slice none 0 0),.row 56]) G0 Kt Nz (by kernel_rfl) rfl) rfl rfl ?_
 refine C1 rfl rfl (.build (r:=[.val (.string (⟨#[114,115,97]⟩:ByteArray)),.val (.int .i64 2),.val (.int .i64 1),.val (.slice none 0 0),.val (.slice none 0 0)]) G0 Kt Nz (by kernel_rfl) rfl) rfl rfl ?_
 refine C1 rfl rfl (.build (r:=[.val (.string (⟨#[100,115,97]⟩:ByteArray)),.val (.int .i64 2),.val (.int .i64 1),.val (.slice none 0 0),.val (.slice none 0 0)]) G0 Kt Nz (by kernel_rfl) rfl) rfl rfl ?_
 refine C1 rfl rfl (.build (r:=[.val (.string (⟨#[101,99,100,115,97]⟩:ByteArray)),.val (.int .i64 2),.val (.int .i64 2),.val (.slice none 0 0),.val (.slice none 0 0)]) G0 Kt Nz (by kernel_rfl) rfl) rfl rfl ?_
 refine Kx F0 z3 Oq ([128]:List Int) eI ?_
 refine C1 rfl rfl (.build (r:=[.val (.string (⟨#[101,100,50,53,53,49,57]⟩:ByteArray)),.val (.int .i64 2),.val (.int .i64 0),.val (.slice none 0 0),.row 96]) G0 Kt Nz (by kernel_rfl) rfl) rfl rfl ?_
 refine Kx F0 z3 Oq ([44,65,87]:List Int) eI ?_
 refine Kx F0 z3 Oq ([128,192,256]:List Int) eI ?_
 refine C1 rfl rfl (.build (r:=[.val (.string (⟨#[109,108,100,115,97]⟩:ByteArray)),.val (.int .i64 2),.val (.int .i64 3),.row 112,.row 120]) G0 Kt Nz (by kernel_rfl) rfl) rfl rfl ?_
 refine C1 rfl rfl (.build (r:=[.val (.string (⟨#[114,115,97,107,120]⟩:ByteArray)),.val (.int .i64 3),.val (.int .i64 1),.val (.slice none 0 0),.val (.slice none 0 0)]) G0 Kt Nz (by kernel_rfl) rfl) rfl rfl ?_
 refine C1 rfl rfl (.build (r:=[.val (.string (⟨#[100,104,101]⟩:ByteArray)),.val (.int .i64 3),.val (.int .i64 1),.val (.slice none 0 0),.val (.slice none 0 0)]) G0 Kt Nz (by kernel_rfl) rfl) rfl rfl ?_
 refine C1 rfl rfl (.build (r:=[.val (.string (⟨#[101,99,100,104,101]⟩:ByteArray)),.val (.int .i64 3),.val (.int .i64 2),.val (.slice none 0 0),.val (.slice none 0 0)]) G0 Kt Nz (by kernel_rfl) rfl) rfl rfl ?_
 refine Kx F0 z3 Oq ([512,768,1024]:List Int) eI ?_
 refine Kx F0 z3 Oq ([128,192,256]:List Int) eI ?_
 refine C1 rfl rfl (.build (r:=[.val (.string (⟨#[109,108,107,101,109]⟩:ByteArray)),.val (.int .i64 3),.val (.int .i64 3),.row 160,.row 168]) G0 Kt Nz (by kernel_rfl) rfl) rfl rfl ?_
 refine Kx F0 z3 Oq ([40,128]:List Int) eI ?_
 refine Kx F0 z3 Oq ([40,60]:List Int) eI ?_
 refine C1 rfl rfl (.build (r:=[.val (.string (⟨#[114,99,52]⟩:ByteArray)),.val (.int .i64 4),.val (.int .i64 3),.row 184,.row 192]) G0 Kt Nz (by kernel_rfl) rfl) rfl rfl ?_
 refine Kx F0 z3 Oq ([112,168]:List Int) eI ?_
 refine Kx F0 z3 Oq ([80,112]:List Int) eI ?_
 refine C1 rfl rfl (.build (r:=[.val (.string (⟨#[100,101,115,51]⟩:ByteArray)),.val (.int .i64 4),.val (.int .i64 3),.row 208,.row 216]) G0 Kt Nz (by kernel_rfl) rfl) rfl rfl ?_
 refine Kx F0 z3 Oq ([128,256]:List Int) eI ?_
 refine Kx F0 z3 Oq ([128,256]:List Int) eI ?_
 refine C1 rfl rfl (.build (r:=[.val (.string (⟨#[97,101,115,99,98,99]⟩:ByteArray)),.val (.int .i64 4),.val (.int .i64 3),.row 232,.row 240]) G0 Kt Nz (by kernel_rfl) rfl) rfl rfl ?_
 refine Kx F0 z3 Oq ([128,256]:List Int) eI ?_
 refine Kx F0 z3 Oq ([128,256]:List Int) eI ?_
 refine C1 rfl rfl (.build (r:=[.val (.string (⟨#[97,101,115,103,99,109]⟩:ByteArray)),.val (.int .i64 4),.val (.int .i64 3),.row 256,.row 264]) G0 Kt Nz (by kernel_rfl) rfl) rfl rfl ?_
 refine Kx F0 z3 Oq ([256]:List Int) eI ?_
 refine C1 rfl rfl (.build (r:=[.val (.string (⟨#[99,104,97,99,104,97]⟩:ByteArray)),.val (.int .i64 4),.val (.int .i64 0),.val (.slice none 0 0),.row 280]) G0 Kt Nz (by kernel_rfl) rfl) rfl rfl ?_
 refine Kx F0 z3 Oq ([64]:List Int) eI ?_
 refine C1 rfl rfl (.build (r:=[.val (.string (⟨#[104,109,97,99,109,100,53]⟩:ByteArray)),.val (.int .i64 5),.val (.int .i64 0),.val (.slice none 0 0),.row 296]) G0 Kt Nz (by kernel_rfl) rfl) rfl rfl ?_
 refine Kx F0 z3 Oq ([80]:List Int) eI ?_
 refine C1 rfl rfl (.build (r:=[.val (.string (⟨#[104,109,97,99,115,104,97,49]⟩:ByteArray)),.val (.int .i64 5),.val (.int .i64 0),.val (.slice none 0 0),.row 312]) G0 Kt Nz (by kernel_rfl) rfl) rfl rfl ?_
 refine Kx F0 z3 Oq ([128]:List Int) eI ?_
 refine C1 rfl rfl (.build (r:=[.val (.string (⟨#[104,109,97,99,115,104,97,50,53,54]⟩:ByteArray)),.val (.int .i64 5),.val (.int .i64 0),.val (.slice none 0 0),.row 328]) G0 Kt Nz (by kernel_rfl) rfl) rfl rfl ?_
 refine Kx F0 z3 Oq ([256]:List Int) eI ?_
 refine C1 rfl rfl (.build (r:=[.val (.string (⟨#[97,101,97,100]⟩:ByteArray)),.val (.int .i64 5),.val (.int .i64 0),.val (.slice none 0 0),.row 344]) G0 Kt Nz (by kernel_rfl) rfl) rfl rfl ?_
 refine C1 rfl rfl (.buildArr (sz:=5) (r:=[.val (.string (⟨#[]⟩:ByteArray)),.val (.int .i64 0),.val (.int .i64 0),.val (.slice none 0 0),.val (.slice none 0 0),.val (.string (⟨#[109,100,53]⟩:ByteArray)),.val (.int .i64 1),.val (.int .i64 0),.val (.slice none 0 0),.row 8,.val (.string (⟨#[115,104,97,49]⟩:ByteArray)),.val (.int .i64 1),.val (.int .i64 0),.val (.slice none 0 0),.row 24,.val (.string (⟨#[115,104,97,50,53,54]⟩:ByteArray)),.val (.int .i64 1),.val (.int .i64 0),.val (.slice none 0 0),.row 40,.val (.string (⟨#[115,104,97,51,56,52]⟩:ByteArray)),.val (.int .i64 1),.val (.int .i64 0),.val (.slice none 0 0),.row 56,.val (.string (⟨#[114,115,97]⟩:ByteArray)),.val (.int .i64 2),.val (.int .i64 1),.val (.slice none 0 0),.val (.slice none 0 0),.val (.string (⟨#[100,115,97]⟩:ByteArray)),.val (.int .i64 2),.val (.int .i64 1),.val (.slice none 0 0),.val (.slice none 0 0),.val (.string (⟨#[101,99,100,115,97]⟩:ByteArray)),.val (.int .i64 2),.val (.int .i64 2),.val (.slice none 0 0),.val (.slice none 0 0),.val (.string (⟨#[101,100,50,53,53,49,57]⟩:ByteArray)),.val (.int .i64 2),.val (.int .i64 0),.val (.slice none 0 0),.row 96,.val (.string (⟨#[109,108,100,115,97]⟩:ByteArray)),.val (.int .i64 2),.val (.int .i64 3),.row 112,.row 120,.val (.string (⟨#[114,115,97,107,120]⟩:ByteArray)),.val (.int .i64 3),.val (.int .i64 1),.val (.slice none 0 0),.val (.slice none 0 0),.val (.string (⟨#[100,104,101]⟩:ByteArray)),.val (.int .i64 3),.val (.int .i64 1),.val (.slice none 0 0),.val (.slice none 0 0),.val (.string (⟨#[101,99,100,104,101]⟩:ByteArray)),.val (.int .i64 3),.val (.int .i64 2),.val (.slice none 0 0),.val (.slice none 0 0),.val (.string (⟨#[109,108,107,101,109]⟩:ByteArray)),.val (.int .i64 3),.val (.int .i64 3),.row 160,.row 168,.val (.string (⟨#[114,99,52]⟩:ByteArray)),.val (.int .i64 4),.val (.int .i64 3),.row 184,.row 192,.val (.string (⟨#[100,101,115,51]⟩:ByteArray)),.val (.int .i64 4),.val (.int .i64 3),.row 208,.row 216,.val (.string (⟨#[97,101,115,99,98,99]⟩:ByteArray)),.val (.int .i64 4),.val (.int .i64 3),.row 232,.row 240,.val (.string (⟨#[97,101,115,103,99,109]⟩:ByteArray)),.val (.int .i64 4),.val (.int .i64 3),.row 256,.row 264,.val (.string (⟨#[99,104,97,99,104,97]⟩:ByteArray)),.val (.int .i64 4),.val (.int .i64 0),.val (.slice none 0 0),.row 280,.val (.string (⟨#[104,109,97,99,109,100,53]⟩:ByteArray)),.val (.int .i64 5),.val (.int .i64 0),.val (.slice none 0 0),.row 296,.val (.string (⟨#[104,109,97,99,115,104,97,49]⟩:ByteArray)),.val (.int .i64 5),.val (.int .i64 0),.val (.slice none 0 0),.row 312,.val (.string (⟨#[104,109,97,99,115,104,97,50,53,54]⟩:ByteArray)),.val (.int .i64 5),.val (.int .i64 0),.val (.slice none 0 0),.row 328,.val (.string (⟨#[97,101,97,100]⟩:ByteArray)),.val (.int .i64 5),.val (.int .i64 0),.val (.slice none 0 0),.row 344]) qM (by kernel_rfl) aGs (by kernel_rfl) rfl) rfl rfl ?_
 exact Df
theorem V5 (alg:Int) (r:Cc×Bool) (G:En alg=some r):Fn Tryz.prog 179 0 [vk alg] [] (fun d' b'=>d'=.tup [.agg (Cc.dv r.1),.val (.bool r.2)]/\b'=[]):=by
 unfold En at G
 refine Fn.of Tryz.func179 rfl rfl rfl fun w0 I ρ0=>?_
 show B4 _ ⟨w0,I,ρ0,0,0,14⟩ _ _ _
 refine Bk 0 16 Ay fun B=>?_
 refine Ak <| Bs (ι:=Bool) (fun (x9_1:Bool)=>mk [(0,vk alg),(2,.ptr 0 0),(9,.val (.bool x9_1))] [(0,.box [.val (.string (⟨#[]⟩:ByteArray)),.val (.int .i64 0),.val (.int .i64 0),.val (.slice none 0 0),.val (.slice none 0 0)] 215)] 1) (fun (x9_1:Bool)=>En.j1 alg x9_1=some r) ?_ ?_
 refine Al (Ch _ _ []) 16 64 B rfl rfl ?_
 refine Aw ?_
 rcases Dj G with ⟨h2,G⟩ | ⟨h2,G⟩
 refine Bi fun B=>?_
 exact⟨true,G,Av [(0,0)]⟩
 refine Bi fun B=>?_
 exact⟨decide (22 < alg),G,Av [(0,0)]⟩
 rintro x9_1 G
 replace G:En.j1 alg x9_1=some r:=G
 show B4 _ _ _ _ (mk _ _ _)
 unfold En.j1 at G
 refine Cr rfl G (fun h5 G=>?_) fun h5 G=>?_
 refine Ca 1 25 Ay ?_
 refine Mv G0 Kt Nz ?_
 exact Df
 refine C9 ?_
 refine Ca 1 41 Ay ?_
 obtain⟨y,hy,G⟩:=Ab G
 refine Dl (bG _ hy) ?_
 refine Aw ?_
 obtain⟨e,he,G⟩:=Ab G
 refine C1 rfl rfl (cJ (f:=Cc.enc) (L:=(aGq 23 y)) qM zV Cc.enc_len rfl rfl he (d2:=[ws e.name,vk e.kind,vk e.way,.sl 1 (As eI e.sizes),.sl 1 (As eI e.strengths)]) rfl) rfl rfl ?_
 exact Df
theorem Wk (bits:Int) (r:Int) (G:Dm bits=some r):Fn Tryz.prog 195 0 [vk bits] [] (fun d' b'=>d'=vk r/\b'=[]):=by
 unfold Dm at G
 refine Fn.of Tryz.func195 rfl rfl rfl fun w0 I ρ0=>?_
 show B4 _ ⟨w0,I,ρ0,0,0,21⟩ _ _ _
 refine Bk 0 8 Ay fun B=>?_
 refine Ak <| Ca 8 64 B ?_
 refine C1 rfl rfl (.buildArr (sz:=1) (r:=[.val (.int .i64 1024),.val (.int .i64 56)]) Vd (by kernel_rfl) pV (by kernel_rfl) rfl) rfl rfl ?_
 refine C1 rfl rfl (.buildArr (sz:=1) (r:=[.val (.int .i64 2048),.val (.int .i64 80)]) Vd (by kernel_rfl) pV (by kernel_rfl) rfl) rfl rfl ?_
 refine C1 rfl rfl (.buildArr (sz:=1) (r:=[.val (.int .i64 3072),.val (.int .i64 112)]) Vd (by kernel_rfl) pV (by kernel_rfl) rfl) rfl rfl ?_
 refine C1 rfl rfl (.buildArr (sz:=1) (r:=[.val (.int .i64 7680),.val (.int .i64 128)]) Vd (by kernel_rfl) pV (by kernel_rfl) rfl) rfl rfl ?_
 refine C1 rfl rfl (.buildArr (sz:=1) (r:=[.val (.int .i64 15360),.val (.int .i64 192)]) Vd (by kernel_rfl) pV (by kernel_rfl) rfl) rfl rfl ?_
 refine C1 rfl rfl (.buildArr (sz:=2) (r:=[.val (.int .i64 1024),.val (.int .i64 56),.val (.int .i64 2048),.val (.int .i64 80),.val (.int .i64 3072),.val (.int .i64 112),.val (.int .i64 7680),.val (.int .i64 128),.val (.int .i64 15360),.val (.int .i64 192)]) tP (by kernel_rfl) aFz (by kernel_rfl) rfl) rfl rfl ?_
 refine Bi fun B=>?_
 refine Aq <| Jp (fun (x11_1:Int)=>mk [(0,vk bits),(10,.agg [.val (.int .i64 1024),.val (.int .i64 56),.val (.int .i64 2048),.val (.int .i64 80),.val (.int .i64 3072),.val (.int .i64 112),.val (.int .i64 7680),.val (.int .i64 128),.val (.int .i64 15360),.val (.int .i64 192)]),(11,vk x11_1)] [] 0) G (Av []) ?_
 rintro x11_1 m1 o1 G hn1
 replace G:Dm.l1 bits x11_1=some o1:=G
 show B4 _ _ _ _ (mk _ _ _)
 unfold Dm.l1 at G
 refine Bk 0 8 Ay fun B=>?_
 refine Ak <| Cr rfl G (fun h4 G=>?_) fun h4 G=>?_
 refine C9 ?_
 refine Ak <| Aq <| Ca 8 32 B ?_
 obtain⟨e,he,G⟩:=Ab G
 refine C1 rfl rfl (cJ (f:=(eA 2 eI)) (L:=([([1024,56]:List Int),([2048,80]:List Int),([3072,112]:List Int),([7680,128]:List Int),([15360,192]:List Int)]:List (List Int))) tP zS (aC8 Ka) rfl rfl he (d2:=[.val (.int .i64 (e[0]!)),.val (.int .i64 (e[1]!))]) rfl) rfl rfl ?_
 refine Bi fun B=>?_
 refine Ca 32 64 B ?_
 refine Aw ?_
 refine Gs (rd:=[16]) rfl rfl (.idxA (j:=0) Vd Sq rfl (by decide)) rfl rfl ?_
 refine Bi fun B=>?_
 refine Cr rfl G (fun h7 G=>?_) fun h7 G=>?_
 refine Ca 64 88 B ?_
 refine Gs (rd:=[16]) rfl rfl (.idxA (j:=1) Vd Sq rfl (by decide)) rfl rfl ?_
 refine Bi fun B=>?_
 refine Fj ?_
 replace G:=Ce G hn1
 exact Ts
 refine C9 ?_
 refine Al (Ch _ _ []) 64 80 B rfl rfl ?_
 refine Bi fun B=>?_
 obtain rfl:=oi_ G
 exact⟨(W (x11_1 + 1),m1),aBj _,hn1,Av []⟩
 refine Jl ?_
 replace G:=Ce G hn1
 refine Bk 8 16 B fun B=>?_
 exact K0
theorem U5 (u:Ar) (r:Int) (G:Ba u=some r):Fn Tryz.prog 161 0 [.agg [vk u.Alg,vk u.Bits]] [] (fun d' b'=>d'=vk r/\b'=[]):=by
 unfold Ba at G
 refine Fn.of Tryz.func161 rfl rfl rfl fun w0 I ρ0=>?_
 show B4 _ ⟨w0,I,ρ0,0,0,61⟩ _ _ _
 refine Bk 0 16 Ay fun B=>?_
 refine Ca 16 88 B ?_
 refine Aw ?_
 obtain⟨y,hy,G⟩:=Ab G
 refine Dl (V5 _ _ hy) ?_
 refine Bi fun B=>?_
 refine Ak <| Bk 88 104 B fun B=>?_
 refine Cr rfl G (fun h4 G=>?_) fun h4 G=>?_
 refine Ca 104 112 B ?_
 exact Df
 refine C9 ?_
 refine Ak <| Bk 104 120 B fun B=>?_
 refine Aq <| Bk 120 136 B fun B=>?_
 refine Cr rfl G (fun h8 G=>?_) fun h8 G=>?_
 refine Bk 136 160 B fun B=>?_
 refine Cr rfl G (fun h10 G=>?_) fun h10 G=>?_
 refine Ca 160 200 B ?_
 refine Aw ?_
 obtain⟨e,he,G⟩:=Ab G
 refine Aw ?_
 refine Rg he ?_
 exact Df
 refine C9 ?_
 refine Bk 160 168 B fun B=>?_
 exact K0
 refine Bk 136 152 B fun B=>?_
 refine Cr rfl G (fun h13 G=>?_) fun h13 G=>?_
 refine Bs (ι:=Bool) (fun (x34_1:Bool)=>mk [(1,.ptr 0 0),(34,.val (.bool x34_1))] [(0,.box [vk u.Alg,vk u.Bits] 34)] 1) (fun (x34_1:Bool)=>Ba.j1 u x34_1=some r) ?_ ?_
 refine Al (Ch _ _ []) 152 216 B rfl rfl ?_
 refine Aw ?_
 rcases Dj G with ⟨h14,G⟩ | ⟨h14,G⟩
 refine Bi fun B=>?_
 exact⟨decide (u.Bits<=16384),G,Av [(0,0)]⟩
 refine Bi fun B=>?_
 exact⟨false,G,Av [(0,0)]⟩
 rintro x34_1 G
 replace G:Ba.j1 u x34_1=some r:=G
 show B4 _ _ _ _ (mk _ _ _)
 unfold Ba.j1 at G
 refine Cr rfl G (fun h17 G=>?_) fun h17 G=>?_
 refine Ca 1 33 Ay ?_
 refine Aw ?_
 obtain⟨y_2,hy_2,G⟩:=Ab G
 refine Dl (Wk _ _ hy_2) ?_
 exact Df
 refine C9 ?_
 refine Bk 1 9 Ay fun B=>?_
 exact K0
 refine Bk 152 168 B fun B=>?_
 refine Cr rfl G (fun h20 G=>?_) fun h20 G=>?_
 refine Ca 168 200 B ?_
 refine Kx F0 z3 Oq ([160,224,256,384,521]:List Int) eI ?_
 refine Aw ?_
 obtain⟨y_3,hy_3,G⟩:=Ab G
 refine Ki [168] [] [] true (It _ _ _ hy_3) ?_
 refine G9 fun B=>?_
 refine Cr rfl G (fun h22 G=>?_) fun h22 G=>?_
 refine Ca 200 232 B ?_
 refine Aw ?_
 obtain⟨q,hq,G⟩:=Ab G
 refine C1 rfl rfl (Sx hq) rfl rfl ?_
 exact Df
 refine C9 ?_
 refine Bk 200 208 B fun B=>?_
 exact K0
 refine Bk 168 184 B fun B=>?_
 refine Cr rfl G (fun h25 G=>?_) fun h25 G=>?_
 refine Ca 184 232 B ?_
 refine Aw ?_
 obtain⟨y_4,hy_4,G⟩:=Ab G
 refine Dl (O0 _ _ _ hy_4) ?_
 refine Bi fun B=>?_
 refine Bk 232 248 B fun B=>?_
 refine Cr rfl G (fun h28 G=>?_) fun h28 G=>?_
 refine Ca 248 296 B ?_
 refine Aw ?_
 obtain⟨e_2,he_2,G⟩:=Ab G
 refine Aw ?_
 refine Rg he_2 ?_
 exact Df
 refine C9 ?_
 refine Bk 248 256 B fun B=>?_
 exact K0
 refine C9 ?_
 refine Bk 184 192 B fun B=>?_
 exact K0
theorem Ld (u:Ar) (r:Bool) (G:Gq u=some r):Fn Tryz.prog 119 0 [.agg [vk u.Alg,vk u.Bits]] [] (fun d' b'=>d'=.val (.bool r)/\b'=[]):=by
 unfold Gq at G
 refine Fn.of Tryz.func119 rfl rfl rfl fun w0 I ρ0=>?_
 show B4 _ ⟨w0,I,ρ0,0,0,6⟩ _ _ _
 refine Bk 0 16 Ay fun B=>?_
 refine Ca 16 48 B ?_
 refine Aw ?_
 obtain⟨y,hy,G⟩:=Ab G
 refine Dl (U5 _ _ hy) ?_
 exact Df
theorem Ls (alg:Int) (r:Int) (G:G8 alg=some r):Fn Tryz.prog 137 0 [vk alg] [] (fun d' b'=>d'=vk r/\b'=[]):=by
 unfold G8 at G
 refine Fn.of Tryz.func137 rfl rfl rfl fun w0 I ρ0=>?_
 show B4 _ ⟨w0,I,ρ0,0,0,12⟩ _ _ _
 refine Bk 0 8 Ay fun B=>?_
 refine Ca 8 72 B ?_
 refine Aw ?_
 obtain⟨y,hy,G⟩:=Ab G
 refine Dl (V5 _ _ hy) ?_
 refine Bi fun B=>?_
 refine Bk 72 96 B fun B=>?_
 exact K0
theorem Vp (f:Aa) (r:Bool) (G:B7 f=some r):Fn Tryz.prog 134 0 [.agg (Aa.dv f)] [] (fun d' b'=>d'=.val (.bool r)/\b'=[]):=by
 unfold B7 at G
 refine Fn.of Tryz.func134 rfl rfl rfl fun w0 I ρ0=>?_
 show B4 _ ⟨w0,I,ρ0,0,0,114⟩ _ _ _
 refine Bk 0 16 Ay fun B=>?_
 refine Bs (ι:=Bool) (fun (bare_1:Bool)=>mk [(1,.ptr 0 0),(3,.val (.bool bare_1))] [(0,.box (Aa.dv f) 48)] 1) (fun (bare_1:Bool)=>B7.j1 f bare_1=some r) ?_ ?_
 refine Al (Ch _ _ []) 16 96 B rfl rfl ?_
 refine Aw ?_
 refine Mv Kv Qd X1 ?_
 refine C1 rfl rfl (Pl f.Use (Ar.mk 0 0)) rfl rfl ?_
 refine Aw ?_
 rcases Dj G with ⟨h2,G⟩ | ⟨h2,G⟩
 refine Bi fun B=>?_
 exact⟨decide (f.Text=(⟨#[]⟩:ByteArray)),G,Av [(0,0)]⟩
 refine Bi fun B=>?_
 exact⟨false,G,Av [(0,0)]⟩
 rintro bare_1 G
 replace G:B7.j1 f bare_1=some r:=G
 show B4 _ _ _ _ (mk _ _ _)
 unfold B7.j1 at G
 refine Ak <| Bk 1 17 Ay fun B=>?_
 refine Aq <| Bs (ι:=Bool) (fun (x15_2:Bool)=>mk [(1,.ptr 0 0),(3,.val (.bool bare_1)),(14,vk f.Kind),(15,.val (.bool x15_2))] [(0,.box (Aa.dv f) 48)] 1) (fun (x15_2:Bool)=>B7.j2 f bare_1 x15_2=some r) ?_ ?_
 refine Bk 17 33 B fun B=>?_
 refine Cr rfl G (fun h7 G=>?_) fun h7 G=>?_
 refine C9 ?_
 exact⟨decide (f.Kind=1),G,Av [(0,0)]⟩
 refine Al (Ch _ _ []) 33 49 B rfl rfl ?_
 refine Bi fun B=>?_
 exact⟨decide (f.Kind=8),G,Av [(0,0)]⟩
 rintro x15_2 G
 replace G:B7.j2 f bare_1 x15_2=some r:=G
 show B4 _ _ _ _ (mk _ _ _)
 unfold B7.j2 at G
 refine Cr rfl G (fun h9 G=>?_) fun h9 G=>?_
 refine Ca 1 113 Ay ?_
 refine Aw ?_
 obtain⟨y,hy,G⟩:=Ab G
 refine Dl (Ld _ _ hy) ?_
 refine Aw ?_
 rcases Dj G with ⟨h10,G⟩ | ⟨h10,G⟩
 refine Aw ?_
 rcases Dj G with ⟨h11,G⟩ | ⟨h11,G⟩
 exact Df
 exact Df
 exact Df
 refine Bk 1 17 Ay fun B=>?_
 refine Cr rfl G (fun h16 G=>?_) fun h16 G=>?_
 refine Ca 17 113 B ?_
 refine Aw ?_
 rcases Dj G with ⟨h17,G⟩ | ⟨h17,G⟩
 refine Aw ?_
 rcases Dj G with ⟨h18,G⟩ | ⟨h18,G⟩
 exact Df
 exact Df
 exact Df
 refine Bk 17 33 B fun B=>?_
 refine Cr rfl G (fun h23 G=>?_) fun h23 G=>?_
 refine Ca 33 241 B ?_
 refine Aw ?_
 obtain⟨y_2,hy_2,G⟩:=Ab G
 refine Dl (Ld _ _ hy_2) ?_
 refine Aw ?_
 rcases Dj G with ⟨h24,G⟩ | ⟨h24,G⟩
 refine Aw ?_
 obtain⟨y_3,hy_3,G⟩:=Ab G
 refine Dl (Ls _ _ hy_3) ?_
 refine Aw ?_
 rcases Dj G with ⟨h25,G⟩ | ⟨h25,G⟩
 refine Aw ?_
 rcases Dj G with ⟨h26,G⟩ | ⟨h26,G⟩
 refine Aw ?_
 rcases Dj G with ⟨h27,G⟩ | ⟨h27,G⟩
 exact Df
 exact Df
 exact Df
 exact Df
 exact Df
 refine Bs (ι:=Bool) (fun (x71_3:Bool)=>mk [(1,.ptr 0 0),(3,.val (.bool bare_1)),(14,vk f.Kind),(71,.val (.bool x71_3))] [(0,.box (Aa.dv f) 48)] 1) (fun (x71_3:Bool)=>B7.j3 f bare_1 x71_3=some r) ?_ ?_
 refine Bk 33 49 B fun B=>?_
 refine Cr rfl G (fun h34 G=>?_) fun h34 G=>?_
 refine C9 ?_
 exact⟨decide (f.Kind=4),G,Av [(0,0)]⟩
 refine Al (Ch _ _ []) 49 65 B rfl rfl ?_
 refine Bi fun B=>?_
 exact⟨decide (f.Kind=5),G,Av [(0,0)]⟩
 rintro x71_3 G
 replace G:B7.j3 f bare_1 x71_3=some r:=G
 show B4 _ _ _ _ (mk _ _ _)
 unfold B7.j3 at G
 refine Cr rfl G (fun h36 G=>?_) fun h36 G=>?_
 refine Ca 1 97 Ay ?_
 refine Aw ?_
 rcases Dj G with ⟨h37,G⟩ | ⟨h37,G⟩
 refine Aw ?_
 rcases Dj G with ⟨h38,G⟩ | ⟨h38,G⟩
 exact Df
 exact Df
 exact Df
 refine Bk 1 17 Ay fun B=>?_
 refine Cr rfl G (fun h43 G=>?_) fun h43 G=>?_
 refine Ca 17 113 B ?_
 refine Aw ?_
 rcases Dj G with ⟨h44,G⟩ | ⟨h44,G⟩
 refine Aw ?_
 rcases Dj G with ⟨h45,G⟩ | ⟨h45,G⟩
 exact Df
 exact Df
 exact Df
 refine Bk 17 33 B fun B=>?_
 refine Cr rfl G (fun h50 G=>?_) fun h50 G=>?_
 refine Ca 33 153 B ?_
 refine Aw ?_
 refine Mv Kv Qd X1 ?_
 refine C1 rfl rfl (Pl f.Use (Ar.mk 0 0)) rfl rfl ?_
 refine Aw ?_
 rcases Dj G with ⟨h51,G⟩ | ⟨h51,G⟩
 refine Aw ?_
 rcases Dj G with ⟨h52,G⟩ | ⟨h52,G⟩
 refine Aw ?_
 obtain⟨y_4,hy_4,G⟩:=Ab G
 refine Dl (I0 _ _ hy_4) ?_
 exact Df
 exact Df
 exact Df
 refine C9 ?_
 refine Bk 33 41 B fun B=>?_
 exact K0
end Go.Proofs.YtkoflhimdenjaaaGreat
