import Derived.Test.YtfanepojdefdpaaGreatT1
import Derived.Test.YtfanepojdefdpaaGreatA2
import Derived.Test.YtfanepojdefdpaaGreatA3
import Derived.Test.YtfanepojdefdpaaGreatA4
set_option linter.unusedVariables false
set_option linter.unusedSimpArgs false
set_option maxRecDepth 100000
set_option maxHeartbeats 1600000
namespace Go.Proofs.YtfanepojdefdpaaGreat
open Go.RowKit
theorem Q3 (d:Af) (name:ByteArray) (key:Ax) (id:Int) (r:(List Ab)×Af) (D:Ey d name key id=some r):Fn Tryz.prog 95 1 [.ptr 0 0,vk name,.agg [vj key.Alg,vj key.Bits],vj id] [.box [.sl 1 (Al eI d.L),vj d.At] 59] (fun d' b'=>d'=.row 1/\b'=[.box [.sl 1 (Al eI r.2.L),vj r.2.At] 59,.row 67 15 (Al Ab.enc r.1)]):=by
 unfold Ey at D
 refine Fn.of Tryz.func95 rfl rfl rfl fun w0 I ρ0=>?_
 show Ce _ ⟨w0,I,ρ0,1,1,56⟩ _ _ _
 refine Bd 1 17 A5 ?_
 refine Ak ?_
 refine Ai fun B=>?_
 refine Ah ?_
 refine Ae (Bp _ _ [25]) 17 49 B rfl rfl ?_
 refine Ak ?_
 refine Ix (rd:=[]) rfl rfl (An Fj z3 (by decide) rfl rfl rfl rfl Jq (cs:=[.int .i64 1,.int .i64 0,.int .i64 2]) (.cons .int (.cons .int (.cons .int .nil))) rfl (l:=([1,0,2]:List Int)) (f:=eI) rfl) rfl rfl rfl ?_
 obtain⟨y,hy,D⟩:=Ad D
 refine Kn [0] [0] [] false (Dc _ _ _ hy) ?_
 refine Ak ?_
 refine Ai fun B=>?_
 refine Bd 49 89 B ?_
 refine Ak ?_
 obtain⟨y_2,hy_2,D⟩:=Ad D
 refine Kn [0] [0] [] false (D9 _ _ _ hy_2) ?_
 refine Ak ?_
 refine Ai fun B=>?_
 refine Bd 89 97 B ?_
 refine Ak ?_
 refine Ai fun B=>?_
 refine Ah ?_
 refine Bd 97 105 B ?_
 refine Ak ?_
 refine Ai fun B=>?_
 refine As ?_
 refine Jk (fun ((signer_1,issuer_1,i_1,d_1,above_1):Int×ByteArray×Int×Af×List Ab)=>mk [(0,.ptr 0 0),(1,vk name),(3,vj id),(6,.ptr 1 0),(9,vj y.1),(10,vj signer_1),(11,vk issuer_1),(12,.row 2),(13,vj i_1)] [(0,.box [.sl 1 (Al eI d_1.L),vj d_1.At] 59),(1,.box [vj key.Alg,vj key.Bits] 37),(2,.row 67 15 (Al Ab.enc above_1))] 3) D (A1 [(0,0),(1,1)]) ?_
 rintro⟨signer_1,issuer_1,i_1,d_1,above_1⟩ m1 o1 D hn1
 replace D:Ey.l1 name key id y signer_1 issuer_1 i_1 d_1 above_1=some o1:=D
 show Ce _ _ _ _ (mk _ _ _)
 unfold Ey.l1 at D
 refine Ah ?_
 refine Bd 3 27 A5 ?_
 refine Ak ?_
 refine Ai fun B=>?_
 refine Df rfl D (fun h7 D=>?_) fun h7 D=>?_
 ·refine Ap ?_
  repeat first | refine C4 ?_ | refine C3 ?_
  refine Ah ?_
  refine As ?_
  refine Bd 27 67 B ?_
  refine Bn rfl rfl (An Sl z9 (by decide) rfl rfl rfl rfl mI (cs:=[.str (⟨#[99,97]⟩:ByteArray),.str (⟨#[99,98]⟩:ByteArray),.str (⟨#[99,99]⟩:ByteArray)]) (.cons .str (.cons .str (.cons .str .nil))) rfl (l:=([(⟨#[99,97]⟩:ByteArray),(⟨#[99,98]⟩:ByteArray),(⟨#[99,99]⟩:ByteArray)]:List ByteArray)) (f:=eS) rfl) rfl rfl ?_
  refine Ak ?_
  obtain⟨e,he,D⟩:=Ad D
  refine Ak ?_
  refine Ed (rd:=[27]) rfl rfl (.loadR1 Me (Bh Gz (Ao he) (o:=0) (c:=.str e) rfl rfl)) rfl rfl ?_
  refine Ak ?_
  refine Ai fun B=>?_
  refine Bd 67 147 B ?_
  refine Ak ?_
  refine Bn rfl rfl (.build (r:=[.val (.int .i64 5),.val (.int .i64 2048)]) Ul iU rE (by kernel_rfl) rfl) rfl rfl ?_
  refine Ak ?_
  obtain⟨y_3,hy_3,D⟩:=Ad D
  refine Kn [0] [0] [] false (If _ _ _ _ _ _ _ _ hy_3) ?_
  refine Ak ?_
  refine Ai fun B=>?_
  refine Bd 147 187 B ?_
  refine Ak ?_
  refine Bn rfl rfl (An Qu mT (by decide) rfl rfl rfl rfl fO (cs:=(Ab.ec y_3.1)) (.cons .int (.cons .str (.cons .str (.cons .int (.cons .int (.cons .int (.cons .int (.cons .int (.cons .int (.cons .int (.cons .bool (.cons .int (.cons .sl (.cons .int (.cons .int .nil))))))))))))))) rfl (l:=([y_3.1]:List Ab)) (f:=Ab.enc) rfl) rfl rfl ?_
  refine Ak ?_
  obtain⟨l,hl,D⟩:=Ad D
  refine Ed (rd:=[155,2]) rfl rfl (Cs Qu Ab.enc_len .row rfl .row rfl hl rfl) rfl rfl ?_
  refine Ak ?_
  refine Ai fun B=>?_
  refine Ae (Bp _ _ []) 187 227 B rfl rfl ?_
  refine Ak ?_
  refine Ai fun B=>?_
  refine Ae (Bp _ _ []) 227 251 B rfl rfl ?_
  refine Ak ?_
  refine Ai fun B=>?_
  obtain rfl:=oi_ D
  exact⟨((W (11 + i_1),e,W (i_1 + 1),y_3.2,l),m1),vO _,hn1,A1 [(0,0),(1,1),(2,171)]⟩
 ·refine Bv ?_
  repeat first | refine C4 ?_ | refine C3 ?_
  replace D:=C0 D hn1
  refine Bd 27 115 B ?_
  refine Ak ?_
  obtain⟨y_4,hy_4,D⟩:=Ad D
  refine Kn [0] [0] [] false (If _ _ _ _ _ _ _ _ hy_4) ?_
  refine Bn rfl rfl (An Qu mT (by decide) rfl rfl rfl rfl fO (cs:=(Ab.ec y_4.1)) (.cons .int (.cons .str (.cons .str (.cons .int (.cons .int (.cons .int (.cons .int (.cons .int (.cons .int (.cons .int (.cons .bool (.cons .int (.cons .sl (.cons .int (.cons .int .nil))))))))))))))) rfl (l:=([y_4.1]:List Ab)) (f:=Ab.enc) rfl) rfl rfl ?_
  refine Ak ?_
  obtain⟨l_2,hl_2,D⟩:=Ad D
  refine Ed (rd:=[83,2]) rfl rfl (Cs Qu Ab.enc_len .row rfl .row rfl hl_2 rfl) rfl rfl ?_
  refine Ak ?_
  refine Ai fun B=>?_
  refine A4 ?_
  obtain rfl:=oi_ D
  exact A3 [(0,0),(1,99)] ⟨rfl,rfl⟩
theorem Wu (d:Af) (alias:ByteArray) (name:ByteArray) (id:Int) (r:Ac×Af) (D:E3 d alias name id=some r):Fn Tryz.prog 50 1 [.ptr 0 0,vk alias,vk name,vj id] [.box [.sl 1 (Al eI d.L),vj d.At] 59] (fun d' b'=>d'=.agg [vk r.1.Alias,vj r.1.Key.Alg,vj r.1.Key.Bits,vj r.1.KeyId,.val (.bool r.1.Secret),.row 1]/\b'=[.box [.sl 1 (Al eI r.2.L),vj r.2.At] 59,.row 67 15 (Al Ab.enc r.1.Chain)]):=by
 unfold E3 at D
 refine Fn.of Tryz.func50 rfl rfl rfl fun w0 I ρ0=>?_
 show Ce _ ⟨w0,I,ρ0,1,1,28⟩ _ _ _
 refine Bd 1 9 A5 ?_
 refine Ak ?_
 refine Ai fun B=>?_
 refine Bd 9 81 B ?_
 refine Ak ?_
 obtain⟨y,hy,D⟩:=Ad D
 refine Kn [0] [0] [] false (Zz _ _ hy) ?_
 refine Ak ?_
 obtain⟨y_2,hy_2,D⟩:=Ad D
 refine Kn [0] [0] [] false (Jm _ _ _ hy_2) ?_
 refine Bn rfl rfl (.build (r:=[vk alias,vj y.1.Alg,vj y.1.Bits,vj id,.val (.bool y_2.1),.val (.slice none 0 0)]) Mr Z3 Wx (by kernel_rfl) rfl) rfl rfl ?_
 refine Ak ?_
 refine Ai fun B=>?_
 refine B9 (ι:=Af×List Ab) (fun ((b_1,l_1):Af×List Ab)=>mk [(8,.ptr 1 0),(9,.ptr 2 0)] [(0,.box [.sl 1 (Al eI b_1.L),vj b_1.At] 59),(1,.box [.val (.string (⟨#[]⟩:ByteArray)),.val (.int .i64 0),.val (.int .i64 0),.val (.int .i64 0),.val (.bool false),.val (.slice none 0 0)] 40),(2,.box [vk alias,vj y.1.Alg,vj y.1.Bits,vj id,.val (.bool y_2.1),.row 3] 40),(3,.row 67 15 (Al Ab.enc l_1))] 4) (fun ((b_1,l_1):Af×List Ab)=>E3.j1 alias id y y_2 b_1 l_1=some r) ?_ ?_
 ·refine Ah ?_
  refine Ae (Bp _ _ []) 81 105 B rfl rfl ?_
  refine Ak ?_
  obtain⟨y_3,hy_3,D⟩:=Ad D
  refine Kn [0] [0] [] false (Jm _ _ _ hy_3) ?_
  refine Ak ?_
  refine Ai fun B=>?_
  refine Df rfl D (fun h4 D=>?_) fun h4 D=>?_
  ·refine Ae (Bp _ _ []) 105 169 B rfl rfl ?_
   refine Ak ?_
   obtain⟨y_4,hy_4,D⟩:=Ad D
   refine Hi (rd:=[0]) (ps:=[0]) (gs:=[]) false rfl (Q3 _ _ _ _ _ hy_4) rfl rfl (.cons (.ptr rfl) (.cons .val (.cons (.agg (.cons .val (.cons .val .nil))) (.cons .val .nil)))) ⟨_,_,_,rfl,.head _,⟨_,rfl,(by repeat' (first | exact M5.nil | apply M5.cons | exact Ag.val | exact Ag.sl | exact Ag.nils | exact Ag.ptr rfl | exact Ag.rowK rfl))⟩,rfl⟩ rfl (by intro h; cases h) rfl (by intro h; first | (cases h; done) | exact⟨_,_,⟨rfl,rfl⟩,by simp,by simp⟩) ?_
   rintro _ _ ⟨rfl,rfl⟩
   refine Ak ?_
   refine Ai fun B=>?_
   exact⟨(y_4.2,y_4.1),D,A1 [(0,0),(1,1),(2,65),(3,145)]⟩
  ·refine Ap ?_
   repeat first | refine C4 ?_ | refine C3 ?_
   exact⟨(y_3.2,([]:List Ab)),D,A1 [(0,0),(1,1),(2,65)]⟩
 ·rintro⟨b_1,l_1⟩ D
  replace D:E3.j1 alias id y y_2 b_1 l_1=some r:=D
  show Ce _ _ _ _ (mk _ _ _)
  unfold E3.j1 at D
  refine Bd 4 20 A5 ?_
  refine Ak ?_
  refine Ai fun B=>?_
  refine A4 ?_
  obtain rfl:=oi_ D
  exact A3 [(0,0),(1,3)] ⟨rfl,rfl⟩
theorem V6 (d:Af) (name:ByteArray) (r:(List Ac)×Af) (D:E2 d name=some r):Fn Tryz.prog 20 1 [.ptr 0 0,vk name] [.box [.sl 1 (Al eI d.L),vj d.At] 59] (fun d' b'=>d'=.row 1/\b'=[.box [.sl 1 (Al eI r.2.L),vj r.2.At] 59,.tree 40 6 5 67 15 2 none (Al Ac.enc r.1),.gho]):=by
 unfold E2 at D
 refine Fn.of Tryz.func20 rfl rfl rfl fun w0 I ρ0=>?_
 show Ce _ ⟨w0,I,ρ0,1,1,34⟩ _ _ _
 refine Bd 1 9 A5 ?_
 refine Ak ?_
 refine Ai fun B=>?_
 refine Bd 9 17 B ?_
 refine Ak ?_
 refine Ai fun B=>?_
 refine Ah ?_
 refine Ah ?_
 refine Gf (σ':=mk [(0,.ptr 0 0),(1,vk name),(5,.val (.slice none 0 0))] [(0,.box [.sl 1 (Al eI d.L),vj d.At] 59)] 1) (A1 [(0,0)]) ?_
 refine Gf (uS 5 40 6 5 67 15 (Al Ac.enc ([]:List Ac)) rfl rfl (by decide)) ?_
 refine Ae (Bp _ _ []) 3 35 A5 rfl rfl ?_
 refine Ak ?_
 obtain⟨y,hy,D⟩:=Ad D
 refine Kn [0] [0] [] false (D9 _ _ _ hy) ?_
 refine Ak ?_
 refine Ai fun B=>?_
 refine As ?_
 refine Jk (fun ((i_2,d_2,l_2):Int×Af×List Ac)=>mk [(0,.ptr 0 0),(1,vk name),(5,.row 1),(6,vj i_2)] [(0,.box [.sl 1 (Al eI d_2.L),vj d_2.At] 59),(1,.tree 40 6 5 67 15 2 none (Al Ac.enc l_2)),(2,.gho)] 3) D (A1 [(0,0),(1,1),(2,2)]) ?_
 rintro⟨i_2,d_2,l_2⟩ m2 o2 D hn2
 replace D:E2.l2 name i_2 d_2 l_2=some o2:=D
 show Ce _ _ _ _ (mk _ _ _)
 unfold E2.l2 at D
 refine Ah ?_
 refine Bd 3 19 A5 ?_
 refine Ak ?_
 refine Ai fun B=>?_
 refine Df rfl D (fun h5 D=>?_) fun h5 D=>?_
 ·refine Ap ?_
  repeat first | refine C4 ?_ | refine C3 ?_
  refine Ah ?_
  refine As ?_
  refine Bd 19 43 B ?_
  refine Ak ?_
  refine Ed (rd:=[1]) rfl rfl (.len Ke.elem (.rowT (by decide) (Es Ac.enc_len _))) rfl rfl ?_
  refine Ak ?_
  refine Ai fun B=>?_
  refine Dh (Bp _ _ []) (by kernel_rfl) [0,0,0,0,12,28,0,0,128,0,512,1536,3968,8190,16382,32767,65535] 43 179 B rfl rfl (by kernel_rfl) ?_
  refine Ak ?_
  refine Bn rfl rfl (An Sl z9 (by decide) rfl rfl rfl rfl mI (cs:=[.str (⟨#[107,49]⟩:ByteArray),.str (⟨#[107,50]⟩:ByteArray),.str (⟨#[107,51]⟩:ByteArray),.str (⟨#[107,52]⟩:ByteArray)]) (.cons .str (.cons .str (.cons .str (.cons .str .nil)))) rfl (l:=([(⟨#[107,49]⟩:ByteArray),(⟨#[107,50]⟩:ByteArray),(⟨#[107,51]⟩:ByteArray),(⟨#[107,52]⟩:ByteArray)]:List ByteArray)) (f:=eS) rfl) rfl rfl ?_
  refine Ak ?_
  obtain⟨e,he,D⟩:=Ad D
  refine Ak ?_
  refine Ed (rd:=[59]) rfl rfl (.loadR1 Me (Bh Gz (Ao he) (o:=0) (c:=.str e) rfl rfl)) rfl rfl ?_
  refine Ak ?_
  obtain⟨y_2,hy_2,D⟩:=Ad D
  refine Kn [0] [0] [] false (D9 _ _ _ hy_2) ?_
  refine Ak ?_
  obtain⟨y_3,hy_3,D⟩:=Ad D
  refine Hi (rd:=[0]) (ps:=[0]) (gs:=[]) false rfl (Wu _ _ _ _ _ hy_3) rfl rfl (.cons (.ptr rfl) (.cons .val (.cons .val (.cons .val .nil)))) ⟨_,_,_,rfl,.head _,⟨_,rfl,(by repeat' (first | exact M5.nil | apply M5.cons | exact Ag.val | exact Ag.sl | exact Ag.nils | exact Ag.ptr rfl | exact Ag.rowK rfl))⟩,rfl⟩ rfl (by intro h; cases h) rfl (by intro h; first | (cases h; done) | exact⟨_,_,⟨rfl,rfl⟩,by simp,by simp⟩) ?_
  rintro _ _ ⟨rfl,rfl⟩
  refine Vb (rd:=[147]) rfl rfl (jJ (o:=5) (r:=[vk y_3.1.Alias,vj y_3.1.Key.Alg,vj y_3.1.Key.Bits,vj y_3.1.KeyId,.val (.bool y_3.1.Secret),.row 147]) (pre:=[vk y_3.1.Alias,vj y_3.1.Key.Alg,vj y_3.1.Key.Bits,vj y_3.1.KeyId,.val (.bool y_3.1.Secret)]) (post:=[]) (ck1:=[none,none,none,none,none]) (ck2:=[]) (cs1:=Al Ac.enc ([y_3.1]:List Ac)) Ke Wx (by decide) (by kernel_rfl) rfl rfl rfl (.cons .str (.cons .int (.cons .int (.cons .int (.cons .bool .nil))))) .nil (List.Mem.head _) rfl rfl) rfl rfl (fun _=>⟨_,rfl⟩) ?_
  rintro _ rfl
  obtain⟨l,hl,D⟩:=Ad D
  refine Vb (rd:=[1,155]) rfl rfl (qN Ke Ac.enc_len (List.Mem.head _) (List.Mem.tail _ (List.Mem.head _)) rfl hl rfl rfl rfl) rfl rfl (fun _=>⟨_,rfl⟩) ?_
  rintro _ rfl
  refine Ak ?_
  refine Ai fun B=>?_
  refine Ae (Bp _ _ []) 179 203 B rfl rfl ?_
  refine Ak ?_
  refine Ai fun B=>?_
  obtain rfl:=oi_ D
  exact⟨((W (i_2 - 1),y_3.2,l),m2),vO _,hn2,A1 [(0,0),(1,163),(2,164)]⟩
 ·refine Bv ?_
  repeat first | refine C4 ?_ | refine C3 ?_
  replace D:=C0 D hn2
  refine Bd 19 35 B ?_
  refine Ak ?_
  refine Ai fun B=>?_
  refine A4 ?_
  obtain rfl:=oi_ D
  exact A3 [(0,0),(1,1),(2,2)] ⟨rfl,rfl⟩
theorem Lk (d:Af) (l:(List ByteArray)) (r:ByteArray×Af) (D:Fr d l=some r):Fn Tryz.prog 13 1 [.ptr 0 0,.sl 1 (Al eS l)] [.box [.sl 1 (Al eI d.L),vj d.At] 59] (fun d' b'=>d'=vk r.1/\b'=[.box [.sl 1 (Al eI r.2.L),vj r.2.At] 59]):=by
 unfold Fr at D
 refine Fn.of Tryz.func13 rfl rfl rfl fun w0 I ρ0=>?_
 show Ce _ ⟨w0,I,ρ0,1,1,12⟩ _ _ _
 refine Bd 1 9 A5 ?_
 refine Ak ?_
 refine Ai fun B=>?_
 refine Bd 9 73 B ?_
 refine Ak ?_
 obtain⟨y,hy,D⟩:=Ad D
 refine Kn [0] [0] [] false (D9 _ _ _ hy) ?_
 obtain⟨e,he,D⟩:=Ad D
 refine Ak ?_
 refine Bn rfl rfl (Bt Me (Bh Gz (Ao he) (o:=0) (c:=.str e) rfl rfl)) rfl rfl ?_
 refine Ak ?_
 refine Ai fun B=>?_
 refine A4 ?_
 obtain rfl:=oi_ D
 exact A3 [(0,0)] ⟨rfl,rfl⟩
theorem Pu (d:Af) (r:(List Ac)×Af) (D:Ek d=some r):Fn Tryz.prog 8 1 [.ptr 0 0] [.box [.sl 1 (Al eI d.L),vj d.At] 59] (fun d' b'=>d'=.sl 6 (Al Ac.enc r.1)/\b'=[.box [.sl 1 (Al eI r.2.L),vj r.2.At] 59]):=by
 unfold Ek at D
 refine Fn.of Tryz.func8 rfl rfl rfl fun w0 I ρ0=>?_
 show Ce _ ⟨w0,I,ρ0,1,1,89⟩ _ _ _
 refine Bd 1 9 A5 ?_
 refine Ak ?_
 refine Ai fun B=>?_
 refine Bd 9 33 B ?_
 refine Ak ?_
 obtain⟨y,hy,D⟩:=Ad D
 refine Hi (rd:=[0]) (ps:=[0]) (gs:=[]) false rfl (V6 _ _ _ hy) rfl rfl (.cons (.ptr rfl) (.cons .val .nil)) ⟨_,_,_,rfl,.head _,⟨_,rfl,(by repeat' (first | exact M5.nil | apply M5.cons | exact Ag.val | exact Ag.sl | exact Ag.nils | exact Ag.ptr rfl | exact Ag.rowK rfl))⟩,rfl⟩ rfl (by intro h; cases h) rfl (by intro h; first | (cases h; done) | exact⟨_,_,⟨rfl,rfl⟩,by simp,by simp⟩) ?_
 rintro _ _ ⟨rfl,rfl⟩
 refine Ak ?_
 refine Ai fun B=>?_
 refine Bd 33 89 B ?_
 refine Ak ?_
 refine Ed (rd:=[17]) rfl rfl (.len Ke.elem (.rowT (by decide) (Es Ac.enc_len _))) rfl rfl ?_
 obtain⟨y_2,hy_2,D⟩:=Ad D
 refine Kn [0] [0] [] false (D9 _ _ _ hy_2) ?_
 obtain⟨e,he,D⟩:=Ad D
 refine Ed (rd:=[17]) rfl rfl (.idxT Ke (Po he) (Q2 Ac.enc_len (Ao he))) rfl rfl ?_
 refine Ak ?_
 refine Ai fun B=>?_
 refine Ah ?_
 refine Bd 89 105 B ?_
 refine Ak ?_
 obtain⟨y_3,hy_3,D⟩:=Ad D
 refine Kn [0] [0] [] false (D9 _ _ _ hy_3) ?_
 refine Ai fun B=>?_
 refine As ?_
 refine Bd 105 121 B ?_
 refine Ak ?_
 refine Ai fun B=>?_
 refine Df rfl D (fun h6 D=>?_) fun h6 D=>?_
 ·refine Ae (Bp _ _ [137]) 121 177 B rfl rfl ?_
  refine Ak ?_
  refine Ix (rd:=[]) rfl rfl (An Sl z9 (by decide) rfl rfl rfl rfl mI (cs:=[.str (⟨#[]⟩:ByteArray),.str (⟨#[107,49]⟩:ByteArray),.str (⟨#[97,32,98]⟩:ByteArray),.str (⟨#[122,122]⟩:ByteArray)]) (.cons .str (.cons .str (.cons .str (.cons .str .nil)))) rfl (l:=([(⟨#[]⟩:ByteArray),(⟨#[107,49]⟩:ByteArray),(⟨#[97,32,98]⟩:ByteArray),(⟨#[122,122]⟩:ByteArray)]:List ByteArray)) (f:=eS) rfl) rfl rfl rfl ?_
  obtain⟨y_4,hy_4,D⟩:=Ad D
  refine Kn [0] [0] [] false (Lk _ _ _ hy_4) ?_
  refine Ak ?_
  refine Vb (rd:=[17]) rfl rfl (Us Me rfl (Ba Ac.enc_len (Ao he) (o:=0) (m:=1) (by decide) rfl) (S3 (of:=0) (by decide) (by decide) rfl) (ck:=[none]) (cs':=[.str y_4.1]) (.cons .str .nil) (List.Mem.head _) (H9 Ac.enc_len (Ao he) (o:=0) (x':=(Ac.mk y_4.1 e.Key e.KeyId e.Secret e.Chain)) (vP rfl) rfl rfl)) rfl rfl (fun _=>⟨_,rfl⟩) ?_
  rintro _ rfl
  refine Ai fun B=>?_
  refine Bd 177 193 B ?_
  refine Ak ?_
  refine Ai fun B=>?_
  refine A4 ?_
  obtain rfl:=oi_ D
  exact A3 [(0,0)] ⟨rfl,rfl⟩
 ·refine Ah ?_
  refine Ae (Bp _ _ []) 121 137 B rfl rfl ?_
  refine Ak ?_
  refine Ai fun B=>?_
  refine Df rfl D (fun h9 D=>?_) fun h9 D=>?_
  ·refine Ae (Bp _ _ [153]) 137 193 B rfl rfl ?_
   refine Ak ?_
   refine Ix (rd:=[]) rfl rfl (An Fj z3 (by decide) rfl rfl rfl rfl Jq (cs:=[.int .i64 (-1),.int .i64 5,.int .i64 2147483649]) (.cons .int (.cons .int (.cons .int .nil))) rfl (l:=([-1,5,2147483649]:List Int)) (f:=eI) rfl) rfl rfl rfl ?_
   obtain⟨y_5,hy_5,D⟩:=Ad D
   refine Kn [0] [0] [] false (Dc _ _ _ hy_5) ?_
   refine Ak ?_
   refine Vb (rd:=[17]) rfl rfl (Us Qn rfl (Ba Ac.enc_len (Ao he) (o:=3) (m:=1) (by decide) rfl) (S3 (of:=3) (by decide) (by decide) rfl) (ck:=[none]) (cs':=[.int .i64 y_5.1]) (.cons .int .nil) (List.Mem.head _) (H9 Ac.enc_len (Ao he) (o:=3) (x':=(Ac.mk e.Alias e.Key y_5.1 e.Secret e.Chain)) (vP rfl) rfl rfl)) rfl rfl (fun _=>⟨_,rfl⟩) ?_
   rintro _ rfl
   refine Ai fun B=>?_
   refine Bd 193 209 B ?_
   refine Ak ?_
   refine Ai fun B=>?_
   refine A4 ?_
   obtain rfl:=oi_ D
   exact A3 [(0,0)] ⟨rfl,rfl⟩
  ·refine Ah ?_
   refine Ae (Bp _ _ []) 137 153 B rfl rfl ?_
   refine Ak ?_
   refine Ai fun B=>?_
   refine Df rfl D (fun h12 D=>?_) fun h12 D=>?_
   ·refine Ae (Bp _ _ [169]) 153 217 B rfl rfl ?_
    refine Ak ?_
    refine Ix (rd:=[]) rfl rfl (An Fj z3 (by decide) rfl rfl rfl rfl Jq (cs:=[.int .i64 1,.int .i64 8]) (.cons .int (.cons .int .nil)) rfl (l:=([1,8]:List Int)) (f:=eI) rfl) rfl rfl rfl ?_
    obtain⟨y_6,hy_6,D⟩:=Ad D
    refine Kn [0] [0] [] false (Dc _ _ _ hy_6) ?_
    refine Bn rfl rfl (.build (r:=[vj y_6.1,.val (.int .i64 0)]) Ul iU rE (by kernel_rfl) rfl) rfl rfl ?_
    refine Ak ?_
    refine Vb (rd:=[17]) rfl rfl (Us O5 rfl (Ba Ac.enc_len (Ao he) (o:=1) (m:=2) (by decide) rfl) (S3 (of:=1) (by decide) (by decide) rfl) (ck:=[none,none]) (cs':=[.int .i64 y_6.1,.int .i64 0]) (.cons .int (.cons .int .nil)) (List.Mem.head _) (H9 Ac.enc_len (Ao he) (o:=1) (x':=(Ac.mk e.Alias (Ax.mk y_6.1 0) e.KeyId e.Secret e.Chain)) (vP rfl) rfl rfl)) rfl rfl (fun _=>⟨_,rfl⟩) ?_
    rintro _ rfl
    refine Ai fun B=>?_
    refine Bd 217 233 B ?_
    refine Ak ?_
    refine Ai fun B=>?_
    refine A4 ?_
    obtain rfl:=oi_ D
    exact A3 [(0,0)] ⟨rfl,rfl⟩
   ·refine Ah ?_
    refine Ae (Bp _ _ []) 153 169 B rfl rfl ?_
    refine Ak ?_
    refine Ai fun B=>?_
    refine Df rfl D (fun h15 D=>?_) fun h15 D=>?_
    ·refine Ah ?_
     refine Ae (Bp _ _ []) 169 217 B rfl rfl ?_
     refine Ak ?_
     refine Ed (rd:=[17]) rfl rfl (.loadTN Ra (by decide) rfl P2 (D3 Ac.enc_len (Ao he) (o:=5) (by decide) rfl)) rfl rfl ?_
     refine Ed (rd:=[17]) rfl rfl (.len Qu.elem (.nst (by decide) (Bh Ac.enc_len (Ao he) (o:=5) (c:=.sl 15 (Al Ab.enc e.Chain)) rfl rfl) P2 (Es Ab.enc_len _))) rfl rfl ?_
     refine Ak ?_
     refine Ai fun B=>?_
     refine Df rfl D (fun h17 D=>?_) fun h17 D=>?_
     ·refine Ae (Bp _ _ []) 217 273 B rfl rfl ?_
      refine Ak ?_
      refine Ed (rd:=[17]) rfl rfl (.loadTN Ra (by decide) rfl P2 (D3 Ac.enc_len (Ao he) (o:=5) (by decide) rfl)) rfl rfl ?_
      obtain⟨e_2,he_2,D⟩:=Ad D
      refine Ed (rd:=[17]) rfl rfl (.idxN Qu (Bh Ac.enc_len (Ao he) (o:=5) (c:=.sl 15 (Al Ab.enc e.Chain)) rfl rfl) P2 (Po he_2) (Q2 Ab.enc_len (Ao he_2))) rfl rfl ?_
      refine Bn rfl rfl (.fieldN jC Qn (by decide)) rfl rfl ?_
      refine Vb (rd:=[17,18]) rfl rfl (hY Qn (Bh Ac.enc_len (Ao he) (o:=5) (c:=.sl 15 (Al Ab.enc e.Chain)) rfl rfl) rfl (Ba Ab.enc_len (Ao he_2) (o:=0) (m:=1) (by decide) rfl) (ck:=[none]) (cs':=[.int .i64 (-1)]) (.cons .int .nil) (List.Mem.head _) (H9 Ab.enc_len (Ao he_2) (o:=0) (x':=(Ab.mk (-1) e_2.Issuer e_2.Subject e_2.Key e_2.KeyId e_2.Hash e_2.From e_2.To e_2.Authority e_2.Path e_2.Names e_2.Seal)) (vP rfl) rfl rfl) (bC Ac.enc_len (Ao he) (o:=5) (x':=(Ac.mk e.Alias e.Key e.KeyId e.Secret (Hf e.Chain ((0:Int).toNat) (Ab.mk (-1) e_2.Issuer e_2.Subject e_2.Key e_2.KeyId e_2.Hash e_2.From e_2.To e_2.Authority e_2.Path e_2.Names e_2.Seal)))) (by decide) rfl rfl)) rfl rfl (fun _=>⟨_,rfl⟩) ?_
      rintro _ rfl
      refine Ai fun B=>?_
      refine Bd 273 289 B ?_
      refine Ak ?_
      refine Ai fun B=>?_
      refine A4 ?_
      obtain rfl:=oi_ D
      exact A3 [(0,0)] ⟨rfl,rfl⟩
     ·refine Ap ?_
      repeat first | refine C4 ?_ | refine C3 ?_
      refine Bd 217 233 B ?_
      refine Ak ?_
      refine Ai fun B=>?_
      refine A4 ?_
      obtain rfl:=oi_ D
      exact A3 [(0,0)] ⟨rfl,rfl⟩
    ·refine Ah ?_
     refine Ae (Bp _ _ []) 169 185 B rfl rfl ?_
     refine Ak ?_
     refine Ai fun B=>?_
     refine Df rfl D (fun h20 D=>?_) fun h20 D=>?_
     ·refine Ah ?_
      refine Ae (Bp _ _ []) 185 193 B rfl rfl ?_
      refine Ak ?_
      refine Ai fun B=>?_
      refine As ?_
      refine Jk (fun ((i_1,d_1,l_1):Int×Af×List Ac)=>mk [(0,.ptr 0 0),(3,.row 1),(4,.ptr 1 (((y_2.1).toNat) * 6)),(5,vj i_1)] [(0,.box [.sl 1 (Al eI d_1.L),vj d_1.At] 59),(1,.tree 40 6 5 67 15 2 none (Al Ac.enc l_1)),(2,.gho)] 3) D (A1 [(0,0),(1,17),(2,18)]) ?_
      rintro⟨i_1,d_1,l_1⟩ m1 o1 D hn1
      replace D:Ek.l1 y_2 i_1 d_1 l_1=some o1:=D
      show Ce _ _ _ _ (mk _ _ _)
      unfold Ek.l1 at D
      refine Ah ?_
      refine Bd 3 19 A5 ?_
      refine Ak ?_
      refine Ai fun B=>?_
      refine Df rfl D (fun h23 D=>?_) fun h23 D=>?_
      ·refine Ap ?_
       repeat first | refine C4 ?_ | refine C3 ?_
       refine Ah ?_
       refine As ?_
       refine Dh (Bp _ _ []) (by kernel_rfl) [0,0,2,6,14,0,0,64,192,448,0,1024,3072,7168,16352,32736,65534,131071,262143,524287] 19 179 B rfl rfl (by kernel_rfl) ?_
       refine Ak ?_
       obtain⟨e_3,he_3,D⟩:=Ad D
       refine Ed (rd:=[1]) rfl rfl (.loadTN Ra (by decide) rfl P2 (D3 Ac.enc_len he_3 (o:=5) (by decide) rfl)) rfl rfl ?_
       refine Ak ?_
       refine Ed (rd:=[1]) rfl rfl (iL O5 (S3 (of:=1) (by decide) (by decide) rfl) (Bx Ac.enc_len he_3 (o:=1) (m:=2) (cs:=[.int .i64 e_3.Key.Alg,.int .i64 e_3.Key.Bits]) rfl (by decide) rfl) (Ba Ac.enc_len he_3 (o:=1) (m:=2) (by decide) rfl)) rfl rfl ?_
       refine Ak ?_
       refine Ed (rd:=[1]) rfl rfl (.loadT1 Qn (fL (of:=3) (by decide) (by decide) rfl) (Bh Ac.enc_len he_3 (o:=3) (c:=.int .i64 e_3.KeyId) rfl rfl)) rfl rfl ?_
       obtain⟨y_7,hy_7,D⟩:=Ad D
       refine Kn [0] [0] [] false (If _ _ _ _ _ _ _ _ hy_7) ?_
       refine Bn rfl rfl (An Qu mT (by decide) rfl rfl rfl rfl fO (cs:=(Ab.ec y_7.1)) (.cons .int (.cons .str (.cons .str (.cons .int (.cons .int (.cons .int (.cons .int (.cons .int (.cons .int (.cons .int (.cons .bool (.cons .int (.cons .sl (.cons .int (.cons .int .nil))))))))))))))) rfl (l:=([y_7.1]:List Ab)) (f:=Ab.enc) rfl) rfl rfl ?_
       obtain⟨l,hl,D⟩:=Ad D
       refine Vb (rd:=[1,2,139]) rfl rfl (pY (l:=e_3.Chain) (l':=([y_7.1]:List Ab)) Qu Ab.enc_len (Bh Ac.enc_len he_3 (o:=5) (c:=.sl 15 (Al Ab.enc e_3.Chain)) rfl rfl) rfl .row rfl hl rfl (List.Mem.head _) rfl) rfl rfl (fun _=>⟨_,rfl⟩) ?_
       rintro _ rfl
       refine Ak ?_
       refine Vb (rd:=[1,147]) rfl rfl (qU Ra rfl (D3 Ac.enc_len he_3 (o:=5) (by decide) rfl) (List.Mem.head _) (List.Mem.tail _ (List.Mem.head _)) rfl rfl (bC Ac.enc_len he_3 (o:=5) (x':=(Ac.mk e_3.Alias e_3.Key e_3.KeyId e_3.Secret l)) (by decide) rfl rfl)) rfl rfl (fun _=>⟨_,rfl⟩) ?_
       rintro _ rfl
       refine Ai fun B=>?_
       refine Ae (Bp _ _ []) 179 203 B rfl rfl ?_
       refine Ak ?_
       refine Ai fun B=>?_
       obtain rfl:=oi_ D
       exact⟨((W (i_1 + 1),y_7.2,Hf l_1 ((y_2.1).toNat) (Ac.mk e_3.Alias e_3.Key e_3.KeyId e_3.Secret l)),m1),vO _,hn1,A1 [(0,0),(1,1),(2,171)]⟩
      ·refine Bv ?_
       repeat first | refine C4 ?_ | refine C3 ?_
       replace D:=C0 D hn1
       refine Bd 19 35 B ?_
       refine Ak ?_
       refine Ai fun B=>?_
       refine A4 ?_
       obtain rfl:=oi_ D
       exact A3 [(0,0)] ⟨rfl,rfl⟩
     ·refine Ah ?_
      refine Ae (Bp _ _ []) 185 201 B rfl rfl ?_
      refine Ak ?_
      refine Ai fun B=>?_
      refine Df rfl D (fun h27 D=>?_) fun h27 D=>?_
      ·refine Gf (σ':=mk [(3,.row 1)] [(0,.box [.sl 1 (Al eI y_3.2.L),vj y_3.2.At] 59),(1,.tree 40 6 5 67 15 2 none (Al Ac.enc y.1)),(2,.gho)] 3) (A1 [(0,0),(1,17),(2,18)]) ?_
       refine Gf (σ':=mk [(3,.row 1)] [(0,.box [.sl 1 (Al eI y_3.2.L),vj y_3.2.At] 59),(1,.row 40 6 (Al Ac.enc y.1)),(2,.gho)] 3) (tI 1 rfl rfl) ?_
       refine Ae (Bp _ _ []) 3 59 A5 rfl rfl ?_
       refine Ak ?_
       obtain⟨e_4,he_4,D⟩:=Ad D
       refine Ak ?_
       refine Ed (rd:=[1]) rfl rfl (L0 L6 (Bx Ac.enc_len (Ao he_4) (o:=0) (m:=6) (cs:=(Ac.ec e_4)) rfl (by decide) rfl) (Ba Ac.enc_len (Ao he_4) (o:=0) (m:=6) (by decide) rfl)) rfl rfl ?_
       refine Bn rfl rfl (An Ke Wx (by decide) rfl rfl rfl rfl Ti (cs:=(Ac.ec e_4)) (.cons .str (.cons .int (.cons .int (.cons .int (.cons .bool (.cons .sl .nil)))))) rfl (l:=([e_4]:List Ac)) (f:=Ac.enc) rfl) rfl rfl ?_
       obtain⟨l_2,hl_2,D⟩:=Ad D
       refine Ed (rd:=[1,35]) rfl rfl (Cs Ke Ac.enc_len .row rfl .row rfl hl_2 rfl) rfl rfl ?_
       refine Ak ?_
       refine Ai fun B=>?_
       refine Bd 59 75 B ?_
       refine Ak ?_
       refine Ai fun B=>?_
       refine A4 ?_
       obtain rfl:=oi_ D
       exact A3 [(0,0)] ⟨rfl,rfl⟩
      ·refine Ap ?_
       repeat first | refine C4 ?_ | refine C3 ?_
       refine Bd 201 217 B ?_
       refine Ak ?_
       refine Ai fun B=>?_
       refine A4 ?_
       obtain rfl:=oi_ D
       exact A3 [(0,0)] ⟨rfl,rfl⟩
theorem Mh (s:ByteArray) (r:Aa) (D:Gv s=some r):Fn Tryz.prog 71 0 [vk s] [] (fun d' b'=>d'=.agg (Aa.dv r)/\b'=[]):=by
 unfold Gv at D
 refine Fn.of Tryz.func71 rfl rfl rfl fun w0 I ρ0=>?_
 show Ce _ ⟨w0,I,ρ0,0,0,6⟩ _ _ _
 refine Bd 0 8 A5 ?_
 refine Ak ?_
 refine Ai fun B=>?_
 refine Bd 8 40 B ?_
 refine Ak ?_
 refine Bn rfl rfl (W8 P3 Vp L1) rfl rfl ?_
 refine Bn rfl rfl (.build (r:=[.val (.int .i64 12),.sl 1 (Al e8 (Hs s)),.val (.bool false),.val (.slice none 0 0)]) K3 U3 O9 (by kernel_rfl) rfl) rfl rfl ?_
 refine Ak ?_
 refine Ai fun B=>?_
 refine A4 ?_
 obtain rfl:=oi_ D
 exact A3 [] ⟨rfl,rfl⟩
theorem He (n:Int) (r:Aa) (D:By n=some r):Fn Tryz.prog 73 0 [vj n] [] (fun d' b'=>d'=.agg (Aa.dv r)/\b'=[]):=by
 unfold By at D
 refine Fn.of Tryz.func73 rfl rfl rfl fun w0 I ρ0=>?_
 show Ce _ ⟨w0,I,ρ0,0,0,48⟩ _ _ _
 refine Bd 0 8 A5 ?_
 refine Ak ?_
 refine Ai fun B=>?_
 refine Bd 8 16 B ?_
 refine Ak ?_
 refine Ai fun B=>?_
 refine Ah ?_
 refine Bd 16 24 B ?_
 refine Ak ?_
 refine Ai fun B=>?_
 refine As ?_
 refine Jk (fun ((i_1,b_1):Int×List UInt8)=>mk [(0,vj n),(2,.ptr 0 0),(3,.row 1),(4,vj i_1)] [(0,.box [.val (.int .i64 0),.val (.slice none 0 0),.val (.bool false),.val (.slice none 0 0)] 50),(1,.row 5 1 (Al e8 b_1))] 2) D (A1 [(0,0)]) ?_
 rintro⟨i_1,b_1⟩ m1 o1 D hn1
 replace D:By.l1 n i_1 b_1=some o1:=D
 show Ce _ _ _ _ (mk _ _ _)
 unfold By.l1 at D
 refine Ah ?_
 refine Bd 2 18 A5 ?_
 refine Ak ?_
 refine Ai fun B=>?_
 refine Df rfl D (fun h5 D=>?_) fun h5 D=>?_
 ·refine Ap ?_
  repeat first | refine C4 ?_ | refine C3 ?_
  refine Ah ?_
  refine As ?_
  refine Ae (Bp _ _ []) 18 90 B rfl rfl ?_
  refine Ak ?_
  refine Bn rfl rfl (W3 O6 aI) rfl rfl ?_
  refine Ak ?_
  obtain⟨q,hq,D⟩:=Ad D
  refine Bn rfl rfl (Nq hq) rfl rfl ?_
  refine Bn rfl rfl (Fq aI L1) rfl rfl ?_
  refine Bn rfl rfl (An G6 z5 (by decide) rfl rfl rfl rfl Wz (cs:=[.int .u8 ((u8 q).toNat:Int)]) (.cons .int .nil) rfl (l:=([(u8 q)]:List UInt8)) (f:=e8) rfl) rfl rfl ?_
  obtain⟨l,hl,D⟩:=Ad D
  refine Ed (rd:=[1,66]) rfl rfl (Cs G6 D7 .row rfl .row rfl hl rfl) rfl rfl ?_
  refine Ak ?_
  refine Ai fun B=>?_
  refine Ae (Bp _ _ []) 90 114 B rfl rfl ?_
  refine Ak ?_
  refine Ai fun B=>?_
  obtain rfl:=oi_ D
  exact⟨((W (i_1 - 8),l),m1),vO _,hn1,A1 [(0,0),(1,74)]⟩
 ·refine Bv ?_
  repeat first | refine C4 ?_ | refine C3 ?_
  replace D:=C0 D hn1
  refine Ah ?_
  refine As ?_
  refine Jk (fun (b_2:List UInt8)=>mk [(2,.ptr 0 0),(3,.sl 1 (Al e8 b_2))] [(0,.box [.val (.int .i64 0),.val (.slice none 0 0),.val (.bool false),.val (.slice none 0 0)] 50)] 1) D (A1 [(0,0)]) ?_
  rintro b_2 m2 o2 D hn2
  replace D:By.l2 b_2=some o2:=D
  show Ce _ _ _ _ (mk _ _ _)
  unfold By.l2 at D
  refine Ah ?_
  refine B9 (ι:=Bool) (fun (x43_3:Bool)=>mk [(2,.ptr 0 0),(3,.sl 1 (Al e8 b_2)),(43,.val (.bool x43_3))] [(0,.box [.val (.int .i64 0),.val (.slice none 0 0),.val (.bool false),.val (.slice none 0 0)] 50)] 1) (fun (x43_3:Bool)=>By.j3 b_2 x43_3=some o2) ?_ ?_
  ·refine Ae (Bp _ _ []) 1 217 A5 rfl rfl ?_
   refine Ak ?_
   rcases D2 D with ⟨h8,D⟩ | ⟨h8,D⟩
   ·refine Ak ?_
    obtain⟨e,he,D⟩:=Ad D
    refine Ak ?_
    refine Bn (Bu rfl rfl h8) rfl (Bt Zm (Bh D7 (Ao he) (o:=0) (c:=.int .u8 (e.toNat:Int)) rfl rfl)) rfl rfl ?_
    refine Ak ?_
    rcases D2 D with ⟨h9,D⟩ | ⟨h9,D⟩
    ·refine Ak ?_
     obtain⟨e_2,he_2,D⟩:=Ad D
     refine Ak ?_
     refine Bn (Bu rfl rfl h9) rfl (Bt Zm (Bh D7 (Ao he_2) (o:=0) (c:=.int .u8 (e_2.toNat:Int)) rfl rfl)) rfl rfl ?_
     refine Ak ?_
     rcases D2 D with ⟨h10,D⟩ | ⟨h10,D⟩
     ·refine Ak ?_
      refine Ai fun B=>?_
      exact⟨true,D,A1 [(0,0)]⟩
     ·refine Ak ?_
      refine Bn (Bu rfl rfl h10) rfl (Bt Zm (Bh D7 (Ao he) (o:=0) (c:=.int .u8 (e.toNat:Int)) rfl rfl)) rfl rfl ?_
      refine Ak ?_
      rcases D2 D with ⟨h12,D⟩ | ⟨h12,D⟩
      ·refine Ak ?_
       refine Bn (Bu rfl rfl h12) rfl (Bt Zm (Bh D7 (Ao he_2) (o:=0) (c:=.int .u8 (e_2.toNat:Int)) rfl rfl)) rfl rfl ?_
       refine Ak ?_
       refine Ai fun B=>?_
       exact⟨decide (128<=(e_2.toNat:Int)),D,A1 [(0,0)]⟩
      ·refine Ak ?_
       refine Ai fun B=>?_
       exact⟨false,D,A1 [(0,0)]⟩
    ·refine Ak ?_
     refine Bn (Bu rfl rfl rfl) rfl (Bt Zm (Bh D7 (Ao he) (o:=0) (c:=.int .u8 (e.toNat:Int)) rfl rfl)) rfl rfl ?_
     refine Ak ?_
     rcases D2 D with ⟨h15,D⟩ | ⟨h15,D⟩
     ·refine Ak ?_
      obtain⟨e_3,he_3,D⟩:=Ad D
      refine Ak ?_
      refine Bn (Bu rfl rfl h15) rfl (Bt Zm (Bh D7 (Ao he_3) (o:=0) (c:=.int .u8 (e_3.toNat:Int)) rfl rfl)) rfl rfl ?_
      refine Ak ?_
      refine Ai fun B=>?_
      exact⟨decide (128<=(e_3.toNat:Int)),D,A1 [(0,0)]⟩
     ·refine Ak ?_
      refine Ai fun B=>?_
      exact⟨false,D,A1 [(0,0)]⟩
   ·refine Ak ?_
    refine Ai fun B=>?_
    exact⟨false,D,A1 [(0,0)]⟩
  ·rintro x43_3 D
   replace D:By.j3 b_2 x43_3=some o2:=D
   show Ce _ _ _ _ (mk _ _ _)
   unfold By.j3 at D
   refine Df rfl D (fun h19 D=>?_) fun h19 D=>?_
   ·refine Ap ?_
    repeat first | refine C4 ?_ | refine C3 ?_
    refine As ?_
    refine Ae (Bp _ _ []) 1 25 A5 rfl rfl ?_
    refine Ak ?_
    obtain⟨l_2,hl_2,D⟩:=Ad D
    refine Bn rfl rfl (dH G6 D7 hl_2) rfl rfl ?_
    refine Ak ?_
    refine Ai fun B=>?_
    obtain rfl:=oi_ D
    exact⟨(l_2,m2),vO _,hn2,A1 [(0,0)]⟩
   ·refine Bv ?_
    repeat first | refine C4 ?_ | refine C3 ?_
    replace D:=C0 D hn2
    refine Bd 1 25 A5 ?_
    refine Ak ?_
    refine Bn rfl rfl (.build (r:=[.val (.int .i64 2),.sl 1 (Al e8 b_2),.val (.bool false),.val (.slice none 0 0)]) K3 U3 O9 (by kernel_rfl) rfl) rfl rfl ?_
    refine Ak ?_
    refine Ai fun B=>?_
    refine A4 ?_
    obtain rfl:=oi_ D
    exact A3 [] ⟨rfl,rfl⟩
theorem U7 (b:(List UInt8)) (r:(List UInt8)) (D:D4 b=some r):Fn Tryz.prog 142 0 [.sl 1 (Al e8 b)] [] (fun d' b'=>d'=.sl 1 (Al e8 r)/\b'=[]):=by
 unfold D4 at D
 refine Fn.of Tryz.func142 rfl rfl rfl fun w0 I ρ0=>?_
 show Ce _ ⟨w0,I,ρ0,0,0,8⟩ _ _ _
 refine Bd 0 8 A5 ?_
 refine Ak ?_
 refine Ai fun B=>?_
 refine Ah ?_
 refine B9 (ι:=Bool) (fun (x4_1:Bool)=>mk [(0,.sl 1 (Al e8 b)),(4,.val (.bool x4_1))] [] 0) (fun (x4_1:Bool)=>D4.j1 b x4_1=some r) ?_ ?_
 ·refine Ae (Bp _ _ []) 8 24 B rfl rfl ?_
  refine Ak ?_
  refine aQ rfl rfl ⟨_,Vp⟩ rfl ?_
  intro bz hz2
  rcases bz with _ | _
  ·replace D:=hQ D
   refine Ai fun B=>?_
   exact⟨false,D,A1 []⟩
  ·replace D:=gF ((T2 D7 (by decide) (hz2 rfl))) D
   refine Ai fun B=>?_
   exact⟨true,D,A1 []⟩
 ·rintro x4_1 D
  replace D:D4.j1 b x4_1=some r:=D
  show Ce _ _ _ _ (mk _ _ _)
  unfold D4.j1 at D
  refine Df rfl D (fun h5 D=>?_) fun h5 D=>?_
  ·refine Ah ?_
   refine Ae (Bp _ _ []) 0 8 A5 rfl rfl ?_
   refine Ak ?_
   refine Ai fun B=>?_
   refine A4 ?_
   obtain rfl:=oi_ D
   exact A3 [] ⟨rfl,rfl⟩
  ·refine Ap ?_
   repeat first | refine C4 ?_ | refine C3 ?_
   refine Bd 0 32 A5 ?_
   refine Bn rfl rfl (An G6 z5 (by decide) rfl rfl rfl rfl Wz (cs:=[]) .nil rfl (l:=([]:List UInt8)) (f:=e8) rfl) rfl rfl ?_
   refine Ak ?_
   obtain⟨l,hl,D⟩:=Ad D
   refine Ed (rd:=[0]) rfl rfl (Cs G6 D7 .row rfl .sl rfl hl rfl) rfl rfl ?_
   refine Ak ?_
   refine Ai fun B=>?_
   refine A4 ?_
   obtain rfl:=oi_ D
   exact A3 [] ⟨rfl,rfl⟩
theorem Mk.F (rec:(List Aa)->Option ((List Aa))) (hrec:∀ (l:(List Aa)) (r:(List Aa)),rec l=some r->Fn Tryz.prog 100 0 [.sl 4 (Al Aa.enc l)] [] (fun d' b'=>d'=.sl 4 (Al Aa.enc r)/\b'=[])) (l:(List Aa)) (r:(List Aa)) (D:Ci.F rec l=some r):Fn Tryz.prog 100 0 [.sl 4 (Al Aa.enc l)] [] (fun d' b'=>d'=.sl 4 (Al Aa.enc r)/\b'=[]):=by
 unfold Ci.F at D
 refine Fn.of Tryz.func100 rfl rfl rfl fun w0 I ρ0=>?_
 show Ce _ ⟨w0,I,ρ0,0,0,26⟩ _ _ _
 refine Bd 0 8 A5 ?_
 refine Ak ?_
 refine Ai fun B=>?_
 refine Bd 8 16 B ?_
 refine Ak ?_
 refine Ai fun B=>?_
 refine Ah ?_
 refine Bd 16 40 B ?_
 refine Ak ?_
 refine Ai fun B=>?_
 refine As ?_
 refine Jk (fun ((x8_1,out_1):Int×List Aa)=>mk [(3,.row 0),(6,.sl 4 (Al Aa.enc l)),(7,.val (.int .i64 (l.length:Int))),(8,vj x8_1)] [(0,.row 50 4 (Al Aa.enc out_1))] 1) D (A1 []) ?_
 rintro⟨x8_1,out_1⟩ m1 o1 D hn1
 replace D:Ci.l1 rec l x8_1 out_1=some o1:=D
 show Ce _ _ _ _ (mk _ _ _)
 unfold Ci.l1 at D
 refine Bd 1 9 A5 ?_
 refine Ak ?_
 refine Ai fun B=>?_
 refine Ah ?_
 refine Df rfl D (fun h5 D=>?_) fun h5 D=>?_
 ·refine Ap ?_
  repeat first | refine C4 ?_ | refine C3 ?_
  refine Ah ?_
  refine As ?_
  refine Bd 9 41 B ?_
  obtain⟨e,he,D⟩:=Ad D
  refine Ak ?_
  refine Bn rfl rfl (C1 Xe (Bx Aa.enc_len (Ao he) (o:=0) (m:=4) (cs:=[.int .i64 e.Tag,.sl 1 (Al e8 e.Bytes),.bool e.Nested,.sl 4 (Al Aa.enc e.Elements)]) (by simp only [Aa.enc_eq]; rfl) (by decide) rfl) (Ba Aa.enc_len (Ao he) (o:=0) (m:=4) (by decide) rfl)) rfl rfl ?_
  refine Ak ?_
  refine Ai fun B=>?_
  refine Ah ?_
  refine Dh (Bp _ _ []) (by kernel_rfl) [0,1,3,0,8,31,31,127,255,511] 41 121 B rfl rfl (by kernel_rfl) ?_
  refine Ak ?_
  obtain⟨y,hy,D⟩:=Ad D
  refine Dm (U7 _ _ hy) ?_
  refine Ak ?_
  obtain⟨y_2,hy_2,D⟩:=Ad D
  refine Dm (hrec _ _ hy_2) ?_
  refine Ak ?_
  refine Ai fun B=>?_
  refine Ae (Bp _ _ []) 121 161 B rfl rfl ?_
  refine Ak ?_
  refine Bn rfl rfl (An Iv O9 (by decide) rfl rfl rfl rfl Mb (cs:=[.int .i64 e.Tag,.sl 1 (Al e8 y),.bool e.Nested,.sl 4 (Al Aa.enc y_2)]) (.cons .int (.cons .sl (.cons .bool (.cons .sl .nil)))) rfl (l:=([(Aa.mk e.Tag y e.Nested y_2)]:List Aa)) (f:=Aa.enc) (by simp only [Al,wH,wN,Aa.enc_eq]; rfl)) rfl rfl ?_
  obtain⟨l_2,hl_2,D⟩:=Ad D
  refine Ed (rd:=[0,137]) rfl rfl (Cs Iv Aa.enc_len .row rfl .row rfl hl_2 rfl) rfl rfl ?_
  refine Ak ?_
  refine Ai fun B=>?_
  refine Ae (Bp _ _ []) 161 177 B rfl rfl ?_
  refine Ak ?_
  refine Ai fun B=>?_
  obtain rfl:=oi_ D
  exact⟨((W (x8_1 + 1),l_2),m1),vO _,hn1,A1 [(0,145)]⟩
 ·refine Bv ?_
  repeat first | refine C4 ?_ | refine C3 ?_
  replace D:=C0 D hn1
  refine Bd 9 25 B ?_
  refine Ak ?_
  refine Ai fun B=>?_
  refine A4 ?_
  obtain rfl:=oi_ D
  exact A3 [] ⟨rfl,rfl⟩
theorem Mk (l:(List Aa)) (r:(List Aa)) (D:Ci l=some r):Fn Tryz.prog 100 0 [.sl 4 (Al Aa.enc l)] [] (fun d' b'=>d'=.sl 4 (Al Aa.enc r)/\b'=[]):=
 Je (motive:=fun (x:(List Aa)) (r:(List Aa))=>Fn Tryz.prog 100 0 [.sl 4 (Al Aa.enc x)] [] (fun d' b'=>d'=.sl 4 (Al Aa.enc r)/\b'=[])) (fun rec hrec x r h=>Mk.F _ (fun l r h=>hrec l r h) x r h) l r D
theorem L2 (l:(List Aa)) (r:Aa) (D:Gg l=some r):Fn Tryz.prog 70 0 [.sl 4 (Al Aa.enc l)] [] (fun d' b'=>d'=.agg (Aa.dv r)/\b'=[]):=by
 unfold Gg at D
 refine Fn.of Tryz.func70 rfl rfl rfl fun w0 I ρ0=>?_
 show Ce _ ⟨w0,I,ρ0,0,0,6⟩ _ _ _
 refine Bd 0 8 A5 ?_
 refine Ak ?_
 refine Ai fun B=>?_
 refine Bd 8 40 B ?_
 refine Ak ?_
 obtain⟨y,hy,D⟩:=Ad D
 refine Dm (Mk _ _ hy) ?_
 refine Bn rfl rfl (.build (r:=[.val (.int .i64 48),.val (.slice none 0 0),.val (.bool true),.sl 4 (Al Aa.enc y)]) K3 U3 O9 (by kernel_rfl) rfl) rfl rfl ?_
 refine Ak ?_
 refine Ai fun B=>?_
 refine A4 ?_
 obtain rfl:=oi_ D
 exact A3 [] ⟨rfl,rfl⟩
theorem Iq (u:Ax) (r:Aa) (D:E0 u=some r):Fn Tryz.prog 72 0 [.agg [vj u.Alg,vj u.Bits]] [] (fun d' b'=>d'=.agg (Aa.dv r)/\b'=[]):=by
 unfold E0 at D
 refine Fn.of Tryz.func72 rfl rfl rfl fun w0 I ρ0=>?_
 show Ce _ ⟨w0,I,ρ0,0,0,11⟩ _ _ _
 refine Bd 0 16 A5 ?_
 refine Ak ?_
 refine Ai fun B=>?_
 refine Ah ?_
 refine Dh (Bp _ _ [64]) (by kernel_rfl) [0,1,3,0,8,31,63,127,255] 16 88 B rfl rfl (by kernel_rfl) ?_
 refine Ak ?_
 obtain⟨y,hy,D⟩:=Ad D
 refine Dm (He _ _ hy) ?_
 refine Ak ?_
 obtain⟨y_2,hy_2,D⟩:=Ad D
 refine Dm (He _ _ hy_2) ?_
 refine Ix (rd:=[]) rfl rfl (An Iv O9 (by decide) rfl rfl rfl rfl Mb (cs:=[.int .i64 y.Tag,.sl 1 (Al e8 y.Bytes),.bool y.Nested,.sl 4 (Al Aa.enc y.Elements),.int .i64 y_2.Tag,.sl 1 (Al e8 y_2.Bytes),.bool y_2.Nested,.sl 4 (Al Aa.enc y_2.Elements)]) (.cons .int (.cons .sl (.cons .bool (.cons .sl (.cons .int (.cons .sl (.cons .bool (.cons .sl .nil)))))))) rfl (l:=([y,y_2]:List Aa)) (f:=Aa.enc) (by simp only [Al,wH,wN,Aa.enc_eq]; rfl)) rfl rfl rfl ?_
 obtain⟨y_3,hy_3,D⟩:=Ad D
 refine Dm (L2 _ _ hy_3) ?_
 refine Ak ?_
 refine Ai fun B=>?_
 refine A4 ?_
 obtain rfl:=oi_ D
 exact A3 [] ⟨rfl,rfl⟩
theorem Ut (b:Bool) (r:Aa) (D:Ku b=some r):Fn Tryz.prog 74 0 [.val (.bool b)] [] (fun d' b'=>d'=.agg (Aa.dv r)/\b'=[]):=by
 unfold Ku at D
 refine Fn.of Tryz.func74 rfl rfl rfl fun w0 I ρ0=>?_
 show Ce _ ⟨w0,I,ρ0,0,0,8⟩ _ _ _
 refine Bd 0 8 A5 ?_
 refine Ak ?_
 refine Ai fun B=>?_
 refine Ah ?_
 refine Bd 8 16 B ?_
 refine Ak ?_
 refine Ai fun B=>?_
 refine Df rfl D (fun h3 D=>?_) fun h3 D=>?_
 ·refine Ah ?_
  refine Ae (Bp _ _ []) 16 40 B rfl rfl ?_
  refine Bn rfl rfl (An G6 z5 (by decide) rfl rfl rfl rfl Wz (cs:=[.int .u8 255]) (.cons .int .nil) rfl (l:=([(255:UInt8)]:List UInt8)) (f:=e8) rfl) rfl rfl ?_
  refine Bn rfl rfl (.build (r:=[.val (.int .i64 1),.row 16,.val (.bool false),.val (.slice none 0 0)]) K3 U3 O9 (by kernel_rfl) rfl) rfl rfl ?_
  refine Ak ?_
  refine Ai fun B=>?_
  refine A4 ?_
  obtain rfl:=oi_ D
  exact A3 [] ⟨rfl,rfl⟩
 ·refine Ap ?_
  repeat first | refine C4 ?_ | refine C3 ?_
  refine Bd 16 40 B ?_
  refine Bn rfl rfl (An G6 z5 (by decide) rfl rfl rfl rfl Wz (cs:=[.int .u8 0]) (.cons .int .nil) rfl (l:=([(0:UInt8)]:List UInt8)) (f:=e8) rfl) rfl rfl ?_
  refine Bn rfl rfl (.build (r:=[.val (.int .i64 1),.row 16,.val (.bool false),.val (.slice none 0 0)]) K3 U3 O9 (by kernel_rfl) rfl) rfl rfl ?_
  refine Ak ?_
  refine Ai fun B=>?_
  refine A4 ?_
  obtain rfl:=oi_ D
  exact A3 [] ⟨rfl,rfl⟩
theorem O4 (l:(List Aa)) (r:Aa) (D:Ib l=some r):Fn Tryz.prog 32 0 [.sl 4 (Al Aa.enc l)] [] (fun d' b'=>d'=.agg (Aa.dv r)/\b'=[]):=by
 unfold Ib at D
 refine Fn.of Tryz.func32 rfl rfl rfl fun w0 I ρ0=>?_
 show Ce _ ⟨w0,I,ρ0,0,0,5⟩ _ _ _
 refine Bd 0 8 A5 ?_
 refine Ak ?_
 refine Ai fun B=>?_
 refine Bd 8 32 B ?_
 refine Ak ?_
 obtain⟨y,hy,D⟩:=Ad D
 refine Dm (L2 _ _ hy) ?_
 refine Ak ?_
 refine Ai fun B=>?_
 refine A4 ?_
 obtain rfl:=oi_ D
 exact A3 [] ⟨rfl,rfl⟩
theorem Ou (c:Ab) (r:Aa) (D:Cl c=some r):Fn Tryz.prog 115 0 [.agg (Ab.dv c)] [] (fun d' b'=>d'=.agg (Aa.dv r)/\b'=[]):=by
 unfold Cl at D
 refine Fn.of Tryz.func115 rfl rfl rfl fun w0 I ρ0=>?_
 show Ce _ ⟨w0,I,ρ0,0,0,53⟩ _ _ _
 refine Bd 0 16 A5 ?_
 refine Ak ?_
 refine Ai fun B=>?_
 refine Bd 16 24 B ?_
 refine Ak ?_
 refine Ai fun B=>?_
 refine Ah ?_
 refine Bd 24 56 B ?_
 refine Ak ?_
 refine Ai fun B=>?_
 refine As ?_
 refine Jk (fun ((x9_1,names_1):Int×List Aa)=>mk [(1,.ptr 0 0),(2,.ptr 1 0),(3,.row 2),(7,.sl 1 (Al eS c.Names)),(8,.val (.int .i64 (c.Names.length:Int))),(9,vj x9_1)] [(0,.box (Ab.dv c) 67),(1,.box [.val (.int .i64 0),.val (.slice none 0 0),.val (.bool false),.val (.slice none 0 0)] 50),(2,.row 50 4 (Al Aa.enc names_1))] 3) D (A1 [(0,0),(1,8)]) ?_
 rintro⟨x9_1,names_1⟩ m1 o1 D hn1
 replace D:Cl.l1 c x9_1 names_1=some o1:=D
 show Ce _ _ _ _ (mk _ _ _)
 unfold Cl.l1 at D
 refine Bd 3 11 A5 ?_
 refine Ak ?_
 refine Ai fun B=>?_
 refine Ah ?_
 refine Df rfl D (fun h5 D=>?_) fun h5 D=>?_
 ·refine Ap ?_
  repeat first | refine C4 ?_ | refine C3 ?_
  refine Ah ?_
  refine As ?_
  refine Bd 11 35 B ?_
  obtain⟨e,he,D⟩:=Ad D
  refine Ak ?_
  refine Bn rfl rfl (Bt Me (Bh Gz (Ao he) (o:=0) (c:=.str e) rfl rfl)) rfl rfl ?_
  refine Ak ?_
  refine Ai fun B=>?_
  refine Ae (Bp _ _ []) 35 83 B rfl rfl ?_
  refine Ak ?_
  obtain⟨y,hy,D⟩:=Ad D
  refine Dm (Mh _ _ hy) ?_
  refine Bn rfl rfl (An Iv O9 (by decide) rfl rfl rfl rfl Mb (cs:=[.int .i64 y.Tag,.sl 1 (Al e8 y.Bytes),.bool y.Nested,.sl 4 (Al Aa.enc y.Elements)]) (.cons .int (.cons .sl (.cons .bool (.cons .sl .nil)))) rfl (l:=([y]:List Aa)) (f:=Aa.enc) (by simp only [Al,wH,wN,Aa.enc_eq]; rfl)) rfl rfl ?_
  obtain⟨l,hl,D⟩:=Ad D
  refine Ed (rd:=[2,59]) rfl rfl (Cs Iv Aa.enc_len .row rfl .row rfl hl rfl) rfl rfl ?_
  refine Ak ?_
  refine Ai fun B=>?_
  refine Ae (Bp _ _ []) 83 99 B rfl rfl ?_
  refine Ak ?_
  refine Ai fun B=>?_
  obtain rfl:=oi_ D
  exact⟨((W (x9_1 + 1),l),m1),vO _,hn1,A1 [(0,0),(1,1),(2,67)]⟩
 ·refine Bv ?_
  repeat first | refine C4 ?_ | refine C3 ?_
  replace D:=C0 D hn1
  refine Ah ?_
  refine Gf (σ':=mk [(1,.ptr 0 0),(2,.ptr 1 0),(3,.sl 4 (Al Aa.enc names_1))] [(0,.box (Ab.dv c) 67),(1,.box [.val (.int .i64 0),.val (.slice none 0 0),.val (.bool false),.val (.slice none 0 0)] 50)] 2) (A1 [(0,0),(1,1)]) ?_
  refine Dh (Bp _ _ [258]) (by kernel_rfl) [0,1,3,0,8,31,0,64,255,0,512,2047,0,4096,16383,0,32768,131071,0,262144,1048575,0,2097152,8388607,0,16777216,67108863,0,134217728,536870911,0,2147483647,4294967295,8589934591,17179869183] 2 282 A5 rfl rfl (by kernel_rfl) ?_
  refine Ak ?_
  obtain⟨y_12,hy_12,D⟩:=Ad D
  refine Dm (He _ _ hy_12) ?_
  refine Ak ?_
  obtain⟨y_13,hy_13,D⟩:=Ad D
  refine Dm (Mh _ _ hy_13) ?_
  refine Ak ?_
  obtain⟨y_14,hy_14,D⟩:=Ad D
  refine Dm (Mh _ _ hy_14) ?_
  refine Ak ?_
  obtain⟨y_15,hy_15,D⟩:=Ad D
  refine Dm (Iq _ _ hy_15) ?_
  refine Ak ?_
  obtain⟨y_16,hy_16,D⟩:=Ad D
  refine Dm (He _ _ hy_16) ?_
  refine Ak ?_
  obtain⟨y_17,hy_17,D⟩:=Ad D
  refine Dm (Iq _ _ hy_17) ?_
  refine Ak ?_
  obtain⟨y_18,hy_18,D⟩:=Ad D
  refine Dm (He _ _ hy_18) ?_
  refine Ak ?_
  obtain⟨y_19,hy_19,D⟩:=Ad D
  refine Dm (He _ _ hy_19) ?_
  refine Ak ?_
  obtain⟨y_20,hy_20,D⟩:=Ad D
  refine Dm (Ut _ _ hy_20) ?_
  refine Ak ?_
  obtain⟨y_21,hy_21,D⟩:=Ad D
  refine Dm (He _ _ hy_21) ?_
  refine Ak ?_
  obtain⟨y_22,hy_22,D⟩:=Ad D
  refine Dm (O4 _ _ hy_22) ?_
  refine Ix (rd:=[]) rfl rfl (An Iv O9 (by decide) rfl rfl rfl rfl Mb (cs:=[.int .i64 y_12.Tag,.sl 1 (Al e8 y_12.Bytes),.bool y_12.Nested,.sl 4 (Al Aa.enc y_12.Elements),.int .i64 y_13.Tag,.sl 1 (Al e8 y_13.Bytes),.bool y_13.Nested,.sl 4 (Al Aa.enc y_13.Elements),.int .i64 y_14.Tag,.sl 1 (Al e8 y_14.Bytes),.bool y_14.Nested,.sl 4 (Al Aa.enc y_14.Elements),.int .i64 y_15.Tag,.sl 1 (Al e8 y_15.Bytes),.bool y_15.Nested,.sl 4 (Al Aa.enc y_15.Elements),.int .i64 y_16.Tag,.sl 1 (Al e8 y_16.Bytes),.bool y_16.Nested,.sl 4 (Al Aa.enc y_16.Elements),.int .i64 y_17.Tag,.sl 1 (Al e8 y_17.Bytes),.bool y_17.Nested,.sl 4 (Al Aa.enc y_17.Elements),.int .i64 y_18.Tag,.sl 1 (Al e8 y_18.Bytes),.bool y_18.Nested,.sl 4 (Al Aa.enc y_18.Elements),.int .i64 y_19.Tag,.sl 1 (Al e8 y_19.Bytes),.bool y_19.Nested,.sl 4 (Al Aa.enc y_19.Elements),.int .i64 y_20.Tag,.sl 1 (Al e8 y_20.Bytes),.bool y_20.Nested,.sl 4 (Al Aa.enc y_20.Elements),.int .i64 y_21.Tag,.sl 1 (Al e8 y_21.Bytes),.bool y_21.Nested,.sl 4 (Al Aa.enc y_21.Elements),.int .i64 y_22.Tag,.sl 1 (Al e8 y_22.Bytes),.bool y_22.Nested,.sl 4 (Al Aa.enc y_22.Elements)]) (.cons .int (.cons .sl (.cons .bool (.cons .sl (.cons .int (.cons .sl (.cons .bool (.cons .sl (.cons .int (.cons .sl (.cons .bool (.cons .sl (.cons .int (.cons .sl (.cons .bool (.cons .sl (.cons .int (.cons .sl (.cons .bool (.cons .sl (.cons .int (.cons .sl (.cons .bool (.cons .sl (.cons .int (.cons .sl (.cons .bool (.cons .sl (.cons .int (.cons .sl (.cons .bool (.cons .sl (.cons .int (.cons .sl (.cons .bool (.cons .sl (.cons .int (.cons .sl (.cons .bool (.cons .sl (.cons .int (.cons .sl (.cons .bool (.cons .sl .nil)))))))))))))))))))))))))))))))))))))))))))) rfl (l:=([y_12,y_13,y_14,y_15,y_16,y_17,y_18,y_19,y_20,y_21,y_22]:List Aa)) (f:=Aa.enc) (by simp only [Al,wH,wN,Aa.enc_eq]; rfl)) rfl rfl rfl ?_
  obtain⟨y_23,hy_23,D⟩:=Ad D
  refine Dm (L2 _ _ hy_23) ?_
  refine Ak ?_
  refine Ai fun B=>?_
  refine A4 ?_
  obtain rfl:=oi_ D
  exact A3 [] ⟨rfl,rfl⟩
theorem Mz (c:Ab) (r:Aa) (D:Fb c=some r):Fn Tryz.prog 69 0 [.agg (Ab.dv c)] [] (fun d' b'=>d'=.agg (Aa.dv r)/\b'=[]):=by
 unfold Fb at D
 refine Fn.of Tryz.func69 rfl rfl rfl fun w0 I ρ0=>?_
 show Ce _ ⟨w0,I,ρ0,0,0,17⟩ _ _ _
 refine Bd 0 16 A5 ?_
 refine Ak ?_
 refine Ai fun B=>?_
 refine Ah ?_
 refine Dh (Bp _ _ [96,112]) (by kernel_rfl) [0,1,0,4,12,31,0,64,192,511,1023,2047,4095,8191,16383] 16 136 B rfl rfl (by kernel_rfl) ?_
 refine Ak ?_
 obtain⟨y,hy,D⟩:=Ad D
 refine Dm (Ou _ _ hy) ?_
 refine Ak ?_
 obtain⟨y_2,hy_2,D⟩:=Ad D
 refine Dm (He _ _ hy_2) ?_
 refine Ak ?_
 obtain⟨y_3,hy_3,D⟩:=Ad D
 refine Dm (He _ _ hy_3) ?_
 refine Ix (rd:=[]) rfl rfl (An Iv O9 (by decide) rfl rfl rfl rfl Mb (cs:=[.int .i64 y_2.Tag,.sl 1 (Al e8 y_2.Bytes),.bool y_2.Nested,.sl 4 (Al Aa.enc y_2.Elements),.int .i64 y_3.Tag,.sl 1 (Al e8 y_3.Bytes),.bool y_3.Nested,.sl 4 (Al Aa.enc y_3.Elements)]) (.cons .int (.cons .sl (.cons .bool (.cons .sl (.cons .int (.cons .sl (.cons .bool (.cons .sl .nil)))))))) rfl (l:=([y_2,y_3]:List Aa)) (f:=Aa.enc) (by simp only [Al,wH,wN,Aa.enc_eq]; rfl)) rfl rfl rfl ?_
 obtain⟨y_4,hy_4,D⟩:=Ad D
 refine Dm (L2 _ _ hy_4) ?_
 refine Ix (rd:=[]) rfl rfl (An Iv O9 (by decide) rfl rfl rfl rfl Mb (cs:=[.int .i64 y.Tag,.sl 1 (Al e8 y.Bytes),.bool y.Nested,.sl 4 (Al Aa.enc y.Elements),.int .i64 y_4.Tag,.sl 1 (Al e8 y_4.Bytes),.bool y_4.Nested,.sl 4 (Al Aa.enc y_4.Elements)]) (.cons .int (.cons .sl (.cons .bool (.cons .sl (.cons .int (.cons .sl (.cons .bool (.cons .sl .nil)))))))) rfl (l:=([y,y_4]:List Aa)) (f:=Aa.enc) (by simp only [Al,wH,wN,Aa.enc_eq]; rfl)) rfl rfl rfl ?_
 obtain⟨y_5,hy_5,D⟩:=Ad D
 refine Dm (L2 _ _ hy_5) ?_
 refine Ak ?_
 refine Ai fun B=>?_
 refine A4 ?_
 obtain rfl:=oi_ D
 exact A3 [] ⟨rfl,rfl⟩
theorem O3 (x':Ac) (r:Aa) (D:Cp x'=some r):Fn Tryz.prog 30 0 [.agg (Ac.dv x')] [] (fun d' b'=>d'=.agg (Aa.dv r)/\b'=[]):=by
 unfold Cp at D
 refine Fn.of Tryz.func30 rfl rfl rfl fun w0 I ρ0=>?_
 show Ce _ ⟨w0,I,ρ0,0,0,35⟩ _ _ _
 refine Bd 0 16 A5 ?_
 refine Ak ?_
 refine Ai fun B=>?_
 refine Bd 16 24 B ?_
 refine Ak ?_
 refine Ai fun B=>?_
 refine Ah ?_
 refine Bd 24 56 B ?_
 refine Ak ?_
 refine Ai fun B=>?_
 refine As ?_
 refine Jk (fun ((x9_1,chain_1):Int×List Aa)=>mk [(1,.ptr 0 0),(2,.ptr 1 0),(3,.row 2),(7,.sl 15 (Al Ab.enc x'.Chain)),(8,.val (.int .i64 (x'.Chain.length:Int))),(9,vj x9_1)] [(0,.box (Ac.dv x') 40),(1,.box [.val (.int .i64 0),.val (.slice none 0 0),.val (.bool false),.val (.slice none 0 0)] 50),(2,.row 50 4 (Al Aa.enc chain_1))] 3) D (A1 [(0,0),(1,8)]) ?_
 rintro⟨x9_1,chain_1⟩ m1 o1 D hn1
 replace D:Cp.l1 x' x9_1 chain_1=some o1:=D
 show Ce _ _ _ _ (mk _ _ _)
 unfold Cp.l1 at D
 refine Bd 3 11 A5 ?_
 refine Ak ?_
 refine Ai fun B=>?_
 refine Ah ?_
 refine Df rfl D (fun h5 D=>?_) fun h5 D=>?_
 ·refine Ap ?_
  repeat first | refine C4 ?_ | refine C3 ?_
  refine Ah ?_
  refine As ?_
  refine Bd 11 43 B ?_
  obtain⟨e,he,D⟩:=Ad D
  refine Ak ?_
  refine Bn rfl rfl (C1 Uu (Bx Ab.enc_len (Ao he) (o:=0) (m:=15) (cs:=(Ab.ec e)) rfl (by decide) rfl) (Ba Ab.enc_len (Ao he) (o:=0) (m:=15) (by decide) rfl)) rfl rfl ?_
  refine Ak ?_
  refine Ai fun B=>?_
  refine Ae (Bp _ _ []) 43 91 B rfl rfl ?_
  refine Ak ?_
  obtain⟨y,hy,D⟩:=Ad D
  refine Dm (Mz _ _ hy) ?_
  refine Bn rfl rfl (An Iv O9 (by decide) rfl rfl rfl rfl Mb (cs:=[.int .i64 y.Tag,.sl 1 (Al e8 y.Bytes),.bool y.Nested,.sl 4 (Al Aa.enc y.Elements)]) (.cons .int (.cons .sl (.cons .bool (.cons .sl .nil)))) rfl (l:=([y]:List Aa)) (f:=Aa.enc) (by simp only [Al,wH,wN,Aa.enc_eq]; rfl)) rfl rfl ?_
  obtain⟨l,hl,D⟩:=Ad D
  refine Ed (rd:=[2,67]) rfl rfl (Cs Iv Aa.enc_len .row rfl .row rfl hl rfl) rfl rfl ?_
  refine Ak ?_
  refine Ai fun B=>?_
  refine Ae (Bp _ _ []) 91 107 B rfl rfl ?_
  refine Ak ?_
  refine Ai fun B=>?_
  obtain rfl:=oi_ D
  exact⟨((W (x9_1 + 1),l),m1),vO _,hn1,A1 [(0,0),(1,1),(2,75)]⟩
 ·refine Bv ?_
  repeat first | refine C4 ?_ | refine C3 ?_
  replace D:=C0 D hn1
  refine Ah ?_
  refine Gf (σ':=mk [(1,.ptr 0 0),(2,.ptr 1 0),(3,.sl 4 (Al Aa.enc chain_1))] [(0,.box (Ac.dv x') 40),(1,.box [.val (.int .i64 0),.val (.slice none 0 0),.val (.bool false),.val (.slice none 0 0)] 50)] 2) (A1 [(0,0),(1,1)]) ?_
  refine Dh (Bp _ _ [114]) (by kernel_rfl) [0,1,3,0,8,31,0,64,255,0,512,2047,0,8191,16383,32767,65535] 2 138 A5 rfl rfl (by kernel_rfl) ?_
  refine Ak ?_
  obtain⟨y_6,hy_6,D⟩:=Ad D
  refine Dm (Mh _ _ hy_6) ?_
  refine Ak ?_
  obtain⟨y_7,hy_7,D⟩:=Ad D
  refine Dm (Iq _ _ hy_7) ?_
  refine Ak ?_
  obtain⟨y_8,hy_8,D⟩:=Ad D
  refine Dm (He _ _ hy_8) ?_
  refine Ak ?_
  obtain⟨y_9,hy_9,D⟩:=Ad D
  refine Dm (Ut _ _ hy_9) ?_
  refine Ak ?_
  obtain⟨y_10,hy_10,D⟩:=Ad D
  refine Dm (O4 _ _ hy_10) ?_
  refine Ix (rd:=[]) rfl rfl (An Iv O9 (by decide) rfl rfl rfl rfl Mb (cs:=[.int .i64 y_6.Tag,.sl 1 (Al e8 y_6.Bytes),.bool y_6.Nested,.sl 4 (Al Aa.enc y_6.Elements),.int .i64 y_7.Tag,.sl 1 (Al e8 y_7.Bytes),.bool y_7.Nested,.sl 4 (Al Aa.enc y_7.Elements),.int .i64 y_8.Tag,.sl 1 (Al e8 y_8.Bytes),.bool y_8.Nested,.sl 4 (Al Aa.enc y_8.Elements),.int .i64 y_9.Tag,.sl 1 (Al e8 y_9.Bytes),.bool y_9.Nested,.sl 4 (Al Aa.enc y_9.Elements),.int .i64 y_10.Tag,.sl 1 (Al e8 y_10.Bytes),.bool y_10.Nested,.sl 4 (Al Aa.enc y_10.Elements)]) (.cons .int (.cons .sl (.cons .bool (.cons .sl (.cons .int (.cons .sl (.cons .bool (.cons .sl (.cons .int (.cons .sl (.cons .bool (.cons .sl (.cons .int (.cons .sl (.cons .bool (.cons .sl (.cons .int (.cons .sl (.cons .bool (.cons .sl .nil)))))))))))))))))))) rfl (l:=([y_6,y_7,y_8,y_9,y_10]:List Aa)) (f:=Aa.enc) (by simp only [Al,wH,wN,Aa.enc_eq]; rfl)) rfl rfl rfl ?_
  obtain⟨y_11,hy_11,D⟩:=Ad D
  refine Dm (L2 _ _ hy_11) ?_
  refine Ak ?_
  refine Ai fun B=>?_
  refine A4 ?_
  obtain rfl:=oi_ D
  exact A3 [] ⟨rfl,rfl⟩
theorem dJ (n:Int) (r:Bool) (D:Lr n=some r):Fn Tryz.prog 116 0 [vj n] [] (fun d' b'=>d'=.val (.bool r)/\b'=[]):=by
 unfold Lr at D
 refine Fn.of Tryz.func116 rfl rfl rfl fun w0 I ρ0=>?_
 show Ce _ ⟨w0,I,ρ0,0,0,14⟩ _ _ _
 refine Bd 0 8 A5 ?_
 refine Ak ?_
 refine Ai fun B=>?_
 refine Bd 8 104 B ?_
 refine Ak ?_
 rcases D2 D with ⟨h2,D⟩ | ⟨h2,D⟩
 ·refine Ak ?_
  rcases D2 D with ⟨h3,D⟩ | ⟨h3,D⟩
  ·refine Ak ?_
   refine Bn (Bu rfl rfl h3) rfl gX rfl rfl ?_
   refine Ak ?_
   refine Ai fun B=>?_
   refine A4 ?_
   obtain rfl:=oi_ D
   exact A3 [] ⟨rfl,rfl⟩
  ·refine Ak ?_
   refine Ai fun B=>?_
   refine A4 ?_
   obtain rfl:=oi_ D
   exact A3 [] ⟨rfl,rfl⟩
 ·refine Ak ?_
  refine Ai fun B=>?_
  refine A4 ?_
  obtain rfl:=oi_ D
  exact A3 [] ⟨rfl,rfl⟩
theorem Sq (rec:Aa->Option (Bool)) (hrec:∀ (v:Aa) (r:Bool),rec v=some r->Fn Tryz.prog 75 0 [.agg (Aa.dv v)] [] (fun d' b'=>d'=.val (.bool r)/\b'=[])) (x':Aa) (r:Bool) (D:El rec x'=some r):Fn Tryz.prog 118 0 [.agg (Aa.dv x')] [] (fun d' b'=>d'=.val (.bool r)/\b'=[]):=by
 unfold El at D
 refine Fn.of Tryz.func118 rfl rfl rfl fun w0 I ρ0=>?_
 show Ce _ ⟨w0,I,ρ0,0,0,6⟩ _ _ _
 refine Bd 0 16 A5 ?_
 refine Ak ?_
 refine Ai fun B=>?_
 refine Bd 16 48 B ?_
 refine Ak ?_
 obtain⟨y,hy,D⟩:=Ad D
 refine Dm (hrec _ _ hy) ?_
 refine Ak ?_
 refine Ai fun B=>?_
 refine A4 ?_
 obtain rfl:=oi_ D
 exact A3 [] ⟨rfl,rfl⟩
theorem Hk (rec:Aa->Option (Bool)) (hrec:∀ (v:Aa) (r:Bool),rec v=some r->Fn Tryz.prog 75 0 [.agg (Aa.dv v)] [] (fun d' b'=>d'=.val (.bool r)/\b'=[])) (s:(List Aa)) (f:Aa->Option (Bool)) (hf_f:∀ (x0:Aa) (y:Bool),f x0=some y->Fn Tryz.prog 118 0 [.agg (Aa.dv x0)] [] (fun d' b'=>d'=.val (.bool y)/\b'=[])) (r:Int) (D:Bc rec s f=some r):Fn Tryz.prog 156 0 [.sl 4 (Al Aa.enc s),.clo 118 0 []] [] (fun d' b'=>d'=vj r/\b'=[]):=by
 unfold Bc at D
 refine Fn.of Tryz.func156 rfl rfl rfl fun w0 I ρ0=>?_
 show Ce _ ⟨w0,I,ρ0,0,0,19⟩ _ _ _
 refine Bd 0 8 A5 ?_
 refine Ak ?_
 refine Ai fun B=>?_
 refine Ah ?_
 refine Bd 8 32 B ?_
 refine Ak ?_
 refine Ai fun B=>?_
 refine As ?_
 refine Jk (fun (x8_1:Int)=>mk [(0,.sl 4 (Al Aa.enc s)),(1,.clo 118 0 []),(7,.val (.int .i64 (s.length:Int))),(8,vj x8_1)] [] 0) D (A1 []) ?_
 rintro x8_1 m1 o1 D hn1
 replace D:Bc.l1 s f x8_1=some o1:=D
 show Ce _ _ _ _ (mk _ _ _)
 unfold Bc.l1 at D
 refine Bd 0 8 A5 ?_
 refine Ak ?_
 refine Ai fun B=>?_
 refine Ah ?_
 refine Df rfl D (fun h4 D=>?_) fun h4 D=>?_
 ·refine Ap ?_
  repeat first | refine C4 ?_ | refine C3 ?_
  refine Ah ?_
  refine As ?_
  refine Bd 8 24 B ?_
  refine Ak ?_
  refine Ai fun B=>?_
  refine Bd 24 72 B ?_
  refine Ak ?_
  obtain⟨e,he,D⟩:=Ad D
  refine Ak ?_
  refine Bn rfl rfl (C1 Xe (Bx Aa.enc_len (Ao he) (o:=0) (m:=4) (cs:=[.int .i64 e.Tag,.sl 1 (Al e8 e.Bytes),.bool e.Nested,.sl 4 (Al Aa.enc e.Elements)]) (by simp only [Aa.enc_eq]; rfl) (by decide) rfl) (Ba Aa.enc_len (Ao he) (o:=0) (m:=4) (by decide) rfl)) rfl rfl ?_
  obtain⟨y,hy,D⟩:=Ad D
  refine Lf (rd:=[]) (ps:=[]) (gs:=[]) false rfl rfl (hf_f e _ hy) rfl rfl (.cons (.agg (.cons .val (.cons .sl (.cons .val (.cons .sl .nil))))) .nil) rfl rfl (by intro h; cases h) rfl rfl rfl rfl ?_
  refine Ai fun B=>?_
  refine Df rfl D (fun h7 D=>?_) fun h7 D=>?_
  ·refine Ah ?_
   refine Ae (Bp _ _ []) 72 88 B rfl rfl ?_
   refine Ak ?_
   refine Ai fun B=>?_
   refine A4 ?_
   replace D:=C0 D hn1
   obtain rfl:=oi_ D
   exact A3 [] ⟨rfl,rfl⟩
  ·refine Ap ?_
   repeat first | refine C4 ?_ | refine C3 ?_
   refine Ae (Bp _ _ []) 72 88 B rfl rfl ?_
   refine Ak ?_
   refine Ai fun B=>?_
   obtain rfl:=oi_ D
   exact⟨(W (x8_1 + 1),m1),vO _,hn1,A1 []⟩
 ·refine Bv ?_
  repeat first | refine C4 ?_ | refine C3 ?_
  replace D:=C0 D hn1
  refine Bd 8 16 B ?_
  refine Ak ?_
  refine Ai fun B=>?_
  refine A4 ?_
  obtain rfl:=oi_ D
  exact A3 [] ⟨rfl,rfl⟩
end Go.Proofs.YtfanepojdefdpaaGreat
