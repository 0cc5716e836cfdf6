import Derived.Test.YtfanepojdefdpaaGreatT1
import Derived.Test.YtfanepojdefdpaaGreatA2
import Derived.Test.YtfanepojdefdpaaGreatA3
import Derived.Test.YtfanepojdefdpaaGreatA4
set_option linter.unusedVariables false
set_option linter.unusedSimpArgs false
set_option maxRecDepth 100000
set_option maxHeartbeats 1600000
namespace Go.Proofs.YtfanepojdefdpaaGreat
open Go.RowKit
theorem Ug (d:Al) (name:ByteArray) (key:Aw) (id:Int) (r:(List Ab)×Al) (D:F8 d name key id=some r):Fn Tryz.prog 95 1 [.ptr 0 0,vk name,.agg [vj key.Alg,vj key.Bits],vj id] [.box [.sl 1 (An eI d.L),vj d.At] 59] (fun d' b'=>d'=.row 1/\b'=[.box [.sl 1 (An eI r.2.L),vj r.2.At] 59,.row 67 15 (An Ab.enc r.1)]):=by
 unfold F8 at D
 refine Fn.of Tryz.func95 rfl rfl rfl fun w0 I ρ0=>?_
 show Ca _ ⟨w0,I,ρ0,1,1,56⟩ _ _ _
 refine A6 1 17 Az ?_
 refine Ak ?_
 refine Ai fun B=>?_
 refine Ah ?_
 refine Af (Bi _ _ [25]) 17 49 B rfl rfl ?_
 refine Ak ?_
 refine O8 (rd:=[]) rfl rfl (As Hf z3 (by decide) rfl rfl rfl rfl Mm (cs:=[.int .i64 1,.int .i64 0,.int .i64 2]) (.cons .int (.cons .int (.cons .int .nil))) rfl (l:=([1,0,2]:List Int)) (f:=eI) rfl) rfl rfl rfl ?_
 obtain⟨y,hy,D⟩:=Ae D
 refine Hc [0] [0] [] false (Ei _ _ _ hy) ?_
 refine Ak ?_
 refine Ai fun B=>?_
 refine A6 49 89 B ?_
 refine Ak ?_
 obtain⟨y_2,hy_2,D⟩:=Ae D
 refine Hc [0] [0] [] false (Hk _ _ _ hy_2) ?_
 refine Ak ?_
 refine Ai fun B=>?_
 refine A6 89 97 B ?_
 refine Ak ?_
 refine Ai fun B=>?_
 refine Ah ?_
 refine A6 97 105 B ?_
 refine Ak ?_
 refine Ai fun B=>?_
 refine Au ?_
 refine Lu (fun ((signer_1,issuer_1,i_1,d_1,above_1):Int×ByteArray×Int×Al×List Ab)=>mk [(0,.ptr 0 0),(1,vk name),(3,vj id),(6,.ptr 1 0),(9,vj y.1),(10,vj signer_1),(11,vk issuer_1),(12,.row 2),(13,vj i_1)] [(0,.box [.sl 1 (An eI d_1.L),vj d_1.At] 59),(1,.box [vj key.Alg,vj key.Bits] 37),(2,.row 67 15 (An Ab.enc above_1))] 3) D (Ay [(0,0),(1,1)]) ?_
 rintro⟨signer_1,issuer_1,i_1,d_1,above_1⟩ m1 o1 D hn1
 replace D:F8.l1 name key id y signer_1 issuer_1 i_1 d_1 above_1=some o1:=D
 show Ca _ _ _ _ (mk _ _ _)
 unfold F8.l1 at D
 refine Ah ?_
 refine A6 3 27 Az ?_
 refine Ak ?_
 refine Ai fun B=>?_
 refine Dh rfl D (fun h7 D=>?_) fun h7 D=>?_
 ·refine Ao ?_
  repeat first | refine Cw ?_ | refine Cy ?_
  refine Ah ?_
  refine Au ?_
  refine A6 27 67 B ?_
  refine Bj rfl rfl (As Tz z9 (by decide) rfl rfl rfl rfl wP (cs:=[.str (⟨#[99,97]⟩:ByteArray),.str (⟨#[99,98]⟩:ByteArray),.str (⟨#[99,99]⟩:ByteArray)]) (.cons .str (.cons .str (.cons .str .nil))) rfl (l:=([(⟨#[99,97]⟩:ByteArray),(⟨#[99,98]⟩:ByteArray),(⟨#[99,99]⟩:ByteArray)]:List ByteArray)) (f:=eS) rfl) rfl rfl ?_
  refine Ak ?_
  obtain⟨e,he,D⟩:=Ae D
  refine Ak ?_
  refine Ff (rd:=[27]) rfl rfl (.loadR1 Wv (Bf Jo (Aq he) (o:=0) (c:=.str e) rfl rfl)) rfl rfl ?_
  refine Ak ?_
  refine Ai fun B=>?_
  refine A6 67 147 B ?_
  refine Ak ?_
  refine Bj rfl rfl (.build (r:=[.val (.int .i64 5),.val (.int .i64 2048)]) Vs nT z37 (by kernel_rfl) rfl) rfl rfl ?_
  refine Ak ?_
  obtain⟨y_3,hy_3,D⟩:=Ae D
  refine Hc [0] [0] [] false (M2 _ _ _ _ _ _ _ _ hy_3) ?_
  refine Ak ?_
  refine Ai fun B=>?_
  refine A6 147 187 B ?_
  refine Ak ?_
  refine Bj rfl rfl (As W4 sX (by decide) rfl rfl rfl rfl sQ (cs:=(Ab.ec y_3.1)) (.cons .int (.cons .str (.cons .str (.cons .int (.cons .int (.cons .int (.cons .int (.cons .int (.cons .int (.cons .int (.cons .bool (.cons .int (.cons .sl (.cons .int (.cons .int .nil))))))))))))))) rfl (l:=([y_3.1]:List Ab)) (f:=Ab.enc) rfl) rfl rfl ?_
  refine Ak ?_
  obtain⟨l,hl,D⟩:=Ae D
  refine Ff (rd:=[155,2]) rfl rfl (Dg W4 Ab.enc_len .row rfl .row rfl hl rfl) rfl rfl ?_
  refine Ak ?_
  refine Ai fun B=>?_
  refine Af (Bi _ _ []) 187 227 B rfl rfl ?_
  refine Ak ?_
  refine Ai fun B=>?_
  refine Af (Bi _ _ []) 227 251 B rfl rfl ?_
  refine Ak ?_
  refine Ai fun B=>?_
  obtain rfl:=oi_ D
  exact⟨((W (11 + i_1),e,W (i_1 + 1),y_3.2,l),m1),aDn _,hn1,Ay [(0,0),(1,1),(2,171)]⟩
 ·refine B8 ?_
  repeat first | refine Cw ?_ | refine Cy ?_
  replace D:=C5 D hn1
  refine A6 27 115 B ?_
  refine Ak ?_
  obtain⟨y_4,hy_4,D⟩:=Ae D
  refine Hc [0] [0] [] false (M2 _ _ _ _ _ _ _ _ hy_4) ?_
  refine Bj rfl rfl (As W4 sX (by decide) rfl rfl rfl rfl sQ (cs:=(Ab.ec y_4.1)) (.cons .int (.cons .str (.cons .str (.cons .int (.cons .int (.cons .int (.cons .int (.cons .int (.cons .int (.cons .int (.cons .bool (.cons .int (.cons .sl (.cons .int (.cons .int .nil))))))))))))))) rfl (l:=([y_4.1]:List Ab)) (f:=Ab.enc) rfl) rfl rfl ?_
  refine Ak ?_
  obtain⟨l_2,hl_2,D⟩:=Ae D
  refine Ff (rd:=[83,2]) rfl rfl (Dg W4 Ab.enc_len .row rfl .row rfl hl_2 rfl) rfl rfl ?_
  refine Ak ?_
  refine Ai fun B=>?_
  refine A4 ?_
  obtain rfl:=oi_ D
  exact A3 [(0,0),(1,99)] ⟨rfl,rfl⟩
theorem cK (d:Al) (alias:ByteArray) (name:ByteArray) (id:Int) (r:Ac×Al) (D:F7 d alias name id=some r):Fn Tryz.prog 50 1 [.ptr 0 0,vk alias,vk name,vj id] [.box [.sl 1 (An eI d.L),vj d.At] 59] (fun d' b'=>d'=.agg [vk r.1.Alias,vj r.1.Key.Alg,vj r.1.Key.Bits,vj r.1.KeyId,.val (.bool r.1.Secret),.row 1]/\b'=[.box [.sl 1 (An eI r.2.L),vj r.2.At] 59,.row 67 15 (An Ab.enc r.1.Chain)]):=by
 unfold F7 at D
 refine Fn.of Tryz.func50 rfl rfl rfl fun w0 I ρ0=>?_
 show Ca _ ⟨w0,I,ρ0,1,1,28⟩ _ _ _
 refine A6 1 9 Az ?_
 refine Ak ?_
 refine Ai fun B=>?_
 refine A6 9 81 B ?_
 refine Ak ?_
 obtain⟨y,hy,D⟩:=Ae D
 refine Hc [0] [0] [] false (hH _ _ hy) ?_
 refine Ak ?_
 obtain⟨y_2,hy_2,D⟩:=Ae D
 refine Hc [0] [0] [] false (Lz _ _ _ hy_2) ?_
 refine Bj rfl rfl (.build (r:=[vk alias,vj y.1.Alg,vj y.1.Bits,vj id,.val (.bool y_2.1),.val (.slice none 0 0)]) Nj bH dI (by kernel_rfl) rfl) rfl rfl ?_
 refine Ak ?_
 refine Ai fun B=>?_
 refine Bm (ι:=Al×List Ab) (fun ((b_1,l_1):Al×List Ab)=>mk [(8,.ptr 1 0),(9,.ptr 2 0)] [(0,.box [.sl 1 (An eI b_1.L),vj b_1.At] 59),(1,.box [.val (.string (⟨#[]⟩:ByteArray)),.val (.int .i64 0),.val (.int .i64 0),.val (.int .i64 0),.val (.bool false),.val (.slice none 0 0)] 40),(2,.box [vk alias,vj y.1.Alg,vj y.1.Bits,vj id,.val (.bool y_2.1),.row 3] 40),(3,.row 67 15 (An Ab.enc l_1))] 4) (fun ((b_1,l_1):Al×List Ab)=>F7.j1 alias id y y_2 b_1 l_1=some r) ?_ ?_
 ·refine Ah ?_
  refine Af (Bi _ _ []) 81 105 B rfl rfl ?_
  refine Ak ?_
  obtain⟨y_3,hy_3,D⟩:=Ae D
  refine Hc [0] [0] [] false (Lz _ _ _ hy_3) ?_
  refine Ak ?_
  refine Ai fun B=>?_
  refine Dh rfl D (fun h4 D=>?_) fun h4 D=>?_
  ·refine Af (Bi _ _ []) 105 169 B rfl rfl ?_
   refine Ak ?_
   obtain⟨y_4,hy_4,D⟩:=Ae D
   refine Fg (rd:=[0]) (ps:=[0]) (gs:=[]) false rfl (Ug _ _ _ _ _ hy_4) rfl rfl (.cons (.ptr rfl) (.cons .val (.cons (.agg (.cons .val (.cons .val .nil))) (.cons .val .nil)))) ⟨_,_,_,rfl,.head _,⟨_,rfl,(by repeat' (first | exact Hm.nil | apply Hm.cons | exact Ag.val | exact Ag.sl | exact Ag.nils | exact Ag.ptr rfl | exact Ag.rowK rfl))⟩,rfl⟩ rfl (by intro h; cases h) rfl (by intro h; first | (cases h; done) | exact⟨_,_,⟨rfl,rfl⟩,by simp,by simp⟩) ?_
   rintro _ _ ⟨rfl,rfl⟩
   refine Ak ?_
   refine Ai fun B=>?_
   exact⟨(y_4.2,y_4.1),D,Ay [(0,0),(1,1),(2,65),(3,145)]⟩
  ·refine Ao ?_
   repeat first | refine Cw ?_ | refine Cy ?_
   exact⟨(y_3.2,([]:List Ab)),D,Ay [(0,0),(1,1),(2,65)]⟩
 ·rintro⟨b_1,l_1⟩ D
  replace D:F7.j1 alias id y y_2 b_1 l_1=some r:=D
  show Ca _ _ _ _ (mk _ _ _)
  unfold F7.j1 at D
  refine A6 4 20 Az ?_
  refine Ak ?_
  refine Ai fun B=>?_
  refine A4 ?_
  obtain rfl:=oi_ D
  exact A3 [(0,0),(1,3)] ⟨rfl,rfl⟩
theorem bU (d:Al) (name:ByteArray) (r:(List Ac)×Al) (D:Gc d name=some r):Fn Tryz.prog 20 1 [.ptr 0 0,vk name] [.box [.sl 1 (An eI d.L),vj d.At] 59] (fun d' b'=>d'=.sl 6 (An Ac.enc r.1)/\b'=[.box [.sl 1 (An eI r.2.L),vj r.2.At] 59]):=by
 unfold Gc at D
 refine Fn.of Tryz.func20 rfl rfl rfl fun w0 I ρ0=>?_
 show Ca _ ⟨w0,I,ρ0,1,1,34⟩ _ _ _
 refine A6 1 9 Az ?_
 refine Ak ?_
 refine Ai fun B=>?_
 refine A6 9 17 B ?_
 refine Ak ?_
 refine Ai fun B=>?_
 refine Ah ?_
 refine Ah ?_
 refine D1 (σ':=mk [(0,.ptr 0 0),(1,vk name),(5,.val (.slice none 0 0))] [(0,.box [.sl 1 (An eI d.L),vj d.At] 59)] 1) (Ay [(0,0)]) ?_
 refine D1 (aEf 5 40 6 5 67 15 (An Ac.enc ([]:List Ac)) rfl rfl (by decide)) ?_
 refine Af (Bi _ _ []) 3 35 Az rfl rfl ?_
 refine Ak ?_
 obtain⟨y,hy,D⟩:=Ae D
 refine Hc [0] [0] [] false (Hk _ _ _ hy) ?_
 refine Ak ?_
 refine Ai fun B=>?_
 refine Au ?_
 refine Lu (fun ((i_2,d_2,l_2):Int×Al×List Ac)=>mk [(0,.ptr 0 0),(1,vk name),(5,.row 1),(6,vj i_2)] [(0,.box [.sl 1 (An eI d_2.L),vj d_2.At] 59),(1,.tree 40 6 5 67 15 2 none (An Ac.enc l_2)),(2,.gho)] 3) D (Ay [(0,0),(1,1),(2,2)]) ?_
 rintro⟨i_2,d_2,l_2⟩ m2 o2 D hn2
 replace D:Gc.l2 name i_2 d_2 l_2=some o2:=D
 show Ca _ _ _ _ (mk _ _ _)
 unfold Gc.l2 at D
 refine Ah ?_
 refine A6 3 19 Az ?_
 refine Ak ?_
 refine Ai fun B=>?_
 refine Dh rfl D (fun h5 D=>?_) fun h5 D=>?_
 ·refine Ao ?_
  repeat first | refine Cw ?_ | refine Cy ?_
  refine Ah ?_
  refine Au ?_
  refine A6 19 43 B ?_
  refine Ak ?_
  refine Ff (rd:=[1]) rfl rfl (.len P6.elem (.rowT (by decide) (D0 Ac.enc_len _))) rfl rfl ?_
  refine Ak ?_
  refine Ai fun B=>?_
  refine Cs (Bi _ _ []) (by kernel_rfl) [0,0,0,0,12,28,0,0,128,0,512,1536,3968,8190,16382,32767,65535] 43 179 B rfl rfl (by kernel_rfl) ?_
  refine Ak ?_
  refine Bj rfl rfl (As Tz z9 (by decide) rfl rfl rfl rfl wP (cs:=[.str (⟨#[107,49]⟩:ByteArray),.str (⟨#[107,50]⟩:ByteArray),.str (⟨#[107,51]⟩:ByteArray),.str (⟨#[107,52]⟩:ByteArray)]) (.cons .str (.cons .str (.cons .str (.cons .str .nil)))) rfl (l:=([(⟨#[107,49]⟩:ByteArray),(⟨#[107,50]⟩:ByteArray),(⟨#[107,51]⟩:ByteArray),(⟨#[107,52]⟩:ByteArray)]:List ByteArray)) (f:=eS) rfl) rfl rfl ?_
  refine Ak ?_
  obtain⟨e,he,D⟩:=Ae D
  refine Ak ?_
  refine Ff (rd:=[59]) rfl rfl (.loadR1 Wv (Bf Jo (Aq he) (o:=0) (c:=.str e) rfl rfl)) rfl rfl ?_
  refine Ak ?_
  obtain⟨y_2,hy_2,D⟩:=Ae D
  refine Hc [0] [0] [] false (Hk _ _ _ hy_2) ?_
  refine Ak ?_
  obtain⟨y_3,hy_3,D⟩:=Ae D
  refine Fg (rd:=[0]) (ps:=[0]) (gs:=[]) false rfl (cK _ _ _ _ _ hy_3) rfl rfl (.cons (.ptr rfl) (.cons .val (.cons .val (.cons .val .nil)))) ⟨_,_,_,rfl,.head _,⟨_,rfl,(by repeat' (first | exact Hm.nil | apply Hm.cons | exact Ag.val | exact Ag.sl | exact Ag.nils | exact Ag.ptr rfl | exact Ag.rowK rfl))⟩,rfl⟩ rfl (by intro h; cases h) rfl (by intro h; first | (cases h; done) | exact⟨_,_,⟨rfl,rfl⟩,by simp,by simp⟩) ?_
  rintro _ _ ⟨rfl,rfl⟩
  refine U6 (rd:=[147]) rfl rfl (sE (o:=5) (r:=[vk y_3.1.Alias,vj y_3.1.Key.Alg,vj y_3.1.Key.Bits,vj y_3.1.KeyId,.val (.bool y_3.1.Secret),.row 147]) (pre:=[vk y_3.1.Alias,vj y_3.1.Key.Alg,vj y_3.1.Key.Bits,vj y_3.1.KeyId,.val (.bool y_3.1.Secret)]) (post:=[]) (ck1:=[none,none,none,none,none]) (ck2:=[]) (cs1:=An Ac.enc ([y_3.1]:List Ac)) P6 dI (by decide) (by kernel_rfl) rfl rfl rfl (.cons .str (.cons .int (.cons .int (.cons .int (.cons .bool .nil))))) .nil (List.Mem.head _) rfl rfl) rfl rfl (fun _=>⟨_,rfl⟩) ?_
  rintro _ rfl
  obtain⟨l,hl,D⟩:=Ae D
  refine U6 (rd:=[1,155]) rfl rfl (aA5 P6 Ac.enc_len (List.Mem.head _) (List.Mem.tail _ (List.Mem.head _)) rfl hl rfl rfl rfl) rfl rfl (fun _=>⟨_,rfl⟩) ?_
  rintro _ rfl
  refine Ak ?_
  refine Ai fun B=>?_
  refine Af (Bi _ _ []) 179 203 B rfl rfl ?_
  refine Ak ?_
  refine Ai fun B=>?_
  obtain rfl:=oi_ D
  exact⟨((W (i_2 - 1),y_3.2,l),m2),aDn _,hn2,Ay [(0,0),(1,163),(2,164)]⟩
 ·refine B8 ?_
  repeat first | refine Cw ?_ | refine Cy ?_
  replace D:=C5 D hn2
  refine A6 19 35 B ?_
  refine Ak ?_
  refine Ai fun B=>?_
  refine A4 ?_
  obtain rfl:=oi_ D
  exact A3 [(0,0)] ⟨rfl,rfl⟩
theorem Rw (key:Aw) (id:Int) (chain:(List Ab)) (r:Bool) (D:Cl key id chain=some r):Fn Tryz.prog 44 0 [.agg [vj key.Alg,vj key.Bits],vj id,.sl 15 (An Ab.enc chain)] [] (fun d' b'=>d'=.val (.bool r)/\b'=[]):=by
 unfold Cl at D
 refine Fn.of Tryz.func44 rfl rfl rfl fun w0 I ρ0=>?_
 show Ca _ ⟨w0,I,ρ0,0,0,55⟩ _ _ _
 refine A6 0 16 Az ?_
 refine Ak ?_
 refine Ai fun B=>?_
 refine Ah ?_
 refine Bm (ι:=Bool) (fun (x23_1:Bool)=>mk [(1,vj id),(2,.sl 15 (An Ab.enc chain)),(3,.ptr 0 0),(23,.val (.bool x23_1))] [(0,.box [vj key.Alg,vj key.Bits] 37)] 1) (fun (x23_1:Bool)=>Cl.j1 key id chain x23_1=some r) ?_ ?_
 ·refine Af (Bi _ _ []) 16 144 B rfl rfl ?_
  refine Ak ?_
  obtain⟨y,hy,D⟩:=Ae D
  refine Ek (Nl _ _ hy) ?_
  refine Ak ?_
  rcases Eb D with ⟨h2,D⟩ | ⟨h2,D⟩
  ·refine Ak ?_
   refine Ai fun B=>?_
   exact⟨true,D,Ay [(0,0)]⟩
  ·refine Ak ?_
   rcases Eb D with ⟨h4,D⟩ | ⟨h4,D⟩
   ·refine Ak ?_
    refine Ai fun B=>?_
    exact⟨true,D,Ay [(0,0)]⟩
   ·refine Ak ?_
    rcases Eb D with ⟨h6,D⟩ | ⟨h6,D⟩
    ·refine Ak ?_
     refine Ai fun B=>?_
     exact⟨true,D,Ay [(0,0)]⟩
    ·refine Ak ?_
     refine Ai fun B=>?_
     exact⟨decide (8 < (chain.length:Int)),D,Ay [(0,0)]⟩
 ·rintro x23_1 D
  replace D:Cl.j1 key id chain x23_1=some r:=D
  show Ca _ _ _ _ (mk _ _ _)
  unfold Cl.j1 at D
  refine Dh rfl D (fun h9 D=>?_) fun h9 D=>?_
  ·refine Ah ?_
   refine Af (Bi _ _ []) 1 9 Az rfl rfl ?_
   refine Ak ?_
   refine Ai fun B=>?_
   refine A4 ?_
   obtain rfl:=oi_ D
   exact A3 [] ⟨rfl,rfl⟩
  ·refine Ao ?_
   repeat first | refine Cw ?_ | refine Cy ?_
   refine Ah ?_
   refine A6 1 9 Az ?_
   refine Ak ?_
   refine Ai fun B=>?_
   refine Au ?_
   refine Lu (fun (i_2:Int)=>mk [(1,vj id),(2,.sl 15 (An Ab.enc chain)),(3,.ptr 0 0),(7,vj i_2)] [(0,.box [vj key.Alg,vj key.Bits] 37)] 1) D (Ay [(0,0)]) ?_
   rintro i_2 m2 o2 D hn2
   replace D:Cl.l2 key id chain i_2=some o2:=D
   show Ca _ _ _ _ (mk _ _ _)
   unfold Cl.l2 at D
   refine Ah ?_
   refine A6 1 33 Az ?_
   refine Ak ?_
   refine Ai fun B=>?_
   refine Dh rfl D (fun h13 D=>?_) fun h13 D=>?_
   ·refine Ao ?_
    repeat first | refine Cw ?_ | refine Cy ?_
    refine Ah ?_
    refine Au ?_
    refine A6 33 81 B ?_
    refine Ak ?_
    obtain⟨e,he,D⟩:=Ae D
    refine Ak ?_
    refine Bj rfl rfl (Dx iE (Cm Ab.enc_len (Aq he) (o:=0) (m:=15) (cs:=(Ab.ec e)) rfl (by decide) rfl) (Bn Ab.enc_len (Aq he) (o:=0) (m:=15) (by decide) rfl)) rfl rfl ?_
    obtain⟨y_2,hy_2,D⟩:=Ae D
    refine Ek (No _ _ hy_2) ?_
    refine Ak ?_
    refine Ai fun B=>?_
    refine Dh rfl D (fun h15 D=>?_) fun h15 D=>?_
    ·refine Ah ?_
     refine Af (Bi _ _ []) 81 89 B rfl rfl ?_
     refine Ak ?_
     refine Ai fun B=>?_
     refine A4 ?_
     replace D:=C5 D hn2
     obtain rfl:=oi_ D
     exact A3 [] ⟨rfl,rfl⟩
    ·refine Ao ?_
     repeat first | refine Cw ?_ | refine Cy ?_
     refine Af (Bi _ _ []) 81 105 B rfl rfl ?_
     refine Ak ?_
     refine Ai fun B=>?_
     obtain rfl:=oi_ D
     exact⟨(W (i_2 + 1),m2),aDn _,hn2,Ay [(0,0)]⟩
   ·refine B8 ?_
    repeat first | refine Cw ?_ | refine Cy ?_
    replace D:=C5 D hn2
    refine Ah ?_
    refine Cs (Bi _ _ []) (by kernel_rfl) [0,1,3,7,15,31,63,127,15,511,1023,2047,4095,8191,16383,2047,65535,131071,262143,524287] 33 193 B rfl rfl (by kernel_rfl) ?_
    refine Ak ?_
    rcases Eb D with ⟨h18,D⟩ | ⟨h18,D⟩
    ·refine Ak ?_
     refine Ai fun B=>?_
     refine A4 ?_
     obtain rfl:=oi_ D
     exact A3 [] ⟨rfl,rfl⟩
    ·refine Ak ?_
     obtain⟨e_2,he_2,D⟩:=Ae D
     refine Ak ?_
     refine Bj (Cj rfl rfl h18) rfl (Eu jI Uj (by decide) (Gh Ab.enc_len (Aq he_2) (o:=3) (by decide) rfl)) rfl rfl ?_
     refine Bj (Cj rfl rfl h18) rfl (Dx Uj (Cm Ab.enc_len (Aq he_2) (o:=3) (m:=2) (cs:=[.int .i64 e_2.Key.Alg,.int .i64 e_2.Key.Bits]) rfl (by decide) rfl) (Bn Ab.enc_len (Aq he_2) (o:=3) (m:=2) (by decide) rfl)) rfl rfl ?_
     refine Ak ?_
     refine Bj (Cj rfl rfl h18) rfl (O6 e_2.Key key) rfl rfl ?_
     refine Ak ?_
     rcases Eb D with ⟨h20,D⟩ | ⟨h20,D⟩
     ·refine Ak ?_
      refine Bj (Cj rfl rfl h20) rfl (Eu jJ Wz (by decide) (Gh Ab.enc_len (Aq he_2) (o:=5) (by decide) rfl)) rfl rfl ?_
      refine Bj (Cj rfl rfl h20) rfl (Bl Wz (Bf Ab.enc_len (Aq he_2) (o:=5) (c:=.int .i64 e_2.KeyId) rfl rfl)) rfl rfl ?_
      refine Ak ?_
      refine Ai fun B=>?_
      refine A4 ?_
      obtain rfl:=oi_ D
      exact A3 [] ⟨rfl,rfl⟩
     ·refine Ak ?_
      refine Ai fun B=>?_
      refine A4 ?_
      obtain rfl:=oi_ D
      exact A3 [] ⟨rfl,rfl⟩
theorem Rs (l:(List Ac)) (r:Int) (D:Cu l=some r):Fn Tryz.prog 17 0 [.sl 6 (An Ac.enc l)] [] (fun d' b'=>d'=vj r/\b'=[]):=by
 unfold Cu at D
 refine Fn.of Tryz.func17 rfl rfl rfl fun w0 I ρ0=>?_
 show Ca _ ⟨w0,I,ρ0,0,0,57⟩ _ _ _
 refine A6 0 8 Az ?_
 refine Ak ?_
 refine Ai fun B=>?_
 refine Ah ?_
 refine A6 8 32 B ?_
 refine Ak ?_
 refine Ai fun B=>?_
 refine Dh rfl D (fun h3 D=>?_) fun h3 D=>?_
 ·refine Ah ?_
  refine Af (Bi _ _ []) 32 40 B rfl rfl ?_
  refine Ak ?_
  refine Ai fun B=>?_
  refine A4 ?_
  obtain rfl:=oi_ D
  exact A3 [] ⟨rfl,rfl⟩
 ·refine Ao ?_
  repeat first | refine Cw ?_ | refine Cy ?_
  refine Ah ?_
  refine A6 32 40 B ?_
  refine Ak ?_
  refine Ai fun B=>?_
  refine Au ?_
  refine Lu (fun (i_1:Int)=>mk [(0,.sl 6 (An Ac.enc l)),(3,vj i_1)] [] 0) D (Ay []) ?_
  rintro i_1 m1 o1 D hn1
  replace D:Cu.l1 l i_1=some o1:=D
  show Ca _ _ _ _ (mk _ _ _)
  unfold Cu.l1 at D
  refine Ah ?_
  refine A6 0 32 Az ?_
  refine Ak ?_
  refine Ai fun B=>?_
  refine Dh rfl D (fun h7 D=>?_) fun h7 D=>?_
  ·refine Ao ?_
   repeat first | refine Cw ?_ | refine Cy ?_
   refine Ah ?_
   refine Au ?_
   refine Bm (ι:=Bool) (fun (x56_2:Bool)=>mk [(0,.sl 6 (An Ac.enc l)),(3,vj i_1),(56,.val (.bool x56_2))] [] 0) (fun (x56_2:Bool)=>Cu.j2 i_1 x56_2=some o1) ?_ ?_
   ·refine Cs (Bi _ _ []) (by kernel_rfl) [0,0,3,7,15,31,63,127,255,511,1023,2047,2047,6143,16383,32767,65535,2047,2047,395263,919551,1968127,4194303,8388607,16777215,33554431,67108863,67108863,268435455,536870911,1073741823,67108863,67108863,6509559807,15099494399,32279363583,67108863,67108863,206225539071,481103446015,1030859259903,2199023255551,4398046511103,8796093022207] 32 384 B rfl rfl (by kernel_rfl) ?_
    refine Ak ?_
    obtain⟨e,he,D⟩:=Ae D
    refine Ak ?_
    refine Bj rfl rfl (Eu R3 Wv (by decide) (Gh Ac.enc_len (Aq he) (o:=0) (by decide) rfl)) rfl rfl ?_
    refine Bj rfl rfl (Bl Wv (Bf Ac.enc_len (Aq he) (o:=0) (c:=.str e.Alias) rfl rfl)) rfl rfl ?_
    obtain⟨y,hy,D⟩:=Ae D
    refine Ek (Me _ _ hy) ?_
    refine Ak ?_
    rcases Eb D with ⟨h8,D⟩ | ⟨h8,D⟩
    ·refine Ak ?_
     refine Ai fun B=>?_
     exact⟨true,D,Ay []⟩
    ·refine Ak ?_
     rcases Eb D with ⟨h10,D⟩ | ⟨h10,D⟩
     ·refine Ak ?_
      obtain⟨e_2,he_2,D⟩:=Ae D
      refine Ak ?_
      refine Bj (Cj rfl rfl h10) rfl (Eu R3 Wv (by decide) (Gh Ac.enc_len (Aq he_2) (o:=0) (by decide) rfl)) rfl rfl ?_
      refine Bj (Cj rfl rfl h10) rfl (Bl Wv (Bf Ac.enc_len (Aq he_2) (o:=0) (c:=.str e_2.Alias) rfl rfl)) rfl rfl ?_
      refine Ak ?_
      refine Bj (Cj rfl rfl h10) rfl (Eu R3 Wv (by decide) (Gh Ac.enc_len (Aq he) (o:=0) (by decide) rfl)) rfl rfl ?_
      refine Bj (Cj rfl rfl h10) rfl (Bl Wv (Bf Ac.enc_len (Aq he) (o:=0) (c:=.str e.Alias) rfl rfl)) rfl rfl ?_
      refine Bj (Cj rfl rfl h10) rfl bQ rfl rfl ?_
      refine Ak ?_
      rcases Eb D with ⟨h11,D⟩ | ⟨h11,D⟩
      ·refine Ak ?_
       refine Ai fun B=>?_
       exact⟨true,D,Ay []⟩
      ·refine Ak ?_
       refine Bj (Cj rfl rfl h11) rfl (Eu X0 Uj (by decide) (Gh Ac.enc_len (Aq he) (o:=1) (by decide) rfl)) rfl rfl ?_
       refine Bj (Cj rfl rfl h11) rfl (Dx Uj (Cm Ac.enc_len (Aq he) (o:=1) (m:=2) (cs:=[.int .i64 e.Key.Alg,.int .i64 e.Key.Bits]) rfl (by decide) rfl) (Bn Ac.enc_len (Aq he) (o:=1) (m:=2) (by decide) rfl)) rfl rfl ?_
       refine Ak ?_
       refine Bj (Cj rfl rfl h11) rfl (Eu Yx Wz (by decide) (Gh Ac.enc_len (Aq he) (o:=3) (by decide) rfl)) rfl rfl ?_
       refine Bj (Cj rfl rfl h11) rfl (Bl Wz (Bf Ac.enc_len (Aq he) (o:=3) (c:=.int .i64 e.KeyId) rfl rfl)) rfl rfl ?_
       refine Ak ?_
       refine Bj (Cj rfl rfl h11) rfl (Eu X8 bI (by decide) (Gh Ac.enc_len (Aq he) (o:=5) (by decide) rfl)) rfl rfl ?_
       refine Bj (Cj rfl rfl h11) rfl (Bl bI (Bf Ac.enc_len (Aq he) (o:=5) (c:=.sl 15 (An Ab.enc e.Chain)) rfl rfl)) rfl rfl ?_
       obtain⟨y_2,hy_2,D⟩:=Ae D
       refine Ek (Rw _ _ _ _ hy_2) ?_
       refine Ak ?_
       refine Ai fun B=>?_
       exact⟨!y_2,D,Ay []⟩
     ·refine Ak ?_
      refine Bj (Cj rfl rfl rfl) rfl (Eu X0 Uj (by decide) (Gh Ac.enc_len (Aq he) (o:=1) (by decide) rfl)) rfl rfl ?_
      refine Bj (Cj rfl rfl rfl) rfl (Dx Uj (Cm Ac.enc_len (Aq he) (o:=1) (m:=2) (cs:=[.int .i64 e.Key.Alg,.int .i64 e.Key.Bits]) rfl (by decide) rfl) (Bn Ac.enc_len (Aq he) (o:=1) (m:=2) (by decide) rfl)) rfl rfl ?_
      refine Ak ?_
      refine Bj (Cj rfl rfl rfl) rfl (Eu Yx Wz (by decide) (Gh Ac.enc_len (Aq he) (o:=3) (by decide) rfl)) rfl rfl ?_
      refine Bj (Cj rfl rfl rfl) rfl (Bl Wz (Bf Ac.enc_len (Aq he) (o:=3) (c:=.int .i64 e.KeyId) rfl rfl)) rfl rfl ?_
      refine Ak ?_
      refine Bj (Cj rfl rfl rfl) rfl (Eu X8 bI (by decide) (Gh Ac.enc_len (Aq he) (o:=5) (by decide) rfl)) rfl rfl ?_
      refine Bj (Cj rfl rfl rfl) rfl (Bl bI (Bf Ac.enc_len (Aq he) (o:=5) (c:=.sl 15 (An Ab.enc e.Chain)) rfl rfl)) rfl rfl ?_
      obtain⟨y_3,hy_3,D⟩:=Ae D
      refine Ek (Rw _ _ _ _ hy_3) ?_
      refine Ak ?_
      refine Ai fun B=>?_
      exact⟨!y_3,D,Ay []⟩
   ·rintro x56_2 D
    replace D:Cu.j2 i_1 x56_2=some o1:=D
    show Ca _ _ _ _ (mk _ _ _)
    unfold Cu.j2 at D
    refine Dh rfl D (fun h15 D=>?_) fun h15 D=>?_
    ·refine Ah ?_
     refine Af (Bi _ _ []) 0 8 Az rfl rfl ?_
     refine Ak ?_
     refine Ai fun B=>?_
     refine A4 ?_
     replace D:=C5 D hn1
     obtain rfl:=oi_ D
     exact A3 [] ⟨rfl,rfl⟩
    ·refine Ao ?_
     repeat first | refine Cw ?_ | refine Cy ?_
     refine Af (Bi _ _ []) 0 24 Az rfl rfl ?_
     refine Ak ?_
     refine Ai fun B=>?_
     obtain rfl:=oi_ D
     exact⟨(W (i_1 + 1),m1),aDn _,hn1,Ay []⟩
  ·refine B8 ?_
   repeat first | refine Cw ?_ | refine Cy ?_
   replace D:=C5 D hn1
   refine A6 32 40 B ?_
   refine Ak ?_
   refine Ai fun B=>?_
   refine A4 ?_
   obtain rfl:=oi_ D
   exact A3 [] ⟨rfl,rfl⟩
theorem V3 (c:Ab) (r:Aa) (D:I2 c=some r):Fn Tryz.prog 78 0 [.agg (Ab.dv c)] [] (fun d' b'=>d'=.agg (Aa.dv r)/\b'=[]):=by
 unfold I2 at D
 refine Fn.of Tryz.func78 rfl rfl rfl fun w0 I ρ0=>?_
 show Ca _ ⟨w0,I,ρ0,0,0,19⟩ _ _ _
 refine A6 0 16 Az ?_
 refine Ak ?_
 refine Ai fun B=>?_
 refine Ah ?_
 refine Cs (Bi _ _ [80]) (by kernel_rfl) [0,1,3,7,0,16,48,127,255,511,0,2047] 16 112 B rfl rfl (by kernel_rfl) ?_
 refine Ak ?_
 obtain⟨y,hy,D⟩:=Ae D
 refine Ek (Fp _ _ hy) ?_
 refine Ak ?_
 obtain⟨y_2,hy_2,D⟩:=Ae D
 refine Ek (Fp _ _ hy_2) ?_
 refine O8 (rd:=[]) rfl rfl (As Jz Pq (by decide) rfl rfl rfl rfl Si (cs:=[.int .i64 y.Tag,.sl 1 (An e8 y.Bytes),.bool y.Nested,.sl 4 (An Aa.enc y.Elements),.int .i64 y_2.Tag,.sl 1 (An e8 y_2.Bytes),.bool y_2.Nested,.sl 4 (An Aa.enc y_2.Elements)]) (.cons .int (.cons .sl (.cons .bool (.cons .sl (.cons .int (.cons .sl (.cons .bool (.cons .sl .nil)))))))) rfl (l:=([y,y_2]:List Aa)) (f:=Aa.enc) (by simp only [An,aFe,aFo,Aa.enc_eq]; rfl)) rfl rfl rfl ?_
 obtain⟨y_3,hy_3,D⟩:=Ae D
 refine Ek (He _ _ hy_3) ?_
 refine Ak ?_
 refine Ai fun B=>?_
 refine Ah ?_
 refine Cs (Bi _ _ [136]) (by kernel_rfl) [0,1,0,7,15,31] 112 160 B rfl rfl (by kernel_rfl) ?_
 refine Ak ?_
 obtain⟨y_4,hy_4,D⟩:=Ae D
 refine Ek (S9 _ _ hy_4) ?_
 refine Ak ?_
 refine O8 (rd:=[]) rfl rfl (As Jz Pq (by decide) rfl rfl rfl rfl Si (cs:=[.int .i64 y_4.Tag,.sl 1 (An e8 y_4.Bytes),.bool y_4.Nested,.sl 4 (An Aa.enc y_4.Elements),.int .i64 y_3.Tag,.sl 1 (An e8 y_3.Bytes),.bool y_3.Nested,.sl 4 (An Aa.enc y_3.Elements)]) (.cons .int (.cons .sl (.cons .bool (.cons .sl (.cons .int (.cons .sl (.cons .bool (.cons .sl .nil)))))))) rfl (l:=([y_4,y_3]:List Aa)) (f:=Aa.enc) (by simp only [An,aFe,aFo,Aa.enc_eq]; rfl)) rfl rfl rfl ?_
 obtain⟨y_5,hy_5,D⟩:=Ae D
 refine Ek (He _ _ hy_5) ?_
 refine Ak ?_
 refine Ai fun B=>?_
 refine A4 ?_
 obtain rfl:=oi_ D
 exact A3 [] ⟨rfl,rfl⟩
theorem V0 (e:Ac) (r:Aa) (D:Dt e=some r):Fn Tryz.prog 33 0 [.agg (Ac.dv e)] [] (fun d' b'=>d'=.agg (Aa.dv r)/\b'=[]):=by
 unfold Dt at D
 refine Fn.of Tryz.func33 rfl rfl rfl fun w0 I ρ0=>?_
 show Ca _ ⟨w0,I,ρ0,0,0,46⟩ _ _ _
 refine A6 0 16 Az ?_
 refine Ak ?_
 refine Ai fun B=>?_
 refine A6 16 24 B ?_
 refine Ak ?_
 refine Ai fun B=>?_
 refine Ah ?_
 refine A6 24 32 B ?_
 refine Ak ?_
 refine Ai fun B=>?_
 refine Au ?_
 refine Lu (fun ((i_1,chain_1):Int×List Aa)=>mk [(1,.ptr 0 0),(2,.ptr 1 0),(3,.row 2),(4,vj i_1)] [(0,.box (Ac.dv e) 40),(1,.box [.val (.int .i64 0),.val (.slice none 0 0),.val (.bool false),.val (.slice none 0 0)] 50),(2,.row 50 4 (An Aa.enc chain_1))] 3) D (Ay [(0,0),(1,8)]) ?_
 rintro⟨i_1,chain_1⟩ m1 o1 D hn1
 replace D:Dt.l1 e i_1 chain_1=some o1:=D
 show Ca _ _ _ _ (mk _ _ _)
 unfold Dt.l1 at D
 refine Ah ?_
 refine A6 3 43 Az ?_
 refine Ak ?_
 refine Ai fun B=>?_
 refine Dh rfl D (fun h5 D=>?_) fun h5 D=>?_
 ·refine Ao ?_
  repeat first | refine Cw ?_ | refine Cy ?_
  refine Ah ?_
  refine Au ?_
  refine Af (Bi _ _ []) 43 123 B rfl rfl ?_
  refine Ak ?_
  obtain⟨e_2,he_2,D⟩:=Ae D
  refine Ak ?_
  refine Bj rfl rfl (Dx iE (Cm Ab.enc_len (Aq he_2) (o:=0) (m:=15) (cs:=(Ab.ec e_2)) rfl (by decide) rfl) (Bn Ab.enc_len (Aq he_2) (o:=0) (m:=15) (by decide) rfl)) rfl rfl ?_
  obtain⟨y,hy,D⟩:=Ae D
  refine Ek (V3 _ _ hy) ?_
  refine Bj rfl rfl (As Jz Pq (by decide) rfl rfl rfl rfl Si (cs:=[.int .i64 y.Tag,.sl 1 (An e8 y.Bytes),.bool y.Nested,.sl 4 (An Aa.enc y.Elements)]) (.cons .int (.cons .sl (.cons .bool (.cons .sl .nil)))) rfl (l:=([y]:List Aa)) (f:=Aa.enc) (by simp only [An,aFe,aFo,Aa.enc_eq]; rfl)) rfl rfl ?_
  obtain⟨l,hl,D⟩:=Ae D
  refine Ff (rd:=[2,99]) rfl rfl (Dg Jz Aa.enc_len .row rfl .row rfl hl rfl) rfl rfl ?_
  refine Ak ?_
  refine Ai fun B=>?_
  refine Af (Bi _ _ []) 123 147 B rfl rfl ?_
  refine Ak ?_
  refine Ai fun B=>?_
  obtain rfl:=oi_ D
  exact⟨((W (i_1 + 1),l),m1),aDn _,hn1,Ay [(0,0),(1,1),(2,107)]⟩
 ·refine B8 ?_
  repeat first | refine Cw ?_ | refine Cy ?_
  replace D:=C5 D hn1
  refine Ah ?_
  refine Cs (Bi _ _ [107]) (by kernel_rfl) [0,1,3,7,0,16,48,127,255,511,0,2047] 43 139 B rfl rfl (by kernel_rfl) ?_
  refine Ak ?_
  obtain⟨y_2,hy_2,D⟩:=Ae D
  refine Ek (Fp _ _ hy_2) ?_
  refine Ak ?_
  obtain⟨y_3,hy_3,D⟩:=Ae D
  refine Ek (Fp _ _ hy_3) ?_
  refine O8 (rd:=[]) rfl rfl (As Jz Pq (by decide) rfl rfl rfl rfl Si (cs:=[.int .i64 y_2.Tag,.sl 1 (An e8 y_2.Bytes),.bool y_2.Nested,.sl 4 (An Aa.enc y_2.Elements),.int .i64 y_3.Tag,.sl 1 (An e8 y_3.Bytes),.bool y_3.Nested,.sl 4 (An Aa.enc y_3.Elements)]) (.cons .int (.cons .sl (.cons .bool (.cons .sl (.cons .int (.cons .sl (.cons .bool (.cons .sl .nil)))))))) rfl (l:=([y_2,y_3]:List Aa)) (f:=Aa.enc) (by simp only [An,aFe,aFo,Aa.enc_eq]; rfl)) rfl rfl rfl ?_
  obtain⟨y_4,hy_4,D⟩:=Ae D
  refine Ek (He _ _ hy_4) ?_
  refine Ak ?_
  refine Ai fun B=>?_
  refine Ah ?_
  refine D1 (σ':=mk [(1,.ptr 0 0),(2,.ptr 1 0),(3,.sl 4 (An Aa.enc chain_1)),(5,.ptr 2 0)] [(0,.box (Ac.dv e) 40),(1,.box [.val (.int .i64 0),.val (.slice none 0 0),.val (.bool false),.val (.slice none 0 0)] 50),(2,.box (Aa.dv y_4) 50)] 3) (Ay [(0,0),(1,1),(2,123)]) ?_
  refine Cs (Bi _ _ [99]) (by kernel_rfl) [0,1,3,0,0,16,55,0,128,503,0,2039,4095,8191,16383] 3 123 Az rfl rfl (by kernel_rfl) ?_
  refine Ak ?_
  obtain⟨y_8,hy_8,D⟩:=Ae D
  refine Ek (Ma _ _ hy_8) ?_
  refine Ak ?_
  obtain⟨y_9,hy_9,D⟩:=Ae D
  refine Ek (Fp _ _ hy_9) ?_
  refine Ak ?_
  obtain⟨y_10,hy_10,D⟩:=Ae D
  refine Ek (Sz _ _ hy_10) ?_
  refine Ak ?_
  obtain⟨y_11,hy_11,D⟩:=Ae D
  refine Ek (He _ _ hy_11) ?_
  refine O8 (rd:=[]) rfl rfl (As Jz Pq (by decide) rfl rfl rfl rfl Si (cs:=[.int .i64 y_8.Tag,.sl 1 (An e8 y_8.Bytes),.bool y_8.Nested,.sl 4 (An Aa.enc y_8.Elements),.int .i64 y_4.Tag,.sl 1 (An e8 y_4.Bytes),.bool y_4.Nested,.sl 4 (An Aa.enc y_4.Elements),.int .i64 y_9.Tag,.sl 1 (An e8 y_9.Bytes),.bool y_9.Nested,.sl 4 (An Aa.enc y_9.Elements),.int .i64 y_10.Tag,.sl 1 (An e8 y_10.Bytes),.bool y_10.Nested,.sl 4 (An Aa.enc y_10.Elements),.int .i64 y_11.Tag,.sl 1 (An e8 y_11.Bytes),.bool y_11.Nested,.sl 4 (An Aa.enc y_11.Elements)]) (.cons .int (.cons .sl (.cons .bool (.cons .sl (.cons .int (.cons .sl (.cons .bool (.cons .sl (.cons .int (.cons .sl (.cons .bool (.cons .sl (.cons .int (.cons .sl (.cons .bool (.cons .sl (.cons .int (.cons .sl (.cons .bool (.cons .sl .nil)))))))))))))))))))) rfl (l:=([y_8,y_4,y_9,y_10,y_11]:List Aa)) (f:=Aa.enc) (by simp only [An,aFe,aFo,Aa.enc_eq]; rfl)) rfl rfl rfl ?_
  obtain⟨y_12,hy_12,D⟩:=Ae D
  refine Ek (He _ _ hy_12) ?_
  refine Ak ?_
  refine Ai fun B=>?_
  refine A4 ?_
  obtain rfl:=oi_ D
  exact A3 [] ⟨rfl,rfl⟩
theorem Sj (l:(List Ac)) (r:(List UInt8)×Int) (D:Ea l=some r):Fn Tryz.prog 10 0 [.sl 6 (An Ac.enc l)] [] (fun d' b'=>d'=.tup [.row 0,vj r.2]/\b'=[.row 5 1 (An e8 r.1)]):=by
 unfold Ea at D
 refine Fn.of Tryz.func10 rfl rfl rfl fun w0 I ρ0=>?_
 show Ca _ ⟨w0,I,ρ0,0,0,31⟩ _ _ _
 refine A6 0 16 Az ?_
 refine Ak ?_
 refine Ai fun B=>?_
 refine Ah ?_
 refine A6 16 40 B ?_
 refine Ak ?_
 obtain⟨y,hy,D⟩:=Ae D
 refine Ek (Rs _ _ hy) ?_
 refine Ak ?_
 refine Ai fun B=>?_
 refine A6 40 56 B ?_
 refine Ak ?_
 refine Ai fun B=>?_
 refine Dh rfl D (fun h4 D=>?_) fun h4 D=>?_
 ·refine Ah ?_
  refine Af (Bi _ _ []) 56 80 B rfl rfl ?_
  refine Ak ?_
  refine Ai fun B=>?_
  refine A4 ?_
  obtain rfl:=oi_ D
  exact A3 [] ⟨rfl,rfl⟩
 ·refine Ao ?_
  repeat first | refine Cw ?_ | refine Cy ?_
  refine A6 56 64 B ?_
  refine Ak ?_
  refine Ai fun B=>?_
  refine Ah ?_
  refine A6 64 72 B ?_
  refine Ak ?_
  refine Ai fun B=>?_
  refine Au ?_
  refine Lu (fun ((i_1,all_1):Int×List Aa)=>mk [(0,.sl 6 (An Ac.enc l)),(5,.row 0),(6,vj i_1)] [(0,.row 50 4 (An Aa.enc all_1))] 1) D (Ay []) ?_
  rintro⟨i_1,all_1⟩ m1 o1 D hn1
  replace D:Ea.l1 l i_1 all_1=some o1:=D
  show Ca _ _ _ _ (mk _ _ _)
  unfold Ea.l1 at D
  refine Ah ?_
  refine A6 1 33 Az ?_
  refine Ak ?_
  refine Ai fun B=>?_
  refine Dh rfl D (fun h9 D=>?_) fun h9 D=>?_
  ·refine Ao ?_
   repeat first | refine Cw ?_ | refine Cy ?_
   refine Ah ?_
   refine Au ?_
   refine Af (Bi _ _ []) 33 105 B rfl rfl ?_
   refine Ak ?_
   obtain⟨e,he,D⟩:=Ae D
   refine Ak ?_
   refine Bj rfl rfl (Dx Uu (Cm Ac.enc_len (Aq he) (o:=0) (m:=6) (cs:=(Ac.ec e)) rfl (by decide) rfl) (Bn Ac.enc_len (Aq he) (o:=0) (m:=6) (by decide) rfl)) rfl rfl ?_
   obtain⟨y_2,hy_2,D⟩:=Ae D
   refine Ek (V0 _ _ hy_2) ?_
   refine Bj rfl rfl (As Jz Pq (by decide) rfl rfl rfl rfl Si (cs:=[.int .i64 y_2.Tag,.sl 1 (An e8 y_2.Bytes),.bool y_2.Nested,.sl 4 (An Aa.enc y_2.Elements)]) (.cons .int (.cons .sl (.cons .bool (.cons .sl .nil)))) rfl (l:=([y_2]:List Aa)) (f:=Aa.enc) (by simp only [An,aFe,aFo,Aa.enc_eq]; rfl)) rfl rfl ?_
   obtain⟨l_2,hl_2,D⟩:=Ae D
   refine Ff (rd:=[0,81]) rfl rfl (Dg Jz Aa.enc_len .row rfl .row rfl hl_2 rfl) rfl rfl ?_
   refine Ak ?_
   refine Ai fun B=>?_
   refine Af (Bi _ _ []) 105 129 B rfl rfl ?_
   refine Ak ?_
   refine Ai fun B=>?_
   obtain rfl:=oi_ D
   exact⟨((W (i_1 + 1),l_2),m1),aDn _,hn1,Ay [(0,89)]⟩
  ·refine B8 ?_
   repeat first | refine Cw ?_ | refine Cy ?_
   replace D:=C5 D hn1
   refine Ah ?_
   refine D1 (σ':=mk [(5,.sl 4 (An Aa.enc all_1))] [] 0) (Ay []) ?_
   refine Af (Bi _ _ []) 0 56 Az rfl rfl ?_
   refine Ak ?_
   obtain⟨y_3,hy_3,D⟩:=Ae D
   refine Ek (He _ _ hy_3) ?_
   obtain⟨y_4,hy_4,D⟩:=Ae D
   refine Fg (rd:=[]) (ps:=[]) (gs:=[]) false rfl (Kj _ _ hy_4) rfl rfl (.cons (.agg (.cons .val (.cons .sl (.cons .val (.cons .sl .nil))))) .nil) rfl rfl (by intro h; cases h) rfl (by intro h; first | (cases h; done) | exact⟨_,_,⟨rfl,rfl⟩,by simp,by simp⟩) ?_
   rintro _ _ ⟨rfl,rfl⟩
   refine Ak ?_
   refine Ai fun B=>?_
   refine A4 ?_
   obtain rfl:=oi_ D
   exact A3 [(0,16)] ⟨rfl,rfl⟩
theorem S5 (b:(List UInt8)) (at':Int) (r:Int×Int×Int×Bool) (D:Bh b at'=some r):Fn Tryz.prog 96 0 [.sl 1 (An e8 b),vj at'] [] (fun d' b'=>d'=.tup [vj r.1,vj r.2.1,vj r.2.2.1,.val (.bool r.2.2.2)]/\b'=[]):=by
 unfold Bh at D
 refine Fn.of Tryz.func96 rfl rfl rfl fun w0 I ρ0=>?_
 show Ca _ ⟨w0,I,ρ0,0,0,94⟩ _ _ _
 refine A6 0 32 Az ?_
 refine Ak ?_
 refine Ai fun B=>?_
 refine Ah ?_
 refine Bm (ι:=Bool) (fun (x25_1:Bool)=>mk [(0,.sl 1 (An e8 b)),(1,vj at'),(25,.val (.bool x25_1))] [] 0) (fun (x25_1:Bool)=>Bh.j1 b at' x25_1=some r) ?_ ?_
 ·refine Af (Bi _ _ []) 32 144 B rfl rfl ?_
  refine Ak ?_
  rcases Eb D with ⟨h2,D⟩ | ⟨h2,D⟩
  ·refine Ak ?_
   refine Ai fun B=>?_
   exact⟨true,D,Ay []⟩
  ·refine Ak ?_
   obtain⟨e,he,D⟩:=Ae D
   refine Ak ?_
   refine Bj (Cj rfl rfl h2) rfl (Bl N8 (Bf B5 (Aq he) (o:=0) (c:=.int .u8 (e.toNat:Int)) rfl rfl)) rfl rfl ?_
   refine Bj (Cj rfl rfl h2) rfl (Hx (u:=e) Ku M9) rfl rfl ?_
   obtain⟨y,hy,D⟩:=Ae D
   refine Ek (Vu _ _ hy) ?_
   refine Ak ?_
   refine Ai fun B=>?_
   exact⟨!y,D,Ay []⟩
 ·rintro x25_1 D
  replace D:Bh.j1 b at' x25_1=some r:=D
  show Ca _ _ _ _ (mk _ _ _)
  unfold Bh.j1 at D
  refine Dh rfl D (fun h5 D=>?_) fun h5 D=>?_
  ·refine Ah ?_
   refine Af (Bi _ _ []) 0 32 Az rfl rfl ?_
   refine Ak ?_
   refine Ai fun B=>?_
   refine A4 ?_
   obtain rfl:=oi_ D
   exact A3 [] ⟨rfl,rfl⟩
  ·refine Ao ?_
   repeat first | refine Cw ?_ | refine Cy ?_
   refine A6 0 80 Az ?_
   refine Ak ?_
   obtain⟨e_2,he_2,D⟩:=Ae D
   refine Ak ?_
   refine Bj rfl rfl (Bl N8 (Bf B5 (Aq he_2) (o:=0) (c:=.int .u8 (e_2.toNat:Int)) rfl rfl)) rfl rfl ?_
   refine Bj rfl rfl (Hx (u:=e_2) Ku M9) rfl rfl ?_
   refine Ak ?_
   refine Ai fun B=>?_
   refine Bm (ι:=Int×Int) (fun ((n_4,from_4):Int×Int)=>mk [(0,.sl 1 (An e8 b)),(1,vj at'),(8,vj n_4),(9,vj from_4)] [] 0) (fun ((n_4,from_4):Int×Int)=>Bh.j4 b at' n_4 from_4=some r) ?_ ?_
   ·refine Ah ?_
    refine Af (Bi _ _ []) 80 96 B rfl rfl ?_
    refine Ak ?_
    refine Ai fun B=>?_
    refine Dh rfl D (fun h9 D=>?_) fun h9 D=>?_
    ·refine Ah ?_
     refine Af (Bi _ _ []) 96 120 B rfl rfl ?_
     refine Ak ?_
     refine Ai fun B=>?_
     refine Ah ?_
     refine Bm (ι:=Bool) (fun (x58_2:Bool)=>mk [(0,.sl 1 (An e8 b)),(1,vj at'),(9,.val (.int .i64 (W (at' + 2)))),(10,.val (.int .i64 (W ((e_2.toNat:Int) - 128)))),(58,.val (.bool x58_2))] [] 0) (fun (x58_2:Bool)=>Bh.j2 b at' e_2 x58_2=some r) ?_ ?_
     ·refine Af (Bi _ _ []) 120 288 B rfl rfl ?_
      refine Ak ?_
      rcases Eb D with ⟨h11,D⟩ | ⟨h11,D⟩
      ·refine Ak ?_
       refine Ai fun B=>?_
       exact⟨true,D,Ay []⟩
      ·refine Ak ?_
       rcases Eb D with ⟨h13,D⟩ | ⟨h13,D⟩
       ·refine Ak ?_
        refine Ai fun B=>?_
        exact⟨true,D,Ay []⟩
       ·refine Ak ?_
        rcases Eb D with ⟨h15,D⟩ | ⟨h15,D⟩
        ·refine Ak ?_
         refine Ai fun B=>?_
         exact⟨true,D,Ay []⟩
        ·refine Ak ?_
         obtain⟨e_3,he_3,D⟩:=Ae D
         refine Ak ?_
         refine Bj (Cj rfl rfl h15) rfl (Bl N8 (Bf B5 (Aq he_3) (o:=0) (c:=.int .u8 (e_3.toNat:Int)) rfl rfl)) rfl rfl ?_
         refine Ak ?_
         refine Ai fun B=>?_
         exact⟨decide ((e_3.toNat:Int)=0),D,Ay []⟩
     ·rintro x58_2 D
      replace D:Bh.j2 b at' e_2 x58_2=some r:=D
      show Ca _ _ _ _ (mk _ _ _)
      unfold Bh.j2 at D
      refine Dh rfl D (fun h18 D=>?_) fun h18 D=>?_
      ·refine Ah ?_
       refine Af (Bi _ _ []) 0 32 Az rfl rfl ?_
       refine Ak ?_
       refine Ai fun B=>?_
       refine A4 ?_
       obtain rfl:=oi_ D
       exact A3 [] ⟨rfl,rfl⟩
      ·refine Ao ?_
       repeat first | refine Cw ?_ | refine Cy ?_
       refine A6 0 8 Az ?_
       refine Ak ?_
       refine Ai fun B=>?_
       refine Ah ?_
       refine A6 8 16 B ?_
       refine Ak ?_
       refine Ai fun B=>?_
       refine Au ?_
       refine Lu (fun ((n_3,i_3):Int×Int)=>mk [(0,.sl 1 (An e8 b)),(1,vj at'),(8,vj n_3),(9,.val (.int .i64 (W (at' + 2)))),(10,.val (.int .i64 (W ((e_2.toNat:Int) - 128)))),(11,vj i_3)] [] 0) D (Ay []) ?_
       rintro⟨n_3,i_3⟩ m3 o3 D hn3
       replace D:Bh.l3 b at' e_2 n_3 i_3=some o3:=D
       show Ca _ _ _ _ (mk _ _ _)
       unfold Bh.l3 at D
       refine Ah ?_
       refine A6 0 24 Az ?_
       refine Ak ?_
       refine Ai fun B=>?_
       refine Dh rfl D (fun h23 D=>?_) fun h23 D=>?_
       ·refine Ao ?_
        repeat first | refine Cw ?_ | refine Cy ?_
        refine Ah ?_
        refine Au ?_
        refine Af (Bi _ _ []) 24 112 B rfl rfl ?_
        refine Ak ?_
        obtain⟨e_4,he_4,D⟩:=Ae D
        refine Ak ?_
        refine Bj rfl rfl (Bl N8 (Bf B5 (Aq he_4) (o:=0) (c:=.int .u8 (e_4.toNat:Int)) rfl rfl)) rfl rfl ?_
        refine Bj rfl rfl (Hx (u:=e_4) Ku M9) rfl rfl ?_
        refine Ak ?_
        refine Ai fun B=>?_
        refine Af (Bi _ _ []) 112 136 B rfl rfl ?_
        refine Ak ?_
        refine Ai fun B=>?_
        obtain rfl:=oi_ D
        exact⟨((W ((W (n_3 * 256)) + (e_4.toNat:Int)),W (i_3 + 1)),m3),aDn _,hn3,Ay []⟩
       ·refine B8 ?_
        repeat first | refine Cw ?_ | refine Cy ?_
        replace D:=C5 D hn3
        refine A6 24 56 B ?_
        refine Ak ?_
        refine Ai fun B=>?_
        refine A6 56 72 B ?_
        refine Ak ?_
        refine Ai fun B=>?_
        refine Dh rfl D (fun h28 D=>?_) fun h28 D=>?_
        ·refine Ah ?_
         refine Af (Bi _ _ []) 72 104 B rfl rfl ?_
         refine Ak ?_
         refine Ai fun B=>?_
         refine A4 ?_
         obtain rfl:=oi_ D
         exact A3 [] ⟨rfl,rfl⟩
        ·refine Ao ?_
         repeat first | refine Cw ?_ | refine Cy ?_
         exact⟨(n_3,W ((W (at' + 2)) + (W ((e_2.toNat:Int) - 128)))),D,Ay []⟩
    ·refine Ao ?_
     repeat first | refine Cw ?_ | refine Cy ?_
     exact⟨((e_2.toNat:Int),W (at' + 2)),D,Ay []⟩
   ·rintro⟨n_4,from_4⟩ D
    replace D:Bh.j4 b at' n_4 from_4=some r:=D
    show Ca _ _ _ _ (mk _ _ _)
    unfold Bh.j4 at D
    refine Ah ?_
    refine A6 0 48 Az ?_
    refine Ak ?_
    refine Ai fun B=>?_
    refine Dh rfl D (fun h31 D=>?_) fun h31 D=>?_
    ·refine Ah ?_
     refine Af (Bi _ _ []) 48 80 B rfl rfl ?_
     refine Ak ?_
     refine Ai fun B=>?_
     refine A4 ?_
     obtain rfl:=oi_ D
     exact A3 [] ⟨rfl,rfl⟩
    ·refine Ao ?_
     repeat first | refine Cw ?_ | refine Cy ?_
     refine A6 48 152 B ?_
     refine Ak ?_
     obtain⟨e_5,he_5,D⟩:=Ae D
     refine Ak ?_
     refine Bj rfl rfl (Bl N8 (Bf B5 (Aq he_5) (o:=0) (c:=.int .u8 (e_5.toNat:Int)) rfl rfl)) rfl rfl ?_
     refine Bj rfl rfl (Hx (u:=e_5) Ku M9) rfl rfl ?_
     refine Ak ?_
     refine Ai fun B=>?_
     refine A4 ?_
     obtain rfl:=oi_ D
     exact A3 [] ⟨rfl,rfl⟩
theorem Nr.F (rec:(List UInt8)->Option ((List Aa)×Bool)) (hrec:∀ (b:(List UInt8)) (r:(List Aa)×Bool),rec b=some r->Fn Tryz.prog 51 0 [.sl 1 (An e8 b)] [] (fun d' b'=>d'=.tup [.row 0,.val (.bool r.2)]/\b'=[.abs [1] (Ds 50 4 3 (An Aa.enc r.1)),.gho])) (b:(List UInt8)) (r:(List Aa)×Bool) (D:Cr.F rec b=some r):Fn Tryz.prog 51 0 [.sl 1 (An e8 b)] [] (fun d' b'=>d'=.tup [.row 0,.val (.bool r.2)]/\b'=[.abs [1] (Ds 50 4 3 (An Aa.enc r.1)),.gho]):=by
 unfold Cr.F at D
 refine Fn.of Tryz.func51 rfl rfl rfl fun w0 I ρ0=>?_
 show Ca _ ⟨w0,I,ρ0,0,0,60⟩ _ _ _
 refine A6 0 16 Az ?_
 refine Ak ?_
 refine Ai fun B=>?_
 refine A6 16 24 B ?_
 refine Ak ?_
 refine Ai fun B=>?_
 refine D1 (σ':=mk [(0,.sl 1 (An e8 b)),(4,.row 0)] [(0,.row 50 4 (An Aa.enc ([]:List Aa)))] 1) (Ay []) ?_
 refine D1 (σ':=mk [(0,.sl 1 (An e8 b)),(4,.row 0)] [(1,.gho),(0,.abs [1] (Ds 50 4 3 (An Aa.enc ([]:List Aa))))] 2) (Vr 0 3 rfl rfl (by decide)) ?_
 refine A6 2 10 Az ?_
 refine Ak ?_
 refine Ai fun B=>?_
 refine Ah ?_
 refine Au ?_
 refine Lu (fun ((at_1,out_1):Int×List Aa)=>mk [(0,.sl 1 (An e8 b)),(4,.row 0),(5,vj at_1)] [(0,.abs [1] (Ds 50 4 3 (An Aa.enc out_1))),(1,.gho)] 2) D ((by exact Mb.lists [(0,0),(1,1)] rfl rfl ⟨⟨_,rfl,.sl _ _⟩,⟨_,rfl,.row rfl⟩,⟨_,rfl,.val _⟩,trivial⟩ ⟨.inl ⟨0,_,rfl,rfl,⟨rfl,rfl⟩⟩,.inl ⟨1,_,rfl,rfl,trivial⟩,trivial⟩)) ?_
 rintro⟨at_1,out_1⟩ m1 o1 D hn1
 replace D:Cr.l1 rec b at_1 out_1=some o1:=D
 show Ca _ _ _ _ (mk _ _ _)
 unfold Cr.l1 at D
 refine Ah ?_
 refine A6 2 34 Az ?_
 refine Ak ?_
 refine Ai fun B=>?_
 refine Dh rfl D (fun h5 D=>?_) fun h5 D=>?_
 ·refine Ao ?_
  repeat first | refine Cw ?_ | refine Cy ?_
  refine Au ?_
  refine A6 34 130 B ?_
  refine Ak ?_
  obtain⟨y,hy,D⟩:=Ae D
  refine Ek (S5 _ _ _ hy) ?_
  refine Ak ?_
  refine Ai fun B=>?_
  refine Ah ?_
  refine A6 130 146 B ?_
  refine Ak ?_
  refine Ai fun B=>?_
  refine Dh rfl D (fun h8 D=>?_) fun h8 D=>?_
  ·refine Ah ?_
   refine Af (Bi _ _ []) 146 162 B rfl rfl ?_
   refine Ak ?_
   refine Ai fun B=>?_
   refine D1 (σ':=mk [(2,.row 0),(3,.val (.bool false))] [(0,.row 50 4 (An Aa.enc ([]:List Aa)))] 1) (Ay []) ?_
   refine D1 (σ':=mk [(2,.row 0),(3,.val (.bool false))] [(1,.gho),(0,.abs [1] (Ds 50 4 3 (An Aa.enc ([]:List Aa))))] 2) (Vr 0 3 rfl rfl (by decide)) ?_
   refine A4 ?_
   replace D:=C5 D hn1
   obtain rfl:=oi_ D
   exact⟨[_,_],_,[_,_],[(0,0),(1,1)],.cons (.tmp rfl) (.cons (.tmp rfl) .nil),⟨rfl,rfl⟩,.tup (.cons (.row rfl) (.cons (.val _) .nil)),⟨.inl ⟨0,_,rfl,rfl,⟨rfl,rfl⟩⟩,.inl ⟨1,_,rfl,rfl,trivial⟩,trivial⟩,rfl,rfl,rfl,rfl,rfl⟩
  ·refine Ao ?_
   repeat first | refine Cw ?_ | refine Cy ?_
   refine A6 146 210 B ?_
   refine Ak ?_
   obtain⟨q,hq,D⟩:=Ae D
   refine Bj rfl rfl (aI hq) rfl rfl ?_
   obtain⟨q_2,hq_2,D⟩:=Ae D
   refine Bj rfl rfl (W3 hq_2) rfl rfl ?_
   refine Ak ?_
   refine Bj rfl rfl (.build (r:=[vj y.1,.val (.slice none 0 0),.val (.bool (decide (q_2=1))),.val (.slice none 0 0)]) Io Nc Pq (by kernel_rfl) rfl) rfl rfl ?_
   refine Ak ?_
   refine Ai fun B=>?_
   refine D1 (σ':=mk [(0,.sl 1 (An e8 b)),(4,.row 0),(7,vj y.2.1),(8,vj y.2.2.1),(10,.ptr 1 0)] [(0,.abs [2] (Ds 50 4 3 (An Aa.enc out_1))),(1,.box [vj y.1,.val (.slice none 0 0),.val (.bool (decide (q_2=1))),.row 3] 50),(2,.gho),(3,.row 50 4 (An Aa.enc ([]:List Aa)))] 4) ((by exact Mb.lists [(0,0),(1,194),(2,1)] rfl rfl ⟨⟨_,rfl,.sl _ _⟩,⟨_,rfl,.row rfl⟩,⟨_,rfl,.val _⟩,⟨_,rfl,.val _⟩,⟨_,rfl,.ptr rfl⟩,trivial⟩ ⟨.inl ⟨0,_,rfl,rfl,⟨rfl,rfl⟩⟩,.inl ⟨194,_,rfl,rfl,⟨rfl,.cons (.val _) (.cons (.val _) (.cons (.val _) (.cons (.nil rfl) .nil)))⟩⟩,.inl ⟨1,_,rfl,rfl,trivial⟩,.inr ⟨rfl,_,_,rfl⟩,trivial⟩)) ?_
   refine D1 (σ':=mk [(0,.sl 1 (An e8 b)),(4,.row 0),(7,vj y.2.1),(8,vj y.2.2.1),(10,.ptr 1 0)] [(4,.gho),(0,.abs [2] (Ds 50 4 3 (An Aa.enc out_1))),(1,.box [vj y.1,.val (.slice none 0 0),.val (.bool (decide (q_2=1))),.row 3] 50),(2,.gho),(3,.abs [4] (Ds 50 4 3 (An Aa.enc ([]:List Aa))))] 5) (Vr 3 3 rfl rfl (by decide)) ?_
   refine Bm (ι:=List UInt8×List Aa) (fun ((l_2_2,l_2_3):List UInt8×List Aa)=>mk [(0,.sl 1 (An e8 b)),(4,.row 0),(8,vj y.2.2.1),(10,.ptr 1 0)] [(0,.abs [2] (Ds 50 4 3 (An Aa.enc out_1))),(1,.box [vj y.1,.row 3,.val (.bool (decide (q_2=1))),.row 4] 50),(2,.gho),(3,.row 5 1 (An e8 l_2_2)),(4,.abs [5] (Ds 50 4 3 (An Aa.enc l_2_3))),(5,.gho)] 6) (fun ((l_2_2,l_2_3):List UInt8×List Aa)=>Cr.j2 out_1 y q_2 l_2_2 l_2_3=some o1) ?_ ?_
   ·refine Ah ?_
    refine Af (Bi _ _ []) 5 21 Az rfl rfl ?_
    refine Ak ?_
    refine Ai fun B=>?_
    refine Dh rfl D (fun h12 D=>?_) fun h12 D=>?_
    ·refine Ah ?_
     refine Af (Bi _ _ []) 21 101 B rfl rfl ?_
     refine Ak ?_
     obtain⟨l,hl,D⟩:=Ae D
     refine Bj rfl rfl (R5 Hp B5 hl) rfl rfl ?_
     obtain⟨y_2,hy_2,D⟩:=Ae D
     refine Fg (rd:=[]) (ps:=[]) (gs:=[]) false rfl (hrec _ _ hy_2) rfl rfl (.cons .sl .nil) rfl rfl (by intro h; cases h) rfl (by intro h; first | (cases h; done) | exact⟨_,_,⟨rfl,rfl⟩,by simp,by simp⟩) ?_
     rintro _ _ ⟨rfl,rfl⟩
     refine Ak ?_
     refine Ai fun B=>?_
     refine Ah ?_
     refine A6 101 117 B ?_
     refine Ak ?_
     refine Ai fun B=>?_
     refine Dh rfl D (fun h15 D=>?_) fun h15 D=>?_
     ·refine Ah ?_
      refine Af (Bi _ _ []) 117 133 B rfl rfl ?_
      refine Ak ?_
      refine Ai fun B=>?_
      refine D1 (σ':=mk [(2,.row 0),(3,.val (.bool false))] [(0,.row 50 4 (An Aa.enc ([]:List Aa)))] 1) (Ay []) ?_
      refine D1 (σ':=mk [(2,.row 0),(3,.val (.bool false))] [(1,.gho),(0,.abs [1] (Ds 50 4 3 (An Aa.enc ([]:List Aa))))] 2) (Vr 0 3 rfl rfl (by decide)) ?_
      refine A4 ?_
      replace D:=C5 D hn1
      obtain rfl:=oi_ D
      exact⟨[_,_],_,[_,_],[(0,0),(1,1)],.cons (.tmp rfl) (.cons (.tmp rfl) .nil),⟨rfl,rfl⟩,.tup (.cons (.row rfl) (.cons (.val _) .nil)),⟨.inl ⟨0,_,rfl,rfl,⟨rfl,rfl⟩⟩,.inl ⟨1,_,rfl,rfl,trivial⟩,trivial⟩,rfl,rfl,rfl,rfl,rfl⟩
     ·refine Ao ?_
      repeat first | refine Cw ?_ | refine Cy ?_
      refine Af (Bi _ _ []) 117 141 B rfl rfl ?_
      refine Ak ?_
      refine Ai fun B=>?_
      exact⟨(([]:List UInt8),y_2.1),D,(by exact Mb.lists [(0,0),(1,1),(2,2),(4,53),(5,54)] rfl rfl ⟨⟨_,rfl,.sl _ _⟩,⟨_,rfl,.row rfl⟩,⟨_,rfl,.val _⟩,⟨_,rfl,.ptr rfl⟩,trivial⟩ ⟨.inl ⟨0,_,rfl,rfl,⟨rfl,rfl⟩⟩,.inl ⟨1,_,rfl,rfl,⟨rfl,.cons (.val _) (.cons (.nil rfl) (.cons (.val _) (.cons (.row rfl) .nil)))⟩⟩,.inl ⟨2,_,rfl,rfl,trivial⟩,.inr ⟨rfl,_,_,rfl⟩,.inl ⟨53,_,rfl,rfl,⟨rfl,rfl⟩⟩,.inl ⟨54,_,rfl,rfl,trivial⟩,trivial⟩)⟩
    ·refine Af (Bi _ _ []) 21 85 B rfl rfl ?_
     refine Bj rfl rfl (As Hp z5 (by decide) rfl rfl rfl rfl fR (cs:=[]) .nil rfl (l:=([]:List UInt8)) (f:=e8) rfl) rfl rfl ?_
     refine Ak ?_
     obtain⟨l_2,hl_2,D⟩:=Ae D
     refine Bj rfl rfl (R5 Hp B5 hl_2) rfl rfl ?_
     obtain⟨l_3,hl_3,D⟩:=Ae D
     refine Ff (rd:=[21]) rfl rfl (Dg Hp B5 .row rfl .sl rfl hl_3 rfl) rfl rfl ?_
     refine Ak ?_
     refine Ai fun B=>?_
     exact⟨(l_3,([]:List Aa)),D,(by exact Mb.lists [(0,0),(1,1),(2,2),(3,61),(4,3),(5,4)] rfl rfl ⟨⟨_,rfl,.sl _ _⟩,⟨_,rfl,.row rfl⟩,⟨_,rfl,.val _⟩,⟨_,rfl,.ptr rfl⟩,trivial⟩ ⟨.inl ⟨0,_,rfl,rfl,⟨rfl,rfl⟩⟩,.inl ⟨1,_,rfl,rfl,⟨rfl,.cons (.val _) (.cons (.row rfl) (.cons (.val _) (.cons (.row rfl) .nil)))⟩⟩,.inl ⟨2,_,rfl,rfl,trivial⟩,.inl ⟨61,_,rfl,rfl,⟨rfl,rfl,rfl⟩⟩,.inl ⟨3,_,rfl,rfl,⟨rfl,rfl⟩⟩,.inl ⟨4,_,rfl,rfl,trivial⟩,trivial⟩)⟩
   ·rintro⟨l_2_2,l_2_3⟩ D
    replace D:Cr.j2 out_1 y q_2 l_2_2 l_2_3=some o1:=D
    show Ca _ _ _ _ (mk _ _ _)
    unfold Cr.j2 at D
    refine Ah ?_
    refine D1 (σ':=mk [(0,.sl 1 (An e8 b)),(4,.row 0),(8,vj y.2.2.1),(10,.ptr 1 0)] [(0,.abs [2] (Ds 50 4 3 (An Aa.enc out_1))),(1,.box [vj y.1,.sl 1 (An e8 l_2_2),.val (.bool (decide (q_2=1))),.row 3] 50),(2,.gho),(3,.abs [4] (Ds 50 4 3 (An Aa.enc l_2_3))),(4,.gho)] 5) ((by exact Mb.lists [(0,0),(1,1),(2,2),(3,4),(4,5)] rfl rfl ⟨⟨_,rfl,.sl _ _⟩,⟨_,rfl,.row rfl⟩,⟨_,rfl,.val _⟩,⟨_,rfl,.ptr rfl⟩,trivial⟩ ⟨.inl ⟨0,_,rfl,rfl,⟨rfl,rfl⟩⟩,.inl ⟨1,_,rfl,rfl,⟨rfl,.cons (.val _) (.cons (.frz rfl (Jc rfl)) (.cons (.val _) (.cons (.row rfl) .nil)))⟩⟩,.inl ⟨2,_,rfl,rfl,trivial⟩,.inl ⟨4,_,rfl,rfl,⟨rfl,rfl⟩⟩,.inl ⟨5,_,rfl,rfl,trivial⟩,trivial⟩)) ?_
    refine Af (Bi _ _ []) 5 45 Az rfl rfl ?_
    refine Ak ?_
    refine U6 (rd:=[3]) rfl rfl (oV (o':=3) (r:=[vj y.1,.sl 1 (An e8 l_2_2),.val (.bool (decide (q_2=1))),.row 3]) (pre:=[vj y.1,.sl 1 (An e8 l_2_2),.val (.bool (decide (q_2=1)))]) (post:=[]) (ck1:=[none,some 1,none]) (ck2:=[]) (cs1:=An Aa.enc ([(Aa.mk y.1 l_2_2 (decide (q_2=1)) l_2_3)]:List Aa)) Jz Pq (by decide) (by kernel_rfl) rfl rfl rfl (.cons .int (.cons .sl (.cons .bool .nil))) .nil (List.Mem.head _) rfl (by simp only [An,aFe,aFo,Aa.enc_eq]; rfl)) rfl rfl (fun _=>⟨_,rfl⟩) ?_
    rintro _ rfl
    obtain⟨l_4,hl_4,D⟩:=Ae D
    refine U6 (rd:=[0,21]) rfl rfl (yR Jz Aa.enc_len (List.Mem.head _) (List.Mem.tail _ (List.Mem.head _)) rfl hl_4 rfl rfl rfl) rfl rfl (fun _=>⟨_,rfl⟩) ?_
    rintro _ rfl
    refine Ak ?_
    refine Ai fun B=>?_
    refine Af (Bi _ _ []) 45 61 B rfl rfl ?_
    refine Ak ?_
    refine Ai fun B=>?_
    obtain rfl:=oi_ D
    exact⟨((y.2.2.1,l_4),m1),aDn _,hn1,(by exact Mb.lists [(0,29),(1,30)] rfl rfl ⟨⟨_,rfl,.sl _ _⟩,⟨_,rfl,.row rfl⟩,⟨_,rfl,.val _⟩,trivial⟩ ⟨.inl ⟨29,_,rfl,rfl,⟨rfl,rfl⟩⟩,.inl ⟨30,_,rfl,rfl,trivial⟩,trivial⟩)⟩
 ·refine B8 ?_
  repeat first | refine Cw ?_ | refine Cy ?_
  replace D:=C5 D hn1
  refine A6 34 58 B ?_
  refine Ak ?_
  refine Ai fun B=>?_
  refine A4 ?_
  obtain rfl:=oi_ D
  exact⟨[_,_],_,[_,_],[(0,0),(1,1)],.cons (.tmp rfl) (.cons (.tmp rfl) .nil),⟨rfl,rfl⟩,.tup (.cons (.row rfl) (.cons (.val _) .nil)),⟨.inl ⟨0,_,rfl,rfl,⟨rfl,rfl⟩⟩,.inl ⟨1,_,rfl,rfl,trivial⟩,trivial⟩,rfl,rfl,rfl,rfl,rfl⟩
theorem Nr (b:(List UInt8)) (r:(List Aa)×Bool) (D:Cr b=some r):Fn Tryz.prog 51 0 [.sl 1 (An e8 b)] [] (fun d' b'=>d'=.tup [.row 0,.val (.bool r.2)]/\b'=[.abs [1] (Ds 50 4 3 (An Aa.enc r.1)),.gho]):=
 Kd (motive:=fun (x:(List UInt8)) (r:(List Aa)×Bool)=>Fn Tryz.prog 51 0 [.sl 1 (An e8 x)] [] (fun d' b'=>d'=.tup [.row 0,.val (.bool r.2)]/\b'=[.abs [1] (Ds 50 4 3 (An Aa.enc r.1)),.gho])) (fun rec hrec x r h=>Nr.F _ (fun b r h=>hrec b r h) x r h) b r D
end Go.Proofs.YtfanepojdefdpaaGreat
