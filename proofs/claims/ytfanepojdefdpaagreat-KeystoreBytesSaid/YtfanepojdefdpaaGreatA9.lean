import Derived.Test.YtfanepojdefdpaaGreatT1
import Derived.Test.YtfanepojdefdpaaGreatA5
import Derived.Test.YtfanepojdefdpaaGreatA8
set_option linter.unusedVariables false
set_option linter.unusedSimpArgs false
set_option maxRecDepth 100000
set_option maxHeartbeats 1600000
namespace Go.Proofs.YtfanepojdefdpaaGreat
open Go.RowKit
theorem L7 (r':Ad) (r:Bool×Ad) (D:G3 r'=some r):Fn Tryz.prog 63 1 [.ptr 0 0] [.box (Ad.dv r') 96] (fun d' b'=>d'=.val (.bool r.1)/\b'=[.box (Ad.dv r.2) 96]):=by
 unfold G3 at D
 refine Fn.of Tryz.func63 rfl rfl rfl fun w0 I ρ0=>?_
 show Ca _ ⟨w0,I,ρ0,1,1,23⟩ _ _ _
 refine A6 1 9 Az ?_
 refine Ak ?_
 refine Ai fun B=>?_
 refine A6 9 73 B ?_
 refine Ak ?_
 obtain⟨y,hy,D⟩:=Ae D
 refine Hc [0] [0] [] false (G1 _ _ hy) ?_
 obtain⟨y_2,hy_2,D⟩:=Ae D
 refine Ek (W2 _ _ hy_2) ?_
 refine Ak ?_
 refine Ai fun B=>?_
 refine A6 73 169 B ?_
 refine Ak ?_
 rcases Eb D with ⟨h3,D⟩ | ⟨h3,D⟩
 ·refine Ak ?_
  refine Ai fun B=>?_
  refine A6 169 185 B ?_
  refine Ak ?_
  refine Ai fun B=>?_
  refine A4 ?_
  obtain rfl:=oi_ D
  exact A3 [(0,0)] ⟨rfl,rfl⟩
 ·refine Ak ?_
  refine Ai fun B=>?_
  refine A6 169 185 B ?_
  refine Ak ?_
  refine Ai fun B=>?_
  refine A4 ?_
  obtain rfl:=oi_ D
  exact A3 [(0,0)] ⟨rfl,rfl⟩
theorem cG (v:Aa) (r:Ab×Bool) (D:Dn v=some r):Fn Tryz.prog 64 0 [.agg (Aa.dv v)] [] (fun d' b'=>d'=.tup [.agg (Ab.dv r.1),.val (.bool r.2)]/\b'=[]):=by
 unfold Dn at D
 refine Fn.of Tryz.func64 rfl rfl rfl fun w0 I ρ0=>?_
 show Ca _ ⟨w0,I,ρ0,0,0,82⟩ _ _ _
 refine A6 0 24 Az ?_
 refine Ak ?_
 refine Ai fun B=>?_
 refine A6 24 48 B ?_
 refine Ak ?_
 obtain⟨y,hy,D⟩:=Ae D
 refine Fg (rd:=[]) (ps:=[]) (gs:=[]) false rfl (O7 _ _ hy) rfl rfl (.cons (.agg (.cons .val (.cons .sl (.cons .val (.cons .sl .nil))))) .nil) rfl rfl (by intro h; cases h) rfl (by intro h; first | (cases h; done) | exact⟨_,_,⟨rfl,rfl⟩,by simp,by simp⟩) ?_
 rintro _ _ ⟨rfl,rfl⟩
 refine Ak ?_
 refine Ai fun B=>?_
 refine A6 48 72 B ?_
 refine Ak ?_
 obtain⟨y_2,hy_2,D⟩:=Ae D
 refine Fg (rd:=[32]) (ps:=[32]) (gs:=[]) false rfl (Gf _ _ hy_2) rfl rfl (.cons (.ptr rfl) .nil) ⟨_,_,_,rfl,.head _,⟨_,rfl,(by repeat' (first | exact Hm.nil | apply Hm.cons | exact Ag.val | exact Ag.sl | exact Ag.nils | exact Ag.ptr rfl | exact Ag.rowK rfl))⟩,rfl⟩ rfl (by intro h; cases h) rfl (by intro h; first | (cases h; done) | exact⟨_,_,⟨rfl,rfl⟩,by simp,by simp⟩) ?_
 rintro _ _ ⟨rfl,rfl⟩
 refine Ak ?_
 refine Ai fun B=>?_
 refine A6 72 256 B ?_
 refine Ak ?_
 obtain⟨y_3,hy_3,D⟩:=Ae D
 refine Hc [56] [56] [] false (Ec _ _ hy_3) ?_
 refine Ak ?_
 obtain⟨y_4,hy_4,D⟩:=Ae D
 refine Hc [56] [56] [] false (Ic _ _ hy_4) ?_
 refine Ak ?_
 obtain⟨y_5,hy_5,D⟩:=Ae D
 refine Hc [56] [56] [] false (Ic _ _ hy_5) ?_
 refine Ak ?_
 obtain⟨y_6,hy_6,D⟩:=Ae D
 refine Hc [56] [56] [] false (Kn _ _ hy_6) ?_
 refine Ak ?_
 obtain⟨y_7,hy_7,D⟩:=Ae D
 refine Hc [56] [56] [] false (Ec _ _ hy_7) ?_
 refine Ak ?_
 obtain⟨y_8,hy_8,D⟩:=Ae D
 refine Hc [56] [56] [] false (Kn _ _ hy_8) ?_
 refine Ak ?_
 obtain⟨y_9,hy_9,D⟩:=Ae D
 refine Hc [56] [56] [] false (Ec _ _ hy_9) ?_
 refine Ak ?_
 obtain⟨y_10,hy_10,D⟩:=Ae D
 refine Hc [56] [56] [] false (Ec _ _ hy_10) ?_
 refine Ak ?_
 obtain⟨y_11,hy_11,D⟩:=Ae D
 refine Hc [56] [56] [] false (L7 _ _ hy_11) ?_
 refine Ak ?_
 obtain⟨y_12,hy_12,D⟩:=Ae D
 refine Hc [56] [56] [] false (Ec _ _ hy_12) ?_
 refine Bj rfl rfl (.build (r:=[vj y_3.1,vk y_4.1,vk y_5.1,vj y_6.1.Alg,vj y_6.1.Bits,vj y_7.1,vj y_8.1.Alg,vj y_8.1.Bits,vj y_9.1,vj y_10.1,.val (.bool y_11.1),vj y_12.1,.val (.slice none 0 0),.val (.int .i64 0),.val (.int .i64 0)]) L3 tM sX (by kernel_rfl) rfl) rfl rfl ?_
 refine Ak ?_
 refine Ai fun B=>?_
 refine A6 256 280 B ?_
 refine Ak ?_
 obtain⟨y_13,hy_13,D⟩:=Ae D
 refine Fg (rd:=[56]) (ps:=[56]) (gs:=[]) false rfl (Gf _ _ hy_13) rfl rfl (.cons (.ptr rfl) .nil) ⟨_,_,_,rfl,.head _,⟨_,rfl,(by repeat' (first | exact Hm.nil | apply Hm.cons | exact Ag.val | exact Ag.sl | exact Ag.nils | exact Ag.ptr rfl | exact Ag.rowK rfl))⟩,rfl⟩ rfl (by intro h; cases h) rfl (by intro h; first | (cases h; done) | exact⟨_,_,⟨rfl,rfl⟩,by simp,by simp⟩) ?_
 rintro _ _ ⟨rfl,rfl⟩
 refine Ak ?_
 refine Ai fun B=>?_
 refine Ah ?_
 refine Au ?_
 refine Lu (fun ((n_1,l_1):Ad×List ByteArray)=>mk [(2,.ptr 0 0),(4,.ptr 1 0),(5,.ptr 2 0),(6,.ptr 3 0),(7,.ptr 4 0)] [(0,.box [.val (.int .i64 0),.val (.string (⟨#[]⟩:ByteArray)),.val (.string (⟨#[]⟩:ByteArray)),.val (.int .i64 0),.val (.int .i64 0),.val (.int .i64 0),.val (.int .i64 0),.val (.int .i64 0),.val (.int .i64 0),.val (.int .i64 0),.val (.bool false),.val (.int .i64 0),.val (.slice none 0 0),.val (.int .i64 0),.val (.int .i64 0)] 67),(1,.box (Ad.dv y_2.2) 96),(2,.box (Ad.dv y_13.2) 96),(3,.box [vj y_3.1,vk y_4.1,vk y_5.1,vj y_6.1.Alg,vj y_6.1.Bits,vj y_7.1,vj y_8.1.Alg,vj y_8.1.Bits,vj y_9.1,vj y_10.1,.val (.bool y_11.1),vj y_12.1,.row 5,.val (.int .i64 0),.val (.int .i64 0)] 67),(4,.box (Ad.dv n_1) 96),(5,.row 9 1 (An eS l_1))] 6) D (Ay [(0,8),(1,32),(2,56),(3,240),(4,264)]) ?_
 rintro⟨n_1,l_1⟩ m1 o1 D hn1
 replace D:Dn.l1 y_2 y_3 y_4 y_5 y_6 y_7 y_8 y_9 y_10 y_11 y_12 y_13 n_1 l_1=some o1:=D
 show Ca _ _ _ _ (mk _ _ _)
 unfold Dn.l1 at D
 refine Ah ?_
 refine Bm (ι:=Bool) (fun (x51_2:Bool)=>mk [(2,.ptr 0 0),(4,.ptr 1 0),(5,.ptr 2 0),(6,.ptr 3 0),(7,.ptr 4 0),(51,.val (.bool x51_2))] [(0,.box [.val (.int .i64 0),.val (.string (⟨#[]⟩:ByteArray)),.val (.string (⟨#[]⟩:ByteArray)),.val (.int .i64 0),.val (.int .i64 0),.val (.int .i64 0),.val (.int .i64 0),.val (.int .i64 0),.val (.int .i64 0),.val (.int .i64 0),.val (.bool false),.val (.int .i64 0),.val (.slice none 0 0),.val (.int .i64 0),.val (.int .i64 0)] 67),(1,.box (Ad.dv y_2.2) 96),(2,.box (Ad.dv y_13.2) 96),(3,.box [vj y_3.1,vk y_4.1,vk y_5.1,vj y_6.1.Alg,vj y_6.1.Bits,vj y_7.1,vj y_8.1.Alg,vj y_8.1.Bits,vj y_9.1,vj y_10.1,.val (.bool y_11.1),vj y_12.1,.row 5,.val (.int .i64 0),.val (.int .i64 0)] 67),(4,.box (Ad.dv n_1) 96),(5,.row 9 1 (An eS l_1))] 6) (fun (x51_2:Bool)=>Dn.j2 y_2 y_3 y_4 y_5 y_6 y_7 y_8 y_9 y_10 y_11 y_12 y_13 n_1 l_1 x51_2=some o1) ?_ ?_
 ·refine Cs (Bi _ _ []) (by kernel_rfl) [0,1,3,7,15,31,63,127,255,31,543,1567,3615,7711,16383,32767] 6 134 Az rfl rfl (by kernel_rfl) ?_
  refine Ak ?_
  rcases Eb D with ⟨h6,D⟩ | ⟨h6,D⟩
  ·refine Ak ?_
   refine Ai fun B=>?_
   exact⟨decide (n_1.At < (n_1.L.length:Int)),D,Ay [(0,0),(1,1),(2,2),(3,3),(4,4),(5,5)]⟩
  ·refine Ak ?_
   refine Ai fun B=>?_
   exact⟨false,D,Ay [(0,0),(1,1),(2,2),(3,3),(4,4),(5,5)]⟩
 ·rintro x51_2 D
  replace D:Dn.j2 y_2 y_3 y_4 y_5 y_6 y_7 y_8 y_9 y_10 y_11 y_12 y_13 n_1 l_1 x51_2=some o1:=D
  show Ca _ _ _ _ (mk _ _ _)
  unfold Dn.j2 at D
  refine Dh rfl D (fun h9 D=>?_) fun h9 D=>?_
  ·refine Ao ?_
   repeat first | refine Cw ?_ | refine Cy ?_
   refine Au ?_
   refine Cs (Bi _ _ []) (by kernel_rfl) [0,1,0,4,12,31,63,127] 6 70 Az rfl rfl (by kernel_rfl) ?_
   refine Ak ?_
   obtain⟨y_14,hy_14,D⟩:=Ae D
   refine Hc [4] [4] [] false (Ic _ _ hy_14) ?_
   refine Bj rfl rfl (As Tz z9 (by decide) rfl rfl rfl rfl wP (cs:=[.str y_14.1]) (.cons .str .nil) rfl (l:=([y_14.1]:List ByteArray)) (f:=eS) rfl) rfl rfl ?_
   obtain⟨l,hl,D⟩:=Ae D
   refine Ff (rd:=[5,38]) rfl rfl (Dg Tz Jo .row rfl .row rfl hl rfl) rfl rfl ?_
   refine Ak ?_
   refine Ai fun B=>?_
   obtain rfl:=oi_ D
   exact⟨((y_14.2,l),m1),aDn _,hn1,Ay [(0,0),(1,1),(2,2),(3,3),(4,4),(5,46)]⟩
  ·refine B8 ?_
   repeat first | refine Cw ?_ | refine Cy ?_
   replace D:=C5 D hn1
   refine A6 6 30 Az ?_
   refine Ak ?_
   obtain⟨y_15,hy_15,D⟩:=Ae D
   refine Fg (rd:=[1]) (ps:=[1]) (gs:=[]) false rfl (Gf _ _ hy_15) rfl rfl (.cons (.ptr rfl) .nil) ⟨_,_,_,rfl,.head _,⟨_,rfl,(by repeat' (first | exact Hm.nil | apply Hm.cons | exact Ag.val | exact Ag.sl | exact Ag.nils | exact Ag.ptr rfl | exact Ag.rowK rfl))⟩,rfl⟩ rfl (by intro h; cases h) rfl (by intro h; first | (cases h; done) | exact⟨_,_,⟨rfl,rfl⟩,by simp,by simp⟩) ?_
   rintro _ _ ⟨rfl,rfl⟩
   refine Ak ?_
   refine Ai fun B=>?_
   refine A6 30 86 B ?_
   refine Ak ?_
   obtain⟨y_16,hy_16,D⟩:=Ae D
   refine Hc [14] [14] [] false (Ec _ _ hy_16) ?_
   refine Ak ?_
   obtain⟨y_17,hy_17,D⟩:=Ae D
   refine Hc [14] [14] [] false (Ec _ _ hy_17) ?_
   refine Bj rfl rfl (.build (r:=[vj y_16.1,vj y_17.1]) aL vZ z65 (by kernel_rfl) rfl) rfl rfl ?_
   refine Ak ?_
   refine Ai fun B=>?_
   refine Ah ?_
   refine Cs (Bi _ _ []) (by kernel_rfl) [0,0,2,6,14,30,62,126,254,510,1022,2046,4094,8190,16382,16383,65535] 86 222 B rfl rfl (by kernel_rfl) ?_
   refine Ak ?_
   obtain⟨y_18,hy_18,D⟩:=Ae D
   refine Hc [1] [1] [] false (Fc _ _ hy_18) ?_
   refine Ak ?_
   rcases Eb D with ⟨h13,D⟩ | ⟨h13,D⟩
   ·refine Ak ?_
    obtain⟨y_19,hy_19,D⟩:=Ae D
    refine Hc [2] [2] [] false (Fc _ _ hy_19) ?_
    refine Ak ?_
    rcases Eb D with ⟨h14,D⟩ | ⟨h14,D⟩
    ·refine Ak ?_
     obtain⟨y_20,hy_20,D⟩:=Ae D
     refine Hc [4] [4] [] false (Fc _ _ hy_20) ?_
     refine Ak ?_
     rcases Eb D with ⟨h15,D⟩ | ⟨h15,D⟩
     ·refine Ak ?_
      obtain⟨y_21,hy_21,D⟩:=Ae D
      refine Hc [14] [14] [] false (Fc _ _ hy_21) ?_
      refine Ak ?_
      refine Ai fun B=>?_
      refine A4 ?_
      obtain rfl:=oi_ D
      exact A3 [] ⟨rfl,rfl⟩
     ·refine Ak ?_
      refine Ai fun B=>?_
      refine A4 ?_
      obtain rfl:=oi_ D
      exact A3 [] ⟨rfl,rfl⟩
    ·refine Ak ?_
     refine Ai fun B=>?_
     refine A4 ?_
     obtain rfl:=oi_ D
     exact A3 [] ⟨rfl,rfl⟩
   ·refine Ak ?_
    refine Ai fun B=>?_
    refine A4 ?_
    obtain rfl:=oi_ D
    exact A3 [] ⟨rfl,rfl⟩
theorem Xw (b:(List UInt8)) (r:(List Ac)×Int) (D:A1 b=some r):Fn Tryz.prog 26 0 [.sl 1 (An e8 b)] [] (fun d' b'=>d'=.tup [.sl 6 (An Ac.enc r.1),vj r.2]/\b'=[]):=by
 unfold A1 at D
 refine Fn.of Tryz.func26 rfl rfl rfl fun w0 I ρ0=>?_
 show Ca _ ⟨w0,I,ρ0,0,0,114⟩ _ _ _
 refine A6 0 16 Az ?_
 refine Ak ?_
 refine Ai fun B=>?_
 refine A6 16 80 B ?_
 refine Ak ?_
 obtain⟨y,hy,D⟩:=Ae D
 refine Ek (Ye _ _ hy) ?_
 refine Ak ?_
 refine Ai fun B=>?_
 refine Ah ?_
 refine A6 80 96 B ?_
 refine Ak ?_
 refine Ai fun B=>?_
 refine Dh rfl D (fun h4 D=>?_) fun h4 D=>?_
 ·refine Ah ?_
  refine Af (Bi _ _ []) 96 120 B rfl rfl ?_
  refine Ak ?_
  refine Ai fun B=>?_
  refine A4 ?_
  obtain rfl:=oi_ D
  exact A3 [] ⟨rfl,rfl⟩
 ·refine Ao ?_
  repeat first | refine Cw ?_ | refine Cy ?_
  refine A6 96 120 B ?_
  refine Ak ?_
  obtain⟨y_2,hy_2,D⟩:=Ae D
  refine Fg (rd:=[]) (ps:=[]) (gs:=[]) false rfl (O7 _ _ hy_2) rfl rfl (.cons (.agg (.cons .val (.cons .sl (.cons .val (.cons .sl .nil))))) .nil) rfl rfl (by intro h; cases h) rfl (by intro h; first | (cases h; done) | exact⟨_,_,⟨rfl,rfl⟩,by simp,by simp⟩) ?_
  rintro _ _ ⟨rfl,rfl⟩
  refine Ak ?_
  refine Ai fun B=>?_
  refine Ah ?_
  refine A6 120 160 B ?_
  refine Ak ?_
  refine Ai fun B=>?_
  refine Dh rfl D (fun h8 D=>?_) fun h8 D=>?_
  ·refine Ah ?_
   refine Af (Bi _ _ []) 160 176 B rfl rfl ?_
   refine Ak ?_
   refine Ai fun B=>?_
   refine A4 ?_
   obtain rfl:=oi_ D
   exact A3 [] ⟨rfl,rfl⟩
  ·refine Ao ?_
   repeat first | refine Cw ?_ | refine Cy ?_
   refine A6 160 168 B ?_
   refine Ak ?_
   refine Ai fun B=>?_
   refine Ah ?_
   refine Au ?_
   refine Lu (fun ((r_1,out_1):Ad×List Ac)=>mk [(6,.ptr 0 0),(7,.row 1)] [(0,.box (Ad.dv r_1) 96),(1,.row 40 6 (An Ac.enc out_1))] 2) D (Ay [(0,104)]) ?_
   rintro⟨r_1,out_1⟩ m1 o1 D hn1
   replace D:A1.l1 r_1 out_1=some o1:=D
   show Ca _ _ _ _ (mk _ _ _)
   unfold A1.l1 at D
   refine Ah ?_
   refine Bm (ι:=Bool) (fun (x43_2:Bool)=>mk [(6,.ptr 0 0),(7,.row 1),(43,.val (.bool x43_2))] [(0,.box (Ad.dv r_1) 96),(1,.row 40 6 (An Ac.enc out_1))] 2) (fun (x43_2:Bool)=>A1.j2 r_1 out_1 x43_2=some o1) ?_ ?_
   ·refine Cs (Bi _ _ []) (by kernel_rfl) [0,1,3,7,15,31,63,127,255,31,543,1567,3615,7711,16383,32767] 2 130 Az rfl rfl (by kernel_rfl) ?_
    refine Ak ?_
    rcases Eb D with ⟨h11,D⟩ | ⟨h11,D⟩
    ·refine Ak ?_
     refine Ai fun B=>?_
     exact⟨decide (r_1.At < (r_1.L.length:Int)),D,Ay [(0,0),(1,1)]⟩
    ·refine Ak ?_
     refine Ai fun B=>?_
     exact⟨false,D,Ay [(0,0),(1,1)]⟩
   ·rintro x43_2 D
    replace D:A1.j2 r_1 out_1 x43_2=some o1:=D
    show Ca _ _ _ _ (mk _ _ _)
    unfold A1.j2 at D
    refine Dh rfl D (fun h14 D=>?_) fun h14 D=>?_
    ·refine Ao ?_
     repeat first | refine Cw ?_ | refine Cy ?_
     refine Au ?_
     refine A6 2 26 Az ?_
     refine Ak ?_
     obtain⟨y_3,hy_3,D⟩:=Ae D
     refine Fg (rd:=[0]) (ps:=[0]) (gs:=[]) false rfl (Gf _ _ hy_3) rfl rfl (.cons (.ptr rfl) .nil) ⟨_,_,_,rfl,.head _,⟨_,rfl,(by repeat' (first | exact Hm.nil | apply Hm.cons | exact Ag.val | exact Ag.sl | exact Ag.nils | exact Ag.ptr rfl | exact Ag.rowK rfl))⟩,rfl⟩ rfl (by intro h; cases h) rfl (by intro h; first | (cases h; done) | exact⟨_,_,⟨rfl,rfl⟩,by simp,by simp⟩) ?_
     rintro _ _ ⟨rfl,rfl⟩
     refine Ak ?_
     refine Ai fun B=>?_
     refine A6 26 114 B ?_
     refine Ak ?_
     obtain⟨y_4,hy_4,D⟩:=Ae D
     refine Hc [10] [10] [] false (Ic _ _ hy_4) ?_
     refine Ak ?_
     obtain⟨y_5,hy_5,D⟩:=Ae D
     refine Hc [10] [10] [] false (Kn _ _ hy_5) ?_
     refine Ak ?_
     obtain⟨y_6,hy_6,D⟩:=Ae D
     refine Hc [10] [10] [] false (Ec _ _ hy_6) ?_
     refine Ak ?_
     obtain⟨y_7,hy_7,D⟩:=Ae D
     refine Hc [10] [10] [] false (L7 _ _ hy_7) ?_
     refine Bj rfl rfl (.build (r:=[vk y_4.1,vj y_5.1.Alg,vj y_5.1.Bits,vj y_6.1,.val (.bool y_7.1),.val (.slice none 0 0)]) Nj bH dI (by kernel_rfl) rfl) rfl rfl ?_
     refine Ak ?_
     refine Ai fun B=>?_
     refine A6 114 138 B ?_
     refine Ak ?_
     obtain⟨y_8,hy_8,D⟩:=Ae D
     refine Fg (rd:=[10]) (ps:=[10]) (gs:=[]) false rfl (Gf _ _ hy_8) rfl rfl (.cons (.ptr rfl) .nil) ⟨_,_,_,rfl,.head _,⟨_,rfl,(by repeat' (first | exact Hm.nil | apply Hm.cons | exact Ag.val | exact Ag.sl | exact Ag.nils | exact Ag.ptr rfl | exact Ag.rowK rfl))⟩,rfl⟩ rfl (by intro h; cases h) rfl (by intro h; first | (cases h; done) | exact⟨_,_,⟨rfl,rfl⟩,by simp,by simp⟩) ?_
     rintro _ _ ⟨rfl,rfl⟩
     refine Ak ?_
     refine Ai fun B=>?_
     refine Ah ?_
     refine Au ?_
     refine Lu (fun ((c_3,l_3):Ad×List Ab)=>mk [(6,.ptr 0 0),(7,.row 1),(8,.ptr 2 0),(9,.ptr 3 0),(10,.ptr 4 0)] [(0,.box (Ad.dv y_3.2) 96),(1,.row 40 6 (An Ac.enc out_1)),(2,.box (Ad.dv y_8.2) 96),(3,.box [vk y_4.1,vj y_5.1.Alg,vj y_5.1.Bits,vj y_6.1,.val (.bool y_7.1),.row 5] 40),(4,.box (Ad.dv c_3) 96),(5,.row 67 15 (An Ab.enc l_3))] 6) D (Ay [(0,0),(1,1),(2,10),(3,98),(4,122)]) ?_
     rintro⟨c_3,l_3⟩ m3 o3 D hn3
     replace D:A1.l3 out_1 y_3 y_4 y_5 y_6 y_7 y_8 c_3 l_3=some o3:=D
     show Ca _ _ _ _ (mk _ _ _)
     unfold A1.l3 at D
     refine Ah ?_
     refine Bm (ι:=Bool) (fun (x72_4:Bool)=>mk [(6,.ptr 0 0),(7,.row 1),(8,.ptr 2 0),(9,.ptr 3 0),(10,.ptr 4 0),(72,.val (.bool x72_4))] [(0,.box (Ad.dv y_3.2) 96),(1,.row 40 6 (An Ac.enc out_1)),(2,.box (Ad.dv y_8.2) 96),(3,.box [vk y_4.1,vj y_5.1.Alg,vj y_5.1.Bits,vj y_6.1,.val (.bool y_7.1),.row 5] 40),(4,.box (Ad.dv c_3) 96),(5,.row 67 15 (An Ab.enc l_3))] 6) (fun (x72_4:Bool)=>A1.j4 out_1 y_3 y_4 y_5 y_6 y_7 y_8 c_3 l_3 x72_4=some o3) ?_ ?_
     ·refine Cs (Bi _ _ []) (by kernel_rfl) [0,1,3,7,15,31,63,127,255,31,543,1567,3615,7711,16383,32767] 6 134 Az rfl rfl (by kernel_rfl) ?_
      refine Ak ?_
      rcases Eb D with ⟨h18,D⟩ | ⟨h18,D⟩
      ·refine Ak ?_
       refine Ai fun B=>?_
       exact⟨decide (c_3.At < (c_3.L.length:Int)),D,Ay [(0,0),(1,1),(2,2),(3,3),(4,4),(5,5)]⟩
      ·refine Ak ?_
       refine Ai fun B=>?_
       exact⟨false,D,Ay [(0,0),(1,1),(2,2),(3,3),(4,4),(5,5)]⟩
     ·rintro x72_4 D
      replace D:A1.j4 out_1 y_3 y_4 y_5 y_6 y_7 y_8 c_3 l_3 x72_4=some o3:=D
      show Ca _ _ _ _ (mk _ _ _)
      unfold A1.j4 at D
      refine Dh rfl D (fun h21 D=>?_) fun h21 D=>?_
      ·refine Ao ?_
       repeat first | refine Cw ?_ | refine Cy ?_
       refine Au ?_
       refine A6 6 78 Az ?_
       refine Ak ?_
       obtain⟨y_9,hy_9,D⟩:=Ae D
       refine Hc [4] [4] [] false (G1 _ _ hy_9) ?_
       obtain⟨y_10,hy_10,D⟩:=Ae D
       refine Ek (cG _ _ hy_10) ?_
       refine Ak ?_
       refine Ai fun B=>?_
       refine Bm (ι:=Bool) (fun (c_5:Bool)=>mk [(6,.ptr 0 0),(7,.row 1),(8,.ptr 2 0),(9,.ptr 3 0),(10,.ptr 4 0),(11,.ptr 5 0)] [(0,.box (Ad.dv y_3.2) 96),(1,.row 40 6 (An Ac.enc out_1)),(2,.box (Ad.dv y_8.2) 96),(3,.box [vk y_4.1,vj y_5.1.Alg,vj y_5.1.Bits,vj y_6.1,.val (.bool y_7.1),.row 6] 40),(4,.box [.sl 4 (An Aa.enc y_9.2.L),vj y_9.2.At,.val (.bool c_5)] 96),(5,.box (Ab.dv y_10.1) 67),(6,.row 67 15 (An Ab.enc l_3))] 7) (fun (c_5:Bool)=>A1.j5 l_3 y_9 y_10 c_5=some o3) ?_ ?_
       ·refine Af (Bi _ _ []) 78 166 B rfl rfl ?_
        refine Ak ?_
        rcases Eb D with ⟨h23,D⟩ | ⟨h23,D⟩
        ·refine Ak ?_
         refine Ai fun B=>?_
         exact⟨y_10.2,D,Ay [(0,0),(1,1),(2,2),(3,3),(4,4),(5,54),(6,5)]⟩
        ·refine Ak ?_
         refine Ai fun B=>?_
         exact⟨false,D,Ay [(0,0),(1,1),(2,2),(3,3),(4,4),(5,54),(6,5)]⟩
       ·rintro c_5 D
        replace D:A1.j5 l_3 y_9 y_10 c_5=some o3:=D
        show Ca _ _ _ _ (mk _ _ _)
        unfold A1.j5 at D
        refine Af (Bi _ _ []) 7 63 Az rfl rfl ?_
        refine Ak ?_
        refine Bj rfl rfl (As W4 sX (by decide) rfl rfl rfl rfl sQ (cs:=(Ab.ec y_10.1)) (.cons .int (.cons .str (.cons .str (.cons .int (.cons .int (.cons .int (.cons .int (.cons .int (.cons .int (.cons .int (.cons .bool (.cons .int (.cons .sl (.cons .int (.cons .int .nil))))))))))))))) rfl (l:=([y_10.1]:List Ab)) (f:=Ab.enc) rfl) rfl rfl ?_
        obtain⟨l,hl,D⟩:=Ae D
        refine Ff (rd:=[6,31]) rfl rfl (Dg W4 Ab.enc_len .row rfl .row rfl hl rfl) rfl rfl ?_
        refine Ak ?_
        refine Ai fun B=>?_
        obtain rfl:=oi_ D
        exact⟨(((Ad.mk y_9.2.L y_9.2.At c_5),l),m3),aDn _,hn3,Ay [(0,0),(1,1),(2,2),(3,3),(4,4),(5,39)]⟩
      ·refine B8 ?_
       repeat first | refine Cw ?_ | refine Cy ?_
       replace D:=C5 D hn3
       refine Ah ?_
       refine Bm (ι:=Bool) (fun (x102_6:Bool)=>mk [(6,.ptr 0 0),(7,.row 1),(9,.ptr 2 0),(102,.val (.bool x102_6))] [(0,.box (Ad.dv y_3.2) 96),(1,.row 40 6 (An Ac.enc out_1)),(2,.box [vk y_4.1,vj y_5.1.Alg,vj y_5.1.Bits,vj y_6.1,.val (.bool y_7.1),.row 3] 40),(3,.row 67 15 (An Ab.enc l_3))] 4) (fun (x102_6:Bool)=>A1.j6 out_1 y_3 y_4 y_5 y_6 y_7 l_3 x102_6=some o1) ?_ ?_
       ·refine Af (Bi _ _ []) 6 70 Az rfl rfl ?_
        refine Ak ?_
        obtain⟨y_11,hy_11,D⟩:=Ae D
        refine Hc [2] [2] [] false (Fc _ _ hy_11) ?_
        refine Ak ?_
        rcases Eb D with ⟨h27,D⟩ | ⟨h27,D⟩
        ·refine Ak ?_
         refine Ai fun B=>?_
         exact⟨true,D,Ay [(0,0),(1,1),(2,3),(3,5)]⟩
        ·refine Ak ?_
         obtain⟨y_12,hy_12,D⟩:=Ae D
         refine Hc [4] [4] [] false (Fc _ _ hy_12) ?_
         refine Ak ?_
         refine Ai fun B=>?_
         exact⟨!y_12.1,D,Ay [(0,0),(1,1),(2,3),(3,5)]⟩
       ·rintro x102_6 D
        replace D:A1.j6 out_1 y_3 y_4 y_5 y_6 y_7 l_3 x102_6=some o1:=D
        show Ca _ _ _ _ (mk _ _ _)
        unfold A1.j6 at D
        refine Dh rfl D (fun h30 D=>?_) fun h30 D=>?_
        ·refine Ah ?_
         refine Af (Bi _ _ []) 4 20 Az rfl rfl ?_
         refine Ak ?_
         refine Ai fun B=>?_
         refine A4 ?_
         replace D:=C5 D hn1
         obtain rfl:=oi_ D
         exact A3 [] ⟨rfl,rfl⟩
        ·refine Ao ?_
         repeat first | refine Cw ?_ | refine Cy ?_
         refine D1 (σ':=mk [(6,.ptr 0 0),(7,.row 1),(9,.ptr 2 0)] [(0,.box (Ad.dv y_3.2) 96),(1,.row 40 6 (An Ac.enc out_1)),(2,.box [vk y_4.1,vj y_5.1.Alg,vj y_5.1.Bits,vj y_6.1,.val (.bool y_7.1),.sl 15 (An Ab.enc l_3)] 40)] 3) (Ay [(0,0),(1,1),(2,2)]) ?_
         refine Af (Bi _ _ []) 3 43 Az rfl rfl ?_
         refine Ak ?_
         refine Bj rfl rfl (As P6 dI (by decide) rfl rfl rfl rfl gA (cs:=[.str y_4.1,.int .i64 y_5.1.Alg,.int .i64 y_5.1.Bits,.int .i64 y_6.1,.bool y_7.1,.sl 15 (An Ab.enc l_3)]) (.cons .str (.cons .int (.cons .int (.cons .int (.cons .bool (.cons .sl .nil)))))) rfl (l:=([(Ac.mk y_4.1 y_5.1 y_6.1 y_7.1 l_3)]:List Ac)) (f:=Ac.enc) rfl) rfl rfl ?_
         obtain⟨l_2,hl_2,D⟩:=Ae D
         refine Ff (rd:=[1,19]) rfl rfl (Dg P6 Ac.enc_len .row rfl .row rfl hl_2 rfl) rfl rfl ?_
         refine Ak ?_
         refine Ai fun B=>?_
         obtain rfl:=oi_ D
         exact⟨((y_3.2,l_2),m1),aDn _,hn1,Ay [(0,0),(1,27)]⟩
    ·refine B8 ?_
     repeat first | refine Cw ?_ | refine Cy ?_
     replace D:=C5 D hn1
     refine Ah ?_
     refine A6 2 26 Az ?_
     refine Ak ?_
     obtain⟨y_13,hy_13,D⟩:=Ae D
     refine Hc [0] [0] [] false (Fc _ _ hy_13) ?_
     refine Ak ?_
     refine Ai fun B=>?_
     refine Dh rfl D (fun h34 D=>?_) fun h34 D=>?_
     ·refine Ah ?_
      refine Af (Bi _ _ []) 26 42 B rfl rfl ?_
      refine Ak ?_
      refine Ai fun B=>?_
      refine A4 ?_
      obtain rfl:=oi_ D
      exact A3 [] ⟨rfl,rfl⟩
     ·refine Ao ?_
      repeat first | refine Cw ?_ | refine Cy ?_
      refine Ah ?_
      refine A6 26 50 B ?_
      refine Ak ?_
      obtain⟨y_14,hy_14,D⟩:=Ae D
      refine Hc [1] [] [] true (Rs _ _ hy_14) ?_
      refine Ak ?_
      refine Ai fun B=>?_
      refine Dh rfl D (fun h37 D=>?_) fun h37 D=>?_
      ·refine Ah ?_
       refine Af (Bi _ _ []) 50 66 B rfl rfl ?_
       refine Ak ?_
       refine Ai fun B=>?_
       refine A4 ?_
       obtain rfl:=oi_ D
       exact A3 [] ⟨rfl,rfl⟩
      ·refine Ao ?_
       repeat first | refine Cw ?_ | refine Cy ?_
       refine A6 50 74 B ?_
       refine Ak ?_
       refine Ai fun B=>?_
       refine A4 ?_
       obtain rfl:=oi_ D
       exact A3 [] ⟨rfl,rfl⟩
theorem Tn (a:(List ByteArray)) (b:(List ByteArray)) (r:Bool) (D:D8 a b=some r):Fn Tryz.prog 138 0 [.sl 1 (An eS a),.sl 1 (An eS b)] [] (fun d' b'=>d'=.val (.bool r)/\b'=[]):=by
 unfold D8 at D
 refine Fn.of Tryz.func138 rfl rfl rfl fun w0 I ρ0=>?_
 show Ca _ ⟨w0,I,ρ0,0,0,26⟩ _ _ _
 refine A6 0 8 Az ?_
 refine Ak ?_
 refine Ai fun B=>?_
 refine Ah ?_
 refine A6 8 48 B ?_
 refine Ak ?_
 refine Ai fun B=>?_
 refine Dh rfl D (fun h3 D=>?_) fun h3 D=>?_
 ·refine Ah ?_
  refine Af (Bi _ _ []) 48 56 B rfl rfl ?_
  refine Ak ?_
  refine Ai fun B=>?_
  refine A4 ?_
  obtain rfl:=oi_ D
  exact A3 [] ⟨rfl,rfl⟩
 ·refine Ao ?_
  repeat first | refine Cw ?_ | refine Cy ?_
  refine Ah ?_
  refine A6 48 56 B ?_
  refine Ak ?_
  refine Ai fun B=>?_
  refine Au ?_
  refine Lu (fun (i_1:Int)=>mk [(0,.sl 1 (An eS a)),(1,.sl 1 (An eS b)),(5,vj i_1)] [] 0) D (Ay []) ?_
  rintro i_1 m1 o1 D hn1
  replace D:D8.l1 a b i_1=some o1:=D
  show Ca _ _ _ _ (mk _ _ _)
  unfold D8.l1 at D
  refine Ah ?_
  refine A6 0 32 Az ?_
  refine Ak ?_
  refine Ai fun B=>?_
  refine Dh rfl D (fun h7 D=>?_) fun h7 D=>?_
  ·refine Ao ?_
   repeat first | refine Cw ?_ | refine Cy ?_
   refine Ah ?_
   refine Au ?_
   refine Ah ?_
   refine Cs (Bi _ _ []) (by kernel_rfl) [0,0,3,7,0,0,48,112,255] 32 104 B rfl rfl (by kernel_rfl) ?_
   refine Ak ?_
   obtain⟨e,he,D⟩:=Ae D
   refine Ak ?_
   refine Bj rfl rfl (Bl Wv (Bf Jo (Aq he) (o:=0) (c:=.str e) rfl rfl)) rfl rfl ?_
   refine Ak ?_
   obtain⟨e_2,he_2,D⟩:=Ae D
   refine Ak ?_
   refine Bj rfl rfl (Bl Wv (Bf Jo (Aq he_2) (o:=0) (c:=.str e_2) rfl rfl)) rfl rfl ?_
   refine Ak ?_
   refine Ai fun B=>?_
   refine Dh rfl D (fun h9 D=>?_) fun h9 D=>?_
   ·refine Ah ?_
    refine Af (Bi _ _ []) 104 112 B rfl rfl ?_
    refine Ak ?_
    refine Ai fun B=>?_
    refine A4 ?_
    replace D:=C5 D hn1
    obtain rfl:=oi_ D
    exact A3 [] ⟨rfl,rfl⟩
   ·refine Ao ?_
    repeat first | refine Cw ?_ | refine Cy ?_
    refine Af (Bi _ _ []) 104 128 B rfl rfl ?_
    refine Ak ?_
    refine Ai fun B=>?_
    obtain rfl:=oi_ D
    exact⟨(W (i_1 + 1),m1),aDn _,hn1,Ay []⟩
  ·refine B8 ?_
   repeat first | refine Cw ?_ | refine Cy ?_
   replace D:=C5 D hn1
   refine A6 32 40 B ?_
   refine Ak ?_
   refine Ai fun B=>?_
   refine A4 ?_
   obtain rfl:=oi_ D
   exact A3 [] ⟨rfl,rfl⟩
theorem cD (a:Ab) (b:Ab) (r:Bool) (D:K3 a b=some r):Fn Tryz.prog 92 0 [.agg (Ab.dv a),.agg (Ab.dv b)] [] (fun d' b'=>d'=.val (.bool r)/\b'=[]):=by
 unfold K3 at D
 refine Fn.of Tryz.func92 rfl rfl rfl fun w0 I ρ0=>?_
 show Ca _ ⟨w0,I,ρ0,0,0,87⟩ _ _ _
 refine A6 0 24 Az ?_
 refine Ak ?_
 refine Ai fun B=>?_
 refine A6 24 688 B ?_
 refine Ak ?_
 rcases Eb D with ⟨h2,D⟩ | ⟨h2,D⟩
 ·refine Ak ?_
  rcases Eb D with ⟨h3,D⟩ | ⟨h3,D⟩
  ·refine Ak ?_
   rcases Eb D with ⟨h4,D⟩ | ⟨h4,D⟩
   ·refine Ak ?_
    refine Bj (Cj rfl rfl h4) rfl (O6 a.Key b.Key) rfl rfl ?_
    refine Ak ?_
    rcases Eb D with ⟨h5,D⟩ | ⟨h5,D⟩
    ·refine Ak ?_
     rcases Eb D with ⟨h6,D⟩ | ⟨h6,D⟩
     ·refine Ak ?_
      refine Bj (Cj rfl rfl h6) rfl (O6 a.Hash b.Hash) rfl rfl ?_
      refine Ak ?_
      rcases Eb D with ⟨h7,D⟩ | ⟨h7,D⟩
      ·refine Ak ?_
       rcases Eb D with ⟨h8,D⟩ | ⟨h8,D⟩
       ·refine Ak ?_
        rcases Eb D with ⟨h9,D⟩ | ⟨h9,D⟩
        ·refine Ak ?_
         refine Bj (Cj rfl rfl h9) rfl (zW uU) rfl rfl ?_
         refine Ak ?_
         rcases Eb D with ⟨h10,D⟩ | ⟨h10,D⟩
         ·refine Ak ?_
          rcases Eb D with ⟨h11,D⟩ | ⟨h11,D⟩
          ·refine Ak ?_
           obtain⟨y,hy,D⟩:=Ae D
           refine Ek (Tn _ _ _ hy) ?_
           refine Ak ?_
           rcases Eb D with ⟨h12,D⟩ | ⟨h12,D⟩
           ·refine Ak ?_
            refine Bj (Cj rfl rfl h12) rfl (jT a.Seal b.Seal) rfl rfl ?_
            refine Ak ?_
            refine Ai fun B=>?_
            refine A4 ?_
            obtain rfl:=oi_ D
            exact A3 [] ⟨rfl,rfl⟩
           ·refine Ak ?_
            refine Ai fun B=>?_
            refine A4 ?_
            obtain rfl:=oi_ D
            exact A3 [] ⟨rfl,rfl⟩
          ·refine Ak ?_
           refine Ai fun B=>?_
           refine A4 ?_
           obtain rfl:=oi_ D
           exact A3 [] ⟨rfl,rfl⟩
         ·refine Ak ?_
          refine Ai fun B=>?_
          refine A4 ?_
          obtain rfl:=oi_ D
          exact A3 [] ⟨rfl,rfl⟩
        ·refine Ak ?_
         refine Ai fun B=>?_
         refine A4 ?_
         obtain rfl:=oi_ D
         exact A3 [] ⟨rfl,rfl⟩
       ·refine Ak ?_
        refine Ai fun B=>?_
        refine A4 ?_
        obtain rfl:=oi_ D
        exact A3 [] ⟨rfl,rfl⟩
      ·refine Ak ?_
       refine Ai fun B=>?_
       refine A4 ?_
       obtain rfl:=oi_ D
       exact A3 [] ⟨rfl,rfl⟩
     ·refine Ak ?_
      refine Ai fun B=>?_
      refine A4 ?_
      obtain rfl:=oi_ D
      exact A3 [] ⟨rfl,rfl⟩
    ·refine Ak ?_
     refine Ai fun B=>?_
     refine A4 ?_
     obtain rfl:=oi_ D
     exact A3 [] ⟨rfl,rfl⟩
   ·refine Ak ?_
    refine Ai fun B=>?_
    refine A4 ?_
    obtain rfl:=oi_ D
    exact A3 [] ⟨rfl,rfl⟩
  ·refine Ak ?_
   refine Ai fun B=>?_
   refine A4 ?_
   obtain rfl:=oi_ D
   exact A3 [] ⟨rfl,rfl⟩
 ·refine Ak ?_
  refine Ai fun B=>?_
  refine A4 ?_
  obtain rfl:=oi_ D
  exact A3 [] ⟨rfl,rfl⟩
theorem T4 (a:(List Ab)) (b:(List Ab)) (r:Bool) (D:Dq a b=some r):Fn Tryz.prog 45 0 [.sl 15 (An Ab.enc a),.sl 15 (An Ab.enc b)] [] (fun d' b'=>d'=.val (.bool r)/\b'=[]):=by
 unfold Dq at D
 refine Fn.of Tryz.func45 rfl rfl rfl fun w0 I ρ0=>?_
 show Ca _ ⟨w0,I,ρ0,0,0,27⟩ _ _ _
 refine A6 0 8 Az ?_
 refine Ak ?_
 refine Ai fun B=>?_
 refine Ah ?_
 refine A6 8 48 B ?_
 refine Ak ?_
 refine Ai fun B=>?_
 refine Dh rfl D (fun h3 D=>?_) fun h3 D=>?_
 ·refine Ah ?_
  refine Af (Bi _ _ []) 48 56 B rfl rfl ?_
  refine Ak ?_
  refine Ai fun B=>?_
  refine A4 ?_
  obtain rfl:=oi_ D
  exact A3 [] ⟨rfl,rfl⟩
 ·refine Ao ?_
  repeat first | refine Cw ?_ | refine Cy ?_
  refine Ah ?_
  refine A6 48 56 B ?_
  refine Ak ?_
  refine Ai fun B=>?_
  refine Au ?_
  refine Lu (fun (i_1:Int)=>mk [(0,.sl 15 (An Ab.enc a)),(1,.sl 15 (An Ab.enc b)),(5,vj i_1)] [] 0) D (Ay []) ?_
  rintro i_1 m1 o1 D hn1
  replace D:Dq.l1 a b i_1=some o1:=D
  show Ca _ _ _ _ (mk _ _ _)
  unfold Dq.l1 at D
  refine Ah ?_
  refine A6 0 32 Az ?_
  refine Ak ?_
  refine Ai fun B=>?_
  refine Dh rfl D (fun h7 D=>?_) fun h7 D=>?_
  ·refine Ao ?_
   repeat first | refine Cw ?_ | refine Cy ?_
   refine Ah ?_
   refine Au ?_
   refine Ah ?_
   refine Cs (Bi _ _ []) (by kernel_rfl) [0,0,3,7,0,0,48,112,255,511] 32 112 B rfl rfl (by kernel_rfl) ?_
   refine Ak ?_
   obtain⟨e,he,D⟩:=Ae D
   refine Ak ?_
   refine Bj rfl rfl (Dx iE (Cm Ab.enc_len (Aq he) (o:=0) (m:=15) (cs:=(Ab.ec e)) rfl (by decide) rfl) (Bn Ab.enc_len (Aq he) (o:=0) (m:=15) (by decide) rfl)) rfl rfl ?_
   refine Ak ?_
   obtain⟨e_2,he_2,D⟩:=Ae D
   refine Ak ?_
   refine Bj rfl rfl (Dx iE (Cm Ab.enc_len (Aq he_2) (o:=0) (m:=15) (cs:=(Ab.ec e_2)) rfl (by decide) rfl) (Bn Ab.enc_len (Aq he_2) (o:=0) (m:=15) (by decide) rfl)) rfl rfl ?_
   obtain⟨y,hy,D⟩:=Ae D
   refine Ek (cD _ _ _ hy) ?_
   refine Ak ?_
   refine Ai fun B=>?_
   refine Dh rfl D (fun h9 D=>?_) fun h9 D=>?_
   ·refine Ah ?_
    refine Af (Bi _ _ []) 112 120 B rfl rfl ?_
    refine Ak ?_
    refine Ai fun B=>?_
    refine A4 ?_
    replace D:=C5 D hn1
    obtain rfl:=oi_ D
    exact A3 [] ⟨rfl,rfl⟩
   ·refine Ao ?_
    repeat first | refine Cw ?_ | refine Cy ?_
    refine Af (Bi _ _ []) 112 136 B rfl rfl ?_
    refine Ak ?_
    refine Ai fun B=>?_
    obtain rfl:=oi_ D
    exact⟨(W (i_1 + 1),m1),aDn _,hn1,Ay []⟩
  ·refine B8 ?_
   repeat first | refine Cw ?_ | refine Cy ?_
   replace D:=C5 D hn1
   refine A6 32 40 B ?_
   refine Ak ?_
   refine Ai fun B=>?_
   refine A4 ?_
   obtain rfl:=oi_ D
   exact A3 [] ⟨rfl,rfl⟩
theorem dB (a:(List Ac)) (b:(List Ac)) (r:Bool) (D:Dc a b=some r):Fn Tryz.prog 18 0 [.sl 6 (An Ac.enc a),.sl 6 (An Ac.enc b)] [] (fun d' b'=>d'=.val (.bool r)/\b'=[]):=by
 unfold Dc at D
 refine Fn.of Tryz.func18 rfl rfl rfl fun w0 I ρ0=>?_
 show Ca _ ⟨w0,I,ρ0,0,0,81⟩ _ _ _
 refine A6 0 8 Az ?_
 refine Ak ?_
 refine Ai fun B=>?_
 refine Ah ?_
 refine A6 8 48 B ?_
 refine Ak ?_
 refine Ai fun B=>?_
 refine Dh rfl D (fun h3 D=>?_) fun h3 D=>?_
 ·refine Ah ?_
  refine Af (Bi _ _ []) 48 56 B rfl rfl ?_
  refine Ak ?_
  refine Ai fun B=>?_
  refine A4 ?_
  obtain rfl:=oi_ D
  exact A3 [] ⟨rfl,rfl⟩
 ·refine Ao ?_
  repeat first | refine Cw ?_ | refine Cy ?_
  refine Ah ?_
  refine A6 48 56 B ?_
  refine Ak ?_
  refine Ai fun B=>?_
  refine Au ?_
  refine Lu (fun (i_1:Int)=>mk [(0,.sl 6 (An Ac.enc a)),(1,.sl 6 (An Ac.enc b)),(5,vj i_1)] [] 0) D (Ay []) ?_
  rintro i_1 m1 o1 D hn1
  replace D:Dc.l1 a b i_1=some o1:=D
  show Ca _ _ _ _ (mk _ _ _)
  unfold Dc.l1 at D
  refine Ah ?_
  refine A6 0 32 Az ?_
  refine Ak ?_
  refine Ai fun B=>?_
  refine Dh rfl D (fun h7 D=>?_) fun h7 D=>?_
  ·refine Ao ?_
   repeat first | refine Cw ?_ | refine Cy ?_
   refine Ah ?_
   refine Au ?_
   refine Bm (ι:=Bool) (fun (x80_2:Bool)=>mk [(0,.sl 6 (An Ac.enc a)),(1,.sl 6 (An Ac.enc b)),(5,vj i_1),(80,.val (.bool x80_2))] [] 0) (fun (x80_2:Bool)=>Dc.j2 i_1 x80_2=some o1) ?_ ?_
   ·refine Cs (Bi _ _ []) (by kernel_rfl) [0,0,3,7,15,0,0,96,224,480,1023,2047,4095,4095,16383,32767,65535,4095,4095,397311,921599,1970175,4194303,8388607,16777215,33554431,33554431,134217727,268435455,536870911,33554431,33554431,3254779903,7549747199,16139681791,34359738367,68719476735,137438953471,274877906943,274877906943,1099511627775,2199023255551,4398046511103,274877906943,274877906943,26663156973567,61847529062399,132216273240063,281474976710655,562949953421311,1125899906842623,2251799813685247,2251799813685247,9007199254740991,18014398509481983,36028797018963967,2251799813685247,2251799813685247,218424581927469055,506654958079180799,1083115710382604287,2305843009213693951,4611686018427387903,9223372036854775807] 32 544 B rfl rfl (by kernel_rfl) ?_
    refine Ak ?_
    obtain⟨e,he,D⟩:=Ae D
    refine Ak ?_
    refine Bj rfl rfl (Eu R3 Wv (by decide) (Gh Ac.enc_len (Aq he) (o:=0) (by decide) rfl)) rfl rfl ?_
    refine Bj rfl rfl (Bl Wv (Bf Ac.enc_len (Aq he) (o:=0) (c:=.str e.Alias) rfl rfl)) rfl rfl ?_
    refine Ak ?_
    obtain⟨e_2,he_2,D⟩:=Ae D
    refine Ak ?_
    refine Bj rfl rfl (Eu R3 Wv (by decide) (Gh Ac.enc_len (Aq he_2) (o:=0) (by decide) rfl)) rfl rfl ?_
    refine Bj rfl rfl (Bl Wv (Bf Ac.enc_len (Aq he_2) (o:=0) (c:=.str e_2.Alias) rfl rfl)) rfl rfl ?_
    refine Ak ?_
    rcases Eb D with ⟨h8,D⟩ | ⟨h8,D⟩
    ·refine Ak ?_
     refine Ai fun B=>?_
     exact⟨true,D,Ay []⟩
    ·refine Ak ?_
     refine Bj (Cj rfl rfl h8) rfl (Eu X0 Uj (by decide) (Gh Ac.enc_len (Aq he) (o:=1) (by decide) rfl)) rfl rfl ?_
     refine Bj (Cj rfl rfl h8) rfl (Dx Uj (Cm Ac.enc_len (Aq he) (o:=1) (m:=2) (cs:=[.int .i64 e.Key.Alg,.int .i64 e.Key.Bits]) rfl (by decide) rfl) (Bn Ac.enc_len (Aq he) (o:=1) (m:=2) (by decide) rfl)) rfl rfl ?_
     refine Ak ?_
     refine Bj (Cj rfl rfl h8) rfl (Eu X0 Uj (by decide) (Gh Ac.enc_len (Aq he_2) (o:=1) (by decide) rfl)) rfl rfl ?_
     refine Bj (Cj rfl rfl h8) rfl (Dx Uj (Cm Ac.enc_len (Aq he_2) (o:=1) (m:=2) (cs:=[.int .i64 e_2.Key.Alg,.int .i64 e_2.Key.Bits]) rfl (by decide) rfl) (Bn Ac.enc_len (Aq he_2) (o:=1) (m:=2) (by decide) rfl)) rfl rfl ?_
     refine Bj (Cj rfl rfl h8) rfl (jB e.Key e_2.Key) rfl rfl ?_
     refine Ak ?_
     rcases Eb D with ⟨h10,D⟩ | ⟨h10,D⟩
     ·refine Ak ?_
      refine Ai fun B=>?_
      exact⟨true,D,Ay []⟩
     ·refine Ak ?_
      refine Bj (Cj rfl rfl h10) rfl (Eu Yx Wz (by decide) (Gh Ac.enc_len (Aq he) (o:=3) (by decide) rfl)) rfl rfl ?_
      refine Bj (Cj rfl rfl h10) rfl (Bl Wz (Bf Ac.enc_len (Aq he) (o:=3) (c:=.int .i64 e.KeyId) rfl rfl)) rfl rfl ?_
      refine Ak ?_
      refine Bj (Cj rfl rfl h10) rfl (Eu Yx Wz (by decide) (Gh Ac.enc_len (Aq he_2) (o:=3) (by decide) rfl)) rfl rfl ?_
      refine Bj (Cj rfl rfl h10) rfl (Bl Wz (Bf Ac.enc_len (Aq he_2) (o:=3) (c:=.int .i64 e_2.KeyId) rfl rfl)) rfl rfl ?_
      refine Ak ?_
      rcases Eb D with ⟨h12,D⟩ | ⟨h12,D⟩
      ·refine Ak ?_
       refine Ai fun B=>?_
       exact⟨true,D,Ay []⟩
      ·refine Ak ?_
       refine Bj (Cj rfl rfl h12) rfl (Eu iA ty4 (by decide) (Gh Ac.enc_len (Aq he) (o:=4) (by decide) rfl)) rfl rfl ?_
       refine Bj (Cj rfl rfl h12) rfl (Bl ty4 (Bf Ac.enc_len (Aq he) (o:=4) (c:=.bool e.Secret) rfl rfl)) rfl rfl ?_
       refine Ak ?_
       refine Bj (Cj rfl rfl h12) rfl (Eu iA ty4 (by decide) (Gh Ac.enc_len (Aq he_2) (o:=4) (by decide) rfl)) rfl rfl ?_
       refine Bj (Cj rfl rfl h12) rfl (Bl ty4 (Bf Ac.enc_len (Aq he_2) (o:=4) (c:=.bool e_2.Secret) rfl rfl)) rfl rfl ?_
       refine Bj (Cj rfl rfl h12) rfl (iU uU) rfl rfl ?_
       refine Ak ?_
       rcases Eb D with ⟨h14,D⟩ | ⟨h14,D⟩
       ·refine Ak ?_
        refine Ai fun B=>?_
        exact⟨true,D,Ay []⟩
       ·refine Ak ?_
        refine Bj (Cj rfl rfl h14) rfl (Eu X8 bI (by decide) (Gh Ac.enc_len (Aq he) (o:=5) (by decide) rfl)) rfl rfl ?_
        refine Bj (Cj rfl rfl h14) rfl (Bl bI (Bf Ac.enc_len (Aq he) (o:=5) (c:=.sl 15 (An Ab.enc e.Chain)) rfl rfl)) rfl rfl ?_
        refine Ak ?_
        refine Bj (Cj rfl rfl h14) rfl (Eu X8 bI (by decide) (Gh Ac.enc_len (Aq he_2) (o:=5) (by decide) rfl)) rfl rfl ?_
        refine Bj (Cj rfl rfl h14) rfl (Bl bI (Bf Ac.enc_len (Aq he_2) (o:=5) (c:=.sl 15 (An Ab.enc e_2.Chain)) rfl rfl)) rfl rfl ?_
        obtain⟨y,hy,D⟩:=Ae D
        refine Ek (T4 _ _ _ hy) ?_
        refine Ak ?_
        refine Ai fun B=>?_
        exact⟨!y,D,Ay []⟩
   ·rintro x80_2 D
    replace D:Dc.j2 i_1 x80_2=some o1:=D
    show Ca _ _ _ _ (mk _ _ _)
    unfold Dc.j2 at D
    refine Dh rfl D (fun h17 D=>?_) fun h17 D=>?_
    ·refine Ah ?_
     refine Af (Bi _ _ []) 0 8 Az rfl rfl ?_
     refine Ak ?_
     refine Ai fun B=>?_
     refine A4 ?_
     replace D:=C5 D hn1
     obtain rfl:=oi_ D
     exact A3 [] ⟨rfl,rfl⟩
    ·refine Ao ?_
     repeat first | refine Cw ?_ | refine Cy ?_
     refine Af (Bi _ _ []) 0 24 Az rfl rfl ?_
     refine Ak ?_
     refine Ai fun B=>?_
     obtain rfl:=oi_ D
     exact⟨(W (i_1 + 1),m1),aDn _,hn1,Ay []⟩
  ·refine B8 ?_
   repeat first | refine Cw ?_ | refine Cy ?_
   replace D:=C5 D hn1
   refine A6 32 40 B ?_
   refine Ak ?_
   refine Ai fun B=>?_
   refine A4 ?_
   obtain rfl:=oi_ D
   exact A3 [] ⟨rfl,rfl⟩
end Go.Proofs.YtfanepojdefdpaaGreat
