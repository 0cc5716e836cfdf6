import Derived.Test.YtfanepojdefdpaaGreatT1
import Derived.Test.YtfanepojdefdpaaGreatA1
import Derived.Test.YtfanepojdefdpaaGreatA2
import Derived.Test.YtfanepojdefdpaaGreatA5
import Derived.Test.YtfanepojdefdpaaGreatA6
import Derived.Test.YtfanepojdefdpaaGreatA7
set_option linter.unusedVariables false
set_option linter.unusedSimpArgs false
set_option maxRecDepth 100000
set_option maxHeartbeats 1600000
namespace Go.Proofs.YtfanepojdefdpaaGreat
open Go.RowKit
theorem Oq (x':Ac) (y:Ac) (r:Bool) (D:Dn x' y=some r):Fn Tryz.prog 47 0 [.agg (Ac.dv x'),.agg (Ac.dv y)] [] (fun d' b'=>d'=.val (.bool r)/\b'=[]):=by
 unfold Dn at D
 refine Fn.of Tryz.func47 rfl rfl rfl fun w0 I ρ0=>?_
 show Ce _ ⟨w0,I,ρ0,0,0,38⟩ _ _ _
 refine Bd 0 24 A5 ?_
 refine Ak ?_
 refine Ai fun B=>?_
 refine Bd 24 296 B ?_
 refine Ak ?_
 rcases D2 D with ⟨h2,D⟩ | ⟨h2,D⟩
 ·refine Ak ?_
  refine Bn (Bu rfl rfl h2) rfl (Ic x'.Key y.Key) rfl rfl ?_
  refine Ak ?_
  rcases D2 D with ⟨h3,D⟩ | ⟨h3,D⟩
  ·refine Ak ?_
   rcases D2 D with ⟨h4,D⟩ | ⟨h4,D⟩
   ·refine Ak ?_
    refine Bn (Bu rfl rfl h4) rfl (T5 Xq) rfl rfl ?_
    refine Ak ?_
    rcases D2 D with ⟨h5,D⟩ | ⟨h5,D⟩
    ·refine Ak ?_
     obtain⟨y_2,hy_2,D⟩:=Ad D
     refine Dm (Gl x'.Chain y.Chain (fun x0 x1=>Be x0 x1) (fun x0 x1 yy hh=>O1 x0 x1 yy hh) _ hy_2) ?_
     refine Ak ?_
     refine Ai fun B=>?_
     refine A4 ?_
     obtain rfl:=oi_ D
     exact A3 [] ⟨rfl,rfl⟩
    ·refine Ak ?_
     refine Ai fun B=>?_
     refine A4 ?_
     obtain rfl:=oi_ D
     exact A3 [] ⟨rfl,rfl⟩
   ·refine Ak ?_
    refine Ai fun B=>?_
    refine A4 ?_
    obtain rfl:=oi_ D
    exact A3 [] ⟨rfl,rfl⟩
  ·refine Ak ?_
   refine Ai fun B=>?_
   refine A4 ?_
   obtain rfl:=oi_ D
   exact A3 [] ⟨rfl,rfl⟩
 ·refine Ak ?_
  refine Ai fun B=>?_
  refine A4 ?_
  obtain rfl:=oi_ D
  exact A3 [] ⟨rfl,rfl⟩
theorem Hr (s1:(List Ac)) (s2:(List Ac)) (eq:Ac->Ac->Option (Bool)) (hf_eq:∀ (x0:Ac) (x1:Ac) (y:Bool),eq x0 x1=some y->Fn Tryz.prog 47 0 [.agg (Ac.dv x0),.agg (Ac.dv x1)] [] (fun d' b'=>d'=.val (.bool y)/\b'=[])) (r:Bool) (D:A8 s1 s2 eq=some r):Fn Tryz.prog 46 0 [.sl 6 (Al Ac.enc s1),.sl 6 (Al Ac.enc s2),.clo 47 0 []] [] (fun d' b'=>d'=.val (.bool r)/\b'=[]):=by
 unfold A8 at D
 refine Fn.of Tryz.func46 rfl rfl rfl fun w0 I ρ0=>?_
 show Ce _ ⟨w0,I,ρ0,0,0,32⟩ _ _ _
 refine Bd 0 8 A5 ?_
 refine Ak ?_
 refine Ai fun B=>?_
 refine Ah ?_
 refine Bd 8 48 B ?_
 refine Ak ?_
 refine Ai fun B=>?_
 refine Df rfl D (fun h3 D=>?_) fun h3 D=>?_
 ·refine Ah ?_
  refine Ae (Bp _ _ []) 48 56 B rfl rfl ?_
  refine Ak ?_
  refine Ai fun B=>?_
  refine A4 ?_
  obtain rfl:=oi_ D
  exact A3 [] ⟨rfl,rfl⟩
 ·refine Ap ?_
  repeat first | refine C4 ?_ | refine C3 ?_
  refine Ah ?_
  refine Bd 48 72 B ?_
  refine Ak ?_
  refine Ai fun B=>?_
  refine As ?_
  refine Jk (fun (x17_1:Int)=>mk [(1,.sl 6 (Al Ac.enc s2)),(2,.clo 47 0 []),(15,.sl 6 (Al Ac.enc s1)),(16,.val (.int .i64 (s1.length:Int))),(17,vj x17_1)] [] 0) D (A1 []) ?_
  rintro x17_1 m1 o1 D hn1
  replace D:A8.l1 s1 s2 eq x17_1=some o1:=D
  show Ce _ _ _ _ (mk _ _ _)
  unfold A8.l1 at D
  refine Bd 0 8 A5 ?_
  refine Ak ?_
  refine Ai fun B=>?_
  refine Ah ?_
  refine Df rfl D (fun h7 D=>?_) fun h7 D=>?_
  ·refine Ap ?_
   repeat first | refine C4 ?_ | refine C3 ?_
   refine Ah ?_
   refine As ?_
   refine Bd 8 56 B ?_
   refine Ak ?_
   obtain⟨e,he,D⟩:=Ad D
   refine Ak ?_
   refine Bn rfl rfl (C1 L6 (Bx Ac.enc_len (Ao he) (o:=0) (m:=6) (cs:=(Ac.ec e)) rfl (by decide) rfl) (Ba Ac.enc_len (Ao he) (o:=0) (m:=6) (by decide) rfl)) rfl rfl ?_
   refine Ak ?_
   refine Ai fun B=>?_
   refine Bd 56 104 B ?_
   refine Ak ?_
   obtain⟨e_2,he_2,D⟩:=Ad D
   refine Ak ?_
   refine Bn rfl rfl (C1 L6 (Bx Ac.enc_len (Ao he_2) (o:=0) (m:=6) (cs:=(Ac.ec e_2)) rfl (by decide) rfl) (Ba Ac.enc_len (Ao he_2) (o:=0) (m:=6) (by decide) rfl)) rfl rfl ?_
   refine Ak ?_
   refine Ai fun B=>?_
   refine Bd 104 144 B ?_
   refine Ak ?_
   obtain⟨y,hy,D⟩:=Ad D
   refine Lf (rd:=[]) (ps:=[]) (gs:=[]) false rfl rfl (hf_eq e e_2 _ hy) rfl rfl (.cons (.agg (.cons .val (.cons .val (.cons .val (.cons .val (.cons .val (.cons .sl .nil))))))) (.cons (.agg (.cons .val (.cons .val (.cons .val (.cons .val (.cons .val (.cons .sl .nil))))))) .nil)) rfl rfl (by intro h; cases h) rfl rfl rfl rfl ?_
   refine Ak ?_
   refine Ai fun B=>?_
   refine Df rfl D (fun h11 D=>?_) fun h11 D=>?_
   ·refine Ah ?_
    refine Ae (Bp _ _ []) 144 152 B rfl rfl ?_
    refine Ak ?_
    refine Ai fun B=>?_
    refine A4 ?_
    replace D:=C0 D hn1
    obtain rfl:=oi_ D
    exact A3 [] ⟨rfl,rfl⟩
   ·refine Ap ?_
    repeat first | refine C4 ?_ | refine C3 ?_
    refine Ae (Bp _ _ []) 144 160 B rfl rfl ?_
    refine Ak ?_
    refine Ai fun B=>?_
    obtain rfl:=oi_ D
    exact⟨(W (x17_1 + 1),m1),vO _,hn1,A1 []⟩
  ·refine Bv ?_
   repeat first | refine C4 ?_ | refine C3 ?_
   replace D:=C0 D hn1
   refine Bd 8 16 B ?_
   refine Ak ?_
   refine Ai fun B=>?_
   refine A4 ?_
   obtain rfl:=oi_ D
   exact A3 [] ⟨rfl,rfl⟩
theorem Ms (a:(List Ac)) (b:(List Ac)) (r:Bool) (D:F5 a b=some r):Fn Tryz.prog 19 0 [.sl 6 (Al Ac.enc a),.sl 6 (Al Ac.enc b)] [] (fun d' b'=>d'=.val (.bool r)/\b'=[]):=by
 unfold F5 at D
 refine Fn.of Tryz.func19 rfl rfl rfl fun w0 I ρ0=>?_
 show Ce _ ⟨w0,I,ρ0,0,0,8⟩ _ _ _
 refine Bd 0 8 A5 ?_
 refine Ak ?_
 refine Ai fun B=>?_
 refine Bd 8 40 B ?_
 refine Ak ?_
 obtain⟨y,hy,D⟩:=Ad D
 refine Dm (Hr a b (fun x0 x1=>Dn x0 x1) (fun x0 x1 yy hh=>Oq x0 x1 yy hh) _ hy) ?_
 refine Ak ?_
 refine Ai fun B=>?_
 refine A4 ?_
 obtain rfl:=oi_ D
 exact A3 [] ⟨rfl,rfl⟩
theorem Nk (l:(List Int)) (alias:ByteArray) (r:Bool) (D:Cf l alias=some r):Fn Tryz.prog 3 0 [.sl 1 (Al eI l),vk alias] [] (fun d' b'=>d'=.val (.bool r)/\b'=[]):=by
 unfold Cf at D
 refine Fn.of Tryz.func3 rfl rfl rfl fun w0 I ρ0=>?_
 show Ce _ ⟨w0,I,ρ0,0,0,130⟩ _ _ _
 refine Bd 0 8 A5 ?_
 refine Ak ?_
 refine Ai fun B=>?_
 refine Ah ?_
 refine B9 (ι:=Bool) (fun (x28_1:Bool)=>mk [(0,.sl 1 (Al eI l)),(1,vk alias),(28,.val (.bool x28_1))] [] 0) (fun (x28_1:Bool)=>Cf.j1 l alias x28_1=some r) ?_ ?_
 ·refine Ae (Bp _ _ []) 8 72 B rfl rfl ?_
  refine Ak ?_
  obtain⟨y,hy,D⟩:=Ad D
  refine Dm (W0 _ _ hy) ?_
  refine Ak ?_
  rcases D2 D with ⟨h2,D⟩ | ⟨h2,D⟩
  ·refine Ak ?_
   refine Ai fun B=>?_
   exact⟨true,D,A1 []⟩
  ·refine Ak ?_
   refine Bn (Bu rfl rfl h2) rfl (Qt P3) rfl rfl ?_
   refine Ak ?_
   refine Ai fun B=>?_
   exact⟨decide (100 < (alias.size:Int)),D,A1 []⟩
 ·rintro x28_1 D
  replace D:Cf.j1 l alias x28_1=some r:=D
  show Ce _ _ _ _ (mk _ _ _)
  unfold Cf.j1 at D
  refine Df rfl D (fun h5 D=>?_) fun h5 D=>?_
  ·refine Ah ?_
   refine Ae (Bp _ _ []) 0 16 A5 rfl rfl ?_
   obtain⟨y_2,hy_2,D⟩:=Ad D
   refine Dm (Ol _ hy_2) ?_
   refine Ak ?_
   refine Ai fun B=>?_
   refine A4 ?_
   obtain rfl:=oi_ D
   exact A3 [] ⟨rfl,rfl⟩
  ·refine Ap ?_
   repeat first | refine C4 ?_ | refine C3 ?_
   refine Bd 0 24 A5 ?_
   refine Ak ?_
   obtain⟨y_3,hy_3,D⟩:=Ad D
   refine Hi (rd:=[]) (ps:=[]) (gs:=[]) false rfl (Xx _ _ hy_3) rfl rfl (.cons .sl .nil) rfl rfl (by intro h; cases h) rfl (by intro h; first | (cases h; done) | exact⟨_,_,⟨rfl,rfl⟩,by simp,by simp⟩) ?_
   rintro _ _ ⟨rfl,rfl⟩
   refine Ak ?_
   refine Ai fun B=>?_
   refine Bd 24 72 B ?_
   refine Ak ?_
   obtain⟨y_4,hy_4,D⟩:=Ad D
   refine Kn [8] [8] [] false (Pu _ _ hy_4) ?_
   refine Ak ?_
   obtain⟨y_5,hy_5,D⟩:=Ad D
   refine Kn [8] [8] [] false (Pu _ _ hy_5) ?_
   refine Ak ?_
   refine Ai fun B=>?_
   refine Bd 72 128 B ?_
   refine Ak ?_
   obtain⟨y_6,hy_6,D⟩:=Ad D
   refine Dm (Pr _ _ hy_6) ?_
   refine Ak ?_
   refine Ai fun B=>?_
   refine Bd 128 184 B ?_
   refine Ak ?_
   obtain⟨y_7,hy_7,D⟩:=Ad D
   refine Hi (rd:=[]) (ps:=[]) (gs:=[]) false rfl (Ow _ _ hy_7) rfl rfl (.cons .sl .nil) rfl rfl (by intro h; cases h) rfl (by intro h; first | (cases h; done) | exact⟨_,_,⟨rfl,rfl⟩,by simp,by simp⟩) ?_
   rintro _ _ ⟨rfl,rfl⟩
   refine Ak ?_
   refine Ai fun B=>?_
   refine Bd 184 248 B ?_
   refine Ak ?_
   obtain⟨y_8,hy_8,D⟩:=Ad D
   refine Dm (Le _ _ _ hy_8) ?_
   refine Ak ?_
   refine Ai fun B=>?_
   refine Bd 248 312 B ?_
   refine Ak ?_
   obtain⟨y_9,hy_9,D⟩:=Ad D
   refine Dm (U5 _ _ _ hy_9) ?_
   refine Ak ?_
   refine Ai fun B=>?_
   refine Ah ?_
   refine Ae (Bp _ _ [328]) 312 352 B rfl rfl ?_
   refine Ak ?_
   refine Ix (rd:=[]) rfl rfl (An Sl z9 (by decide) rfl rfl rfl rfl mI (cs:=[.str (⟨#[107,49]⟩:ByteArray),.str (⟨#[107,50]⟩:ByteArray),.str (⟨#[122,122]⟩:ByteArray),.str alias]) (.cons .str (.cons .str (.cons .str (.cons .str .nil)))) rfl (l:=([(⟨#[107,49]⟩:ByteArray),(⟨#[107,50]⟩:ByteArray),(⟨#[122,122]⟩:ByteArray),alias]:List ByteArray)) (f:=eS) rfl) rfl rfl rfl ?_
   obtain⟨y_10,hy_10,D⟩:=Ad D
   refine Kn [8] [8] [] false (Lk _ _ _ hy_10) ?_
   refine Ak ?_
   refine Ai fun B=>?_
   refine Bd 352 424 B ?_
   refine Ak ?_
   obtain⟨y_11,hy_11,D⟩:=Ad D
   refine Dm (Jl _ _ _ hy_11) ?_
   refine Ak ?_
   refine Ai fun B=>?_
   refine Bd 424 496 B ?_
   refine Ak ?_
   obtain⟨y_12,hy_12,D⟩:=Ad D
   refine Dm (Wa _ _ _ hy_12) ?_
   refine Ak ?_
   refine Ai fun B=>?_
   refine Bd 496 952 B ?_
   refine Ak ?_
   obtain⟨y_13,hy_13,D⟩:=Ad D
   refine Dm (Gp _ _ hy_13) ?_
   refine Ak ?_
   obtain⟨y_14,hy_14,D⟩:=Ad D
   refine Dm (I8 _ _ hy_14) ?_
   refine Ak ?_
   rcases D2 D with ⟨h16,D⟩ | ⟨h16,D⟩
   ·refine Ak ?_
    rcases D2 D with ⟨h17,D⟩ | ⟨h17,D⟩
    ·refine Ak ?_
     refine Bn (Bu rfl rfl h17) rfl (bA Vp L1 P3 .sl rfl) rfl rfl ?_
     refine Ak ?_
     refine Ed (rd:=[136]) (Bu rfl rfl h17) rfl (bA Vp L1 P3 .row rfl) rfl rfl ?_
     refine Ak ?_
     rcases D2 D with ⟨h18,D⟩ | ⟨h18,D⟩
     ·refine Ak ?_
      rcases D2 D with ⟨h19,D⟩ | ⟨h19,D⟩
      ·refine Ak ?_
       obtain⟨y_15,hy_15,D⟩:=Ad D
       refine Dm (Ml _ _ _ hy_15) ?_
       refine Ak ?_
       rcases D2 D with ⟨h20,D⟩ | ⟨h20,D⟩
       ·refine Ak ?_
        refine Bn (Bu rfl rfl h20) rfl (T5 Xq) rfl rfl ?_
        refine Ak ?_
        rcases D2 D with ⟨h21,D⟩ | ⟨h21,D⟩
        ·refine Ak ?_
         refine Bn (Bu rfl rfl h21) rfl (An Ke Wx (by decide) rfl rfl rfl rfl Ti (cs:=(Ac.ec y_11.1)) (.cons .str (.cons .int (.cons .int (.cons .int (.cons .bool (.cons .sl .nil)))))) rfl (l:=([y_11.1]:List Ac)) (f:=Ac.enc) rfl) rfl rfl ?_
         refine Ak ?_
         refine Bn (Bu rfl rfl h21) rfl (An Ke Wx (by decide) rfl rfl rfl rfl Ti (cs:=(Ac.ec y_12.1)) (.cons .str (.cons .int (.cons .int (.cons .int (.cons .bool (.cons .sl .nil)))))) rfl (l:=([y_12.1]:List Ac)) (f:=Ac.enc) rfl) rfl rfl ?_
         obtain⟨y_16,hy_16,D⟩:=Ad D
         refine Kn [768,784] [] [] true (Ml _ _ _ hy_16) ?_
         refine Ak ?_
         rcases D2 D with ⟨h22,D⟩ | ⟨h22,D⟩
         ·refine Ak ?_
          obtain⟨y_17,hy_17,D⟩:=Ad D
          refine Dm (Ms _ _ _ hy_17) ?_
          refine Ak ?_
          obtain⟨y_18,hy_18,D⟩:=Ad D
          refine Dm (Ml _ _ _ hy_18) ?_
          refine Bn (Bu rfl rfl h22) rfl (T5 Xq) rfl rfl ?_
          refine Ak ?_
          rcases D2 D with ⟨h23,D⟩ | ⟨h23,D⟩
          ·refine Ak ?_
           obtain⟨y_19,hy_19,D⟩:=Ad D
           refine Dm (Ms _ _ _ hy_19) ?_
           refine Ak ?_
           rcases D2 D with ⟨h24,D⟩ | ⟨h24,D⟩
           ·obtain⟨y_20,hy_20,D⟩:=Ad D
            refine Dm (Ol _ hy_20) ?_
            refine Ak ?_
            refine Ai fun B=>?_
            refine A4 ?_
            obtain rfl:=oi_ D
            exact A3 [] ⟨rfl,rfl⟩
           ·refine Ak ?_
            refine Ai fun B=>?_
            refine A4 ?_
            obtain rfl:=oi_ D
            exact A3 [] ⟨rfl,rfl⟩
          ·refine Ak ?_
           refine Ai fun B=>?_
           refine A4 ?_
           obtain rfl:=oi_ D
           exact A3 [] ⟨rfl,rfl⟩
         ·refine Ak ?_
          refine Ai fun B=>?_
          refine A4 ?_
          obtain rfl:=oi_ D
          exact A3 [] ⟨rfl,rfl⟩
        ·refine Ak ?_
         refine Ai fun B=>?_
         refine A4 ?_
         obtain rfl:=oi_ D
         exact A3 [] ⟨rfl,rfl⟩
       ·refine Ak ?_
        refine Ai fun B=>?_
        refine A4 ?_
        obtain rfl:=oi_ D
        exact A3 [] ⟨rfl,rfl⟩
      ·refine Ak ?_
       refine Ai fun B=>?_
       refine A4 ?_
       obtain rfl:=oi_ D
       exact A3 [] ⟨rfl,rfl⟩
     ·refine Ak ?_
      refine Ai fun B=>?_
      refine A4 ?_
      obtain rfl:=oi_ D
      exact A3 [] ⟨rfl,rfl⟩
    ·refine Ak ?_
     refine Ai fun B=>?_
     refine A4 ?_
     obtain rfl:=oi_ D
     exact A3 [] ⟨rfl,rfl⟩
   ·refine Ak ?_
    refine Ai fun B=>?_
    refine A4 ?_
    obtain rfl:=oi_ D
    exact A3 [] ⟨rfl,rfl⟩
end Go.Proofs.YtfanepojdefdpaaGreat
