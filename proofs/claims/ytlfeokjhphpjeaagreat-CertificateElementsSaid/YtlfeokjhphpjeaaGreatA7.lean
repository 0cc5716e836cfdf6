import Derived.Test.YtlfeokjhphpjeaaGreatT1
import Derived.Test.YtlfeokjhphpjeaaGreatA4
import Derived.Test.YtlfeokjhphpjeaaGreatA5
import Derived.Test.YtlfeokjhphpjeaaGreatA6
set_option linter.unusedVariables false
set_option linter.unusedSimpArgs false
set_option maxRecDepth 100000
set_option maxHeartbeats 1600000
namespace Go.Proofs.YtlfeokjhphpjeaaGreat
open Go.RowKit
theorem Zv (d:Ak) (r:Ab×Ak) (D:Cz d=some r):Fn Tryz.prog 8 1 [.ptr 0 0] [.box [.sl 1 (Al eI d.L),vj d.At] 59] (fun d' b'=>d'=.agg (Ab.dv r.1)/\b'=[.box [.sl 1 (Al eI r.2.L),vj r.2.At] 59]):=by
 unfold Cz at D
 refine Fn.of Tryz.func8 rfl rfl rfl fun w0 I ρ0=>?_
 show B9 _ ⟨w0,I,ρ0,1,1,107⟩ _ _ _
 refine A4 1 9 Az ?_
 refine Aj ?_
 refine Af fun B=>?_
 refine Ah ?_
 refine Ad (Bb _ _ [25,49]) 9 153 B rfl rfl ?_
 refine Aj ?_
 refine Hq (rd:=[]) rfl rfl (Ao Mz z9 (by decide) rfl rfl rfl rfl dL (cs:=[.str (⟨#[99,97]⟩:ByteArray),.str (⟨#[114,111,111,116]⟩:ByteArray)]) (.cons .str (.cons .str .nil)) rfl (l:=([(⟨#[99,97]⟩:ByteArray),(⟨#[114,111,111,116]⟩:ByteArray)]:List ByteArray)) (f:=eS) rfl) rfl rfl rfl ?_
 obtain⟨y,hy,D⟩:=Ac D
 refine F3 [0] [0] [] false (Hm _ _ _ hy) ?_
 refine Aj ?_
 refine Hq (rd:=[]) rfl rfl (Ao Mz z9 (by decide) rfl rfl rfl rfl dL (cs:=[.str (⟨#[119,101,98]⟩:ByteArray),.str (⟨#[100,98]⟩:ByteArray)]) (.cons .str (.cons .str .nil)) rfl (l:=([(⟨#[119,101,98]⟩:ByteArray),(⟨#[100,98]⟩:ByteArray)]:List ByteArray)) (f:=eS) rfl) rfl rfl rfl ?_
 obtain⟨y_2,hy_2,D⟩:=Ac D
 refine F3 [0] [0] [] false (Hm _ _ _ hy_2) ?_
 refine Aj ?_
 obtain⟨y_3,hy_3,D⟩:=Ac D
 refine F3 [0] [0] [] false (fK _ _ hy_3) ?_
 refine Aj ?_
 obtain⟨y_4,hy_4,D⟩:=Ac D
 refine F3 [0] [0] [] false (Dm _ _ _ hy_4) ?_
 refine Aj ?_
 obtain⟨y_5,hy_5,D⟩:=Ac D
 refine F3 [0] [0] [] false (Dm _ _ _ hy_5) ?_
 refine Aj ?_
 obtain⟨y_6,hy_6,D⟩:=Ac D
 refine F3 [0] [0] [] false (Ol _ _ _ hy_6) ?_
 obtain⟨y_7,hy_7,D⟩:=Ac D
 refine F3 [0] [0] [] false (Qn _ _ _ _ _ _ _ _ hy_7) ?_
 refine Aj ?_
 refine Af fun B=>?_
 refine Bp (ι:=Ak×Ab) (fun ((b_1,c_1):Ak×Ab)=>mk [(2,.ptr 1 0),(3,.ptr 2 0)] [(0,.box [.sl 1 (Al eI b_1.L),vj b_1.At] 59),(1,.box [.val (.int .i64 0),.val (.string (⟨#[]⟩:ByteArray)),.val (.string (⟨#[]⟩:ByteArray)),.val (.int .i64 0),.val (.int .i64 0),.val (.int .i64 0),.val (.int .i64 0),.val (.int .i64 0),.val (.int .i64 0),.val (.int .i64 0),.val (.bool false),.val (.int .i64 0),.val (.slice none 0 0),.val (.int .i64 0),.val (.int .i64 0)] 38),(2,.box (Ab.dv c_1) 38)] 3) (fun ((b_1,c_1):Ak×Ab)=>Cz.j1 b_1 c_1=some r) ?_ ?_
 ·refine Ah ?_
  refine Ad (Bb _ _ []) 153 169 B rfl rfl ?_
  refine Aj ?_
  obtain⟨y_8,hy_8,D⟩:=Ac D
  refine F3 [0] [0] [] false (Dm _ _ _ hy_8) ?_
  refine Af fun B=>?_
  refine Av ?_
  refine A4 169 185 B ?_
  refine Aj ?_
  refine Af fun B=>?_
  refine Dg rfl D (fun h5 D=>?_) fun h5 D=>?_
  ·refine Ad (Bb _ _ [193]) 185 225 B rfl rfl ?_
   refine Aj ?_
   refine Hq (rd:=[]) rfl rfl (Ao E8 z3 (by decide) rfl rfl rfl rfl J7 (cs:=[.int .i64 (-1),.int .i64 1099511627776,.int .i64 1099511627777]) (.cons .int (.cons .int (.cons .int .nil))) rfl (l:=([-1,1099511627776,1099511627777]:List Int)) (f:=eI) rfl) rfl rfl rfl ?_
   obtain⟨y_9,hy_9,D⟩:=Ac D
   refine F3 [0] [0] [] false (B3 _ _ _ hy_9) ?_
   refine Aj ?_
   refine Af fun B=>?_
   exact⟨(y_9.2,(Ab.mk y_9.1 y_7.1.Issuer y_7.1.Subject y_7.1.Key y_7.1.KeyId y_7.1.Hash y_7.1.From y_7.1.To y_7.1.Authority y_7.1.Path y_7.1.Names y_7.1.Seal)),D,Ay [(0,0),(1,1),(2,137)]⟩
  ·refine Ah ?_
   refine Ad (Bb _ _ []) 185 201 B rfl rfl ?_
   refine Aj ?_
   refine Af fun B=>?_
   refine Dg rfl D (fun h8 D=>?_) fun h8 D=>?_
   ·refine Ad (Bb _ _ [209]) 201 241 B rfl rfl ?_
    refine Aj ?_
    refine Hq (rd:=[]) rfl rfl (Ao Mz z9 (by decide) rfl rfl rfl rfl dL (cs:=[.str (⟨#[]⟩:ByteArray),.str (⟨#[97,32,98]⟩:ByteArray),.str (⟨#[97,98,99,100,101,102,103,104,105,106,107,108,109,110,111,112,113,114,115,116,117,118,119,120,121,122,48,49,50,51,52,53,54]⟩:ByteArray)]) (.cons .str (.cons .str (.cons .str .nil))) rfl (l:=([(⟨#[]⟩:ByteArray),(⟨#[97,32,98]⟩:ByteArray),(⟨#[97,98,99,100,101,102,103,104,105,106,107,108,109,110,111,112,113,114,115,116,117,118,119,120,121,122,48,49,50,51,52,53,54]⟩:ByteArray)]:List ByteArray)) (f:=eS) rfl) rfl rfl rfl ?_
    obtain⟨y_10,hy_10,D⟩:=Ac D
    refine F3 [0] [0] [] false (Hm _ _ _ hy_10) ?_
    refine Aj ?_
    refine Af fun B=>?_
    exact⟨(y_10.2,(Ab.mk y_7.1.Serial y_10.1 y_7.1.Subject y_7.1.Key y_7.1.KeyId y_7.1.Hash y_7.1.From y_7.1.To y_7.1.Authority y_7.1.Path y_7.1.Names y_7.1.Seal)),D,Ay [(0,0),(1,1),(2,137)]⟩
   ·refine Ah ?_
    refine Ad (Bb _ _ []) 201 217 B rfl rfl ?_
    refine Aj ?_
    refine Af fun B=>?_
    refine Dg rfl D (fun h11 D=>?_) fun h11 D=>?_
    ·refine Ad (Bb _ _ [225]) 217 257 B rfl rfl ?_
     refine Aj ?_
     refine Hq (rd:=[]) rfl rfl (Ao Mz z9 (by decide) rfl rfl rfl rfl dL (cs:=[.str (⟨#[]⟩:ByteArray),.str (⟨#[120,9,121]⟩:ByteArray),.str (⟨#[97,98,99,100,101,102,103,104,105,106,107,108,109,110,111,112,113,114,115,116,117,118,119,120,121,122,48,49,50,51,52,53]⟩:ByteArray)]) (.cons .str (.cons .str (.cons .str .nil))) rfl (l:=([(⟨#[]⟩:ByteArray),(⟨#[120,9,121]⟩:ByteArray),(⟨#[97,98,99,100,101,102,103,104,105,106,107,108,109,110,111,112,113,114,115,116,117,118,119,120,121,122,48,49,50,51,52,53]⟩:ByteArray)]:List ByteArray)) (f:=eS) rfl) rfl rfl rfl ?_
     obtain⟨y_11,hy_11,D⟩:=Ac D
     refine F3 [0] [0] [] false (Hm _ _ _ hy_11) ?_
     refine Aj ?_
     refine Af fun B=>?_
     exact⟨(y_11.2,(Ab.mk y_7.1.Serial y_7.1.Issuer y_11.1 y_7.1.Key y_7.1.KeyId y_7.1.Hash y_7.1.From y_7.1.To y_7.1.Authority y_7.1.Path y_7.1.Names y_7.1.Seal)),D,Ay [(0,0),(1,1),(2,137)]⟩
    ·refine Ah ?_
     refine Ad (Bb _ _ []) 217 233 B rfl rfl ?_
     refine Aj ?_
     refine Af fun B=>?_
     refine Dg rfl D (fun h14 D=>?_) fun h14 D=>?_
     ·refine Ad (Bb _ _ [241,265]) 233 305 B rfl rfl ?_
      refine Aj ?_
      refine Hq (rd:=[]) rfl rfl (Ao E8 z3 (by decide) rfl rfl rfl rfl J7 (cs:=[.int .i64 1,.int .i64 17,.int .i64 0,.int .i64 5]) (.cons .int (.cons .int (.cons .int (.cons .int .nil)))) rfl (l:=([1,17,0,5]:List Int)) (f:=eI) rfl) rfl rfl rfl ?_
      obtain⟨y_12,hy_12,D⟩:=Ac D
      refine F3 [0] [0] [] false (B3 _ _ _ hy_12) ?_
      refine Aj ?_
      refine Hq (rd:=[]) rfl rfl (Ao E8 z3 (by decide) rfl rfl rfl rfl J7 (cs:=[.int .i64 0,.int .i64 128,.int .i64 511]) (.cons .int (.cons .int (.cons .int .nil))) rfl (l:=([0,128,511]:List Int)) (f:=eI) rfl) rfl rfl rfl ?_
      obtain⟨y_13,hy_13,D⟩:=Ac D
      refine F3 [0] [0] [] false (B3 _ _ _ hy_13) ?_
      refine Bl rfl rfl (.build (r:=[vj y_12.1,vj y_13.1]) Qg bE rL (by kernel_rfl) rfl) rfl rfl ?_
      refine Aj ?_
      refine Af fun B=>?_
      exact⟨(y_13.2,(Ab.mk y_7.1.Serial y_7.1.Issuer y_7.1.Subject (A3.mk y_12.1 y_13.1) y_7.1.KeyId y_7.1.Hash y_7.1.From y_7.1.To y_7.1.Authority y_7.1.Path y_7.1.Names y_7.1.Seal)),D,Ay [(0,0),(1,1),(2,137)]⟩
     ·refine Ah ?_
      refine Ad (Bb _ _ []) 233 249 B rfl rfl ?_
      refine Aj ?_
      refine Af fun B=>?_
      refine Dg rfl D (fun h17 D=>?_) fun h17 D=>?_
      ·refine Ad (Bb _ _ [257]) 249 289 B rfl rfl ?_
       refine Aj ?_
       refine Hq (rd:=[]) rfl rfl (Ao E8 z3 (by decide) rfl rfl rfl rfl J7 (cs:=[.int .i64 (-1),.int .i64 2147483648,.int .i64 2147483649]) (.cons .int (.cons .int (.cons .int .nil))) rfl (l:=([-1,2147483648,2147483649]:List Int)) (f:=eI) rfl) rfl rfl rfl ?_
       obtain⟨y_14,hy_14,D⟩:=Ac D
       refine F3 [0] [0] [] false (B3 _ _ _ hy_14) ?_
       refine Aj ?_
       refine Af fun B=>?_
       exact⟨(y_14.2,(Ab.mk y_7.1.Serial y_7.1.Issuer y_7.1.Subject y_7.1.Key y_14.1 y_7.1.Hash y_7.1.From y_7.1.To y_7.1.Authority y_7.1.Path y_7.1.Names y_7.1.Seal)),D,Ay [(0,0),(1,1),(2,137)]⟩
      ·refine Ah ?_
       refine Ad (Bb _ _ []) 249 265 B rfl rfl ?_
       refine Aj ?_
       refine Af fun B=>?_
       refine Dg rfl D (fun h20 D=>?_) fun h20 D=>?_
       ·refine Ad (Bb _ _ [273]) 265 313 B rfl rfl ?_
        refine Aj ?_
        refine Hq (rd:=[]) rfl rfl (Ao E8 z3 (by decide) rfl rfl rfl rfl J7 (cs:=[.int .i64 5,.int .i64 0,.int .i64 22]) (.cons .int (.cons .int (.cons .int .nil))) rfl (l:=([5,0,22]:List Int)) (f:=eI) rfl) rfl rfl rfl ?_
        obtain⟨y_15,hy_15,D⟩:=Ac D
        refine F3 [0] [0] [] false (B3 _ _ _ hy_15) ?_
        refine Bl rfl rfl (.build (r:=[vj y_15.1,.val (.int .i64 0)]) Qg bE rL (by kernel_rfl) rfl) rfl rfl ?_
        refine Aj ?_
        refine Af fun B=>?_
        exact⟨(y_15.2,(Ab.mk y_7.1.Serial y_7.1.Issuer y_7.1.Subject y_7.1.Key y_7.1.KeyId (A3.mk y_15.1 0) y_7.1.From y_7.1.To y_7.1.Authority y_7.1.Path y_7.1.Names y_7.1.Seal)),D,Ay [(0,0),(1,1),(2,137)]⟩
       ·refine Ah ?_
        refine Ad (Bb _ _ []) 265 281 B rfl rfl ?_
        refine Aj ?_
        refine Af fun B=>?_
        refine Dg rfl D (fun h23 D=>?_) fun h23 D=>?_
        ·refine Ad (Bb _ _ [289,313]) 281 361 B rfl rfl ?_
         refine Aj ?_
         refine Hq (rd:=[]) rfl rfl (Ao E8 z3 (by decide) rfl rfl rfl rfl J7 (cs:=[.int .i64 9,.int .i64 (-1),.int .i64 3]) (.cons .int (.cons .int (.cons .int .nil))) rfl (l:=([9,-1,3]:List Int)) (f:=eI) rfl) rfl rfl rfl ?_
         obtain⟨y_16,hy_16,D⟩:=Ac D
         refine F3 [0] [0] [] false (B3 _ _ _ hy_16) ?_
         refine Aj ?_
         refine Hq (rd:=[]) rfl rfl (Ao E8 z3 (by decide) rfl rfl rfl rfl J7 (cs:=[.int .i64 8,.int .i64 3,.int .i64 40001]) (.cons .int (.cons .int (.cons .int .nil))) rfl (l:=([8,3,40001]:List Int)) (f:=eI) rfl) rfl rfl rfl ?_
         obtain⟨y_17,hy_17,D⟩:=Ac D
         refine F3 [0] [0] [] false (B3 _ _ _ hy_17) ?_
         refine Aj ?_
         refine Af fun B=>?_
         exact⟨(y_17.2,(Ab.mk y_7.1.Serial y_7.1.Issuer y_7.1.Subject y_7.1.Key y_7.1.KeyId y_7.1.Hash y_16.1 y_17.1 y_7.1.Authority y_7.1.Path y_7.1.Names y_7.1.Seal)),D,Ay [(0,0),(1,1),(2,137)]⟩
        ·refine Ah ?_
         refine Ad (Bb _ _ []) 281 297 B rfl rfl ?_
         refine Aj ?_
         refine Af fun B=>?_
         refine Dg rfl D (fun h26 D=>?_) fun h26 D=>?_
         ·refine Ad (Bb _ _ [305]) 297 337 B rfl rfl ?_
          refine Aj ?_
          refine Hq (rd:=[]) rfl rfl (Ao E8 z3 (by decide) rfl rfl rfl rfl J7 (cs:=[.int .i64 1,.int .i64 (-1),.int .i64 8,.int .i64 9]) (.cons .int (.cons .int (.cons .int (.cons .int .nil)))) rfl (l:=([1,-1,8,9]:List Int)) (f:=eI) rfl) rfl rfl rfl ?_
          obtain⟨y_18,hy_18,D⟩:=Ac D
          refine F3 [0] [0] [] false (B3 _ _ _ hy_18) ?_
          refine Aj ?_
          refine Af fun B=>?_
          exact⟨(y_18.2,(Ab.mk y_7.1.Serial y_7.1.Issuer y_7.1.Subject y_7.1.Key y_7.1.KeyId y_7.1.Hash y_7.1.From y_7.1.To y_7.1.Authority y_18.1 y_7.1.Names y_7.1.Seal)),D,Ay [(0,0),(1,1),(2,137)]⟩
         ·refine Ah ?_
          refine Ad (Bb _ _ []) 297 313 B rfl rfl ?_
          refine Aj ?_
          refine Af fun B=>?_
          refine Dg rfl D (fun h29 D=>?_) fun h29 D=>?_
          ·refine Ad (Bb _ _ [313,321,329]) 313 393 B rfl rfl ?_
           refine Hq (rd:=[]) rfl rfl (Ao Mz z9 (by decide) rfl rfl rfl rfl dL (cs:=[.str (⟨#[98]⟩:ByteArray),.str (⟨#[97]⟩:ByteArray)]) (.cons .str (.cons .str .nil)) rfl (l:=([(⟨#[98]⟩:ByteArray),(⟨#[97]⟩:ByteArray)]:List ByteArray)) (f:=eS) rfl) rfl rfl rfl ?_
           refine Hq (rd:=[]) rfl rfl (Ao Mz z9 (by decide) rfl rfl rfl rfl dL (cs:=[.str (⟨#[97]⟩:ByteArray),.str (⟨#[97]⟩:ByteArray)]) (.cons .str (.cons .str .nil)) rfl (l:=([(⟨#[97]⟩:ByteArray),(⟨#[97]⟩:ByteArray)]:List ByteArray)) (f:=eS) rfl) rfl rfl rfl ?_
           refine Hq (rd:=[]) rfl rfl (Ao Mz z9 (by decide) rfl rfl rfl rfl dL (cs:=[.str (⟨#[97]⟩:ByteArray),.str (⟨#[98]⟩:ByteArray),.str (⟨#[99]⟩:ByteArray),.str (⟨#[100]⟩:ByteArray),.str (⟨#[101]⟩:ByteArray),.str (⟨#[102]⟩:ByteArray),.str (⟨#[103]⟩:ByteArray),.str (⟨#[104]⟩:ByteArray),.str (⟨#[105]⟩:ByteArray)]) (.cons .str (.cons .str (.cons .str (.cons .str (.cons .str (.cons .str (.cons .str (.cons .str (.cons .str .nil))))))))) rfl (l:=([(⟨#[97]⟩:ByteArray),(⟨#[98]⟩:ByteArray),(⟨#[99]⟩:ByteArray),(⟨#[100]⟩:ByteArray),(⟨#[101]⟩:ByteArray),(⟨#[102]⟩:ByteArray),(⟨#[103]⟩:ByteArray),(⟨#[104]⟩:ByteArray),(⟨#[105]⟩:ByteArray)]:List ByteArray)) (f:=eS) rfl) rfl rfl rfl ?_
           refine Bl rfl rfl (Ao xM z34 (by decide) rfl rfl rfl rfl zK (cs:=[.sl 1 (Al eS []),.sl 1 (Al eS ([(⟨#[98]⟩:ByteArray),(⟨#[97]⟩:ByteArray)]:List ByteArray)),.sl 1 (Al eS ([(⟨#[97]⟩:ByteArray),(⟨#[97]⟩:ByteArray)]:List ByteArray)),.sl 1 (Al eS ([(⟨#[97]⟩:ByteArray),(⟨#[98]⟩:ByteArray),(⟨#[99]⟩:ByteArray),(⟨#[100]⟩:ByteArray),(⟨#[101]⟩:ByteArray),(⟨#[102]⟩:ByteArray),(⟨#[103]⟩:ByteArray),(⟨#[104]⟩:ByteArray),(⟨#[105]⟩:ByteArray)]:List ByteArray))]) (.cons .nil (.cons .sl (.cons .sl (.cons .sl .nil)))) rfl (l:=([([]:(List ByteArray)),([(⟨#[98]⟩:ByteArray),(⟨#[97]⟩:ByteArray)]:List ByteArray),([(⟨#[97]⟩:ByteArray),(⟨#[97]⟩:ByteArray)]:List ByteArray),([(⟨#[97]⟩:ByteArray),(⟨#[98]⟩:ByteArray),(⟨#[99]⟩:ByteArray),(⟨#[100]⟩:ByteArray),(⟨#[101]⟩:ByteArray),(⟨#[102]⟩:ByteArray),(⟨#[103]⟩:ByteArray),(⟨#[104]⟩:ByteArray),(⟨#[105]⟩:ByteArray)]:List ByteArray)]:List (List ByteArray))) (f:=(eL 1 eS)) rfl) rfl rfl ?_
           refine Aj ?_
           obtain⟨y_19,hy_19,D⟩:=Ac D
           refine F3 [0] [0] [] false (Dm _ _ _ hy_19) ?_
           obtain⟨e,he,D⟩:=Ac D
           refine Aj ?_
           refine Fe (rd:=[337]) rfl rfl (.loadR1 xP (A9 (nF _ _) (Aw he) (o:=0) (c:=.sl 1 (Al eS e)) rfl rfl)) rfl rfl ?_
           refine Aj ?_
           refine Af fun B=>?_
           exact⟨(y_19.2,(Ab.mk y_7.1.Serial y_7.1.Issuer y_7.1.Subject y_7.1.Key y_7.1.KeyId y_7.1.Hash y_7.1.From y_7.1.To y_7.1.Authority y_7.1.Path e y_7.1.Seal)),D,Ay [(0,0),(1,1),(2,137)]⟩
          ·refine Ah ?_
           refine Ad (Bb _ _ []) 313 329 B rfl rfl ?_
           refine Aj ?_
           refine Af fun B=>?_
           refine Dg rfl D (fun h32 D=>?_) fun h32 D=>?_
           ·refine Ad (Bb _ _ [337,361]) 329 401 B rfl rfl ?_
            refine Aj ?_
            refine Hq (rd:=[]) rfl rfl (Ao E8 z3 (by decide) rfl rfl rfl rfl J7 (cs:=[.int .i64 (-1),.int .i64 2147483649,.int .i64 0]) (.cons .int (.cons .int (.cons .int .nil))) rfl (l:=([-1,2147483649,0]:List Int)) (f:=eI) rfl) rfl rfl rfl ?_
            obtain⟨y_20,hy_20,D⟩:=Ac D
            refine F3 [0] [0] [] false (B3 _ _ _ hy_20) ?_
            refine Aj ?_
            refine Hq (rd:=[]) rfl rfl (Ao E8 z3 (by decide) rfl rfl rfl rfl J7 (cs:=[.int .i64 4294967296,.int .i64 (-1),.int .i64 4294967295]) (.cons .int (.cons .int (.cons .int .nil))) rfl (l:=([4294967296,-1,4294967295]:List Int)) (f:=eI) rfl) rfl rfl rfl ?_
            obtain⟨y_21,hy_21,D⟩:=Ac D
            refine F3 [0] [0] [] false (B3 _ _ _ hy_21) ?_
            refine Bl rfl rfl (.build (r:=[vj y_20.1,vj y_21.1]) Qh cW pF (by kernel_rfl) rfl) rfl rfl ?_
            refine Aj ?_
            refine Af fun B=>?_
            exact⟨(y_21.2,(Ab.mk y_7.1.Serial y_7.1.Issuer y_7.1.Subject y_7.1.Key y_7.1.KeyId y_7.1.Hash y_7.1.From y_7.1.To y_7.1.Authority y_7.1.Path y_7.1.Names (Bv.mk y_20.1 y_21.1))),D,Ay [(0,0),(1,1),(2,137)]⟩
           ·refine Ah ?_
            refine Ad (Bb _ _ []) 329 345 B rfl rfl ?_
            refine Aj ?_
            refine Af fun B=>?_
            refine Dg rfl D (fun h35 D=>?_) fun h35 D=>?_
            ·refine Ad (Bb _ _ []) 345 385 B rfl rfl ?_
             refine Aj ?_
             refine Af fun B=>?_
             exact⟨(y_8.2,(Ab.mk y_7.1.Serial y_7.1.Issuer y_7.1.Subject y_7.1.Key y_7.1.KeyId y_7.1.Hash y_7.1.From y_7.1.To (!y_7.1.Authority) y_7.1.Path y_7.1.Names y_7.1.Seal)),D,Ay [(0,0),(1,1),(2,137)]⟩
            ·refine Ap ?_
             repeat first | refine Dc ?_ | refine De ?_
             exact⟨(y_8.2,y_7.1),D,Ay [(0,0),(1,1),(2,137)]⟩
 ·rintro⟨b_1,c_1⟩ D
  replace D:Cz.j1 b_1 c_1=some r:=D
  show B9 _ _ _ _ (mk _ _ _)
  unfold Cz.j1 at D
  refine A4 3 19 Az ?_
  refine Aj ?_
  refine Af fun B=>?_
  refine A1 ?_
  obtain rfl:=oi_ D
  exact Ax [(0,0)] ⟨rfl,rfl⟩
theorem Pj (l:(List Aa)) (r:(List Aa)) (D:C9 l=some r):Fn Tryz.prog 29 0 [.sl 4 (Al Aa.enc l)] [] (fun d' b'=>d'=.row 0/\b'=[.tree 30 4 3 30 4 1 none (Al Aa.enc r),.gho]):=by
 unfold C9 at D
 refine Fn.of Tryz.func29 rfl rfl rfl fun w0 I ρ0=>?_
 show B9 _ ⟨w0,I,ρ0,0,0,30⟩ _ _ _
 refine A4 0 8 Az ?_
 refine Aj ?_
 refine Af fun B=>?_
 refine A4 8 16 B ?_
 refine Aj ?_
 refine Af fun B=>?_
 refine Ah ?_
 refine Ah ?_
 refine Je (σ':=mk [(0,.sl 4 (Al Aa.enc l)),(3,.val (.slice none 0 0))] [] 0) (Ay []) ?_
 refine Je (zF 3 30 4 3 30 4 (Al Aa.enc ([]:List Aa)) rfl rfl (by decide)) ?_
 refine Ad (Bb _ _ []) 2 10 Az rfl rfl ?_
 refine Aj ?_
 refine Af fun B=>?_
 refine Av ?_
 refine Nu (fun ((i_2,out_2):Int×List Aa)=>mk [(0,.sl 4 (Al Aa.enc l)),(3,.row 0),(4,vj i_2)] [(0,.tree 30 4 3 30 4 1 none (Al Aa.enc out_2)),(1,.gho)] 2) D (Ay [(0,0),(1,1)]) ?_
 rintro⟨i_2,out_2⟩ m2 o2 D hn2
 replace D:C9.l2 l i_2 out_2=some o2:=D
 show B9 _ _ _ _ (mk _ _ _)
 unfold C9.l2 at D
 refine Ah ?_
 refine A4 2 34 Az ?_
 refine Aj ?_
 refine Af fun B=>?_
 refine Dg rfl D (fun h5 D=>?_) fun h5 D=>?_
 ·refine Ap ?_
  repeat first | refine Dc ?_ | refine De ?_
  refine Ah ?_
  refine Av ?_
  refine A4 34 82 B ?_
  refine Aj ?_
  obtain⟨e,he,D⟩:=Ac D
  refine Aj ?_
  refine Bl rfl rfl (G1 Nt (Fp Aa.enc_len (Aw he) (o:=0) (m:=4) (cs:=[.int .i64 e.Tag,.sl 1 (Al e8 e.Bytes),.bool e.Nested,.sl 4 (Al Aa.enc e.Elements)]) (by simp only [Aa.enc_eq]; rfl) (by decide) rfl) (Di Aa.enc_len (Aw he) (o:=0) (m:=4) (by decide) rfl)) rfl rfl ?_
  refine Aj ?_
  refine Af fun B=>?_
  refine A4 82 130 B ?_
  refine Bl rfl rfl (Ao F5 z5 (by decide) rfl rfl rfl rfl Xn (cs:=[]) .nil rfl (l:=([]:List UInt8)) (f:=e8) rfl) rfl rfl ?_
  refine Aj ?_
  obtain⟨l_2,hl_2,D⟩:=Ac D
  refine Fe (rd:=[82]) rfl rfl (Dj F5 B7 .row rfl .sl rfl hl_2 rfl) rfl rfl ?_
  refine Aj ?_
  refine Af fun B=>?_
  refine A4 130 170 B ?_
  refine Aj ?_
  obtain⟨y,hy,D⟩:=Ac D
  refine Eh (rd:=[]) (ps:=[]) (gs:=[]) false rfl (Gq _ _ hy) rfl rfl (.cons .sl .nil) rfl rfl (by intro h; cases h) rfl (by intro h; first | (cases h; done) | exact⟨_,_,⟨rfl,rfl⟩,by simp,by simp⟩) ?_
  rintro _ _ ⟨rfl,rfl⟩
  refine Aj ?_
  refine Af fun B=>?_
  refine Je (σ':=mk [(0,.sl 4 (Al Aa.enc l)),(3,.row 0),(4,vj i_2),(5,.ptr 1 0)] [(0,.tree 30 4 3 30 4 2 none (Al Aa.enc out_2)),(1,.box [vj e.Tag,.sl 1 (Al e8 l_2),.val (.bool e.Nested),.row 3] 30),(2,.gho),(3,.row 30 4 (Al Aa.enc y))] 4) (Ay [(0,0),(1,66),(2,1),(3,146)]) ?_
  refine Ad (Bb _ _ []) 4 44 Az rfl rfl ?_
  refine Aj ?_
  refine Zz (rd:=[3]) rfl rfl (nX (o:=3) (r:=[vj e.Tag,.sl 1 (Al e8 l_2),.val (.bool e.Nested),.row 3]) (pre:=[vj e.Tag,.sl 1 (Al e8 l_2),.val (.bool e.Nested)]) (post:=[]) (ck1:=[none,some 1,none]) (ck2:=[]) (cs1:=Al Aa.enc ([(Aa.mk e.Tag l_2 e.Nested y)]:List Aa)) Ip No (by decide) (by kernel_rfl) rfl rfl rfl (.cons .int (.cons .sl (.cons .bool .nil))) .nil (List.Mem.head _) rfl (by simp only [Al,List.flatMap_cons,aBn,Aa.enc_eq]; rfl)) rfl rfl (fun _=>⟨_,rfl⟩) ?_
  rintro _ rfl
  obtain⟨l_3,hl_3,D⟩:=Ac D
  refine Zz (rd:=[0,20]) rfl rfl (tE Ip Aa.enc_len (List.Mem.head _) (List.Mem.tail _ (List.Mem.head _)) rfl hl_3 rfl rfl rfl) rfl rfl (fun _=>⟨_,rfl⟩) ?_
  rintro _ rfl
  refine Aj ?_
  refine Af fun B=>?_
  refine Ad (Bb _ _ []) 44 68 B rfl rfl ?_
  refine Aj ?_
  refine Af fun B=>?_
  obtain rfl:=oi_ D
  exact⟨((W (i_2 + 1),l_3),m2),Nat.lt_succ_self _,hn2,Ay [(0,28),(1,29)]⟩
 ·refine Cm ?_
  repeat first | refine Dc ?_ | refine De ?_
  replace D:=Dr D hn2
  refine A4 34 50 B ?_
  refine Aj ?_
  refine Af fun B=>?_
  refine A1 ?_
  obtain rfl:=oi_ D
  exact Ax [(0,0),(1,1)] ⟨rfl,rfl⟩
theorem O5 (l:(List Aa)) (r:Aa) (D:Gl l=some r):Fn Tryz.prog 14 0 [.sl 4 (Al Aa.enc l)] [] (fun d' b'=>d'=.agg [vj r.Tag,.sl 1 (Al e8 r.Bytes),.val (.bool r.Nested),.row 0]/\b'=[.tree 30 4 3 30 4 1 none (Al Aa.enc r.Elements),.gho]):=by
 unfold Gl at D
 refine Fn.of Tryz.func14 rfl rfl rfl fun w0 I ρ0=>?_
 show B9 _ ⟨w0,I,ρ0,0,0,6⟩ _ _ _
 refine A4 0 8 Az ?_
 refine Aj ?_
 refine Af fun B=>?_
 refine A4 8 40 B ?_
 refine Aj ?_
 obtain⟨y,hy,D⟩:=Ac D
 refine Eh (rd:=[]) (ps:=[]) (gs:=[]) false rfl (Pj _ _ hy) rfl rfl (.cons .sl .nil) rfl rfl (by intro h; cases h) rfl (by intro h; first | (cases h; done) | exact⟨_,_,⟨rfl,rfl⟩,by simp,by simp⟩) ?_
 rintro _ _ ⟨rfl,rfl⟩
 refine Bl rfl rfl (.build (r:=[.val (.int .i64 48),.val (.slice none 0 0),.val (.bool true),.row 16]) Hh Me No (by kernel_rfl) rfl) rfl rfl ?_
 refine Aj ?_
 refine Af fun B=>?_
 refine A1 ?_
 obtain rfl:=oi_ D
 exact Ax [(0,16),(1,17)] ⟨rfl,rfl⟩
theorem Si (c:Ab) (r:Aa) (D:G2 c=some r):Fn Tryz.prog 7 0 [.agg (Ab.dv c)] [] (fun d' b'=>d'=.agg [vj r.Tag,.sl 1 (Al e8 r.Bytes),.val (.bool r.Nested),.row 0]/\b'=[.tree 30 4 3 30 4 1 none (Al Aa.enc r.Elements),.gho]):=by
 unfold G2 at D
 refine Fn.of Tryz.func7 rfl rfl rfl fun w0 I ρ0=>?_
 show B9 _ ⟨w0,I,ρ0,0,0,19⟩ _ _ _
 refine A4 0 16 Az ?_
 refine Aj ?_
 refine Af fun B=>?_
 refine Ah ?_
 refine C5 (Bb _ _ [80]) (by kernel_rfl) [0,1,3,7,0,16,48,127,255,511,0,2047] 16 112 B rfl rfl (by kernel_rfl) ?_
 refine Aj ?_
 obtain⟨y,hy,D⟩:=Ac D
 refine Dy (Fc _ _ hy) ?_
 refine Aj ?_
 obtain⟨y_2,hy_2,D⟩:=Ac D
 refine Dy (Fc _ _ hy_2) ?_
 refine Hq (rd:=[]) rfl rfl (Ao Ip No (by decide) rfl rfl rfl rfl Qb (cs:=[.int .i64 y.Tag,.sl 1 (Al e8 y.Bytes),.bool y.Nested,.sl 4 (Al Aa.enc y.Elements),.int .i64 y_2.Tag,.sl 1 (Al e8 y_2.Bytes),.bool y_2.Nested,.sl 4 (Al Aa.enc y_2.Elements)]) (.cons .int (.cons .sl (.cons .bool (.cons .sl (.cons .int (.cons .sl (.cons .bool (.cons .sl .nil)))))))) rfl (l:=([y,y_2]:List Aa)) (f:=Aa.enc) (by simp only [Al,List.flatMap_cons,aBn,Aa.enc_eq]; rfl)) rfl rfl rfl ?_
 obtain⟨y_3,hy_3,D⟩:=Ac D
 refine Eh (rd:=[]) (ps:=[]) (gs:=[]) false rfl (O5 _ _ hy_3) rfl rfl (.cons .sl .nil) rfl rfl (by intro h; cases h) rfl (by intro h; first | (cases h; done) | exact⟨_,_,⟨rfl,rfl⟩,by simp,by simp⟩) ?_
 rintro _ _ ⟨rfl,rfl⟩
 refine Aj ?_
 refine Af fun B=>?_
 refine Ah ?_
 refine Je (σ':=mk [(1,.ptr 0 0),(2,.ptr 1 0),(3,.ptr 2 0)] [(0,.box (Ab.dv c) 38),(1,.box [.val (.int .i64 0),.val (.slice none 0 0),.val (.bool false),.val (.slice none 0 0)] 30),(2,.box (Aa.dv y_3) 30)] 3) (Ay [(0,0),(1,8),(2,96)]) ?_
 refine C5 (Bb _ _ [27]) (by kernel_rfl) [0,1,0,7,15,31] 3 51 Az rfl rfl (by kernel_rfl) ?_
 refine Aj ?_
 obtain⟨y_5,hy_5,D⟩:=Ac D
 refine Dy (Rs _ _ hy_5) ?_
 refine Aj ?_
 refine Hq (rd:=[]) rfl rfl (Ao Ip No (by decide) rfl rfl rfl rfl Qb (cs:=[.int .i64 y_5.Tag,.sl 1 (Al e8 y_5.Bytes),.bool y_5.Nested,.sl 4 (Al Aa.enc y_5.Elements),.int .i64 y_3.Tag,.sl 1 (Al e8 y_3.Bytes),.bool y_3.Nested,.sl 4 (Al Aa.enc y_3.Elements)]) (.cons .int (.cons .sl (.cons .bool (.cons .sl (.cons .int (.cons .sl (.cons .bool (.cons .sl .nil)))))))) rfl (l:=([y_5,y_3]:List Aa)) (f:=Aa.enc) (by simp only [Al,List.flatMap_cons,aBn,Aa.enc_eq]; rfl)) rfl rfl rfl ?_
 obtain⟨y_6,hy_6,D⟩:=Ac D
 refine Eh (rd:=[]) (ps:=[]) (gs:=[]) false rfl (O5 _ _ hy_6) rfl rfl (.cons .sl .nil) rfl rfl (by intro h; cases h) rfl (by intro h; first | (cases h; done) | exact⟨_,_,⟨rfl,rfl⟩,by simp,by simp⟩) ?_
 rintro _ _ ⟨rfl,rfl⟩
 refine Aj ?_
 refine Af fun B=>?_
 refine A1 ?_
 obtain rfl:=oi_ D
 exact Ax [(0,35),(1,36)] ⟨rfl,rfl⟩
theorem aN (b:(List UInt8)) (at':Int) (r:Int×Int×Int×Bool) (D:Ba b at'=some r):Fn Tryz.prog 104 0 [.sl 1 (Al e8 b),vj at'] [] (fun d' b'=>d'=.tup [vj r.1,vj r.2.1,vj r.2.2.1,.val (.bool r.2.2.2)]/\b'=[]):=by
 unfold Ba at D
 refine Fn.of Tryz.func104 rfl rfl rfl fun w0 I ρ0=>?_
 show B9 _ ⟨w0,I,ρ0,0,0,94⟩ _ _ _
 refine A4 0 32 Az ?_
 refine Aj ?_
 refine Af fun B=>?_
 refine Ah ?_
 refine Bp (ι:=Bool) (fun (x25_1:Bool)=>mk [(0,.sl 1 (Al e8 b)),(1,vj at'),(25,.val (.bool x25_1))] [] 0) (fun (x25_1:Bool)=>Ba.j1 b at' x25_1=some r) ?_ ?_
 ·refine Ad (Bb _ _ []) 32 144 B rfl rfl ?_
  refine Aj ?_
  rcases Dx D with ⟨h2,D⟩ | ⟨h2,D⟩
  ·refine Aj ?_
   refine Af fun B=>?_
   exact⟨true,D,Ay []⟩
  ·refine Aj ?_
   obtain⟨e,he,D⟩:=Ac D
   refine Aj ?_
   refine Bl (Ef rfl rfl h2) rfl (Bq Na (A9 B7 (Aw he) (o:=0) (c:=.int .u8 (e.toNat:Int)) rfl rfl)) rfl rfl ?_
   refine Bl (Ef rfl rfl h2) rfl (Hk (u:=e) Ia Kl) rfl rfl ?_
   obtain⟨y,hy,D⟩:=Ac D
   refine Dy (T9 _ _ hy) ?_
   refine Aj ?_
   refine Af fun B=>?_
   exact⟨!y,D,Ay []⟩
 ·rintro x25_1 D
  replace D:Ba.j1 b at' x25_1=some r:=D
  show B9 _ _ _ _ (mk _ _ _)
  unfold Ba.j1 at D
  refine Dg rfl D (fun h5 D=>?_) fun h5 D=>?_
  ·refine Ah ?_
   refine Ad (Bb _ _ []) 0 32 Az rfl rfl ?_
   refine Aj ?_
   refine Af fun B=>?_
   refine A1 ?_
   obtain rfl:=oi_ D
   exact Ax [] ⟨rfl,rfl⟩
  ·refine Ap ?_
   repeat first | refine Dc ?_ | refine De ?_
   refine A4 0 80 Az ?_
   refine Aj ?_
   obtain⟨e_2,he_2,D⟩:=Ac D
   refine Aj ?_
   refine Bl rfl rfl (Bq Na (A9 B7 (Aw he_2) (o:=0) (c:=.int .u8 (e_2.toNat:Int)) rfl rfl)) rfl rfl ?_
   refine Bl rfl rfl (Hk (u:=e_2) Ia Kl) rfl rfl ?_
   refine Aj ?_
   refine Af fun B=>?_
   refine Bp (ι:=Int×Int) (fun ((n_4,from_4):Int×Int)=>mk [(0,.sl 1 (Al e8 b)),(1,vj at'),(8,vj n_4),(9,vj from_4)] [] 0) (fun ((n_4,from_4):Int×Int)=>Ba.j4 b at' n_4 from_4=some r) ?_ ?_
   ·refine Ah ?_
    refine Ad (Bb _ _ []) 80 96 B rfl rfl ?_
    refine Aj ?_
    refine Af fun B=>?_
    refine Dg rfl D (fun h9 D=>?_) fun h9 D=>?_
    ·refine Ah ?_
     refine Ad (Bb _ _ []) 96 120 B rfl rfl ?_
     refine Aj ?_
     refine Af fun B=>?_
     refine Ah ?_
     refine Bp (ι:=Bool) (fun (x58_2:Bool)=>mk [(0,.sl 1 (Al e8 b)),(1,vj at'),(9,.val (.int .i64 (W (at' + 2)))),(10,.val (.int .i64 (W ((e_2.toNat:Int) - 128)))),(58,.val (.bool x58_2))] [] 0) (fun (x58_2:Bool)=>Ba.j2 b at' e_2 x58_2=some r) ?_ ?_
     ·refine Ad (Bb _ _ []) 120 288 B rfl rfl ?_
      refine Aj ?_
      rcases Dx D with ⟨h11,D⟩ | ⟨h11,D⟩
      ·refine Aj ?_
       refine Af fun B=>?_
       exact⟨true,D,Ay []⟩
      ·refine Aj ?_
       rcases Dx D with ⟨h13,D⟩ | ⟨h13,D⟩
       ·refine Aj ?_
        refine Af fun B=>?_
        exact⟨true,D,Ay []⟩
       ·refine Aj ?_
        rcases Dx D with ⟨h15,D⟩ | ⟨h15,D⟩
        ·refine Aj ?_
         refine Af fun B=>?_
         exact⟨true,D,Ay []⟩
        ·refine Aj ?_
         obtain⟨e_3,he_3,D⟩:=Ac D
         refine Aj ?_
         refine Bl (Ef rfl rfl h15) rfl (Bq Na (A9 B7 (Aw he_3) (o:=0) (c:=.int .u8 (e_3.toNat:Int)) rfl rfl)) rfl rfl ?_
         refine Aj ?_
         refine Af fun B=>?_
         exact⟨decide ((e_3.toNat:Int)=0),D,Ay []⟩
     ·rintro x58_2 D
      replace D:Ba.j2 b at' e_2 x58_2=some r:=D
      show B9 _ _ _ _ (mk _ _ _)
      unfold Ba.j2 at D
      refine Dg rfl D (fun h18 D=>?_) fun h18 D=>?_
      ·refine Ah ?_
       refine Ad (Bb _ _ []) 0 32 Az rfl rfl ?_
       refine Aj ?_
       refine Af fun B=>?_
       refine A1 ?_
       obtain rfl:=oi_ D
       exact Ax [] ⟨rfl,rfl⟩
      ·refine Ap ?_
       repeat first | refine Dc ?_ | refine De ?_
       refine A4 0 8 Az ?_
       refine Aj ?_
       refine Af fun B=>?_
       refine Ah ?_
       refine A4 8 16 B ?_
       refine Aj ?_
       refine Af fun B=>?_
       refine Av ?_
       refine Nu (fun ((n_3,i_3):Int×Int)=>mk [(0,.sl 1 (Al e8 b)),(1,vj at'),(8,vj n_3),(9,.val (.int .i64 (W (at' + 2)))),(10,.val (.int .i64 (W ((e_2.toNat:Int) - 128)))),(11,vj i_3)] [] 0) D (Ay []) ?_
       rintro⟨n_3,i_3⟩ m3 o3 D hn3
       replace D:Ba.l3 b at' e_2 n_3 i_3=some o3:=D
       show B9 _ _ _ _ (mk _ _ _)
       unfold Ba.l3 at D
       refine Ah ?_
       refine A4 0 24 Az ?_
       refine Aj ?_
       refine Af fun B=>?_
       refine Dg rfl D (fun h23 D=>?_) fun h23 D=>?_
       ·refine Ap ?_
        repeat first | refine Dc ?_ | refine De ?_
        refine Ah ?_
        refine Av ?_
        refine Ad (Bb _ _ []) 24 112 B rfl rfl ?_
        refine Aj ?_
        obtain⟨e_4,he_4,D⟩:=Ac D
        refine Aj ?_
        refine Bl rfl rfl (Bq Na (A9 B7 (Aw he_4) (o:=0) (c:=.int .u8 (e_4.toNat:Int)) rfl rfl)) rfl rfl ?_
        refine Bl rfl rfl (Hk (u:=e_4) Ia Kl) rfl rfl ?_
        refine Aj ?_
        refine Af fun B=>?_
        refine Ad (Bb _ _ []) 112 136 B rfl rfl ?_
        refine Aj ?_
        refine Af fun B=>?_
        obtain rfl:=oi_ D
        exact⟨((W ((W (n_3 * 256)) + (e_4.toNat:Int)),W (i_3 + 1)),m3),Nat.lt_succ_self _,hn3,Ay []⟩
       ·refine Cm ?_
        repeat first | refine Dc ?_ | refine De ?_
        replace D:=Dr D hn3
        refine A4 24 56 B ?_
        refine Aj ?_
        refine Af fun B=>?_
        refine A4 56 72 B ?_
        refine Aj ?_
        refine Af fun B=>?_
        refine Dg rfl D (fun h28 D=>?_) fun h28 D=>?_
        ·refine Ah ?_
         refine Ad (Bb _ _ []) 72 104 B rfl rfl ?_
         refine Aj ?_
         refine Af fun B=>?_
         refine A1 ?_
         obtain rfl:=oi_ D
         exact Ax [] ⟨rfl,rfl⟩
        ·refine Ap ?_
         repeat first | refine Dc ?_ | refine De ?_
         exact⟨(n_3,W ((W (at' + 2)) + (W ((e_2.toNat:Int) - 128)))),D,Ay []⟩
    ·refine Ap ?_
     repeat first | refine Dc ?_ | refine De ?_
     exact⟨((e_2.toNat:Int),W (at' + 2)),D,Ay []⟩
   ·rintro⟨n_4,from_4⟩ D
    replace D:Ba.j4 b at' n_4 from_4=some r:=D
    show B9 _ _ _ _ (mk _ _ _)
    unfold Ba.j4 at D
    refine Ah ?_
    refine A4 0 48 Az ?_
    refine Aj ?_
    refine Af fun B=>?_
    refine Dg rfl D (fun h31 D=>?_) fun h31 D=>?_
    ·refine Ah ?_
     refine Ad (Bb _ _ []) 48 80 B rfl rfl ?_
     refine Aj ?_
     refine Af fun B=>?_
     refine A1 ?_
     obtain rfl:=oi_ D
     exact Ax [] ⟨rfl,rfl⟩
    ·refine Ap ?_
     repeat first | refine Dc ?_ | refine De ?_
     refine A4 48 152 B ?_
     refine Aj ?_
     obtain⟨e_5,he_5,D⟩:=Ac D
     refine Aj ?_
     refine Bl rfl rfl (Bq Na (A9 B7 (Aw he_5) (o:=0) (c:=.int .u8 (e_5.toNat:Int)) rfl rfl)) rfl rfl ?_
     refine Bl rfl rfl (Hk (u:=e_5) Ia Kl) rfl rfl ?_
     refine Aj ?_
     refine Af fun B=>?_
     refine A1 ?_
     obtain rfl:=oi_ D
     exact Ax [] ⟨rfl,rfl⟩
theorem Pg.F (rec:(List UInt8)->Option ((List Aa)×Bool)) (hrec:∀ (b:(List UInt8)) (r:(List Aa)×Bool),rec b=some r->Fn Tryz.prog 73 0 [.sl 1 (Al e8 b)] [] (fun d' b'=>d'=.tup [.sl 4 (Al Aa.enc r.1),.val (.bool r.2)]/\b'=[])) (b:(List UInt8)) (r:(List Aa)×Bool) (D:B8.F rec b=some r):Fn Tryz.prog 73 0 [.sl 1 (Al e8 b)] [] (fun d' b'=>d'=.tup [.sl 4 (Al Aa.enc r.1),.val (.bool r.2)]/\b'=[]):=by
 unfold B8.F at D
 refine Fn.of Tryz.func73 rfl rfl rfl fun w0 I ρ0=>?_
 show B9 _ ⟨w0,I,ρ0,0,0,60⟩ _ _ _
 refine A4 0 16 Az ?_
 refine Aj ?_
 refine Af fun B=>?_
 refine A4 16 24 B ?_
 refine Aj ?_
 refine Af fun B=>?_
 refine A4 24 32 B ?_
 refine Aj ?_
 refine Af fun B=>?_
 refine Ah ?_
 refine Av ?_
 refine Nu (fun ((at_1,out_1):Int×List Aa)=>mk [(0,.sl 1 (Al e8 b)),(4,.row 0),(5,vj at_1)] [(0,.row 30 4 (Al Aa.enc out_1))] 1) D (Ay []) ?_
 rintro⟨at_1,out_1⟩ m1 o1 D hn1
 replace D:B8.l1 rec b at_1 out_1=some o1:=D
 show B9 _ _ _ _ (mk _ _ _)
 unfold B8.l1 at D
 refine Ah ?_
 refine A4 1 33 Az ?_
 refine Aj ?_
 refine Af fun B=>?_
 refine Dg rfl D (fun h5 D=>?_) fun h5 D=>?_
 ·refine Ap ?_
  repeat first | refine Dc ?_ | refine De ?_
  refine Av ?_
  refine A4 33 129 B ?_
  refine Aj ?_
  obtain⟨y,hy,D⟩:=Ac D
  refine Dy (aN _ _ _ hy) ?_
  refine Aj ?_
  refine Af fun B=>?_
  refine Ah ?_
  refine A4 129 145 B ?_
  refine Aj ?_
  refine Af fun B=>?_
  refine Dg rfl D (fun h8 D=>?_) fun h8 D=>?_
  ·refine Ah ?_
   refine Ad (Bb _ _ []) 145 161 B rfl rfl ?_
   refine Aj ?_
   refine Af fun B=>?_
   refine A1 ?_
   replace D:=Dr D hn1
   obtain rfl:=oi_ D
   exact Ax [] ⟨rfl,rfl⟩
  ·refine Ap ?_
   repeat first | refine Dc ?_ | refine De ?_
   refine A4 145 209 B ?_
   refine Aj ?_
   obtain⟨q,hq,D⟩:=Ac D
   refine Bl rfl rfl (bA hq) rfl rfl ?_
   obtain⟨q_2,hq_2,D⟩:=Ac D
   refine Bl rfl rfl (Y0 hq_2) rfl rfl ?_
   refine Aj ?_
   refine Bl rfl rfl (.build (r:=[vj y.1,.val (.slice none 0 0),.val (.bool (decide (q_2=1))),.val (.slice none 0 0)]) Hh Me No (by kernel_rfl) rfl) rfl rfl ?_
   refine Aj ?_
   refine Af fun B=>?_
   refine Bp (ι:=List Aa×List UInt8) (fun ((v_2,l_2_2):List Aa×List UInt8)=>mk [(0,.sl 1 (Al e8 b)),(4,.row 0),(8,vj y.2.2.1),(10,.ptr 1 0)] [(0,.row 30 4 (Al Aa.enc out_1)),(1,.box [vj y.1,.row 2,.val (.bool (decide (q_2=1))),.sl 4 (Al Aa.enc v_2)] 30),(2,.row 5 1 (Al e8 l_2_2))] 3) (fun ((v_2,l_2_2):List Aa×List UInt8)=>B8.j2 out_1 y q_2 v_2 l_2_2=some o1) ?_ ?_
   ·refine Ah ?_
    refine Ad (Bb _ _ []) 209 225 B rfl rfl ?_
    refine Aj ?_
    refine Af fun B=>?_
    refine Dg rfl D (fun h12 D=>?_) fun h12 D=>?_
    ·refine Ah ?_
     refine Ad (Bb _ _ []) 225 305 B rfl rfl ?_
     refine Aj ?_
     obtain⟨l,hl,D⟩:=Ac D
     refine Bl rfl rfl (W0 F5 B7 hl) rfl rfl ?_
     obtain⟨y_2,hy_2,D⟩:=Ac D
     refine Dy (hrec _ _ hy_2) ?_
     refine Aj ?_
     refine Af fun B=>?_
     refine Ah ?_
     refine A4 305 321 B ?_
     refine Aj ?_
     refine Af fun B=>?_
     refine Dg rfl D (fun h15 D=>?_) fun h15 D=>?_
     ·refine Ah ?_
      refine Ad (Bb _ _ []) 321 337 B rfl rfl ?_
      refine Aj ?_
      refine Af fun B=>?_
      refine A1 ?_
      replace D:=Dr D hn1
      obtain rfl:=oi_ D
      exact Ax [] ⟨rfl,rfl⟩
     ·refine Ap ?_
      repeat first | refine Dc ?_ | refine De ?_
      refine Ad (Bb _ _ []) 321 345 B rfl rfl ?_
      refine Aj ?_
      refine Af fun B=>?_
      exact⟨(y_2.1,([]:List UInt8)),D,Ay [(0,0),(1,193)]⟩
    ·refine Ad (Bb _ _ []) 225 289 B rfl rfl ?_
     refine Bl rfl rfl (Ao F5 z5 (by decide) rfl rfl rfl rfl Xn (cs:=[]) .nil rfl (l:=([]:List UInt8)) (f:=e8) rfl) rfl rfl ?_
     refine Aj ?_
     obtain⟨l_2,hl_2,D⟩:=Ac D
     refine Bl rfl rfl (W0 F5 B7 hl_2) rfl rfl ?_
     obtain⟨l_3,hl_3,D⟩:=Ac D
     refine Fe (rd:=[225]) rfl rfl (Dj F5 B7 .row rfl .sl rfl hl_3 rfl) rfl rfl ?_
     refine Aj ?_
     refine Af fun B=>?_
     exact⟨(([]:List Aa),l_3),D,Ay [(0,0),(1,193),(2,265)]⟩
   ·rintro⟨v_2,l_2_2⟩ D
    replace D:B8.j2 out_1 y q_2 v_2 l_2_2=some o1:=D
    show B9 _ _ _ _ (mk _ _ _)
    unfold B8.j2 at D
    refine Ah ?_
    refine Je (σ':=mk [(0,.sl 1 (Al e8 b)),(4,.row 0),(8,vj y.2.2.1),(10,.ptr 1 0)] [(0,.row 30 4 (Al Aa.enc out_1)),(1,.box [vj y.1,.sl 1 (Al e8 l_2_2),.val (.bool (decide (q_2=1))),.sl 4 (Al Aa.enc v_2)] 30)] 2) (Ay [(0,0),(1,1)]) ?_
    refine Ad (Bb _ _ []) 2 42 Az rfl rfl ?_
    refine Aj ?_
    refine Bl rfl rfl (Ao Ip No (by decide) rfl rfl rfl rfl Qb (cs:=[.int .i64 y.1,.sl 1 (Al e8 l_2_2),.bool (decide (q_2=1)),.sl 4 (Al Aa.enc v_2)]) (.cons .int (.cons .sl (.cons .bool (.cons .sl .nil)))) rfl (l:=([(Aa.mk y.1 l_2_2 (decide (q_2=1)) v_2)]:List Aa)) (f:=Aa.enc) (by simp only [Al,List.flatMap_cons,aBn,Aa.enc_eq]; rfl)) rfl rfl ?_
    obtain⟨l_4,hl_4,D⟩:=Ac D
    refine Fe (rd:=[0,18]) rfl rfl (Dj Ip Aa.enc_len .row rfl .row rfl hl_4 rfl) rfl rfl ?_
    refine Aj ?_
    refine Af fun B=>?_
    refine Ad (Bb _ _ []) 42 58 B rfl rfl ?_
    refine Aj ?_
    refine Af fun B=>?_
    obtain rfl:=oi_ D
    exact⟨((y.2.2.1,l_4),m1),Nat.lt_succ_self _,hn1,Ay [(0,26)]⟩
 ·refine Cm ?_
  repeat first | refine Dc ?_ | refine De ?_
  replace D:=Dr D hn1
  refine A4 33 57 B ?_
  refine Aj ?_
  refine Af fun B=>?_
  refine A1 ?_
  obtain rfl:=oi_ D
  exact Ax [] ⟨rfl,rfl⟩
theorem Pg (b:(List UInt8)) (r:(List Aa)×Bool) (D:B8 b=some r):Fn Tryz.prog 73 0 [.sl 1 (Al e8 b)] [] (fun d' b'=>d'=.tup [.sl 4 (Al Aa.enc r.1),.val (.bool r.2)]/\b'=[]):=
 Ja (motive:=fun (x:(List UInt8)) (r:(List Aa)×Bool)=>Fn Tryz.prog 73 0 [.sl 1 (Al e8 x)] [] (fun d' b'=>d'=.tup [.sl 4 (Al Aa.enc r.1),.val (.bool r.2)]/\b'=[])) (fun rec hrec x r h=>Pg.F _ (fun b r h=>hrec b r h) x r h) b r D
theorem V3 (b:(List UInt8)) (r:Aa×Int) (D:D3 b=some r):Fn Tryz.prog 36 0 [.sl 1 (Al e8 b)] [] (fun d' b'=>d'=.tup [.agg (Aa.dv r.1),vj r.2]/\b'=[]):=by
 unfold D3 at D
 refine Fn.of Tryz.func36 rfl rfl rfl fun w0 I ρ0=>?_
 show B9 _ ⟨w0,I,ρ0,0,0,32⟩ _ _ _
 refine A4 0 16 Az ?_
 refine Aj ?_
 refine Af fun B=>?_
 refine Ah ?_
 refine A4 16 40 B ?_
 refine Aj ?_
 refine Af fun B=>?_
 refine Dg rfl D (fun h3 D=>?_) fun h3 D=>?_
 ·refine Ah ?_
  refine Ad (Bb _ _ []) 40 64 B rfl rfl ?_
  refine Bl rfl rfl (.build (r:=[.val (.int .i64 0),.val (.slice none 0 0),.val (.bool false),.val (.slice none 0 0)]) Hh Me No (by kernel_rfl) rfl) rfl rfl ?_
  refine Aj ?_
  refine Af fun B=>?_
  refine A1 ?_
  obtain rfl:=oi_ D
  exact Ax [] ⟨rfl,rfl⟩
 ·refine Ap ?_
  repeat first | refine Dc ?_ | refine De ?_
  refine A4 40 96 B ?_
  refine Aj ?_
  obtain⟨y,hy,D⟩:=Ac D
  refine Dy (Pg _ _ hy) ?_
  refine Aj ?_
  refine Af fun B=>?_
  refine Ah ?_
  refine Bp (ι:=Bool) (fun (x21_1:Bool)=>mk [(2,.ptr 0 0),(4,.sl 4 (Al Aa.enc y.1)),(21,.val (.bool x21_1))] [(0,.box [.val (.int .i64 0),.val (.slice none 0 0),.val (.bool false),.val (.slice none 0 0)] 30)] 1) (fun (x21_1:Bool)=>D3.j1 y x21_1=some r) ?_ ?_
  ·refine Ad (Bb _ _ []) 96 152 B rfl rfl ?_
   refine Aj ?_
   rcases Dx D with ⟨h6,D⟩ | ⟨h6,D⟩
   ·refine Aj ?_
    refine Af fun B=>?_
    exact⟨true,D,Ay [(0,0)]⟩
   ·refine Aj ?_
    refine Af fun B=>?_
    exact⟨!decide ((y.1.length:Int)=1),D,Ay [(0,0)]⟩
  ·rintro x21_1 D
   replace D:D3.j1 y x21_1=some r:=D
   show B9 _ _ _ _ (mk _ _ _)
   unfold D3.j1 at D
   refine Dg rfl D (fun h9 D=>?_) fun h9 D=>?_
   ·refine Ah ?_
    refine Ad (Bb _ _ []) 1 25 Az rfl rfl ?_
    refine Bl rfl rfl (.build (r:=[.val (.int .i64 0),.val (.slice none 0 0),.val (.bool false),.val (.slice none 0 0)]) Hh Me No (by kernel_rfl) rfl) rfl rfl ?_
    refine Aj ?_
    refine Af fun B=>?_
    refine A1 ?_
    obtain rfl:=oi_ D
    exact Ax [] ⟨rfl,rfl⟩
   ·refine Ap ?_
    repeat first | refine Dc ?_ | refine De ?_
    refine Ah ?_
    refine A4 1 41 Az ?_
    refine Aj ?_
    obtain⟨e,he,D⟩:=Ac D
    refine Aj ?_
    refine Bl rfl rfl (G1 Nt (Fp Aa.enc_len (Aw he) (o:=0) (m:=4) (cs:=[.int .i64 e.Tag,.sl 1 (Al e8 e.Bytes),.bool e.Nested,.sl 4 (Al Aa.enc e.Elements)]) (by simp only [Aa.enc_eq]; rfl) (by decide) rfl) (Di Aa.enc_len (Aw he) (o:=0) (m:=4) (by decide) rfl)) rfl rfl ?_
    obtain⟨y_2,hy_2,D⟩:=Ac D
    refine Dy (Ko _ _ hy_2) ?_
    refine Aj ?_
    refine Af fun B=>?_
    refine Dg rfl D (fun h12 D=>?_) fun h12 D=>?_
    ·refine Ah ?_
     refine Ad (Bb _ _ []) 41 65 B rfl rfl ?_
     refine Bl rfl rfl (.build (r:=[.val (.int .i64 0),.val (.slice none 0 0),.val (.bool false),.val (.slice none 0 0)]) Hh Me No (by kernel_rfl) rfl) rfl rfl ?_
     refine Aj ?_
     refine Af fun B=>?_
     refine A1 ?_
     obtain rfl:=oi_ D
     exact Ax [] ⟨rfl,rfl⟩
    ·refine Ap ?_
     repeat first | refine Dc ?_ | refine De ?_
     refine A4 41 81 B ?_
     refine Aj ?_
     refine Bl rfl rfl (G1 Nt (Fp Aa.enc_len (Aw he) (o:=0) (m:=4) (cs:=[.int .i64 e.Tag,.sl 1 (Al e8 e.Bytes),.bool e.Nested,.sl 4 (Al Aa.enc e.Elements)]) (by simp only [Aa.enc_eq]; rfl) (by decide) rfl) (Di Aa.enc_len (Aw he) (o:=0) (m:=4) (by decide) rfl)) rfl rfl ?_
     refine Aj ?_
     refine Af fun B=>?_
     refine A1 ?_
     obtain rfl:=oi_ D
     exact Ax [] ⟨rfl,rfl⟩
theorem Xh (v:Aa) (r:(List Aa)×Int) (D:D4 v=some r):Fn Tryz.prog 105 0 [.agg (Aa.dv v)] [] (fun d' b'=>d'=.tup [.sl 4 (Al Aa.enc r.1),vj r.2]/\b'=[]):=by
 unfold D4 at D
 refine Fn.of Tryz.func105 rfl rfl rfl fun w0 I ρ0=>?_
 show B9 _ ⟨w0,I,ρ0,0,0,15⟩ _ _ _
 refine A4 0 24 Az ?_
 refine Aj ?_
 refine Af fun B=>?_
 refine Ah ?_
 refine Bp (ι:=Bool) (fun (x11_1:Bool)=>mk [(1,.ptr 0 0),(11,.val (.bool x11_1))] [(0,.box (Aa.dv v) 30)] 1) (fun (x11_1:Bool)=>D4.j1 v x11_1=some r) ?_ ?_
 ·refine Ad (Bb _ _ []) 24 88 B rfl rfl ?_
  refine Aj ?_
  rcases Dx D with ⟨h2,D⟩ | ⟨h2,D⟩
  ·refine Aj ?_
   refine Af fun B=>?_
   exact⟨true,D,Ay [(0,0)]⟩
  ·refine Aj ?_
   obtain⟨y,hy,D⟩:=Ac D
   refine Dy (J3 _ _ hy) ?_
   refine Aj ?_
   refine Af fun B=>?_
   exact⟨!y,D,Ay [(0,0)]⟩
 ·rintro x11_1 D
  replace D:D4.j1 v x11_1=some r:=D
  show B9 _ _ _ _ (mk _ _ _)
  unfold D4.j1 at D
  refine Dg rfl D (fun h5 D=>?_) fun h5 D=>?_
  ·refine Ah ?_
   refine Ad (Bb _ _ []) 1 17 Az rfl rfl ?_
   refine Aj ?_
   refine Af fun B=>?_
   refine A1 ?_
   obtain rfl:=oi_ D
   exact Ax [] ⟨rfl,rfl⟩
  ·refine Ap ?_
   repeat first | refine Dc ?_ | refine De ?_
   refine A4 1 41 Az ?_
   refine Aj ?_
   obtain⟨y_2,hy_2,D⟩:=Ac D
   refine Eh (rd:=[]) (ps:=[]) (gs:=[]) false rfl (Gq _ _ hy_2) rfl rfl (.cons .sl .nil) rfl rfl (by intro h; cases h) rfl (by intro h; first | (cases h; done) | exact⟨_,_,⟨rfl,rfl⟩,by simp,by simp⟩) ?_
   rintro _ _ ⟨rfl,rfl⟩
   refine Aj ?_
   refine Af fun B=>?_
   refine A1 ?_
   obtain rfl:=oi_ D
   exact Ax [] ⟨rfl,rfl⟩
theorem Ry (v:Aa) (r:Ae) (D:It v=some r):Fn Tryz.prog 74 0 [.agg (Aa.dv v)] [] (fun d' b'=>d'=.ptr 0 0/\b'=[.box (Ae.dv r) 104]):=by
 unfold It at D
 refine Fn.of Tryz.func74 rfl rfl rfl fun w0 I ρ0=>?_
 show B9 _ ⟨w0,I,ρ0,0,0,15⟩ _ _ _
 refine A4 0 16 Az ?_
 refine Aj ?_
 refine Af fun B=>?_
 refine A4 16 72 B ?_
 refine Aj ?_
 obtain⟨y,hy,D⟩:=Ac D
 refine Dy (Xh _ _ hy) ?_
 refine Aj ?_
 refine Af fun B=>?_
 refine A4 72 120 B ?_
 refine Aj ?_
 refine Bl rfl rfl (.build (r:=[.sl 4 (Al Aa.enc y.1),.val (.int .i64 0),.val (.bool (decide (y.2=0)))]) Za xG wW (by kernel_rfl) rfl) rfl rfl ?_
 refine Aj ?_
 refine Af fun B=>?_
 refine A1 ?_
 obtain rfl:=oi_ D
 exact Ax [(0,104)] ⟨rfl,rfl⟩
theorem Hb (r':Ae) (r:Aa×Ae) (D:Bt r'=some r):Fn Tryz.prog 106 1 [.ptr 0 0] [.box (Ae.dv r') 104] (fun d' b'=>d'=.agg (Aa.dv r.1)/\b'=[.box (Ae.dv r.2) 104]):=by
 unfold Bt at D
 refine Fn.of Tryz.func106 rfl rfl rfl fun w0 I ρ0=>?_
 show B9 _ ⟨w0,I,ρ0,1,1,42⟩ _ _ _
 refine A4 1 9 Az ?_
 refine Aj ?_
 refine Af fun B=>?_
 refine Ah ?_
 refine Bp (ι:=Bool) (fun (x19_1:Bool)=>mk [(0,.ptr 0 0),(2,.ptr 1 0),(19,.val (.bool x19_1))] [(0,.box (Ae.dv r') 104),(1,.box [.val (.int .i64 0),.val (.slice none 0 0),.val (.bool false),.val (.slice none 0 0)] 30)] 2) (fun (x19_1:Bool)=>Bt.j1 r' x19_1=some r) ?_ ?_
 ·refine C5 (Bb _ _ []) (by kernel_rfl) [0,1,3,7,15,31,63,127,255,511,63,1087,3135,7231,15423,32767,65535] 9 145 B rfl rfl (by kernel_rfl) ?_
  refine Aj ?_
  rcases Dx D with ⟨h2,D⟩ | ⟨h2,D⟩
  ·refine Aj ?_
   refine Af fun B=>?_
   exact⟨true,D,Ay [(0,0),(1,1)]⟩
  ·refine Aj ?_
   refine Af fun B=>?_
   exact⟨decide ((r'.L.length:Int)<=r'.At),D,Ay [(0,0),(1,1)]⟩
 ·rintro x19_1 D
  replace D:Bt.j1 r' x19_1=some r:=D
  show B9 _ _ _ _ (mk _ _ _)
  unfold Bt.j1 at D
  refine Dg rfl D (fun h5 D=>?_) fun h5 D=>?_
  ·refine Ah ?_
   refine Ad (Bb _ _ []) 2 34 Az rfl rfl ?_
   refine Aj ?_
   refine Af fun B=>?_
   refine A4 34 50 B ?_
   refine Bl rfl rfl (.build (r:=[.val (.int .i64 0),.val (.slice none 0 0),.val (.bool false),.val (.slice none 0 0)]) Hh Me No (by kernel_rfl) rfl) rfl rfl ?_
   refine Aj ?_
   refine Af fun B=>?_
   refine A1 ?_
   obtain rfl:=oi_ D
   exact Ax [(0,0)] ⟨rfl,rfl⟩
  ·refine Ap ?_
   repeat first | refine Dc ?_ | refine De ?_
   refine A4 2 66 Az ?_
   refine Aj ?_
   refine Af fun B=>?_
   refine Ah ?_
   refine C5 (Bb _ _ []) (by kernel_rfl) [0,1,3,7,0,16,48,112,240,511,1023,2047] 66 162 B rfl rfl (by kernel_rfl) ?_
   refine Aj ?_
   obtain⟨e,he,D⟩:=Ac D
   refine Aj ?_
   refine Bl rfl rfl (G1 Nt (Fp Aa.enc_len (Aw he) (o:=0) (m:=4) (cs:=[.int .i64 e.Tag,.sl 1 (Al e8 e.Bytes),.bool e.Nested,.sl 4 (Al Aa.enc e.Elements)]) (by simp only [Aa.enc_eq]; rfl) (by decide) rfl) (Di Aa.enc_len (Aw he) (o:=0) (m:=4) (by decide) rfl)) rfl rfl ?_
   refine Aj ?_
   refine Af fun B=>?_
   refine A1 ?_
   obtain rfl:=oi_ D
   exact Ax [(0,0)] ⟨rfl,rfl⟩
theorem Hd (r':Ae) (r:Ae×Ae) (D:D9 r'=some r):Fn Tryz.prog 75 1 [.ptr 0 0] [.box (Ae.dv r') 104] (fun d' b'=>d'=.ptr 1 0/\b'=[.box (Ae.dv r.2) 104,.box (Ae.dv r.1) 104]):=by
 unfold D9 at D
 refine Fn.of Tryz.func75 rfl rfl rfl fun w0 I ρ0=>?_
 show B9 _ ⟨w0,I,ρ0,1,1,21⟩ _ _ _
 refine A4 1 9 Az ?_
 refine Aj ?_
 refine Af fun B=>?_
 refine A4 9 41 B ?_
 refine Aj ?_
 obtain⟨y,hy,D⟩:=Ac D
 refine F3 [0] [0] [] false (Hb _ _ hy) ?_
 obtain⟨y_2,hy_2,D⟩:=Ac D
 refine Eh (rd:=[]) (ps:=[]) (gs:=[]) false rfl (Ry _ _ hy_2) rfl rfl (.cons (.agg (.cons .val (.cons .sl (.cons .val (.cons .sl .nil))))) .nil) rfl rfl (by intro h; cases h) rfl (by intro h; first | (cases h; done) | exact⟨_,_,⟨rfl,rfl⟩,by simp,by simp⟩) ?_
 rintro _ _ ⟨rfl,rfl⟩
 refine Aj ?_
 refine Af fun B=>?_
 refine A4 41 153 B ?_
 refine Aj ?_
 rcases Dx D with ⟨h3,D⟩ | ⟨h3,D⟩
 ·refine Aj ?_
  refine Af fun B=>?_
  refine A4 153 169 B ?_
  refine Aj ?_
  refine Af fun B=>?_
  refine A1 ?_
  obtain rfl:=oi_ D
  exact Ax [(0,0),(1,25)] ⟨rfl,rfl⟩
 ·refine Aj ?_
  refine Af fun B=>?_
  refine A4 153 169 B ?_
  refine Aj ?_
  refine Af fun B=>?_
  refine A1 ?_
  obtain rfl:=oi_ D
  exact Ax [(0,0),(1,25)] ⟨rfl,rfl⟩
theorem Xz (v:Aa) (r:Int×Int) (D:Bc v=some r):Fn Tryz.prog 107 0 [.agg (Aa.dv v)] [] (fun d' b'=>d'=.tup [vj r.1,vj r.2]/\b'=[]):=by
 unfold Bc at D
 refine Fn.of Tryz.func107 rfl rfl rfl fun w0 I ρ0=>?_
 show B9 _ ⟨w0,I,ρ0,0,0,61⟩ _ _ _
 refine A4 0 24 Az ?_
 refine Aj ?_
 refine Af fun B=>?_
 refine Ah ?_
 refine Bp (ι:=Bool) (fun (x30_1:Bool)=>mk [(1,.ptr 0 0),(30,.val (.bool x30_1))] [(0,.box (Aa.dv v) 30)] 1) (fun (x30_1:Bool)=>Bc.j1 v x30_1=some r) ?_ ?_
 ·refine Ad (Bb _ _ []) 24 224 B rfl rfl ?_
  refine Aj ?_
  rcases Dx D with ⟨h2,D⟩ | ⟨h2,D⟩
  ·refine Aj ?_
   refine Af fun B=>?_
   exact⟨true,D,Ay [(0,0)]⟩
  ·refine Aj ?_
   rcases Dx D with ⟨h4,D⟩ | ⟨h4,D⟩
   ·refine Aj ?_
    refine Af fun B=>?_
    exact⟨true,D,Ay [(0,0)]⟩
   ·refine Aj ?_
    rcases Dx D with ⟨h6,D⟩ | ⟨h6,D⟩
    ·refine Aj ?_
     refine Af fun B=>?_
     exact⟨true,D,Ay [(0,0)]⟩
    ·refine Aj ?_
     rcases Dx D with ⟨h8,D⟩ | ⟨h8,D⟩
     ·refine Aj ?_
      refine Af fun B=>?_
      exact⟨true,D,Ay [(0,0)]⟩
     ·refine Aj ?_
      refine Af fun B=>?_
      exact⟨decide (8 < (v.Bytes.length:Int)),D,Ay [(0,0)]⟩
 ·rintro x30_1 D
  replace D:Bc.j1 v x30_1=some r:=D
  show B9 _ _ _ _ (mk _ _ _)
  unfold Bc.j1 at D
  refine Dg rfl D (fun h11 D=>?_) fun h11 D=>?_
  ·refine Ah ?_
   refine Ad (Bb _ _ []) 1 17 Az rfl rfl ?_
   refine Aj ?_
   refine Af fun B=>?_
   refine A1 ?_
   obtain rfl:=oi_ D
   exact Ax [] ⟨rfl,rfl⟩
  ·refine Ap ?_
   repeat first | refine Dc ?_ | refine De ?_
   refine A4 1 9 Az ?_
   refine Aj ?_
   refine Af fun B=>?_
   refine Bp (ι:=Int) (fun (n_2:Int)=>mk [(1,.ptr 0 0),(4,vj n_2)] [(0,.box (Aa.dv v) 30)] 1) (fun (n_2:Int)=>Bc.j2 v n_2=some r) ?_ ?_
   ·refine Ah ?_
    refine Ad (Bb _ _ []) 9 49 B rfl rfl ?_
    refine Aj ?_
    obtain⟨e,he,D⟩:=Ac D
    refine Aj ?_
    refine Bl rfl rfl (Bq Na (A9 B7 (Aw he) (o:=0) (c:=.int .u8 (e.toNat:Int)) rfl rfl)) rfl rfl ?_
    refine Aj ?_
    refine Af fun B=>?_
    refine Dg rfl D (fun h15 D=>?_) fun h15 D=>?_
    ·refine Ad (Bb _ _ []) 49 57 B rfl rfl ?_
     refine Aj ?_
     refine Af fun B=>?_
     exact⟨-1,D,Ay [(0,0)]⟩
    ·refine Ap ?_
     repeat first | refine Dc ?_ | refine De ?_
     exact⟨0,D,Ay [(0,0)]⟩
   ·rintro n_2 D
    replace D:Bc.j2 v n_2=some r:=D
    show B9 _ _ _ _ (mk _ _ _)
    unfold Bc.j2 at D
    refine Ah ?_
    refine A4 1 9 Az ?_
    refine Aj ?_
    refine Af fun B=>?_
    refine Av ?_
    refine Nu (fun ((n_3,i_3):Int×Int)=>mk [(1,.ptr 0 0),(4,vj n_3),(5,vj i_3)] [(0,.box (Aa.dv v) 30)] 1) D (Ay [(0,0)]) ?_
    rintro⟨n_3,i_3⟩ m3 o3 D hn3
    replace D:Bc.l3 v n_3 i_3=some o3:=D
    show B9 _ _ _ _ (mk _ _ _)
    unfold Bc.l3 at D
    refine Ah ?_
    refine A4 1 41 Az ?_
    refine Aj ?_
    refine Af fun B=>?_
    refine Dg rfl D (fun h19 D=>?_) fun h19 D=>?_
    ·refine Ap ?_
     repeat first | refine Dc ?_ | refine De ?_
     refine Ah ?_
     refine Av ?_
     refine Ad (Bb _ _ []) 41 121 B rfl rfl ?_
     refine Aj ?_
     obtain⟨q,hq,D⟩:=Ac D
     refine Bl rfl rfl (dO hq) rfl rfl ?_
     refine Aj ?_
     obtain⟨e_2,he_2,D⟩:=Ac D
     refine Aj ?_
     refine Bl rfl rfl (Bq Na (A9 B7 (Aw he_2) (o:=0) (c:=.int .u8 (e_2.toNat:Int)) rfl rfl)) rfl rfl ?_
     refine Bl rfl rfl (Hk (u:=e_2) Ia Kl) rfl rfl ?_
     refine Bl rfl rfl mJ rfl rfl ?_
     refine Aj ?_
     refine Af fun B=>?_
     refine Ad (Bb _ _ []) 121 145 B rfl rfl ?_
     refine Aj ?_
     refine Af fun B=>?_
     obtain rfl:=oi_ D
     exact⟨((Xq .i64 q (e_2.toNat:Int),W (i_3 + 1)),m3),Nat.lt_succ_self _,hn3,Ay [(0,0)]⟩
    ·refine Cm ?_
     repeat first | refine Dc ?_ | refine De ?_
     replace D:=Dr D hn3
     refine Ah ?_
     refine Ah ?_
     refine C5 (Bb _ _ []) (by kernel_rfl) [0,1,3,7,0,16,48,127] 41 105 B rfl rfl (by kernel_rfl) ?_
     refine Aj ?_
     obtain⟨y,hy,D⟩:=Ac D
     refine Dy (Fc _ _ hy) ?_
     refine Aj ?_
     refine Bl rfl rfl (Pu Qf Ia P9 .sl rfl) rfl rfl ?_
     refine Aj ?_
     refine Bl rfl rfl (Pu Qf Ia P9 .sl rfl) rfl rfl ?_
     refine Aj ?_
     refine Af fun B=>?_
     refine Dg rfl D (fun h23 D=>?_) fun h23 D=>?_
     ·refine Ah ?_
      refine Ad (Bb _ _ []) 105 121 B rfl rfl ?_
      refine Aj ?_
      refine Af fun B=>?_
      refine A1 ?_
      obtain rfl:=oi_ D
      exact Ax [] ⟨rfl,rfl⟩
     ·refine Ap ?_
      repeat first | refine Dc ?_ | refine De ?_
      refine A4 105 129 B ?_
      refine Aj ?_
      refine Af fun B=>?_
      refine A1 ?_
      obtain rfl:=oi_ D
      exact Ax [] ⟨rfl,rfl⟩
end Go.Proofs.YtlfeokjhphpjeaaGreat
