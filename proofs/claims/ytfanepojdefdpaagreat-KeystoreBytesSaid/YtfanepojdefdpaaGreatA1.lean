import Derived.Test.YtfanepojdefdpaaGreatT1
set_option linter.unusedVariables false
set_option linter.unusedSimpArgs false
set_option maxRecDepth 100000
set_option maxHeartbeats 1600000
namespace Go.Proofs.YtfanepojdefdpaaGreat
open Go.RowKit
theorem cB (l:(List Int)) (r:Bool) (D:Mc l=some r):Fn Tryz.prog 5 0 [.sl 1 (An eI l)] [] (fun d' b'=>d'=.val (.bool r)/\b'=[]):=by
 unfold Mc at D
 refine Fn.of Tryz.func5 rfl rfl rfl fun w0 I ρ0=>?_
 show Ca _ ⟨w0,I,ρ0,0,0,6⟩ _ _ _
 refine A6 0 8 Az ?_
 refine Ak ?_
 refine Ai fun B=>?_
 refine A6 8 40 B ?_
 refine Ak ?_
 refine Ai fun B=>?_
 refine A4 ?_
 obtain rfl:=oi_ D
 exact A3 [] ⟨rfl,rfl⟩
theorem Kg (s:ByteArray) (r:Bool) (D:B6 s=some r):Fn Tryz.prog 41 0 [vk s] [] (fun d' b'=>d'=.val (.bool r)/\b'=[]):=by
 unfold B6 at D
 refine Fn.of Tryz.func41 rfl rfl rfl fun w0 I ρ0=>?_
 show Ca _ ⟨w0,I,ρ0,0,0,27⟩ _ _ _
 refine A6 0 8 Az ?_
 refine Ak ?_
 refine Ai fun B=>?_
 refine Ah ?_
 refine A6 8 40 B ?_
 refine Ak ?_
 refine Bj rfl rfl (lG Rc Tl Ku) rfl rfl ?_
 refine Ak ?_
 refine Ai fun B=>?_
 refine Au ?_
 refine Lu (fun (x8_1:Int)=>mk [(0,vk s),(6,.sl 1 (An e8 (J7 s))),(7,.val (.int .i64 ((J7 s).length:Int))),(8,vj x8_1)] [] 0) D (Ay []) ?_
 rintro x8_1 m1 o1 D hn1
 replace D:B6.l1 s x8_1=some o1:=D
 show Ca _ _ _ _ (mk _ _ _)
 unfold B6.l1 at D
 refine A6 0 8 Az ?_
 refine Ak ?_
 refine Ai fun B=>?_
 refine Ah ?_
 refine Dh rfl D (fun h4 D=>?_) fun h4 D=>?_
 ·refine Ao ?_
  repeat first | refine Cw ?_ | refine Cy ?_
  refine Ah ?_
  refine Au ?_
  refine A6 8 32 B ?_
  obtain⟨e,he,D⟩:=Ae D
  refine Ak ?_
  refine Bj rfl rfl (Bl N8 (Bf B5 (Aq he) (o:=0) (c:=.int .u8 (e.toNat:Int)) rfl rfl)) rfl rfl ?_
  refine Ak ?_
  refine Ai fun B=>?_
  refine Bm (ι:=Bool) (fun (x17_2:Bool)=>mk [(0,vk s),(6,.sl 1 (An e8 (J7 s))),(7,.val (.int .i64 ((J7 s).length:Int))),(8,vj x8_1),(17,.val (.bool x17_2))] [] 0) (fun (x17_2:Bool)=>B6.j2 x8_1 x17_2=some o1) ?_ ?_
  ·refine Af (Bi _ _ []) 32 80 B rfl rfl ?_
   refine Ak ?_
   rcases Eb D with ⟨h6,D⟩ | ⟨h6,D⟩
   ·refine Ak ?_
    refine Ai fun B=>?_
    exact⟨true,D,Ay []⟩
   ·refine Ak ?_
    refine Ai fun B=>?_
    exact⟨decide (126 < (e.toNat:Int)),D,Ay []⟩
  ·rintro x17_2 D
   replace D:B6.j2 x8_1 x17_2=some o1:=D
   show Ca _ _ _ _ (mk _ _ _)
   unfold B6.j2 at D
   refine Dh rfl D (fun h9 D=>?_) fun h9 D=>?_
   ·refine Ah ?_
    refine Af (Bi _ _ []) 0 8 Az rfl rfl ?_
    refine Ak ?_
    refine Ai fun B=>?_
    refine A4 ?_
    replace D:=C5 D hn1
    obtain rfl:=oi_ D
    exact A3 [] ⟨rfl,rfl⟩
   ·refine Ao ?_
    repeat first | refine Cw ?_ | refine Cy ?_
    refine Af (Bi _ _ []) 0 16 Az rfl rfl ?_
    refine Ak ?_
    refine Ai fun B=>?_
    obtain rfl:=oi_ D
    exact⟨(W (x8_1 + 1),m1),aDn _,hn1,Ay []⟩
 ·refine B8 ?_
  repeat first | refine Cw ?_ | refine Cy ?_
  replace D:=C5 D hn1
  refine A6 8 80 B ?_
  refine Ak ?_
  refine Bj rfl rfl (Xg Rc) rfl rfl ?_
  refine Ak ?_
  rcases Eb D with ⟨h12,D⟩ | ⟨h12,D⟩
  ·refine Ak ?_
   refine Bj (Cj rfl rfl h12) rfl (Xg Rc) rfl rfl ?_
   refine Ak ?_
   refine Ai fun B=>?_
   refine A4 ?_
   obtain rfl:=oi_ D
   exact A3 [] ⟨rfl,rfl⟩
  ·refine Ak ?_
   refine Ai fun B=>?_
   refine A4 ?_
   obtain rfl:=oi_ D
   exact A3 [] ⟨rfl,rfl⟩
theorem Yg  (r:(List Bt)) (D:Mw=some r):Fn Tryz.prog 166 0 [] [] (fun d' b'=>d'=.agg [.val (.string ((r[0]!).name)),.val (.int .i64 ((r[0]!).kind)),.val (.int .i64 ((r[0]!).way)),.sl 1 (An eI ((r[0]!).sizes)),.sl 1 (An eI ((r[0]!).strengths)),.val (.string ((r[1]!).name)),.val (.int .i64 ((r[1]!).kind)),.val (.int .i64 ((r[1]!).way)),.sl 1 (An eI ((r[1]!).sizes)),.sl 1 (An eI ((r[1]!).strengths)),.val (.string ((r[2]!).name)),.val (.int .i64 ((r[2]!).kind)),.val (.int .i64 ((r[2]!).way)),.sl 1 (An eI ((r[2]!).sizes)),.sl 1 (An eI ((r[2]!).strengths)),.val (.string ((r[3]!).name)),.val (.int .i64 ((r[3]!).kind)),.val (.int .i64 ((r[3]!).way)),.sl 1 (An eI ((r[3]!).sizes)),.sl 1 (An eI ((r[3]!).strengths)),.val (.string ((r[4]!).name)),.val (.int .i64 ((r[4]!).kind)),.val (.int .i64 ((r[4]!).way)),.sl 1 (An eI ((r[4]!).sizes)),.sl 1 (An eI ((r[4]!).strengths)),.val (.string ((r[5]!).name)),.val (.int .i64 ((r[5]!).kind)),.val (.int .i64 ((r[5]!).way)),.sl 1 (An eI ((r[5]!).sizes)),.sl 1 (An eI ((r[5]!).strengths)),.val (.string ((r[6]!).name)),.val (.int .i64 ((r[6]!).kind)),.val (.int .i64 ((r[6]!).way)),.sl 1 (An eI ((r[6]!).sizes)),.sl 1 (An eI ((r[6]!).strengths)),.val (.string ((r[7]!).name)),.val (.int .i64 ((r[7]!).kind)),.val (.int .i64 ((r[7]!).way)),.sl 1 (An eI ((r[7]!).sizes)),.sl 1 (An eI ((r[7]!).strengths)),.val (.string ((r[8]!).name)),.val (.int .i64 ((r[8]!).kind)),.val (.int .i64 ((r[8]!).way)),.sl 1 (An eI ((r[8]!).sizes)),.sl 1 (An eI ((r[8]!).strengths)),.val (.string ((r[9]!).name)),.val (.int .i64 ((r[9]!).kind)),.val (.int .i64 ((r[9]!).way)),.sl 1 (An eI ((r[9]!).sizes)),.sl 1 (An eI ((r[9]!).strengths)),.val (.string ((r[10]!).name)),.val (.int .i64 ((r[10]!).kind)),.val (.int .i64 ((r[10]!).way)),.sl 1 (An eI ((r[10]!).sizes)),.sl 1 (An eI ((r[10]!).strengths)),.val (.string ((r[11]!).name)),.val (.int .i64 ((r[11]!).kind)),.val (.int .i64 ((r[11]!).way)),.sl 1 (An eI ((r[11]!).sizes)),.sl 1 (An eI ((r[11]!).strengths)),.val (.string ((r[12]!).name)),.val (.int .i64 ((r[12]!).kind)),.val (.int .i64 ((r[12]!).way)),.sl 1 (An eI ((r[12]!).sizes)),.sl 1 (An eI ((r[12]!).strengths)),.val (.string ((r[13]!).name)),.val (.int .i64 ((r[13]!).kind)),.val (.int .i64 ((r[13]!).way)),.sl 1 (An eI ((r[13]!).sizes)),.sl 1 (An eI ((r[13]!).strengths)),.val (.string ((r[14]!).name)),.val (.int .i64 ((r[14]!).kind)),.val (.int .i64 ((r[14]!).way)),.sl 1 (An eI ((r[14]!).sizes)),.sl 1 (An eI ((r[14]!).strengths)),.val (.string ((r[15]!).name)),.val (.int .i64 ((r[15]!).kind)),.val (.int .i64 ((r[15]!).way)),.sl 1 (An eI ((r[15]!).sizes)),.sl 1 (An eI ((r[15]!).strengths)),.val (.string ((r[16]!).name)),.val (.int .i64 ((r[16]!).kind)),.val (.int .i64 ((r[16]!).way)),.sl 1 (An eI ((r[16]!).sizes)),.sl 1 (An eI ((r[16]!).strengths)),.val (.string ((r[17]!).name)),.val (.int .i64 ((r[17]!).kind)),.val (.int .i64 ((r[17]!).way)),.sl 1 (An eI ((r[17]!).sizes)),.sl 1 (An eI ((r[17]!).strengths)),.val (.string ((r[18]!).name)),.val (.int .i64 ((r[18]!).kind)),.val (.int .i64 ((r[18]!).way)),.sl 1 (An eI ((r[18]!).sizes)),.sl 1 (An eI ((r[18]!).strengths)),.val (.string ((r[19]!).name)),.val (.int .i64 ((r[19]!).kind)),.val (.int .i64 ((r[19]!).way)),.sl 1 (An eI ((r[19]!).sizes)),.sl 1 (An eI ((r[19]!).strengths)),.val (.string ((r[20]!).name)),.val (.int .i64 ((r[20]!).kind)),.val (.int .i64 ((r[20]!).way)),.sl 1 (An eI ((r[20]!).sizes)),.sl 1 (An eI ((r[20]!).strengths)),.val (.string ((r[21]!).name)),.val (.int .i64 ((r[21]!).kind)),.val (.int .i64 ((r[21]!).way)),.sl 1 (An eI ((r[21]!).sizes)),.sl 1 (An eI ((r[21]!).strengths)),.val (.string ((r[22]!).name)),.val (.int .i64 ((r[22]!).kind)),.val (.int .i64 ((r[22]!).way)),.sl 1 (An eI ((r[22]!).sizes)),.sl 1 (An eI ((r[22]!).strengths))]/\b'=[]):=by
 unfold Mw at D
 refine Fn.of Tryz.func166 rfl rfl rfl fun w0 I ρ0=>?_
 show Ca _ ⟨w0,I,ρ0,0,0,46⟩ _ _ _
 refine A6 0 8 Az ?_
 refine Ak ?_
 refine Ai fun B=>?_
 refine A6 8 376 B ?_
 refine Bj rfl rfl (As Hf z3 (by decide) rfl rfl rfl rfl Mm (cs:=[.int .i64 18]) (.cons .int .nil) rfl (l:=([18]:List Int)) (f:=eI) rfl) rfl rfl ?_
 refine Bj rfl rfl (.build (r:=[.val (.string (⟨#[109,100,53]⟩:ByteArray)),.val (.int .i64 1),.val (.int .i64 0),.val (.slice none 0 0),.row 8]) Gn Jn Mg (by kernel_rfl) rfl) rfl rfl ?_
 refine Bj rfl rfl (As Hf z3 (by decide) rfl rfl rfl rfl Mm (cs:=[.int .i64 60]) (.cons .int .nil) rfl (l:=([60]:List Int)) (f:=eI) rfl) rfl rfl ?_
 refine Bj rfl rfl (.build (r:=[.val (.string (⟨#[115,104,97,49]⟩:ByteArray)),.val (.int .i64 1),.val (.int .i64 0),.val (.slice none 0 0),.row 24]) Gn Jn Mg (by kernel_rfl) rfl) rfl rfl ?_
 refine Bj rfl rfl (As Hf z3 (by decide) rfl rfl rfl rfl Mm (cs:=[.int .i64 128]) (.cons .int .nil) rfl (l:=([128]:List Int)) (f:=eI) rfl) rfl rfl ?_
 refine Bj rfl rfl (.build (r:=[.val (.string (⟨#[115,104,97,50,53,54]⟩:ByteArray)),.val (.int .i64 1),.val (.int .i64 0),.val (.slice none 0 0),.row 40]) Gn Jn Mg (by kernel_rfl) rfl) rfl rfl ?_
 refine Bj rfl rfl (As Hf z3 (by decide) rfl rfl rfl rfl Mm (cs:=[.int .i64 192]) (.cons .int .nil) rfl (l:=([192]:List Int)) (f:=eI) rfl) rfl rfl ?_
 refine Bj rfl rfl (.build (r:=[.val (.string (⟨#[115,104,97,51,56,52]⟩:ByteArray)),.val (.int .i64 1),.val (.int .i64 0),.val (.slice none 0 0),.row 56]) Gn Jn Mg (by kernel_rfl) rfl) rfl rfl ?_
 refine Bj rfl rfl (.build (r:=[.val (.string (⟨#[114,115,97]⟩:ByteArray)),.val (.int .i64 2),.val (.int .i64 1),.val (.slice none 0 0),.val (.slice none 0 0)]) Gn Jn Mg (by kernel_rfl) rfl) rfl rfl ?_
 refine Bj rfl rfl (.build (r:=[.val (.string (⟨#[100,115,97]⟩:ByteArray)),.val (.int .i64 2),.val (.int .i64 1),.val (.slice none 0 0),.val (.slice none 0 0)]) Gn Jn Mg (by kernel_rfl) rfl) rfl rfl ?_
 refine Bj rfl rfl (.build (r:=[.val (.string (⟨#[101,99,100,115,97]⟩:ByteArray)),.val (.int .i64 2),.val (.int .i64 2),.val (.slice none 0 0),.val (.slice none 0 0)]) Gn Jn Mg (by kernel_rfl) rfl) rfl rfl ?_
 refine Bj rfl rfl (As Hf z3 (by decide) rfl rfl rfl rfl Mm (cs:=[.int .i64 128]) (.cons .int .nil) rfl (l:=([128]:List Int)) (f:=eI) rfl) rfl rfl ?_
 refine Bj rfl rfl (.build (r:=[.val (.string (⟨#[101,100,50,53,53,49,57]⟩:ByteArray)),.val (.int .i64 2),.val (.int .i64 0),.val (.slice none 0 0),.row 96]) Gn Jn Mg (by kernel_rfl) rfl) rfl rfl ?_
 refine Bj rfl rfl (As Hf z3 (by decide) rfl rfl rfl rfl Mm (cs:=[.int .i64 44,.int .i64 65,.int .i64 87]) (.cons .int (.cons .int (.cons .int .nil))) rfl (l:=([44,65,87]:List Int)) (f:=eI) rfl) rfl rfl ?_
 refine Bj rfl rfl (As Hf z3 (by decide) rfl rfl rfl rfl Mm (cs:=[.int .i64 128,.int .i64 192,.int .i64 256]) (.cons .int (.cons .int (.cons .int .nil))) rfl (l:=([128,192,256]:List Int)) (f:=eI) rfl) rfl rfl ?_
 refine Bj rfl rfl (.build (r:=[.val (.string (⟨#[109,108,100,115,97]⟩:ByteArray)),.val (.int .i64 2),.val (.int .i64 3),.row 112,.row 120]) Gn Jn Mg (by kernel_rfl) rfl) rfl rfl ?_
 refine Bj rfl rfl (.build (r:=[.val (.string (⟨#[114,115,97,107,120]⟩:ByteArray)),.val (.int .i64 3),.val (.int .i64 1),.val (.slice none 0 0),.val (.slice none 0 0)]) Gn Jn Mg (by kernel_rfl) rfl) rfl rfl ?_
 refine Bj rfl rfl (.build (r:=[.val (.string (⟨#[100,104,101]⟩:ByteArray)),.val (.int .i64 3),.val (.int .i64 1),.val (.slice none 0 0),.val (.slice none 0 0)]) Gn Jn Mg (by kernel_rfl) rfl) rfl rfl ?_
 refine Bj rfl rfl (.build (r:=[.val (.string (⟨#[101,99,100,104,101]⟩:ByteArray)),.val (.int .i64 3),.val (.int .i64 2),.val (.slice none 0 0),.val (.slice none 0 0)]) Gn Jn Mg (by kernel_rfl) rfl) rfl rfl ?_
 refine Bj rfl rfl (As Hf z3 (by decide) rfl rfl rfl rfl Mm (cs:=[.int .i64 512,.int .i64 768,.int .i64 1024]) (.cons .int (.cons .int (.cons .int .nil))) rfl (l:=([512,768,1024]:List Int)) (f:=eI) rfl) rfl rfl ?_
 refine Bj rfl rfl (As Hf z3 (by decide) rfl rfl rfl rfl Mm (cs:=[.int .i64 128,.int .i64 192,.int .i64 256]) (.cons .int (.cons .int (.cons .int .nil))) rfl (l:=([128,192,256]:List Int)) (f:=eI) rfl) rfl rfl ?_
 refine Bj rfl rfl (.build (r:=[.val (.string (⟨#[109,108,107,101,109]⟩:ByteArray)),.val (.int .i64 3),.val (.int .i64 3),.row 160,.row 168]) Gn Jn Mg (by kernel_rfl) rfl) rfl rfl ?_
 refine Bj rfl rfl (As Hf z3 (by decide) rfl rfl rfl rfl Mm (cs:=[.int .i64 40,.int .i64 128]) (.cons .int (.cons .int .nil)) rfl (l:=([40,128]:List Int)) (f:=eI) rfl) rfl rfl ?_
 refine Bj rfl rfl (As Hf z3 (by decide) rfl rfl rfl rfl Mm (cs:=[.int .i64 40,.int .i64 60]) (.cons .int (.cons .int .nil)) rfl (l:=([40,60]:List Int)) (f:=eI) rfl) rfl rfl ?_
 refine Bj rfl rfl (.build (r:=[.val (.string (⟨#[114,99,52]⟩:ByteArray)),.val (.int .i64 4),.val (.int .i64 3),.row 184,.row 192]) Gn Jn Mg (by kernel_rfl) rfl) rfl rfl ?_
 refine Bj rfl rfl (As Hf z3 (by decide) rfl rfl rfl rfl Mm (cs:=[.int .i64 112,.int .i64 168]) (.cons .int (.cons .int .nil)) rfl (l:=([112,168]:List Int)) (f:=eI) rfl) rfl rfl ?_
 refine Bj rfl rfl (As Hf z3 (by decide) rfl rfl rfl rfl Mm (cs:=[.int .i64 80,.int .i64 112]) (.cons .int (.cons .int .nil)) rfl (l:=([80,112]:List Int)) (f:=eI) rfl) rfl rfl ?_
 refine Bj rfl rfl (.build (r:=[.val (.string (⟨#[100,101,115,51]⟩:ByteArray)),.val (.int .i64 4),.val (.int .i64 3),.row 208,.row 216]) Gn Jn Mg (by kernel_rfl) rfl) rfl rfl ?_
 refine Bj rfl rfl (As Hf z3 (by decide) rfl rfl rfl rfl Mm (cs:=[.int .i64 128,.int .i64 256]) (.cons .int (.cons .int .nil)) rfl (l:=([128,256]:List Int)) (f:=eI) rfl) rfl rfl ?_
 refine Bj rfl rfl (As Hf z3 (by decide) rfl rfl rfl rfl Mm (cs:=[.int .i64 128,.int .i64 256]) (.cons .int (.cons .int .nil)) rfl (l:=([128,256]:List Int)) (f:=eI) rfl) rfl rfl ?_
 refine Bj rfl rfl (.build (r:=[.val (.string (⟨#[97,101,115,99,98,99]⟩:ByteArray)),.val (.int .i64 4),.val (.int .i64 3),.row 232,.row 240]) Gn Jn Mg (by kernel_rfl) rfl) rfl rfl ?_
 refine Bj rfl rfl (As Hf z3 (by decide) rfl rfl rfl rfl Mm (cs:=[.int .i64 128,.int .i64 256]) (.cons .int (.cons .int .nil)) rfl (l:=([128,256]:List Int)) (f:=eI) rfl) rfl rfl ?_
 refine Bj rfl rfl (As Hf z3 (by decide) rfl rfl rfl rfl Mm (cs:=[.int .i64 128,.int .i64 256]) (.cons .int (.cons .int .nil)) rfl (l:=([128,256]:List Int)) (f:=eI) rfl) rfl rfl ?_
 refine Bj rfl rfl (.build (r:=[.val (.string (⟨#[97,101,115,103,99,109]⟩:ByteArray)),.val (.int .i64 4),.val (.int .i64 3),.row 256,.row 264]) Gn Jn Mg (by kernel_rfl) rfl) rfl rfl ?_
 refine Bj rfl rfl (As Hf z3 (by decide) rfl rfl rfl rfl Mm (cs:=[.int .i64 256]) (.cons .int .nil) rfl (l:=([256]:List Int)) (f:=eI) rfl) rfl rfl ?_
 refine Bj rfl rfl (.build (r:=[.val (.string (⟨#[99,104,97,99,104,97]⟩:ByteArray)),.val (.int .i64 4),.val (.int .i64 0),.val (.slice none 0 0),.row 280]) Gn Jn Mg (by kernel_rfl) rfl) rfl rfl ?_
 refine Bj rfl rfl (As Hf z3 (by decide) rfl rfl rfl rfl Mm (cs:=[.int .i64 64]) (.cons .int .nil) rfl (l:=([64]:List Int)) (f:=eI) rfl) rfl rfl ?_
 refine Bj rfl rfl (.build (r:=[.val (.string (⟨#[104,109,97,99,109,100,53]⟩:ByteArray)),.val (.int .i64 5),.val (.int .i64 0),.val (.slice none 0 0),.row 296]) Gn Jn Mg (by kernel_rfl) rfl) rfl rfl ?_
 refine Bj rfl rfl (As Hf z3 (by decide) rfl rfl rfl rfl Mm (cs:=[.int .i64 80]) (.cons .int .nil) rfl (l:=([80]:List Int)) (f:=eI) rfl) rfl rfl ?_
 refine Bj rfl rfl (.build (r:=[.val (.string (⟨#[104,109,97,99,115,104,97,49]⟩:ByteArray)),.val (.int .i64 5),.val (.int .i64 0),.val (.slice none 0 0),.row 312]) Gn Jn Mg (by kernel_rfl) rfl) rfl rfl ?_
 refine Bj rfl rfl (As Hf z3 (by decide) rfl rfl rfl rfl Mm (cs:=[.int .i64 128]) (.cons .int .nil) rfl (l:=([128]:List Int)) (f:=eI) rfl) rfl rfl ?_
 refine Bj rfl rfl (.build (r:=[.val (.string (⟨#[104,109,97,99,115,104,97,50,53,54]⟩:ByteArray)),.val (.int .i64 5),.val (.int .i64 0),.val (.slice none 0 0),.row 328]) Gn Jn Mg (by kernel_rfl) rfl) rfl rfl ?_
 refine Bj rfl rfl (As Hf z3 (by decide) rfl rfl rfl rfl Mm (cs:=[.int .i64 256]) (.cons .int .nil) rfl (l:=([256]:List Int)) (f:=eI) rfl) rfl rfl ?_
 refine Bj rfl rfl (.build (r:=[.val (.string (⟨#[97,101,97,100]⟩:ByteArray)),.val (.int .i64 5),.val (.int .i64 0),.val (.slice none 0 0),.row 344]) Gn Jn Mg (by kernel_rfl) rfl) rfl rfl ?_
 refine Bj rfl rfl (.buildArr (sz:=5) (r:=[.val (.string (⟨#[]⟩:ByteArray)),.val (.int .i64 0),.val (.int .i64 0),.val (.slice none 0 0),.val (.slice none 0 0),.val (.string (⟨#[109,100,53]⟩:ByteArray)),.val (.int .i64 1),.val (.int .i64 0),.val (.slice none 0 0),.row 8,.val (.string (⟨#[115,104,97,49]⟩:ByteArray)),.val (.int .i64 1),.val (.int .i64 0),.val (.slice none 0 0),.row 24,.val (.string (⟨#[115,104,97,50,53,54]⟩:ByteArray)),.val (.int .i64 1),.val (.int .i64 0),.val (.slice none 0 0),.row 40,.val (.string (⟨#[115,104,97,51,56,52]⟩:ByteArray)),.val (.int .i64 1),.val (.int .i64 0),.val (.slice none 0 0),.row 56,.val (.string (⟨#[114,115,97]⟩:ByteArray)),.val (.int .i64 2),.val (.int .i64 1),.val (.slice none 0 0),.val (.slice none 0 0),.val (.string (⟨#[100,115,97]⟩:ByteArray)),.val (.int .i64 2),.val (.int .i64 1),.val (.slice none 0 0),.val (.slice none 0 0),.val (.string (⟨#[101,99,100,115,97]⟩:ByteArray)),.val (.int .i64 2),.val (.int .i64 2),.val (.slice none 0 0),.val (.slice none 0 0),.val (.string (⟨#[101,100,50,53,53,49,57]⟩:ByteArray)),.val (.int .i64 2),.val (.int .i64 0),.val (.slice none 0 0),.row 96,.val (.string (⟨#[109,108,100,115,97]⟩:ByteArray)),.val (.int .i64 2),.val (.int .i64 3),.row 112,.row 120,.val (.string (⟨#[114,115,97,107,120]⟩:ByteArray)),.val (.int .i64 3),.val (.int .i64 1),.val (.slice none 0 0),.val (.slice none 0 0),.val (.string (⟨#[100,104,101]⟩:ByteArray)),.val (.int .i64 3),.val (.int .i64 1),.val (.slice none 0 0),.val (.slice none 0 0),.val (.string (⟨#[101,99,100,104,101]⟩:ByteArray)),.val (.int .i64 3),.val (.int .i64 2),.val (.slice none 0 0),.val (.slice none 0 0),.val (.string (⟨#[109,108,107,101,109]⟩:ByteArray)),.val (.int .i64 3),.val (.int .i64 3),.row 160,.row 168,.val (.string (⟨#[114,99,52]⟩:ByteArray)),.val (.int .i64 4),.val (.int .i64 3),.row 184,.row 192,.val (.string (⟨#[100,101,115,51]⟩:ByteArray)),.val (.int .i64 4),.val (.int .i64 3),.row 208,.row 216,.val (.string (⟨#[97,101,115,99,98,99]⟩:ByteArray)),.val (.int .i64 4),.val (.int .i64 3),.row 232,.row 240,.val (.string (⟨#[97,101,115,103,99,109]⟩:ByteArray)),.val (.int .i64 4),.val (.int .i64 3),.row 256,.row 264,.val (.string (⟨#[99,104,97,99,104,97]⟩:ByteArray)),.val (.int .i64 4),.val (.int .i64 0),.val (.slice none 0 0),.row 280,.val (.string (⟨#[104,109,97,99,109,100,53]⟩:ByteArray)),.val (.int .i64 5),.val (.int .i64 0),.val (.slice none 0 0),.row 296,.val (.string (⟨#[104,109,97,99,115,104,97,49]⟩:ByteArray)),.val (.int .i64 5),.val (.int .i64 0),.val (.slice none 0 0),.row 312,.val (.string (⟨#[104,109,97,99,115,104,97,50,53,54]⟩:ByteArray)),.val (.int .i64 5),.val (.int .i64 0),.val (.slice none 0 0),.row 328,.val (.string (⟨#[97,101,97,100]⟩:ByteArray)),.val (.int .i64 5),.val (.int .i64 0),.val (.slice none 0 0),.row 344]) sD (by kernel_rfl) aCv (by kernel_rfl) rfl) rfl rfl ?_
 refine Ak ?_
 refine Ai fun B=>?_
 refine A4 ?_
 obtain rfl:=oi_ D
 exact A3 [] ⟨rfl,rfl⟩
theorem T1 (alg:Int) (r:Bt×Bool) (D:Eg alg=some r):Fn Tryz.prog 134 0 [vj alg] [] (fun d' b'=>d'=.tup [.agg (Bt.dv r.1),.val (.bool r.2)]/\b'=[]):=by
 unfold Eg at D
 refine Fn.of Tryz.func134 rfl rfl rfl fun w0 I ρ0=>?_
 show Ca _ ⟨w0,I,ρ0,0,0,14⟩ _ _ _
 refine A6 0 16 Az ?_
 refine Ak ?_
 refine Ai fun B=>?_
 refine Ah ?_
 refine Bm (ι:=Bool) (fun (x9_1:Bool)=>mk [(0,vj alg),(2,.ptr 0 0),(9,.val (.bool x9_1))] [(0,.box [.val (.string (⟨#[]⟩:ByteArray)),.val (.int .i64 0),.val (.int .i64 0),.val (.slice none 0 0),.val (.slice none 0 0)] 158)] 1) (fun (x9_1:Bool)=>Eg.j1 alg x9_1=some r) ?_ ?_
 ·refine Af (Bi _ _ []) 16 64 B rfl rfl ?_
  refine Ak ?_
  rcases Eb D with ⟨h2,D⟩ | ⟨h2,D⟩
  ·refine Ak ?_
   refine Ai fun B=>?_
   exact⟨true,D,Ay [(0,0)]⟩
  ·refine Ak ?_
   refine Ai fun B=>?_
   exact⟨decide (22 < alg),D,Ay [(0,0)]⟩
 ·rintro x9_1 D
  replace D:Eg.j1 alg x9_1=some r:=D
  show Ca _ _ _ _ (mk _ _ _)
  unfold Eg.j1 at D
  refine Dh rfl D (fun h5 D=>?_) fun h5 D=>?_
  ·refine Ah ?_
   refine Af (Bi _ _ []) 1 25 Az rfl rfl ?_
   refine Bj rfl rfl (.build (r:=[.val (.string (⟨#[]⟩:ByteArray)),.val (.int .i64 0),.val (.int .i64 0),.val (.slice none 0 0),.val (.slice none 0 0)]) Gn Jn Mg (by kernel_rfl) rfl) rfl rfl ?_
   refine Ak ?_
   refine Ai fun B=>?_
   refine A4 ?_
   obtain rfl:=oi_ D
   exact A3 [] ⟨rfl,rfl⟩
  ·refine Ao ?_
   repeat first | refine Cw ?_ | refine Cy ?_
   refine A6 1 41 Az ?_
   obtain⟨y,hy,D⟩:=Ae D
   refine Ek (Yg _ hy) ?_
   refine Ak ?_
   obtain⟨e,he,D⟩:=Ae D
   refine Bj rfl rfl (Zv (f:=Bt.enc) (L:=(aC1 23 y)) sD wH Bt.enc_len rfl rfl he (d2:=[vk e.name,vj e.kind,vj e.way,.sl 1 (An eI e.sizes),.sl 1 (An eI e.strengths)]) rfl) rfl rfl ?_
   refine Ak ?_
   refine Ai fun B=>?_
   refine A4 ?_
   obtain rfl:=oi_ D
   exact A3 [] ⟨rfl,rfl⟩
theorem Ta (bits:Int) (r:Int) (D:C7 bits=some r):Fn Tryz.prog 163 0 [vj bits] [] (fun d' b'=>d'=vj r/\b'=[]):=by
 unfold C7 at D
 refine Fn.of Tryz.func163 rfl rfl rfl fun w0 I ρ0=>?_
 show Ca _ ⟨w0,I,ρ0,0,0,21⟩ _ _ _
 refine A6 0 8 Az ?_
 refine Ak ?_
 refine Ai fun B=>?_
 refine Ah ?_
 refine A6 8 64 B ?_
 refine Bj rfl rfl (.buildArr (sz:=1) (r:=[.val (.int .i64 1024),.val (.int .i64 56)]) Se (by kernel_rfl) nJ (by kernel_rfl) rfl) rfl rfl ?_
 refine Bj rfl rfl (.buildArr (sz:=1) (r:=[.val (.int .i64 2048),.val (.int .i64 80)]) Se (by kernel_rfl) nJ (by kernel_rfl) rfl) rfl rfl ?_
 refine Bj rfl rfl (.buildArr (sz:=1) (r:=[.val (.int .i64 3072),.val (.int .i64 112)]) Se (by kernel_rfl) nJ (by kernel_rfl) rfl) rfl rfl ?_
 refine Bj rfl rfl (.buildArr (sz:=1) (r:=[.val (.int .i64 7680),.val (.int .i64 128)]) Se (by kernel_rfl) nJ (by kernel_rfl) rfl) rfl rfl ?_
 refine Bj rfl rfl (.buildArr (sz:=1) (r:=[.val (.int .i64 15360),.val (.int .i64 192)]) Se (by kernel_rfl) nJ (by kernel_rfl) rfl) rfl rfl ?_
 refine Bj rfl rfl (.buildArr (sz:=2) (r:=[.val (.int .i64 1024),.val (.int .i64 56),.val (.int .i64 2048),.val (.int .i64 80),.val (.int .i64 3072),.val (.int .i64 112),.val (.int .i64 7680),.val (.int .i64 128),.val (.int .i64 15360),.val (.int .i64 192)]) rV (by kernel_rfl) aCw (by kernel_rfl) rfl) rfl rfl ?_
 refine Ak ?_
 refine Ai fun B=>?_
 refine Au ?_
 refine Lu (fun (x11_1:Int)=>mk [(0,vj bits),(10,.agg [.val (.int .i64 1024),.val (.int .i64 56),.val (.int .i64 2048),.val (.int .i64 80),.val (.int .i64 3072),.val (.int .i64 112),.val (.int .i64 7680),.val (.int .i64 128),.val (.int .i64 15360),.val (.int .i64 192)]),(11,vj x11_1)] [] 0) D (Ay []) ?_
 rintro x11_1 m1 o1 D hn1
 replace D:C7.l1 bits x11_1=some o1:=D
 show Ca _ _ _ _ (mk _ _ _)
 unfold C7.l1 at D
 refine A6 0 8 Az ?_
 refine Ak ?_
 refine Ai fun B=>?_
 refine Ah ?_
 refine Dh rfl D (fun h4 D=>?_) fun h4 D=>?_
 ·refine Ao ?_
  repeat first | refine Cw ?_ | refine Cy ?_
  refine Ah ?_
  refine Au ?_
  refine A6 8 32 B ?_
  obtain⟨e,he,D⟩:=Ae D
  refine Bj rfl rfl (Zv (f:=(eA 2 eI)) (L:=([([1024,56]:List Int),([2048,80]:List Int),([3072,112]:List Int),([7680,128]:List Int),([15360,192]:List Int)]:List (List Int))) rV wQ (aA3 Nt) rfl rfl he (d2:=[.val (.int .i64 (e[0]!)),.val (.int .i64 (e[1]!))]) rfl) rfl rfl ?_
  refine Ak ?_
  refine Ai fun B=>?_
  refine A6 32 64 B ?_
  refine Ak ?_
  refine Ff (rd:=[16]) rfl rfl (.idxA (j:=0) Se Wz rfl (by decide)) rfl rfl ?_
  refine Ak ?_
  refine Ai fun B=>?_
  refine Dh rfl D (fun h7 D=>?_) fun h7 D=>?_
  ·refine Ah ?_
   refine Af (Bi _ _ []) 64 88 B rfl rfl ?_
   refine Ff (rd:=[16]) rfl rfl (.idxA (j:=1) Se Wz rfl (by decide)) rfl rfl ?_
   refine Ak ?_
   refine Ai fun B=>?_
   refine A4 ?_
   replace D:=C5 D hn1
   obtain rfl:=oi_ D
   exact A3 [] ⟨rfl,rfl⟩
  ·refine Ao ?_
   repeat first | refine Cw ?_ | refine Cy ?_
   refine Af (Bi _ _ []) 64 80 B rfl rfl ?_
   refine Ak ?_
   refine Ai fun B=>?_
   obtain rfl:=oi_ D
   exact⟨(W (x11_1 + 1),m1),aDn _,hn1,Ay []⟩
 ·refine B8 ?_
  repeat first | refine Cw ?_ | refine Cy ?_
  replace D:=C5 D hn1
  refine A6 8 16 B ?_
  refine Ak ?_
  refine Ai fun B=>?_
  refine A4 ?_
  obtain rfl:=oi_ D
  exact A3 [] ⟨rfl,rfl⟩
theorem Mt (s:(List Int)) (v:Int) (r:Int) (D:B0 s v=some r):Fn Tryz.prog 165 0 [.sl 1 (An eI s),vj v] [] (fun d' b'=>d'=vj r/\b'=[]):=by
 unfold B0 at D
 refine Fn.of Tryz.func165 rfl rfl rfl fun w0 I ρ0=>?_
 show Ca _ ⟨w0,I,ρ0,0,0,19⟩ _ _ _
 refine A6 0 8 Az ?_
 refine Ak ?_
 refine Ai fun B=>?_
 refine Ah ?_
 refine A6 8 32 B ?_
 refine Ak ?_
 refine Ai fun B=>?_
 refine Au ?_
 refine Lu (fun (x8_1:Int)=>mk [(0,.sl 1 (An eI s)),(1,vj v),(7,.val (.int .i64 (s.length:Int))),(8,vj x8_1)] [] 0) D (Ay []) ?_
 rintro x8_1 m1 o1 D hn1
 replace D:B0.l1 s v x8_1=some o1:=D
 show Ca _ _ _ _ (mk _ _ _)
 unfold B0.l1 at D
 refine A6 0 8 Az ?_
 refine Ak ?_
 refine Ai fun B=>?_
 refine Ah ?_
 refine Dh rfl D (fun h4 D=>?_) fun h4 D=>?_
 ·refine Ao ?_
  repeat first | refine Cw ?_ | refine Cy ?_
  refine Ah ?_
  refine Au ?_
  refine A6 8 24 B ?_
  refine Ak ?_
  refine Ai fun B=>?_
  refine A6 24 72 B ?_
  refine Ak ?_
  obtain⟨e,he,D⟩:=Ae D
  refine Ak ?_
  refine Bj rfl rfl (Bl Wz (Bf Nt (Aq he) (o:=0) (c:=.int .i64 e) rfl rfl)) rfl rfl ?_
  refine Ak ?_
  refine Ai fun B=>?_
  refine Dh rfl D (fun h7 D=>?_) fun h7 D=>?_
  ·refine Ah ?_
   refine Af (Bi _ _ []) 72 88 B rfl rfl ?_
   refine Ak ?_
   refine Ai fun B=>?_
   refine A4 ?_
   replace D:=C5 D hn1
   obtain rfl:=oi_ D
   exact A3 [] ⟨rfl,rfl⟩
  ·refine Ao ?_
   repeat first | refine Cw ?_ | refine Cy ?_
   refine Af (Bi _ _ []) 72 88 B rfl rfl ?_
   refine Ak ?_
   refine Ai fun B=>?_
   obtain rfl:=oi_ D
   exact⟨(W (x8_1 + 1),m1),aDn _,hn1,Ay []⟩
 ·refine B8 ?_
  repeat first | refine Cw ?_ | refine Cy ?_
  replace D:=C5 D hn1
  refine A6 8 16 B ?_
  refine Ak ?_
  refine Ai fun B=>?_
  refine A4 ?_
  obtain rfl:=oi_ D
  exact A3 [] ⟨rfl,rfl⟩
theorem Pt (s:(List Int)) (v:Int) (r:Bool) (D:Ez s v=some r):Fn Tryz.prog 164 0 [.sl 1 (An eI s),vj v] [] (fun d' b'=>d'=.val (.bool r)/\b'=[]):=by
 unfold Ez at D
 refine Fn.of Tryz.func164 rfl rfl rfl fun w0 I ρ0=>?_
 show Ca _ ⟨w0,I,ρ0,0,0,9⟩ _ _ _
 refine A6 0 8 Az ?_
 refine Ak ?_
 refine Ai fun B=>?_
 refine A6 8 48 B ?_
 refine Ak ?_
 obtain⟨y,hy,D⟩:=Ae D
 refine Ek (Mt _ _ _ hy) ?_
 refine Ak ?_
 refine Ai fun B=>?_
 refine A4 ?_
 obtain rfl:=oi_ D
 exact A3 [] ⟨rfl,rfl⟩
theorem Sh (u:Aw) (r:Int) (D:Ax u=some r):Fn Tryz.prog 133 0 [.agg [vj u.Alg,vj u.Bits]] [] (fun d' b'=>d'=vj r/\b'=[]):=by
 unfold Ax at D
 refine Fn.of Tryz.func133 rfl rfl rfl fun w0 I ρ0=>?_
 show Ca _ ⟨w0,I,ρ0,0,0,61⟩ _ _ _
 refine A6 0 16 Az ?_
 refine Ak ?_
 refine Ai fun B=>?_
 refine A6 16 88 B ?_
 refine Ak ?_
 obtain⟨y,hy,D⟩:=Ae D
 refine Ek (T1 _ _ hy) ?_
 refine Ak ?_
 refine Ai fun B=>?_
 refine Ah ?_
 refine A6 88 104 B ?_
 refine Ak ?_
 refine Ai fun B=>?_
 refine Dh rfl D (fun h4 D=>?_) fun h4 D=>?_
 ·refine Ah ?_
  refine Af (Bi _ _ []) 104 112 B rfl rfl ?_
  refine Ak ?_
  refine Ai fun B=>?_
  refine A4 ?_
  obtain rfl:=oi_ D
  exact A3 [] ⟨rfl,rfl⟩
 ·refine Ao ?_
  repeat first | refine Cw ?_ | refine Cy ?_
  refine Ah ?_
  refine A6 104 120 B ?_
  refine Ak ?_
  refine Ai fun B=>?_
  refine Au ?_
  refine A6 120 136 B ?_
  refine Ak ?_
  refine Ai fun B=>?_
  refine Dh rfl D (fun h8 D=>?_) fun h8 D=>?_
  ·refine Ah ?_
   refine Af (Bi _ _ []) 136 160 B rfl rfl ?_
   refine Ak ?_
   refine Ai fun B=>?_
   refine Dh rfl D (fun h10 D=>?_) fun h10 D=>?_
   ·refine Ah ?_
    refine Af (Bi _ _ []) 160 200 B rfl rfl ?_
    refine Ak ?_
    obtain⟨e,he,D⟩:=Ae D
    refine Ak ?_
    refine Bj rfl rfl (Bl Wz (Bf Nt (Aq he) (o:=0) (c:=.int .i64 e) rfl rfl)) rfl rfl ?_
    refine Ak ?_
    refine Ai fun B=>?_
    refine A4 ?_
    obtain rfl:=oi_ D
    exact A3 [] ⟨rfl,rfl⟩
   ·refine Ao ?_
    repeat first | refine Cw ?_ | refine Cy ?_
    refine A6 160 168 B ?_
    refine Ak ?_
    refine Ai fun B=>?_
    refine A4 ?_
    obtain rfl:=oi_ D
    exact A3 [] ⟨rfl,rfl⟩
  ·refine Ah ?_
   refine Af (Bi _ _ []) 136 152 B rfl rfl ?_
   refine Ak ?_
   refine Ai fun B=>?_
   refine Dh rfl D (fun h13 D=>?_) fun h13 D=>?_
   ·refine Bm (ι:=Bool) (fun (x34_1:Bool)=>mk [(1,.ptr 0 0),(34,.val (.bool x34_1))] [(0,.box [vj u.Alg,vj u.Bits] 37)] 1) (fun (x34_1:Bool)=>Ax.j1 u x34_1=some r) ?_ ?_
    ·refine Af (Bi _ _ []) 152 216 B rfl rfl ?_
     refine Ak ?_
     rcases Eb D with ⟨h14,D⟩ | ⟨h14,D⟩
     ·refine Ak ?_
      refine Ai fun B=>?_
      exact⟨decide (u.Bits<=16384),D,Ay [(0,0)]⟩
     ·refine Ak ?_
      refine Ai fun B=>?_
      exact⟨false,D,Ay [(0,0)]⟩
    ·rintro x34_1 D
     replace D:Ax.j1 u x34_1=some r:=D
     show Ca _ _ _ _ (mk _ _ _)
     unfold Ax.j1 at D
     refine Dh rfl D (fun h17 D=>?_) fun h17 D=>?_
     ·refine Ah ?_
      refine Af (Bi _ _ []) 1 33 Az rfl rfl ?_
      refine Ak ?_
      obtain⟨y_2,hy_2,D⟩:=Ae D
      refine Ek (Ta _ _ hy_2) ?_
      refine Ak ?_
      refine Ai fun B=>?_
      refine A4 ?_
      obtain rfl:=oi_ D
      exact A3 [] ⟨rfl,rfl⟩
     ·refine Ao ?_
      repeat first | refine Cw ?_ | refine Cy ?_
      refine A6 1 9 Az ?_
      refine Ak ?_
      refine Ai fun B=>?_
      refine A4 ?_
      obtain rfl:=oi_ D
      exact A3 [] ⟨rfl,rfl⟩
   ·refine Ah ?_
    refine Af (Bi _ _ []) 152 168 B rfl rfl ?_
    refine Ak ?_
    refine Ai fun B=>?_
    refine Dh rfl D (fun h20 D=>?_) fun h20 D=>?_
    ·refine Ah ?_
     refine Af (Bi _ _ []) 168 200 B rfl rfl ?_
     refine Bj rfl rfl (As Hf z3 (by decide) rfl rfl rfl rfl Mm (cs:=[.int .i64 160,.int .i64 224,.int .i64 256,.int .i64 384,.int .i64 521]) (.cons .int (.cons .int (.cons .int (.cons .int (.cons .int .nil))))) rfl (l:=([160,224,256,384,521]:List Int)) (f:=eI) rfl) rfl rfl ?_
     refine Ak ?_
     obtain⟨y_3,hy_3,D⟩:=Ae D
     refine Hc [168] [] [] true (Pt _ _ _ hy_3) ?_
     refine Ai fun B=>?_
     refine Dh rfl D (fun h22 D=>?_) fun h22 D=>?_
     ·refine Ah ?_
      refine Af (Bi _ _ []) 200 232 B rfl rfl ?_
      refine Ak ?_
      obtain⟨q,hq,D⟩:=Ae D
      refine Bj rfl rfl (aI hq) rfl rfl ?_
      refine Ak ?_
      refine Ai fun B=>?_
      refine A4 ?_
      obtain rfl:=oi_ D
      exact A3 [] ⟨rfl,rfl⟩
     ·refine Ao ?_
      repeat first | refine Cw ?_ | refine Cy ?_
      refine A6 200 208 B ?_
      refine Ak ?_
      refine Ai fun B=>?_
      refine A4 ?_
      obtain rfl:=oi_ D
      exact A3 [] ⟨rfl,rfl⟩
    ·refine Ah ?_
     refine Af (Bi _ _ []) 168 184 B rfl rfl ?_
     refine Ak ?_
     refine Ai fun B=>?_
     refine Dh rfl D (fun h25 D=>?_) fun h25 D=>?_
     ·refine Ah ?_
      refine Af (Bi _ _ []) 184 232 B rfl rfl ?_
      refine Ak ?_
      obtain⟨y_4,hy_4,D⟩:=Ae D
      refine Ek (Mt _ _ _ hy_4) ?_
      refine Ak ?_
      refine Ai fun B=>?_
      refine A6 232 248 B ?_
      refine Ak ?_
      refine Ai fun B=>?_
      refine Dh rfl D (fun h28 D=>?_) fun h28 D=>?_
      ·refine Ah ?_
       refine Af (Bi _ _ []) 248 296 B rfl rfl ?_
       refine Ak ?_
       obtain⟨e_2,he_2,D⟩:=Ae D
       refine Ak ?_
       refine Bj rfl rfl (Bl Wz (Bf Nt (Aq he_2) (o:=0) (c:=.int .i64 e_2) rfl rfl)) rfl rfl ?_
       refine Ak ?_
       refine Ai fun B=>?_
       refine A4 ?_
       obtain rfl:=oi_ D
       exact A3 [] ⟨rfl,rfl⟩
      ·refine Ao ?_
       repeat first | refine Cw ?_ | refine Cy ?_
       refine A6 248 256 B ?_
       refine Ak ?_
       refine Ai fun B=>?_
       refine A4 ?_
       obtain rfl:=oi_ D
       exact A3 [] ⟨rfl,rfl⟩
     ·refine Ao ?_
      repeat first | refine Cw ?_ | refine Cy ?_
      refine A6 184 192 B ?_
      refine Ak ?_
      refine Ai fun B=>?_
      refine A4 ?_
      obtain rfl:=oi_ D
      exact A3 [] ⟨rfl,rfl⟩
theorem Ps (u:Aw) (r:Bool) (D:Hz u=some r):Fn Tryz.prog 86 0 [.agg [vj u.Alg,vj u.Bits]] [] (fun d' b'=>d'=.val (.bool r)/\b'=[]):=by
 unfold Hz at D
 refine Fn.of Tryz.func86 rfl rfl rfl fun w0 I ρ0=>?_
 show Ca _ ⟨w0,I,ρ0,0,0,6⟩ _ _ _
 refine A6 0 16 Az ?_
 refine Ak ?_
 refine Ai fun B=>?_
 refine A6 16 48 B ?_
 refine Ak ?_
 obtain⟨y,hy,D⟩:=Ae D
 refine Ek (Sh _ _ hy) ?_
 refine Ak ?_
 refine Ai fun B=>?_
 refine A4 ?_
 obtain rfl:=oi_ D
 exact A3 [] ⟨rfl,rfl⟩
theorem Ql (alg:Int) (r:Int) (D:If alg=some r):Fn Tryz.prog 87 0 [vj alg] [] (fun d' b'=>d'=vj r/\b'=[]):=by
 unfold If at D
 refine Fn.of Tryz.func87 rfl rfl rfl fun w0 I ρ0=>?_
 show Ca _ ⟨w0,I,ρ0,0,0,12⟩ _ _ _
 refine A6 0 8 Az ?_
 refine Ak ?_
 refine Ai fun B=>?_
 refine A6 8 72 B ?_
 refine Ak ?_
 obtain⟨y,hy,D⟩:=Ae D
 refine Ek (T1 _ _ hy) ?_
 refine Ak ?_
 refine Ai fun B=>?_
 refine A6 72 96 B ?_
 refine Ak ?_
 refine Ai fun B=>?_
 refine A4 ?_
 obtain rfl:=oi_ D
 exact A3 [] ⟨rfl,rfl⟩
theorem K1 (n:Int) (r:Bool) (D:Gb n=some r):Fn Tryz.prog 88 0 [vj n] [] (fun d' b'=>d'=.val (.bool r)/\b'=[]):=by
 unfold Gb at D
 refine Fn.of Tryz.func88 rfl rfl rfl fun w0 I ρ0=>?_
 show Ca _ ⟨w0,I,ρ0,0,0,9⟩ _ _ _
 refine A6 0 8 Az ?_
 refine Ak ?_
 refine Ai fun B=>?_
 refine A6 8 64 B ?_
 refine Ak ?_
 rcases Eb D with ⟨h2,D⟩ | ⟨h2,D⟩
 ·refine Ak ?_
  refine Ai fun B=>?_
  refine A4 ?_
  obtain rfl:=oi_ D
  exact A3 [] ⟨rfl,rfl⟩
 ·refine Ak ?_
  refine Ai fun B=>?_
  refine A4 ?_
  obtain rfl:=oi_ D
  exact A3 [] ⟨rfl,rfl⟩
theorem Ri (l:(List ByteArray)) (r:Bool) (D:Bs l=some r):Fn Tryz.prog 167 0 [.sl 1 (An eS l)] [] (fun d' b'=>d'=.val (.bool r)/\b'=[]):=by
 unfold Bs at D
 refine Fn.of Tryz.func167 rfl rfl rfl fun w0 I ρ0=>?_
 show Ca _ ⟨w0,I,ρ0,0,0,32⟩ _ _ _
 refine A6 0 8 Az ?_
 refine Ak ?_
 refine Ai fun B=>?_
 refine Ah ?_
 refine A6 8 32 B ?_
 refine Ak ?_
 refine Ai fun B=>?_
 refine Au ?_
 refine Lu (fun (x7_1:Int)=>mk [(0,.sl 1 (An eS l)),(5,.sl 1 (An eS l)),(6,.val (.int .i64 (l.length:Int))),(7,vj x7_1)] [] 0) D (Ay []) ?_
 rintro x7_1 m1 o1 D hn1
 replace D:Bs.l1 l x7_1=some o1:=D
 show Ca _ _ _ _ (mk _ _ _)
 unfold Bs.l1 at D
 refine A6 0 8 Az ?_
 refine Ak ?_
 refine Ai fun B=>?_
 refine Ah ?_
 refine Dh rfl D (fun h4 D=>?_) fun h4 D=>?_
 ·refine Ao ?_
  repeat first | refine Cw ?_ | refine Cy ?_
  refine Ah ?_
  refine Au ?_
  refine A6 8 48 B ?_
  refine Ak ?_
  obtain⟨e,he,D⟩:=Ae D
  refine Ak ?_
  refine Bj rfl rfl (Bl Wv (Bf Jo (Aq he) (o:=0) (c:=.str e) rfl rfl)) rfl rfl ?_
  refine Ak ?_
  refine Ai fun B=>?_
  refine Bm (ι:=Bool) (fun (x27_2:Bool)=>mk [(0,.sl 1 (An eS l)),(5,.sl 1 (An eS l)),(6,.val (.int .i64 (l.length:Int))),(7,vj x7_1),(27,.val (.bool x27_2))] [] 0) (fun (x27_2:Bool)=>Bs.j2 x7_1 x27_2=some o1) ?_ ?_
  ·refine Af (Bi _ _ []) 48 176 B rfl rfl ?_
   refine Ak ?_
   obtain⟨y,hy,D⟩:=Ae D
   refine Ek (Kg _ _ hy) ?_
   refine Ak ?_
   rcases Eb D with ⟨h6,D⟩ | ⟨h6,D⟩
   ·refine Ak ?_
    refine Ai fun B=>?_
    exact⟨true,D,Ay []⟩
   ·refine Ak ?_
    rcases Eb D with ⟨h8,D⟩ | ⟨h8,D⟩
    ·refine Ak ?_
     obtain⟨e_2,he_2,D⟩:=Ae D
     refine Ak ?_
     refine Bj (Cj rfl rfl h8) rfl (Bl Wv (Bf Jo (Aq he_2) (o:=0) (c:=.str e_2) rfl rfl)) rfl rfl ?_
     refine Ak ?_
     refine Bj (Cj rfl rfl h8) rfl bQ rfl rfl ?_
     refine Ak ?_
     refine Ai fun B=>?_
     exact⟨!Q3 (J7 e_2) (J7 e),D,Ay []⟩
    ·refine Ak ?_
     refine Ai fun B=>?_
     exact⟨false,D,Ay []⟩
  ·rintro x27_2 D
   replace D:Bs.j2 x7_1 x27_2=some o1:=D
   show Ca _ _ _ _ (mk _ _ _)
   unfold Bs.j2 at D
   refine Dh rfl D (fun h11 D=>?_) fun h11 D=>?_
   ·refine Ah ?_
    refine Af (Bi _ _ []) 0 8 Az rfl rfl ?_
    refine Ak ?_
    refine Ai fun B=>?_
    refine A4 ?_
    replace D:=C5 D hn1
    obtain rfl:=oi_ D
    exact A3 [] ⟨rfl,rfl⟩
   ·refine Ao ?_
    repeat first | refine Cw ?_ | refine Cy ?_
    refine Af (Bi _ _ []) 0 16 Az rfl rfl ?_
    refine Ak ?_
    refine Ai fun B=>?_
    obtain rfl:=oi_ D
    exact⟨(W (x7_1 + 1),m1),aDn _,hn1,Ay []⟩
 ·refine B8 ?_
  repeat first | refine Cw ?_ | refine Cy ?_
  replace D:=C5 D hn1
  refine A6 8 40 B ?_
  refine Ak ?_
  refine Ai fun B=>?_
  refine A4 ?_
  obtain rfl:=oi_ D
  exact A3 [] ⟨rfl,rfl⟩
theorem Ny (u:Aw) (kind:Int) (r:Bool) (D:Hh u kind=some r):Fn Tryz.prog 168 0 [.agg [vj u.Alg,vj u.Bits],vj kind] [] (fun d' b'=>d'=.val (.bool r)/\b'=[]):=by
 unfold Hh at D
 refine Fn.of Tryz.func168 rfl rfl rfl fun w0 I ρ0=>?_
 show Ca _ ⟨w0,I,ρ0,0,0,14⟩ _ _ _
 refine A6 0 16 Az ?_
 refine Ak ?_
 refine Ai fun B=>?_
 refine A6 16 96 B ?_
 refine Ak ?_
 obtain⟨y,hy,D⟩:=Ae D
 refine Ek (Ps _ _ hy) ?_
 refine Ak ?_
 rcases Eb D with ⟨h2,D⟩ | ⟨h2,D⟩
 ·refine Ak ?_
  obtain⟨y_2,hy_2,D⟩:=Ae D
  refine Ek (Ql _ _ hy_2) ?_
  refine Ak ?_
  refine Ai fun B=>?_
  refine A4 ?_
  obtain rfl:=oi_ D
  exact A3 [] ⟨rfl,rfl⟩
 ·refine Ak ?_
  refine Ai fun B=>?_
  refine A4 ?_
  obtain rfl:=oi_ D
  exact A3 [] ⟨rfl,rfl⟩
theorem Ti (n:Int) (r:Bool) (D:H2 n=some r):Fn Tryz.prog 169 0 [vj n] [] (fun d' b'=>d'=.val (.bool r)/\b'=[]):=by
 unfold H2 at D
 refine Fn.of Tryz.func169 rfl rfl rfl fun w0 I ρ0=>?_
 show Ca _ ⟨w0,I,ρ0,0,0,9⟩ _ _ _
 refine A6 0 8 Az ?_
 refine Ak ?_
 refine Ai fun B=>?_
 refine A6 8 64 B ?_
 refine Ak ?_
 rcases Eb D with ⟨h2,D⟩ | ⟨h2,D⟩
 ·refine Ak ?_
  refine Ai fun B=>?_
  refine A4 ?_
  obtain rfl:=oi_ D
  exact A3 [] ⟨rfl,rfl⟩
 ·refine Ak ?_
  refine Ai fun B=>?_
  refine A4 ?_
  obtain rfl:=oi_ D
  exact A3 [] ⟨rfl,rfl⟩
theorem Rb (c:Ab) (r:Bool) (D:A5 c=some r):Fn Tryz.prog 135 0 [.agg (Ab.dv c)] [] (fun d' b'=>d'=.val (.bool r)/\b'=[]):=by
 unfold A5 at D
 refine Fn.of Tryz.func135 rfl rfl rfl fun w0 I ρ0=>?_
 show Ca _ ⟨w0,I,ρ0,0,0,91⟩ _ _ _
 refine A6 0 16 Az ?_
 refine Ak ?_
 refine Ai fun B=>?_
 refine Ah ?_
 refine Bm (ι:=Bool) (fun (x28_1:Bool)=>mk [(1,.ptr 0 0),(28,.val (.bool x28_1))] [(0,.box (Ab.dv c) 67)] 1) (fun (x28_1:Bool)=>A5.j1 c x28_1=some r) ?_ ?_
 ·refine Af (Bi _ _ []) 16 224 B rfl rfl ?_
  refine Ak ?_
  rcases Eb D with ⟨h2,D⟩ | ⟨h2,D⟩
  ·refine Ak ?_
   refine Ai fun B=>?_
   exact⟨true,D,Ay [(0,0)]⟩
  ·refine Ak ?_
   rcases Eb D with ⟨h4,D⟩ | ⟨h4,D⟩
   ·refine Ak ?_
    refine Ai fun B=>?_
    exact⟨true,D,Ay [(0,0)]⟩
   ·refine Ak ?_
    obtain⟨y,hy,D⟩:=Ae D
    refine Ek (Kg _ _ hy) ?_
    refine Ak ?_
    rcases Eb D with ⟨h6,D⟩ | ⟨h6,D⟩
    ·refine Ak ?_
     refine Ai fun B=>?_
     exact⟨true,D,Ay [(0,0)]⟩
    ·refine Ak ?_
     obtain⟨y_2,hy_2,D⟩:=Ae D
     refine Ek (Kg _ _ hy_2) ?_
     refine Ak ?_
     rcases Eb D with ⟨h8,D⟩ | ⟨h8,D⟩
     ·refine Ak ?_
      refine Ai fun B=>?_
      exact⟨true,D,Ay [(0,0)]⟩
     ·refine Ak ?_
      obtain⟨y_3,hy_3,D⟩:=Ae D
      refine Ek (Ri _ _ hy_3) ?_
      refine Ak ?_
      refine Ai fun B=>?_
      exact⟨!y_3,D,Ay [(0,0)]⟩
 ·rintro x28_1 D
  replace D:A5.j1 c x28_1=some r:=D
  show Ca _ _ _ _ (mk _ _ _)
  unfold A5.j1 at D
  refine Dh rfl D (fun h11 D=>?_) fun h11 D=>?_
  ·refine Ah ?_
   refine Af (Bi _ _ []) 1 9 Az rfl rfl ?_
   refine Ak ?_
   refine Ai fun B=>?_
   refine A4 ?_
   obtain rfl:=oi_ D
   exact A3 [] ⟨rfl,rfl⟩
  ·refine Ao ?_
   repeat first | refine Cw ?_ | refine Cy ?_
   refine Ah ?_
   refine Bm (ι:=Bool) (fun (x58_2:Bool)=>mk [(1,.ptr 0 0),(58,.val (.bool x58_2))] [(0,.box (Ab.dv c) 67)] 1) (fun (x58_2:Bool)=>A5.j2 c x58_2=some r) ?_ ?_
   ·refine Af (Bi _ _ []) 1 241 Az rfl rfl ?_
    refine Ak ?_
    obtain⟨y_4,hy_4,D⟩:=Ae D
    refine Ek (Ny _ _ _ hy_4) ?_
    refine Ak ?_
    rcases Eb D with ⟨h13,D⟩ | ⟨h13,D⟩
    ·refine Ak ?_
     refine Ai fun B=>?_
     exact⟨true,D,Ay [(0,0)]⟩
    ·refine Ak ?_
     obtain⟨y_5,hy_5,D⟩:=Ae D
     refine Ek (K1 _ _ hy_5) ?_
     refine Ak ?_
     rcases Eb D with ⟨h15,D⟩ | ⟨h15,D⟩
     ·refine Ak ?_
      refine Ai fun B=>?_
      exact⟨true,D,Ay [(0,0)]⟩
     ·refine Ak ?_
      obtain⟨y_6,hy_6,D⟩:=Ae D
      refine Ek (Ny _ _ _ hy_6) ?_
      refine Ak ?_
      rcases Eb D with ⟨h17,D⟩ | ⟨h17,D⟩
      ·refine Ak ?_
       refine Ai fun B=>?_
       exact⟨true,D,Ay [(0,0)]⟩
      ·refine Ak ?_
       obtain⟨y_7,hy_7,D⟩:=Ae D
       refine Ek (K1 _ _ hy_7) ?_
       refine Ak ?_
       rcases Eb D with ⟨h19,D⟩ | ⟨h19,D⟩
       ·refine Ak ?_
        refine Ai fun B=>?_
        exact⟨true,D,Ay [(0,0)]⟩
       ·refine Ak ?_
        obtain⟨y_8,hy_8,D⟩:=Ae D
        refine Ek (Ti _ _ hy_8) ?_
        refine Ak ?_
        refine Ai fun B=>?_
        exact⟨!y_8,D,Ay [(0,0)]⟩
   ·rintro x58_2 D
    replace D:A5.j2 c x58_2=some r:=D
    show Ca _ _ _ _ (mk _ _ _)
    unfold A5.j2 at D
    refine Dh rfl D (fun h22 D=>?_) fun h22 D=>?_
    ·refine Ah ?_
     refine Af (Bi _ _ []) 1 9 Az rfl rfl ?_
     refine Ak ?_
     refine Ai fun B=>?_
     refine A4 ?_
     obtain rfl:=oi_ D
     exact A3 [] ⟨rfl,rfl⟩
    ·refine Ao ?_
     repeat first | refine Cw ?_ | refine Cy ?_
     refine Ah ?_
     refine Bm (ι:=Bool) (fun (x73_3:Bool)=>mk [(1,.ptr 0 0),(73,.val (.bool x73_3))] [(0,.box (Ab.dv c) 67)] 1) (fun (x73_3:Bool)=>A5.j3 c x73_3=some r) ?_ ?_
     ·refine Af (Bi _ _ []) 1 121 Az rfl rfl ?_
      refine Ak ?_
      rcases Eb D with ⟨h24,D⟩ | ⟨h24,D⟩
      ·refine Ak ?_
       refine Ai fun B=>?_
       exact⟨true,D,Ay [(0,0)]⟩
      ·refine Ak ?_
       rcases Eb D with ⟨h26,D⟩ | ⟨h26,D⟩
       ·refine Ak ?_
        refine Ai fun B=>?_
        exact⟨true,D,Ay [(0,0)]⟩
       ·refine Ak ?_
        refine Ai fun B=>?_
        exact⟨decide (40000 < c.To),D,Ay [(0,0)]⟩
     ·rintro x73_3 D
      replace D:A5.j3 c x73_3=some r:=D
      show Ca _ _ _ _ (mk _ _ _)
      unfold A5.j3 at D
      refine Dh rfl D (fun h29 D=>?_) fun h29 D=>?_
      ·refine Ah ?_
       refine Af (Bi _ _ []) 1 9 Az rfl rfl ?_
       refine Ak ?_
       refine Ai fun B=>?_
       refine A4 ?_
       obtain rfl:=oi_ D
       exact A3 [] ⟨rfl,rfl⟩
      ·refine Ao ?_
       repeat first | refine Cw ?_ | refine Cy ?_
       refine A6 1 145 Az ?_
       refine Ak ?_
       rcases Eb D with ⟨h31,D⟩ | ⟨h31,D⟩
       ·refine Ak ?_
        rcases Eb D with ⟨h32,D⟩ | ⟨h32,D⟩
        ·refine Ak ?_
         rcases Eb D with ⟨h33,D⟩ | ⟨h33,D⟩
         ·refine Ak ?_
          refine Ai fun B=>?_
          refine A4 ?_
          obtain rfl:=oi_ D
          exact A3 [] ⟨rfl,rfl⟩
         ·refine Ak ?_
          refine Ai fun B=>?_
          refine A4 ?_
          obtain rfl:=oi_ D
          exact A3 [] ⟨rfl,rfl⟩
        ·refine Ak ?_
         refine Ai fun B=>?_
         refine A4 ?_
         obtain rfl:=oi_ D
         exact A3 [] ⟨rfl,rfl⟩
       ·refine Ak ?_
        refine Ai fun B=>?_
        refine A4 ?_
        obtain rfl:=oi_ D
        exact A3 [] ⟨rfl,rfl⟩
theorem Re (c:Ab) (r:Int) (D:G2 c=some r):Fn Tryz.prog 89 0 [.agg (Ab.dv c)] [] (fun d' b'=>d'=vj r/\b'=[]):=by
 unfold G2 at D
 refine Fn.of Tryz.func89 rfl rfl rfl fun w0 I ρ0=>?_
 show Ca _ ⟨w0,I,ρ0,0,0,6⟩ _ _ _
 refine A6 0 16 Az ?_
 refine Ak ?_
 refine Ai fun B=>?_
 refine Ah ?_
 refine A6 16 40 B ?_
 refine Ak ?_
 obtain⟨y,hy,D⟩:=Ae D
 refine Ek (Rb _ _ hy) ?_
 refine Ak ?_
 refine Ai fun B=>?_
 refine Dh rfl D (fun h3 D=>?_) fun h3 D=>?_
 ·refine Ah ?_
  refine Af (Bi _ _ []) 40 48 B rfl rfl ?_
  refine Ak ?_
  refine Ai fun B=>?_
  refine A4 ?_
  obtain rfl:=oi_ D
  exact A3 [] ⟨rfl,rfl⟩
 ·refine Ao ?_
  repeat first | refine Cw ?_ | refine Cy ?_
  refine A6 40 48 B ?_
  refine Ak ?_
  refine Ai fun B=>?_
  refine A4 ?_
  obtain rfl:=oi_ D
  exact A3 [] ⟨rfl,rfl⟩
theorem Nw (key:Aw) (id:Int) (l:(List Ab)) (r:Bool) (D:Bx key id l=some r):Fn Tryz.prog 42 0 [.agg [vj key.Alg,vj key.Bits],vj id,.sl 15 (An Ab.enc l)] [] (fun d' b'=>d'=.val (.bool r)/\b'=[]):=by
 unfold Bx at D
 refine Fn.of Tryz.func42 rfl rfl rfl fun w0 I ρ0=>?_
 show Ca _ ⟨w0,I,ρ0,0,0,57⟩ _ _ _
 refine A6 0 16 Az ?_
 refine Ak ?_
 refine Ai fun B=>?_
 refine Ah ?_
 refine Bm (ι:=Bool) (fun (x27_1:Bool)=>mk [(1,vj id),(2,.sl 15 (An Ab.enc l)),(3,.ptr 0 0),(27,.val (.bool x27_1))] [(0,.box [vj key.Alg,vj key.Bits] 37)] 1) (fun (x27_1:Bool)=>Bx.j1 key id l x27_1=some r) ?_ ?_
 ·refine Af (Bi _ _ []) 16 168 B rfl rfl ?_
  refine Ak ?_
  obtain⟨y,hy,D⟩:=Ae D
  refine Ek (Ps _ _ hy) ?_
  refine Ak ?_
  rcases Eb D with ⟨h2,D⟩ | ⟨h2,D⟩
  ·refine Ak ?_
   refine Ai fun B=>?_
   exact⟨true,D,Ay [(0,0)]⟩
  ·refine Ak ?_
   obtain⟨y_2,hy_2,D⟩:=Ae D
   refine Ek (Ql _ _ hy_2) ?_
   refine Ak ?_
   rcases Eb D with ⟨h4,D⟩ | ⟨h4,D⟩
   ·refine Ak ?_
    refine Ai fun B=>?_
    exact⟨true,D,Ay [(0,0)]⟩
   ·refine Ak ?_
    obtain⟨y_3,hy_3,D⟩:=Ae D
    refine Ek (K1 _ _ hy_3) ?_
    refine Ak ?_
    rcases Eb D with ⟨h6,D⟩ | ⟨h6,D⟩
    ·refine Ak ?_
     refine Ai fun B=>?_
     exact⟨true,D,Ay [(0,0)]⟩
    ·refine Ak ?_
     refine Ai fun B=>?_
     exact⟨decide (8 < (l.length:Int)),D,Ay [(0,0)]⟩
 ·rintro x27_1 D
  replace D:Bx.j1 key id l x27_1=some r:=D
  show Ca _ _ _ _ (mk _ _ _)
  unfold Bx.j1 at D
  refine Dh rfl D (fun h9 D=>?_) fun h9 D=>?_
  ·refine Ah ?_
   refine Af (Bi _ _ []) 1 9 Az rfl rfl ?_
   refine Ak ?_
   refine Ai fun B=>?_
   refine A4 ?_
   obtain rfl:=oi_ D
   exact A3 [] ⟨rfl,rfl⟩
  ·refine Ao ?_
   repeat first | refine Cw ?_ | refine Cy ?_
   refine Ah ?_
   refine A6 1 25 Az ?_
   refine Ak ?_
   refine Ai fun B=>?_
   refine Au ?_
   refine Lu (fun (x30_2:Int)=>mk [(1,vj id),(2,.sl 15 (An Ab.enc l)),(3,.ptr 0 0),(28,.sl 15 (An Ab.enc l)),(29,.val (.int .i64 (l.length:Int))),(30,vj x30_2)] [(0,.box [vj key.Alg,vj key.Bits] 37)] 1) D (Ay [(0,0)]) ?_
   rintro x30_2 m2 o2 D hn2
   replace D:Bx.l2 key id l x30_2=some o2:=D
   show Ca _ _ _ _ (mk _ _ _)
   unfold Bx.l2 at D
   refine A6 1 9 Az ?_
   refine Ak ?_
   refine Ai fun B=>?_
   refine Ah ?_
   refine Dh rfl D (fun h13 D=>?_) fun h13 D=>?_
   ·refine Ao ?_
    repeat first | refine Cw ?_ | refine Cy ?_
    refine Ah ?_
    refine Au ?_
    refine A6 9 41 B ?_
    obtain⟨e,he,D⟩:=Ae D
    refine Ak ?_
    refine Bj rfl rfl (Dx iE (Cm Ab.enc_len (Aq he) (o:=0) (m:=15) (cs:=(Ab.ec e)) rfl (by decide) rfl) (Bn Ab.enc_len (Aq he) (o:=0) (m:=15) (by decide) rfl)) rfl rfl ?_
    refine Ak ?_
    refine Ai fun B=>?_
    refine A6 41 65 B ?_
    refine Ak ?_
    obtain⟨y_4,hy_4,D⟩:=Ae D
    refine Ek (Re _ _ hy_4) ?_
    refine Ak ?_
    refine Ai fun B=>?_
    refine Dh rfl D (fun h16 D=>?_) fun h16 D=>?_
    ·refine Ah ?_
     refine Af (Bi _ _ []) 65 73 B rfl rfl ?_
     refine Ak ?_
     refine Ai fun B=>?_
     refine A4 ?_
     replace D:=C5 D hn2
     obtain rfl:=oi_ D
     exact A3 [] ⟨rfl,rfl⟩
    ·refine Ao ?_
     repeat first | refine Cw ?_ | refine Cy ?_
     refine Af (Bi _ _ []) 65 81 B rfl rfl ?_
     refine Ak ?_
     refine Ai fun B=>?_
     obtain rfl:=oi_ D
     exact⟨(W (x30_2 + 1),m2),aDn _,hn2,Ay [(0,0)]⟩
   ·refine B8 ?_
    repeat first | refine Cw ?_ | refine Cy ?_
    replace D:=C5 D hn2
    refine Ah ?_
    refine Cs (Bi _ _ []) (by kernel_rfl) [0,1,3,7,15,31,63,127,15,511,1023,2047,4095,8191,16383,2047,65535,131071,262143,524287] 9 169 B rfl rfl (by kernel_rfl) ?_
    refine Ak ?_
    rcases Eb D with ⟨h19,D⟩ | ⟨h19,D⟩
    ·refine Ak ?_
     refine Ai fun B=>?_
     refine A4 ?_
     obtain rfl:=oi_ D
     exact A3 [] ⟨rfl,rfl⟩
    ·refine Ak ?_
     obtain⟨e_2,he_2,D⟩:=Ae D
     refine Ak ?_
     refine Bj (Cj rfl rfl h19) rfl (Eu jI Uj (by decide) (Gh Ab.enc_len (Aq he_2) (o:=3) (by decide) rfl)) rfl rfl ?_
     refine Bj (Cj rfl rfl h19) rfl (Dx Uj (Cm Ab.enc_len (Aq he_2) (o:=3) (m:=2) (cs:=[.int .i64 e_2.Key.Alg,.int .i64 e_2.Key.Bits]) rfl (by decide) rfl) (Bn Ab.enc_len (Aq he_2) (o:=3) (m:=2) (by decide) rfl)) rfl rfl ?_
     refine Ak ?_
     refine Bj (Cj rfl rfl h19) rfl (O6 e_2.Key key) rfl rfl ?_
     refine Ak ?_
     rcases Eb D with ⟨h21,D⟩ | ⟨h21,D⟩
     ·refine Ak ?_
      refine Bj (Cj rfl rfl h21) rfl (Eu jJ Wz (by decide) (Gh Ab.enc_len (Aq he_2) (o:=5) (by decide) rfl)) rfl rfl ?_
      refine Bj (Cj rfl rfl h21) rfl (Bl Wz (Bf Ab.enc_len (Aq he_2) (o:=5) (c:=.int .i64 e_2.KeyId) rfl rfl)) rfl rfl ?_
      refine Ak ?_
      refine Ai fun B=>?_
      refine A4 ?_
      obtain rfl:=oi_ D
      exact A3 [] ⟨rfl,rfl⟩
     ·refine Ak ?_
      refine Ai fun B=>?_
      refine A4 ?_
      obtain rfl:=oi_ D
      exact A3 [] ⟨rfl,rfl⟩
end Go.Proofs.YtfanepojdefdpaaGreat
