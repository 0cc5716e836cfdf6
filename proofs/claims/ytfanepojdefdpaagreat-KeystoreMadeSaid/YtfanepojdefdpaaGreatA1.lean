import Derived.Test.YtfanepojdefdpaaGreatT1
set_option linter.unusedVariables false
set_option linter.unusedSimpArgs false
set_option maxRecDepth 100000
set_option maxHeartbeats 1600000
namespace Go.Proofs.YtfanepojdefdpaaGreat
open Go.RowKit
theorem W0 (l:(List Int)) (r:Bool) (D:J2 l=some r):Fn Tryz.prog 5 0 [.sl 1 (Al eI l)] [] (fun d' b'=>d'=.val (.bool r)/\b'=[]):=by
 unfold J2 at D
 refine Fn.of Tryz.func5 rfl rfl rfl fun w0 I ρ0=>?_
 show Ce _ ⟨w0,I,ρ0,0,0,6⟩ _ _ _
 refine Bd 0 8 A5 ?_
 refine Ak ?_
 refine Ai fun B=>?_
 refine Bd 8 40 B ?_
 refine Ak ?_
 refine Ai fun B=>?_
 refine A4 ?_
 obtain rfl:=oi_ D
 exact A3 [] ⟨rfl,rfl⟩
theorem H7 (s:ByteArray) (r:Bool) (D:Bs s=some r):Fn Tryz.prog 41 0 [vk s] [] (fun d' b'=>d'=.val (.bool r)/\b'=[]):=by
 unfold Bs at D
 refine Fn.of Tryz.func41 rfl rfl rfl fun w0 I ρ0=>?_
 show Ce _ ⟨w0,I,ρ0,0,0,27⟩ _ _ _
 refine Bd 0 8 A5 ?_
 refine Ak ?_
 refine Ai fun B=>?_
 refine Ah ?_
 refine Bd 8 40 B ?_
 refine Ak ?_
 refine Bn rfl rfl (W8 P3 Vp L1) rfl rfl ?_
 refine Ak ?_
 refine Ai fun B=>?_
 refine As ?_
 refine Jk (fun (x8_1:Int)=>mk [(0,vk s),(6,.sl 1 (Al e8 (Hs s))),(7,.val (.int .i64 ((Hs s).length:Int))),(8,vj x8_1)] [] 0) D (A1 []) ?_
 rintro x8_1 m1 o1 D hn1
 replace D:Bs.l1 s x8_1=some o1:=D
 show Ce _ _ _ _ (mk _ _ _)
 unfold Bs.l1 at D
 refine Bd 0 8 A5 ?_
 refine Ak ?_
 refine Ai fun B=>?_
 refine Ah ?_
 refine Df rfl D (fun h4 D=>?_) fun h4 D=>?_
 ·refine Ap ?_
  repeat first | refine C4 ?_ | refine C3 ?_
  refine Ah ?_
  refine As ?_
  refine Bd 8 32 B ?_
  obtain⟨e,he,D⟩:=Ad D
  refine Ak ?_
  refine Bn rfl rfl (Bt Zm (Bh D7 (Ao he) (o:=0) (c:=.int .u8 (e.toNat:Int)) rfl rfl)) rfl rfl ?_
  refine Ak ?_
  refine Ai fun B=>?_
  refine B9 (ι:=Bool) (fun (x17_2:Bool)=>mk [(0,vk s),(6,.sl 1 (Al e8 (Hs s))),(7,.val (.int .i64 ((Hs s).length:Int))),(8,vj x8_1),(17,.val (.bool x17_2))] [] 0) (fun (x17_2:Bool)=>Bs.j2 x8_1 x17_2=some o1) ?_ ?_
  ·refine Ae (Bp _ _ []) 32 80 B rfl rfl ?_
   refine Ak ?_
   rcases D2 D with ⟨h6,D⟩ | ⟨h6,D⟩
   ·refine Ak ?_
    refine Ai fun B=>?_
    exact⟨true,D,A1 []⟩
   ·refine Ak ?_
    refine Ai fun B=>?_
    exact⟨decide (126 < (e.toNat:Int)),D,A1 []⟩
  ·rintro x17_2 D
   replace D:Bs.j2 x8_1 x17_2=some o1:=D
   show Ce _ _ _ _ (mk _ _ _)
   unfold Bs.j2 at D
   refine Df rfl D (fun h9 D=>?_) fun h9 D=>?_
   ·refine Ah ?_
    refine Ae (Bp _ _ []) 0 8 A5 rfl rfl ?_
    refine Ak ?_
    refine Ai fun B=>?_
    refine A4 ?_
    replace D:=C0 D hn1
    obtain rfl:=oi_ D
    exact A3 [] ⟨rfl,rfl⟩
   ·refine Ap ?_
    repeat first | refine C4 ?_ | refine C3 ?_
    refine Ae (Bp _ _ []) 0 16 A5 rfl rfl ?_
    refine Ak ?_
    refine Ai fun B=>?_
    obtain rfl:=oi_ D
    exact⟨(W (x8_1 + 1),m1),vO _,hn1,A1 []⟩
 ·refine Bv ?_
  repeat first | refine C4 ?_ | refine C3 ?_
  replace D:=C0 D hn1
  refine Bd 8 80 B ?_
  refine Ak ?_
  refine Bn rfl rfl (Qt P3) rfl rfl ?_
  refine Ak ?_
  rcases D2 D with ⟨h12,D⟩ | ⟨h12,D⟩
  ·refine Ak ?_
   refine Bn (Bu rfl rfl h12) rfl (Qt P3) rfl rfl ?_
   refine Ak ?_
   refine Ai fun B=>?_
   refine A4 ?_
   obtain rfl:=oi_ D
   exact A3 [] ⟨rfl,rfl⟩
  ·refine Ak ?_
   refine Ai fun B=>?_
   refine A4 ?_
   obtain rfl:=oi_ D
   exact A3 [] ⟨rfl,rfl⟩
theorem Tb  (r:(List Bi)) (D:Kx=some r):Fn Tryz.prog 166 0 [] [] (fun d' b'=>d'=.agg [.val (.string ((r[0]!).name)),.val (.int .i64 ((r[0]!).kind)),.val (.int .i64 ((r[0]!).way)),.sl 1 (Al eI ((r[0]!).sizes)),.sl 1 (Al eI ((r[0]!).strengths)),.val (.string ((r[1]!).name)),.val (.int .i64 ((r[1]!).kind)),.val (.int .i64 ((r[1]!).way)),.sl 1 (Al eI ((r[1]!).sizes)),.sl 1 (Al eI ((r[1]!).strengths)),.val (.string ((r[2]!).name)),.val (.int .i64 ((r[2]!).kind)),.val (.int .i64 ((r[2]!).way)),.sl 1 (Al eI ((r[2]!).sizes)),.sl 1 (Al eI ((r[2]!).strengths)),.val (.string ((r[3]!).name)),.val (.int .i64 ((r[3]!).kind)),.val (.int .i64 ((r[3]!).way)),.sl 1 (Al eI ((r[3]!).sizes)),.sl 1 (Al eI ((r[3]!).strengths)),.val (.string ((r[4]!).name)),.val (.int .i64 ((r[4]!).kind)),.val (.int .i64 ((r[4]!).way)),.sl 1 (Al eI ((r[4]!).sizes)),.sl 1 (Al eI ((r[4]!).strengths)),.val (.string ((r[5]!).name)),.val (.int .i64 ((r[5]!).kind)),.val (.int .i64 ((r[5]!).way)),.sl 1 (Al eI ((r[5]!).sizes)),.sl 1 (Al eI ((r[5]!).strengths)),.val (.string ((r[6]!).name)),.val (.int .i64 ((r[6]!).kind)),.val (.int .i64 ((r[6]!).way)),.sl 1 (Al eI ((r[6]!).sizes)),.sl 1 (Al eI ((r[6]!).strengths)),.val (.string ((r[7]!).name)),.val (.int .i64 ((r[7]!).kind)),.val (.int .i64 ((r[7]!).way)),.sl 1 (Al eI ((r[7]!).sizes)),.sl 1 (Al eI ((r[7]!).strengths)),.val (.string ((r[8]!).name)),.val (.int .i64 ((r[8]!).kind)),.val (.int .i64 ((r[8]!).way)),.sl 1 (Al eI ((r[8]!).sizes)),.sl 1 (Al eI ((r[8]!).strengths)),.val (.string ((r[9]!).name)),.val (.int .i64 ((r[9]!).kind)),.val (.int .i64 ((r[9]!).way)),.sl 1 (Al eI ((r[9]!).sizes)),.sl 1 (Al eI ((r[9]!).strengths)),.val (.string ((r[10]!).name)),.val (.int .i64 ((r[10]!).kind)),.val (.int .i64 ((r[10]!).way)),.sl 1 (Al eI ((r[10]!).sizes)),.sl 1 (Al eI ((r[10]!).strengths)),.val (.string ((r[11]!).name)),.val (.int .i64 ((r[11]!).kind)),.val (.int .i64 ((r[11]!).way)),.sl 1 (Al eI ((r[11]!).sizes)),.sl 1 (Al eI ((r[11]!).strengths)),.val (.string ((r[12]!).name)),.val (.int .i64 ((r[12]!).kind)),.val (.int .i64 ((r[12]!).way)),.sl 1 (Al eI ((r[12]!).sizes)),.sl 1 (Al eI ((r[12]!).strengths)),.val (.string ((r[13]!).name)),.val (.int .i64 ((r[13]!).kind)),.val (.int .i64 ((r[13]!).way)),.sl 1 (Al eI ((r[13]!).sizes)),.sl 1 (Al eI ((r[13]!).strengths)),.val (.string ((r[14]!).name)),.val (.int .i64 ((r[14]!).kind)),.val (.int .i64 ((r[14]!).way)),.sl 1 (Al eI ((r[14]!).sizes)),.sl 1 (Al eI ((r[14]!).strengths)),.val (.string ((r[15]!).name)),.val (.int .i64 ((r[15]!).kind)),.val (.int .i64 ((r[15]!).way)),.sl 1 (Al eI ((r[15]!).sizes)),.sl 1 (Al eI ((r[15]!).strengths)),.val (.string ((r[16]!).name)),.val (.int .i64 ((r[16]!).kind)),.val (.int .i64 ((r[16]!).way)),.sl 1 (Al eI ((r[16]!).sizes)),.sl 1 (Al eI ((r[16]!).strengths)),.val (.string ((r[17]!).name)),.val (.int .i64 ((r[17]!).kind)),.val (.int .i64 ((r[17]!).way)),.sl 1 (Al eI ((r[17]!).sizes)),.sl 1 (Al eI ((r[17]!).strengths)),.val (.string ((r[18]!).name)),.val (.int .i64 ((r[18]!).kind)),.val (.int .i64 ((r[18]!).way)),.sl 1 (Al eI ((r[18]!).sizes)),.sl 1 (Al eI ((r[18]!).strengths)),.val (.string ((r[19]!).name)),.val (.int .i64 ((r[19]!).kind)),.val (.int .i64 ((r[19]!).way)),.sl 1 (Al eI ((r[19]!).sizes)),.sl 1 (Al eI ((r[19]!).strengths)),.val (.string ((r[20]!).name)),.val (.int .i64 ((r[20]!).kind)),.val (.int .i64 ((r[20]!).way)),.sl 1 (Al eI ((r[20]!).sizes)),.sl 1 (Al eI ((r[20]!).strengths)),.val (.string ((r[21]!).name)),.val (.int .i64 ((r[21]!).kind)),.val (.int .i64 ((r[21]!).way)),.sl 1 (Al eI ((r[21]!).sizes)),.sl 1 (Al eI ((r[21]!).strengths)),.val (.string ((r[22]!).name)),.val (.int .i64 ((r[22]!).kind)),.val (.int .i64 ((r[22]!).way)),.sl 1 (Al eI ((r[22]!).sizes)),.sl 1 (Al eI ((r[22]!).strengths))]/\b'=[]):=by
 unfold Kx at D
 refine Fn.of Tryz.func166 rfl rfl rfl fun w0 I ρ0=>?_
 show Ce _ ⟨w0,I,ρ0,0,0,46⟩ _ _ _
 refine Bd 0 8 A5 ?_
 refine Ak ?_
 refine Ai fun B=>?_
 refine Bd 8 376 B ?_
 refine Bn rfl rfl (An Fj z3 (by decide) rfl rfl rfl rfl Jq (cs:=[.int .i64 18]) (.cons .int .nil) rfl (l:=([18]:List Int)) (f:=eI) rfl) rfl rfl ?_
 refine Bn rfl rfl (.build (r:=[.val (.string (⟨#[109,100,53]⟩:ByteArray)),.val (.int .i64 1),.val (.int .i64 0),.val (.slice none 0 0),.row 8]) Fc Hp J3 (by kernel_rfl) rfl) rfl rfl ?_
 refine Bn rfl rfl (An Fj z3 (by decide) rfl rfl rfl rfl Jq (cs:=[.int .i64 60]) (.cons .int .nil) rfl (l:=([60]:List Int)) (f:=eI) rfl) rfl rfl ?_
 refine Bn rfl rfl (.build (r:=[.val (.string (⟨#[115,104,97,49]⟩:ByteArray)),.val (.int .i64 1),.val (.int .i64 0),.val (.slice none 0 0),.row 24]) Fc Hp J3 (by kernel_rfl) rfl) rfl rfl ?_
 refine Bn rfl rfl (An Fj z3 (by decide) rfl rfl rfl rfl Jq (cs:=[.int .i64 128]) (.cons .int .nil) rfl (l:=([128]:List Int)) (f:=eI) rfl) rfl rfl ?_
 refine Bn rfl rfl (.build (r:=[.val (.string (⟨#[115,104,97,50,53,54]⟩:ByteArray)),.val (.int .i64 1),.val (.int .i64 0),.val (.slice none 0 0),.row 40]) Fc Hp J3 (by kernel_rfl) rfl) rfl rfl ?_
 refine Bn rfl rfl (An Fj z3 (by decide) rfl rfl rfl rfl Jq (cs:=[.int .i64 192]) (.cons .int .nil) rfl (l:=([192]:List Int)) (f:=eI) rfl) rfl rfl ?_
 refine Bn rfl rfl (.build (r:=[.val (.string (⟨#[115,104,97,51,56,52]⟩:ByteArray)),.val (.int .i64 1),.val (.int .i64 0),.val (.slice none 0 0),.row 56]) Fc Hp J3 (by kernel_rfl) rfl) rfl rfl ?_
 refine Bn rfl rfl (.build (r:=[.val (.string (⟨#[114,115,97]⟩:ByteArray)),.val (.int .i64 2),.val (.int .i64 1),.val (.slice none 0 0),.val (.slice none 0 0)]) Fc Hp J3 (by kernel_rfl) rfl) rfl rfl ?_
 refine Bn rfl rfl (.build (r:=[.val (.string (⟨#[100,115,97]⟩:ByteArray)),.val (.int .i64 2),.val (.int .i64 1),.val (.slice none 0 0),.val (.slice none 0 0)]) Fc Hp J3 (by kernel_rfl) rfl) rfl rfl ?_
 refine Bn rfl rfl (.build (r:=[.val (.string (⟨#[101,99,100,115,97]⟩:ByteArray)),.val (.int .i64 2),.val (.int .i64 2),.val (.slice none 0 0),.val (.slice none 0 0)]) Fc Hp J3 (by kernel_rfl) rfl) rfl rfl ?_
 refine Bn rfl rfl (An Fj z3 (by decide) rfl rfl rfl rfl Jq (cs:=[.int .i64 128]) (.cons .int .nil) rfl (l:=([128]:List Int)) (f:=eI) rfl) rfl rfl ?_
 refine Bn rfl rfl (.build (r:=[.val (.string (⟨#[101,100,50,53,53,49,57]⟩:ByteArray)),.val (.int .i64 2),.val (.int .i64 0),.val (.slice none 0 0),.row 96]) Fc Hp J3 (by kernel_rfl) rfl) rfl rfl ?_
 refine Bn rfl rfl (An Fj z3 (by decide) rfl rfl rfl rfl Jq (cs:=[.int .i64 44,.int .i64 65,.int .i64 87]) (.cons .int (.cons .int (.cons .int .nil))) rfl (l:=([44,65,87]:List Int)) (f:=eI) rfl) rfl rfl ?_
 refine Bn rfl rfl (An Fj z3 (by decide) rfl rfl rfl rfl Jq (cs:=[.int .i64 128,.int .i64 192,.int .i64 256]) (.cons .int (.cons .int (.cons .int .nil))) rfl (l:=([128,192,256]:List Int)) (f:=eI) rfl) rfl rfl ?_
 refine Bn rfl rfl (.build (r:=[.val (.string (⟨#[109,108,100,115,97]⟩:ByteArray)),.val (.int .i64 2),.val (.int .i64 3),.row 112,.row 120]) Fc Hp J3 (by kernel_rfl) rfl) rfl rfl ?_
 refine Bn rfl rfl (.build (r:=[.val (.string (⟨#[114,115,97,107,120]⟩:ByteArray)),.val (.int .i64 3),.val (.int .i64 1),.val (.slice none 0 0),.val (.slice none 0 0)]) Fc Hp J3 (by kernel_rfl) rfl) rfl rfl ?_
 refine Bn rfl rfl (.build (r:=[.val (.string (⟨#[100,104,101]⟩:ByteArray)),.val (.int .i64 3),.val (.int .i64 1),.val (.slice none 0 0),.val (.slice none 0 0)]) Fc Hp J3 (by kernel_rfl) rfl) rfl rfl ?_
 refine Bn rfl rfl (.build (r:=[.val (.string (⟨#[101,99,100,104,101]⟩:ByteArray)),.val (.int .i64 3),.val (.int .i64 2),.val (.slice none 0 0),.val (.slice none 0 0)]) Fc Hp J3 (by kernel_rfl) rfl) rfl rfl ?_
 refine Bn rfl rfl (An Fj z3 (by decide) rfl rfl rfl rfl Jq (cs:=[.int .i64 512,.int .i64 768,.int .i64 1024]) (.cons .int (.cons .int (.cons .int .nil))) rfl (l:=([512,768,1024]:List Int)) (f:=eI) rfl) rfl rfl ?_
 refine Bn rfl rfl (An Fj z3 (by decide) rfl rfl rfl rfl Jq (cs:=[.int .i64 128,.int .i64 192,.int .i64 256]) (.cons .int (.cons .int (.cons .int .nil))) rfl (l:=([128,192,256]:List Int)) (f:=eI) rfl) rfl rfl ?_
 refine Bn rfl rfl (.build (r:=[.val (.string (⟨#[109,108,107,101,109]⟩:ByteArray)),.val (.int .i64 3),.val (.int .i64 3),.row 160,.row 168]) Fc Hp J3 (by kernel_rfl) rfl) rfl rfl ?_
 refine Bn rfl rfl (An Fj z3 (by decide) rfl rfl rfl rfl Jq (cs:=[.int .i64 40,.int .i64 128]) (.cons .int (.cons .int .nil)) rfl (l:=([40,128]:List Int)) (f:=eI) rfl) rfl rfl ?_
 refine Bn rfl rfl (An Fj z3 (by decide) rfl rfl rfl rfl Jq (cs:=[.int .i64 40,.int .i64 60]) (.cons .int (.cons .int .nil)) rfl (l:=([40,60]:List Int)) (f:=eI) rfl) rfl rfl ?_
 refine Bn rfl rfl (.build (r:=[.val (.string (⟨#[114,99,52]⟩:ByteArray)),.val (.int .i64 4),.val (.int .i64 3),.row 184,.row 192]) Fc Hp J3 (by kernel_rfl) rfl) rfl rfl ?_
 refine Bn rfl rfl (An Fj z3 (by decide) rfl rfl rfl rfl Jq (cs:=[.int .i64 112,.int .i64 168]) (.cons .int (.cons .int .nil)) rfl (l:=([112,168]:List Int)) (f:=eI) rfl) rfl rfl ?_
 refine Bn rfl rfl (An Fj z3 (by decide) rfl rfl rfl rfl Jq (cs:=[.int .i64 80,.int .i64 112]) (.cons .int (.cons .int .nil)) rfl (l:=([80,112]:List Int)) (f:=eI) rfl) rfl rfl ?_
 refine Bn rfl rfl (.build (r:=[.val (.string (⟨#[100,101,115,51]⟩:ByteArray)),.val (.int .i64 4),.val (.int .i64 3),.row 208,.row 216]) Fc Hp J3 (by kernel_rfl) rfl) rfl rfl ?_
 refine Bn rfl rfl (An Fj z3 (by decide) rfl rfl rfl rfl Jq (cs:=[.int .i64 128,.int .i64 256]) (.cons .int (.cons .int .nil)) rfl (l:=([128,256]:List Int)) (f:=eI) rfl) rfl rfl ?_
 refine Bn rfl rfl (An Fj z3 (by decide) rfl rfl rfl rfl Jq (cs:=[.int .i64 128,.int .i64 256]) (.cons .int (.cons .int .nil)) rfl (l:=([128,256]:List Int)) (f:=eI) rfl) rfl rfl ?_
 refine Bn rfl rfl (.build (r:=[.val (.string (⟨#[97,101,115,99,98,99]⟩:ByteArray)),.val (.int .i64 4),.val (.int .i64 3),.row 232,.row 240]) Fc Hp J3 (by kernel_rfl) rfl) rfl rfl ?_
 refine Bn rfl rfl (An Fj z3 (by decide) rfl rfl rfl rfl Jq (cs:=[.int .i64 128,.int .i64 256]) (.cons .int (.cons .int .nil)) rfl (l:=([128,256]:List Int)) (f:=eI) rfl) rfl rfl ?_
 refine Bn rfl rfl (An Fj z3 (by decide) rfl rfl rfl rfl Jq (cs:=[.int .i64 128,.int .i64 256]) (.cons .int (.cons .int .nil)) rfl (l:=([128,256]:List Int)) (f:=eI) rfl) rfl rfl ?_
 refine Bn rfl rfl (.build (r:=[.val (.string (⟨#[97,101,115,103,99,109]⟩:ByteArray)),.val (.int .i64 4),.val (.int .i64 3),.row 256,.row 264]) Fc Hp J3 (by kernel_rfl) rfl) rfl rfl ?_
 refine Bn rfl rfl (An Fj z3 (by decide) rfl rfl rfl rfl Jq (cs:=[.int .i64 256]) (.cons .int .nil) rfl (l:=([256]:List Int)) (f:=eI) rfl) rfl rfl ?_
 refine Bn rfl rfl (.build (r:=[.val (.string (⟨#[99,104,97,99,104,97]⟩:ByteArray)),.val (.int .i64 4),.val (.int .i64 0),.val (.slice none 0 0),.row 280]) Fc Hp J3 (by kernel_rfl) rfl) rfl rfl ?_
 refine Bn rfl rfl (An Fj z3 (by decide) rfl rfl rfl rfl Jq (cs:=[.int .i64 64]) (.cons .int .nil) rfl (l:=([64]:List Int)) (f:=eI) rfl) rfl rfl ?_
 refine Bn rfl rfl (.build (r:=[.val (.string (⟨#[104,109,97,99,109,100,53]⟩:ByteArray)),.val (.int .i64 5),.val (.int .i64 0),.val (.slice none 0 0),.row 296]) Fc Hp J3 (by kernel_rfl) rfl) rfl rfl ?_
 refine Bn rfl rfl (An Fj z3 (by decide) rfl rfl rfl rfl Jq (cs:=[.int .i64 80]) (.cons .int .nil) rfl (l:=([80]:List Int)) (f:=eI) rfl) rfl rfl ?_
 refine Bn rfl rfl (.build (r:=[.val (.string (⟨#[104,109,97,99,115,104,97,49]⟩:ByteArray)),.val (.int .i64 5),.val (.int .i64 0),.val (.slice none 0 0),.row 312]) Fc Hp J3 (by kernel_rfl) rfl) rfl rfl ?_
 refine Bn rfl rfl (An Fj z3 (by decide) rfl rfl rfl rfl Jq (cs:=[.int .i64 128]) (.cons .int .nil) rfl (l:=([128]:List Int)) (f:=eI) rfl) rfl rfl ?_
 refine Bn rfl rfl (.build (r:=[.val (.string (⟨#[104,109,97,99,115,104,97,50,53,54]⟩:ByteArray)),.val (.int .i64 5),.val (.int .i64 0),.val (.slice none 0 0),.row 328]) Fc Hp J3 (by kernel_rfl) rfl) rfl rfl ?_
 refine Bn rfl rfl (An Fj z3 (by decide) rfl rfl rfl rfl Jq (cs:=[.int .i64 256]) (.cons .int .nil) rfl (l:=([256]:List Int)) (f:=eI) rfl) rfl rfl ?_
 refine Bn rfl rfl (.build (r:=[.val (.string (⟨#[97,101,97,100]⟩:ByteArray)),.val (.int .i64 5),.val (.int .i64 0),.val (.slice none 0 0),.row 344]) Fc Hp J3 (by kernel_rfl) rfl) rfl rfl ?_
 refine Bn rfl rfl (.buildArr (sz:=5) (r:=[.val (.string (⟨#[]⟩:ByteArray)),.val (.int .i64 0),.val (.int .i64 0),.val (.slice none 0 0),.val (.slice none 0 0),.val (.string (⟨#[109,100,53]⟩:ByteArray)),.val (.int .i64 1),.val (.int .i64 0),.val (.slice none 0 0),.row 8,.val (.string (⟨#[115,104,97,49]⟩:ByteArray)),.val (.int .i64 1),.val (.int .i64 0),.val (.slice none 0 0),.row 24,.val (.string (⟨#[115,104,97,50,53,54]⟩:ByteArray)),.val (.int .i64 1),.val (.int .i64 0),.val (.slice none 0 0),.row 40,.val (.string (⟨#[115,104,97,51,56,52]⟩:ByteArray)),.val (.int .i64 1),.val (.int .i64 0),.val (.slice none 0 0),.row 56,.val (.string (⟨#[114,115,97]⟩:ByteArray)),.val (.int .i64 2),.val (.int .i64 1),.val (.slice none 0 0),.val (.slice none 0 0),.val (.string (⟨#[100,115,97]⟩:ByteArray)),.val (.int .i64 2),.val (.int .i64 1),.val (.slice none 0 0),.val (.slice none 0 0),.val (.string (⟨#[101,99,100,115,97]⟩:ByteArray)),.val (.int .i64 2),.val (.int .i64 2),.val (.slice none 0 0),.val (.slice none 0 0),.val (.string (⟨#[101,100,50,53,53,49,57]⟩:ByteArray)),.val (.int .i64 2),.val (.int .i64 0),.val (.slice none 0 0),.row 96,.val (.string (⟨#[109,108,100,115,97]⟩:ByteArray)),.val (.int .i64 2),.val (.int .i64 3),.row 112,.row 120,.val (.string (⟨#[114,115,97,107,120]⟩:ByteArray)),.val (.int .i64 3),.val (.int .i64 1),.val (.slice none 0 0),.val (.slice none 0 0),.val (.string (⟨#[100,104,101]⟩:ByteArray)),.val (.int .i64 3),.val (.int .i64 1),.val (.slice none 0 0),.val (.slice none 0 0),.val (.string (⟨#[101,99,100,104,101]⟩:ByteArray)),.val (.int .i64 3),.val (.int .i64 2),.val (.slice none 0 0),.val (.slice none 0 0),.val (.string (⟨#[109,108,107,101,109]⟩:ByteArray)),.val (.int .i64 3),.val (.int .i64 3),.row 160,.row 168,.val (.string (⟨#[114,99,52]⟩:ByteArray)),.val (.int .i64 4),.val (.int .i64 3),.row 184,.row 192,.val (.string (⟨#[100,101,115,51]⟩:ByteArray)),.val (.int .i64 4),.val (.int .i64 3),.row 208,.row 216,.val (.string (⟨#[97,101,115,99,98,99]⟩:ByteArray)),.val (.int .i64 4),.val (.int .i64 3),.row 232,.row 240,.val (.string (⟨#[97,101,115,103,99,109]⟩:ByteArray)),.val (.int .i64 4),.val (.int .i64 3),.row 256,.row 264,.val (.string (⟨#[99,104,97,99,104,97]⟩:ByteArray)),.val (.int .i64 4),.val (.int .i64 0),.val (.slice none 0 0),.row 280,.val (.string (⟨#[104,109,97,99,109,100,53]⟩:ByteArray)),.val (.int .i64 5),.val (.int .i64 0),.val (.slice none 0 0),.row 296,.val (.string (⟨#[104,109,97,99,115,104,97,49]⟩:ByteArray)),.val (.int .i64 5),.val (.int .i64 0),.val (.slice none 0 0),.row 312,.val (.string (⟨#[104,109,97,99,115,104,97,50,53,54]⟩:ByteArray)),.val (.int .i64 5),.val (.int .i64 0),.val (.slice none 0 0),.row 328,.val (.string (⟨#[97,101,97,100]⟩:ByteArray)),.val (.int .i64 5),.val (.int .i64 0),.val (.slice none 0 0),.row 344]) fG (by kernel_rfl) rT (by kernel_rfl) rfl) rfl rfl ?_
 refine Ak ?_
 refine Ai fun B=>?_
 refine A4 ?_
 obtain rfl:=oi_ D
 exact A3 [] ⟨rfl,rfl⟩
theorem Pn (alg:Int) (r:Bi×Bool) (D:Dp alg=some r):Fn Tryz.prog 134 0 [vj alg] [] (fun d' b'=>d'=.tup [.agg (Bi.dv r.1),.val (.bool r.2)]/\b'=[]):=by
 unfold Dp at D
 refine Fn.of Tryz.func134 rfl rfl rfl fun w0 I ρ0=>?_
 show Ce _ ⟨w0,I,ρ0,0,0,14⟩ _ _ _
 refine Bd 0 16 A5 ?_
 refine Ak ?_
 refine Ai fun B=>?_
 refine Ah ?_
 refine B9 (ι:=Bool) (fun (x9_1:Bool)=>mk [(0,vj alg),(2,.ptr 0 0),(9,.val (.bool x9_1))] [(0,.box [.val (.string (⟨#[]⟩:ByteArray)),.val (.int .i64 0),.val (.int .i64 0),.val (.slice none 0 0),.val (.slice none 0 0)] 158)] 1) (fun (x9_1:Bool)=>Dp.j1 alg x9_1=some r) ?_ ?_
 ·refine Ae (Bp _ _ []) 16 64 B rfl rfl ?_
  refine Ak ?_
  rcases D2 D with ⟨h2,D⟩ | ⟨h2,D⟩
  ·refine Ak ?_
   refine Ai fun B=>?_
   exact⟨true,D,A1 [(0,0)]⟩
  ·refine Ak ?_
   refine Ai fun B=>?_
   exact⟨decide (22 < alg),D,A1 [(0,0)]⟩
 ·rintro x9_1 D
  replace D:Dp.j1 alg x9_1=some r:=D
  show Ce _ _ _ _ (mk _ _ _)
  unfold Dp.j1 at D
  refine Df rfl D (fun h5 D=>?_) fun h5 D=>?_
  ·refine Ah ?_
   refine Ae (Bp _ _ []) 1 25 A5 rfl rfl ?_
   refine Bn rfl rfl (.build (r:=[.val (.string (⟨#[]⟩:ByteArray)),.val (.int .i64 0),.val (.int .i64 0),.val (.slice none 0 0),.val (.slice none 0 0)]) Fc Hp J3 (by kernel_rfl) rfl) rfl rfl ?_
   refine Ak ?_
   refine Ai fun B=>?_
   refine A4 ?_
   obtain rfl:=oi_ D
   exact A3 [] ⟨rfl,rfl⟩
  ·refine Ap ?_
   repeat first | refine C4 ?_ | refine C3 ?_
   refine Bd 1 41 A5 ?_
   obtain⟨y,hy,D⟩:=Ad D
   refine Dm (Tb _ hy) ?_
   refine Ak ?_
   obtain⟨e,he,D⟩:=Ad D
   refine Bn rfl rfl (Vv (f:=Bi.enc) (L:=(rJ 23 y)) fG mY Bi.enc_len rfl rfl he (d2:=[vk e.name,vj e.kind,vj e.way,.sl 1 (Al eI e.sizes),.sl 1 (Al eI e.strengths)]) rfl) rfl rfl ?_
   refine Ak ?_
   refine Ai fun B=>?_
   refine A4 ?_
   obtain rfl:=oi_ D
   exact A3 [] ⟨rfl,rfl⟩
theorem P6 (bits:Int) (r:Int) (D:Ck bits=some r):Fn Tryz.prog 163 0 [vj bits] [] (fun d' b'=>d'=vj r/\b'=[]):=by
 unfold Ck at D
 refine Fn.of Tryz.func163 rfl rfl rfl fun w0 I ρ0=>?_
 show Ce _ ⟨w0,I,ρ0,0,0,21⟩ _ _ _
 refine Bd 0 8 A5 ?_
 refine Ak ?_
 refine Ai fun B=>?_
 refine Ah ?_
 refine Bd 8 64 B ?_
 refine Bn rfl rfl (.buildArr (sz:=1) (r:=[.val (.int .i64 1024),.val (.int .i64 56)]) O7 (by kernel_rfl) dS (by kernel_rfl) rfl) rfl rfl ?_
 refine Bn rfl rfl (.buildArr (sz:=1) (r:=[.val (.int .i64 2048),.val (.int .i64 80)]) O7 (by kernel_rfl) dS (by kernel_rfl) rfl) rfl rfl ?_
 refine Bn rfl rfl (.buildArr (sz:=1) (r:=[.val (.int .i64 3072),.val (.int .i64 112)]) O7 (by kernel_rfl) dS (by kernel_rfl) rfl) rfl rfl ?_
 refine Bn rfl rfl (.buildArr (sz:=1) (r:=[.val (.int .i64 7680),.val (.int .i64 128)]) O7 (by kernel_rfl) dS (by kernel_rfl) rfl) rfl rfl ?_
 refine Bn rfl rfl (.buildArr (sz:=1) (r:=[.val (.int .i64 15360),.val (.int .i64 192)]) O7 (by kernel_rfl) dS (by kernel_rfl) rfl) rfl rfl ?_
 refine Bn rfl rfl (.buildArr (sz:=2) (r:=[.val (.int .i64 1024),.val (.int .i64 56),.val (.int .i64 2048),.val (.int .i64 80),.val (.int .i64 3072),.val (.int .i64 112),.val (.int .i64 7680),.val (.int .i64 128),.val (.int .i64 15360),.val (.int .i64 192)]) gM (by kernel_rfl) sA (by kernel_rfl) rfl) rfl rfl ?_
 refine Ak ?_
 refine Ai fun B=>?_
 refine As ?_
 refine Jk (fun (x11_1:Int)=>mk [(0,vj bits),(10,.agg [.val (.int .i64 1024),.val (.int .i64 56),.val (.int .i64 2048),.val (.int .i64 80),.val (.int .i64 3072),.val (.int .i64 112),.val (.int .i64 7680),.val (.int .i64 128),.val (.int .i64 15360),.val (.int .i64 192)]),(11,vj x11_1)] [] 0) D (A1 []) ?_
 rintro x11_1 m1 o1 D hn1
 replace D:Ck.l1 bits x11_1=some o1:=D
 show Ce _ _ _ _ (mk _ _ _)
 unfold Ck.l1 at D
 refine Bd 0 8 A5 ?_
 refine Ak ?_
 refine Ai fun B=>?_
 refine Ah ?_
 refine Df rfl D (fun h4 D=>?_) fun h4 D=>?_
 ·refine Ap ?_
  repeat first | refine C4 ?_ | refine C3 ?_
  refine Ah ?_
  refine As ?_
  refine Bd 8 32 B ?_
  obtain⟨e,he,D⟩:=Ad D
  refine Bn rfl rfl (Vv (f:=(eA 2 eI)) (L:=([([1024,56]:List Int),([2048,80]:List Int),([3072,112]:List Int),([7680,128]:List Int),([15360,192]:List Int)]:List (List Int))) gM mP (pG La) rfl rfl he (d2:=[.val (.int .i64 (e[0]!)),.val (.int .i64 (e[1]!))]) rfl) rfl rfl ?_
  refine Ak ?_
  refine Ai fun B=>?_
  refine Bd 32 64 B ?_
  refine Ak ?_
  refine Ed (rd:=[16]) rfl rfl (.idxA (j:=0) O7 Qn rfl (by decide)) rfl rfl ?_
  refine Ak ?_
  refine Ai fun B=>?_
  refine Df rfl D (fun h7 D=>?_) fun h7 D=>?_
  ·refine Ah ?_
   refine Ae (Bp _ _ []) 64 88 B rfl rfl ?_
   refine Ed (rd:=[16]) rfl rfl (.idxA (j:=1) O7 Qn rfl (by decide)) rfl rfl ?_
   refine Ak ?_
   refine Ai fun B=>?_
   refine A4 ?_
   replace D:=C0 D hn1
   obtain rfl:=oi_ D
   exact A3 [] ⟨rfl,rfl⟩
  ·refine Ap ?_
   repeat first | refine C4 ?_ | refine C3 ?_
   refine Ae (Bp _ _ []) 64 80 B rfl rfl ?_
   refine Ak ?_
   refine Ai fun B=>?_
   obtain rfl:=oi_ D
   exact⟨(W (x11_1 + 1),m1),vO _,hn1,A1 []⟩
 ·refine Bv ?_
  repeat first | refine C4 ?_ | refine C3 ?_
  replace D:=C0 D hn1
  refine Bd 8 16 B ?_
  refine Ak ?_
  refine Ai fun B=>?_
  refine A4 ?_
  obtain rfl:=oi_ D
  exact A3 [] ⟨rfl,rfl⟩
theorem Kq (s:(List Int)) (v:Int) (r:Int) (D:Bq s v=some r):Fn Tryz.prog 165 0 [.sl 1 (Al eI s),vj v] [] (fun d' b'=>d'=vj r/\b'=[]):=by
 unfold Bq at D
 refine Fn.of Tryz.func165 rfl rfl rfl fun w0 I ρ0=>?_
 show Ce _ ⟨w0,I,ρ0,0,0,19⟩ _ _ _
 refine Bd 0 8 A5 ?_
 refine Ak ?_
 refine Ai fun B=>?_
 refine Ah ?_
 refine Bd 8 32 B ?_
 refine Ak ?_
 refine Ai fun B=>?_
 refine As ?_
 refine Jk (fun (x8_1:Int)=>mk [(0,.sl 1 (Al eI s)),(1,vj v),(7,.val (.int .i64 (s.length:Int))),(8,vj x8_1)] [] 0) D (A1 []) ?_
 rintro x8_1 m1 o1 D hn1
 replace D:Bq.l1 s v x8_1=some o1:=D
 show Ce _ _ _ _ (mk _ _ _)
 unfold Bq.l1 at D
 refine Bd 0 8 A5 ?_
 refine Ak ?_
 refine Ai fun B=>?_
 refine Ah ?_
 refine Df rfl D (fun h4 D=>?_) fun h4 D=>?_
 ·refine Ap ?_
  repeat first | refine C4 ?_ | refine C3 ?_
  refine Ah ?_
  refine As ?_
  refine Bd 8 24 B ?_
  refine Ak ?_
  refine Ai fun B=>?_
  refine Bd 24 72 B ?_
  refine Ak ?_
  obtain⟨e,he,D⟩:=Ad D
  refine Ak ?_
  refine Bn rfl rfl (Bt Qn (Bh La (Ao he) (o:=0) (c:=.int .i64 e) rfl rfl)) rfl rfl ?_
  refine Ak ?_
  refine Ai fun B=>?_
  refine Df rfl D (fun h7 D=>?_) fun h7 D=>?_
  ·refine Ah ?_
   refine Ae (Bp _ _ []) 72 88 B rfl rfl ?_
   refine Ak ?_
   refine Ai fun B=>?_
   refine A4 ?_
   replace D:=C0 D hn1
   obtain rfl:=oi_ D
   exact A3 [] ⟨rfl,rfl⟩
  ·refine Ap ?_
   repeat first | refine C4 ?_ | refine C3 ?_
   refine Ae (Bp _ _ []) 72 88 B rfl rfl ?_
   refine Ak ?_
   refine Ai fun B=>?_
   obtain rfl:=oi_ D
   exact⟨(W (x8_1 + 1),m1),vO _,hn1,A1 []⟩
 ·refine Bv ?_
  repeat first | refine C4 ?_ | refine C3 ?_
  replace D:=C0 D hn1
  refine Bd 8 16 B ?_
  refine Ak ?_
  refine Ai fun B=>?_
  refine A4 ?_
  obtain rfl:=oi_ D
  exact A3 [] ⟨rfl,rfl⟩
theorem M0 (s:(List Int)) (v:Int) (r:Bool) (D:Dv s v=some r):Fn Tryz.prog 164 0 [.sl 1 (Al eI s),vj v] [] (fun d' b'=>d'=.val (.bool r)/\b'=[]):=by
 unfold Dv at D
 refine Fn.of Tryz.func164 rfl rfl rfl fun w0 I ρ0=>?_
 show Ce _ ⟨w0,I,ρ0,0,0,9⟩ _ _ _
 refine Bd 0 8 A5 ?_
 refine Ak ?_
 refine Ai fun B=>?_
 refine Bd 8 48 B ?_
 refine Ak ?_
 obtain⟨y,hy,D⟩:=Ad D
 refine Dm (Kq _ _ _ hy) ?_
 refine Ak ?_
 refine Ai fun B=>?_
 refine A4 ?_
 obtain rfl:=oi_ D
 exact A3 [] ⟨rfl,rfl⟩
theorem O2 (u:Ax) (r:Int) (D:Av u=some r):Fn Tryz.prog 133 0 [.agg [vj u.Alg,vj u.Bits]] [] (fun d' b'=>d'=vj r/\b'=[]):=by
 unfold Av at D
 refine Fn.of Tryz.func133 rfl rfl rfl fun w0 I ρ0=>?_
 show Ce _ ⟨w0,I,ρ0,0,0,61⟩ _ _ _
 refine Bd 0 16 A5 ?_
 refine Ak ?_
 refine Ai fun B=>?_
 refine Bd 16 88 B ?_
 refine Ak ?_
 obtain⟨y,hy,D⟩:=Ad D
 refine Dm (Pn _ _ hy) ?_
 refine Ak ?_
 refine Ai fun B=>?_
 refine Ah ?_
 refine Bd 88 104 B ?_
 refine Ak ?_
 refine Ai fun B=>?_
 refine Df rfl D (fun h4 D=>?_) fun h4 D=>?_
 ·refine Ah ?_
  refine Ae (Bp _ _ []) 104 112 B rfl rfl ?_
  refine Ak ?_
  refine Ai fun B=>?_
  refine A4 ?_
  obtain rfl:=oi_ D
  exact A3 [] ⟨rfl,rfl⟩
 ·refine Ap ?_
  repeat first | refine C4 ?_ | refine C3 ?_
  refine Ah ?_
  refine Bd 104 120 B ?_
  refine Ak ?_
  refine Ai fun B=>?_
  refine As ?_
  refine Bd 120 136 B ?_
  refine Ak ?_
  refine Ai fun B=>?_
  refine Df rfl D (fun h8 D=>?_) fun h8 D=>?_
  ·refine Ah ?_
   refine Ae (Bp _ _ []) 136 160 B rfl rfl ?_
   refine Ak ?_
   refine Ai fun B=>?_
   refine Df rfl D (fun h10 D=>?_) fun h10 D=>?_
   ·refine Ah ?_
    refine Ae (Bp _ _ []) 160 200 B rfl rfl ?_
    refine Ak ?_
    obtain⟨e,he,D⟩:=Ad D
    refine Ak ?_
    refine Bn rfl rfl (Bt Qn (Bh La (Ao he) (o:=0) (c:=.int .i64 e) rfl rfl)) rfl rfl ?_
    refine Ak ?_
    refine Ai fun B=>?_
    refine A4 ?_
    obtain rfl:=oi_ D
    exact A3 [] ⟨rfl,rfl⟩
   ·refine Ap ?_
    repeat first | refine C4 ?_ | refine C3 ?_
    refine Bd 160 168 B ?_
    refine Ak ?_
    refine Ai fun B=>?_
    refine A4 ?_
    obtain rfl:=oi_ D
    exact A3 [] ⟨rfl,rfl⟩
  ·refine Ah ?_
   refine Ae (Bp _ _ []) 136 152 B rfl rfl ?_
   refine Ak ?_
   refine Ai fun B=>?_
   refine Df rfl D (fun h13 D=>?_) fun h13 D=>?_
   ·refine B9 (ι:=Bool) (fun (x34_1:Bool)=>mk [(1,.ptr 0 0),(34,.val (.bool x34_1))] [(0,.box [vj u.Alg,vj u.Bits] 37)] 1) (fun (x34_1:Bool)=>Av.j1 u x34_1=some r) ?_ ?_
    ·refine Ae (Bp _ _ []) 152 216 B rfl rfl ?_
     refine Ak ?_
     rcases D2 D with ⟨h14,D⟩ | ⟨h14,D⟩
     ·refine Ak ?_
      refine Ai fun B=>?_
      exact⟨decide (u.Bits<=16384),D,A1 [(0,0)]⟩
     ·refine Ak ?_
      refine Ai fun B=>?_
      exact⟨false,D,A1 [(0,0)]⟩
    ·rintro x34_1 D
     replace D:Av.j1 u x34_1=some r:=D
     show Ce _ _ _ _ (mk _ _ _)
     unfold Av.j1 at D
     refine Df rfl D (fun h17 D=>?_) fun h17 D=>?_
     ·refine Ah ?_
      refine Ae (Bp _ _ []) 1 33 A5 rfl rfl ?_
      refine Ak ?_
      obtain⟨y_2,hy_2,D⟩:=Ad D
      refine Dm (P6 _ _ hy_2) ?_
      refine Ak ?_
      refine Ai fun B=>?_
      refine A4 ?_
      obtain rfl:=oi_ D
      exact A3 [] ⟨rfl,rfl⟩
     ·refine Ap ?_
      repeat first | refine C4 ?_ | refine C3 ?_
      refine Bd 1 9 A5 ?_
      refine Ak ?_
      refine Ai fun B=>?_
      refine A4 ?_
      obtain rfl:=oi_ D
      exact A3 [] ⟨rfl,rfl⟩
   ·refine Ah ?_
    refine Ae (Bp _ _ []) 152 168 B rfl rfl ?_
    refine Ak ?_
    refine Ai fun B=>?_
    refine Df rfl D (fun h20 D=>?_) fun h20 D=>?_
    ·refine Ah ?_
     refine Ae (Bp _ _ []) 168 200 B rfl rfl ?_
     refine Bn rfl rfl (An Fj z3 (by decide) rfl rfl rfl rfl Jq (cs:=[.int .i64 160,.int .i64 224,.int .i64 256,.int .i64 384,.int .i64 521]) (.cons .int (.cons .int (.cons .int (.cons .int (.cons .int .nil))))) rfl (l:=([160,224,256,384,521]:List Int)) (f:=eI) rfl) rfl rfl ?_
     refine Ak ?_
     obtain⟨y_3,hy_3,D⟩:=Ad D
     refine Kn [168] [] [] true (M0 _ _ _ hy_3) ?_
     refine Ai fun B=>?_
     refine Df rfl D (fun h22 D=>?_) fun h22 D=>?_
     ·refine Ah ?_
      refine Ae (Bp _ _ []) 200 232 B rfl rfl ?_
      refine Ak ?_
      obtain⟨q,hq,D⟩:=Ad D
      refine Bn rfl rfl (bT hq) rfl rfl ?_
      refine Ak ?_
      refine Ai fun B=>?_
      refine A4 ?_
      obtain rfl:=oi_ D
      exact A3 [] ⟨rfl,rfl⟩
     ·refine Ap ?_
      repeat first | refine C4 ?_ | refine C3 ?_
      refine Bd 200 208 B ?_
      refine Ak ?_
      refine Ai fun B=>?_
      refine A4 ?_
      obtain rfl:=oi_ D
      exact A3 [] ⟨rfl,rfl⟩
    ·refine Ah ?_
     refine Ae (Bp _ _ []) 168 184 B rfl rfl ?_
     refine Ak ?_
     refine Ai fun B=>?_
     refine Df rfl D (fun h25 D=>?_) fun h25 D=>?_
     ·refine Ah ?_
      refine Ae (Bp _ _ []) 184 232 B rfl rfl ?_
      refine Ak ?_
      obtain⟨y_4,hy_4,D⟩:=Ad D
      refine Dm (Kq _ _ _ hy_4) ?_
      refine Ak ?_
      refine Ai fun B=>?_
      refine Bd 232 248 B ?_
      refine Ak ?_
      refine Ai fun B=>?_
      refine Df rfl D (fun h28 D=>?_) fun h28 D=>?_
      ·refine Ah ?_
       refine Ae (Bp _ _ []) 248 296 B rfl rfl ?_
       refine Ak ?_
       obtain⟨e_2,he_2,D⟩:=Ad D
       refine Ak ?_
       refine Bn rfl rfl (Bt Qn (Bh La (Ao he_2) (o:=0) (c:=.int .i64 e_2) rfl rfl)) rfl rfl ?_
       refine Ak ?_
       refine Ai fun B=>?_
       refine A4 ?_
       obtain rfl:=oi_ D
       exact A3 [] ⟨rfl,rfl⟩
      ·refine Ap ?_
       repeat first | refine C4 ?_ | refine C3 ?_
       refine Bd 248 256 B ?_
       refine Ak ?_
       refine Ai fun B=>?_
       refine A4 ?_
       obtain rfl:=oi_ D
       exact A3 [] ⟨rfl,rfl⟩
     ·refine Ap ?_
      repeat first | refine C4 ?_ | refine C3 ?_
      refine Bd 184 192 B ?_
      refine Ak ?_
      refine Ai fun B=>?_
      refine A4 ?_
      obtain rfl:=oi_ D
      exact A3 [] ⟨rfl,rfl⟩
theorem Mp (u:Ax) (r:Bool) (D:F3 u=some r):Fn Tryz.prog 86 0 [.agg [vj u.Alg,vj u.Bits]] [] (fun d' b'=>d'=.val (.bool r)/\b'=[]):=by
 unfold F3 at D
 refine Fn.of Tryz.func86 rfl rfl rfl fun w0 I ρ0=>?_
 show Ce _ ⟨w0,I,ρ0,0,0,6⟩ _ _ _
 refine Bd 0 16 A5 ?_
 refine Ak ?_
 refine Ai fun B=>?_
 refine Bd 16 48 B ?_
 refine Ak ?_
 obtain⟨y,hy,D⟩:=Ad D
 refine Dm (O2 _ _ hy) ?_
 refine Ak ?_
 refine Ai fun B=>?_
 refine A4 ?_
 obtain rfl:=oi_ D
 exact A3 [] ⟨rfl,rfl⟩
theorem Nd (alg:Int) (r:Int) (D:Gq alg=some r):Fn Tryz.prog 87 0 [vj alg] [] (fun d' b'=>d'=vj r/\b'=[]):=by
 unfold Gq at D
 refine Fn.of Tryz.func87 rfl rfl rfl fun w0 I ρ0=>?_
 show Ce _ ⟨w0,I,ρ0,0,0,12⟩ _ _ _
 refine Bd 0 8 A5 ?_
 refine Ak ?_
 refine Ai fun B=>?_
 refine Bd 8 72 B ?_
 refine Ak ?_
 obtain⟨y,hy,D⟩:=Ad D
 refine Dm (Pn _ _ hy) ?_
 refine Ak ?_
 refine Ai fun B=>?_
 refine Bd 72 96 B ?_
 refine Ak ?_
 refine Ai fun B=>?_
 refine A4 ?_
 obtain rfl:=oi_ D
 exact A3 [] ⟨rfl,rfl⟩
theorem It (n:Int) (r:Bool) (D:Ez n=some r):Fn Tryz.prog 88 0 [vj n] [] (fun d' b'=>d'=.val (.bool r)/\b'=[]):=by
 unfold Ez at D
 refine Fn.of Tryz.func88 rfl rfl rfl fun w0 I ρ0=>?_
 show Ce _ ⟨w0,I,ρ0,0,0,9⟩ _ _ _
 refine Bd 0 8 A5 ?_
 refine Ak ?_
 refine Ai fun B=>?_
 refine Bd 8 64 B ?_
 refine Ak ?_
 rcases D2 D with ⟨h2,D⟩ | ⟨h2,D⟩
 ·refine Ak ?_
  refine Ai fun B=>?_
  refine A4 ?_
  obtain rfl:=oi_ D
  exact A3 [] ⟨rfl,rfl⟩
 ·refine Ak ?_
  refine Ai fun B=>?_
  refine A4 ?_
  obtain rfl:=oi_ D
  exact A3 [] ⟨rfl,rfl⟩
theorem Oc (l:(List ByteArray)) (r:Bool) (D:Bg l=some r):Fn Tryz.prog 167 0 [.sl 1 (Al eS l)] [] (fun d' b'=>d'=.val (.bool r)/\b'=[]):=by
 unfold Bg at D
 refine Fn.of Tryz.func167 rfl rfl rfl fun w0 I ρ0=>?_
 show Ce _ ⟨w0,I,ρ0,0,0,32⟩ _ _ _
 refine Bd 0 8 A5 ?_
 refine Ak ?_
 refine Ai fun B=>?_
 refine Ah ?_
 refine Bd 8 32 B ?_
 refine Ak ?_
 refine Ai fun B=>?_
 refine As ?_
 refine Jk (fun (x7_1:Int)=>mk [(0,.sl 1 (Al eS l)),(5,.sl 1 (Al eS l)),(6,.val (.int .i64 (l.length:Int))),(7,vj x7_1)] [] 0) D (A1 []) ?_
 rintro x7_1 m1 o1 D hn1
 replace D:Bg.l1 l x7_1=some o1:=D
 show Ce _ _ _ _ (mk _ _ _)
 unfold Bg.l1 at D
 refine Bd 0 8 A5 ?_
 refine Ak ?_
 refine Ai fun B=>?_
 refine Ah ?_
 refine Df rfl D (fun h4 D=>?_) fun h4 D=>?_
 ·refine Ap ?_
  repeat first | refine C4 ?_ | refine C3 ?_
  refine Ah ?_
  refine As ?_
  refine Bd 8 48 B ?_
  refine Ak ?_
  obtain⟨e,he,D⟩:=Ad D
  refine Ak ?_
  refine Bn rfl rfl (Bt Me (Bh Gz (Ao he) (o:=0) (c:=.str e) rfl rfl)) rfl rfl ?_
  refine Ak ?_
  refine Ai fun B=>?_
  refine B9 (ι:=Bool) (fun (x27_2:Bool)=>mk [(0,.sl 1 (Al eS l)),(5,.sl 1 (Al eS l)),(6,.val (.int .i64 (l.length:Int))),(7,vj x7_1),(27,.val (.bool x27_2))] [] 0) (fun (x27_2:Bool)=>Bg.j2 x7_1 x27_2=some o1) ?_ ?_
  ·refine Ae (Bp _ _ []) 48 176 B rfl rfl ?_
   refine Ak ?_
   obtain⟨y,hy,D⟩:=Ad D
   refine Dm (H7 _ _ hy) ?_
   refine Ak ?_
   rcases D2 D with ⟨h6,D⟩ | ⟨h6,D⟩
   ·refine Ak ?_
    refine Ai fun B=>?_
    exact⟨true,D,A1 []⟩
   ·refine Ak ?_
    rcases D2 D with ⟨h8,D⟩ | ⟨h8,D⟩
    ·refine Ak ?_
     obtain⟨e_2,he_2,D⟩:=Ad D
     refine Ak ?_
     refine Bn (Bu rfl rfl h8) rfl (Bt Me (Bh Gz (Ao he_2) (o:=0) (c:=.str e_2) rfl rfl)) rfl rfl ?_
     refine Ak ?_
     refine Bn (Bu rfl rfl h8) rfl Xn rfl rfl ?_
     refine Ak ?_
     refine Ai fun B=>?_
     exact⟨!Ns (Hs e_2) (Hs e),D,A1 []⟩
    ·refine Ak ?_
     refine Ai fun B=>?_
     exact⟨false,D,A1 []⟩
  ·rintro x27_2 D
   replace D:Bg.j2 x7_1 x27_2=some o1:=D
   show Ce _ _ _ _ (mk _ _ _)
   unfold Bg.j2 at D
   refine Df rfl D (fun h11 D=>?_) fun h11 D=>?_
   ·refine Ah ?_
    refine Ae (Bp _ _ []) 0 8 A5 rfl rfl ?_
    refine Ak ?_
    refine Ai fun B=>?_
    refine A4 ?_
    replace D:=C0 D hn1
    obtain rfl:=oi_ D
    exact A3 [] ⟨rfl,rfl⟩
   ·refine Ap ?_
    repeat first | refine C4 ?_ | refine C3 ?_
    refine Ae (Bp _ _ []) 0 16 A5 rfl rfl ?_
    refine Ak ?_
    refine Ai fun B=>?_
    obtain rfl:=oi_ D
    exact⟨(W (x7_1 + 1),m1),vO _,hn1,A1 []⟩
 ·refine Bv ?_
  repeat first | refine C4 ?_ | refine C3 ?_
  replace D:=C0 D hn1
  refine Bd 8 40 B ?_
  refine Ak ?_
  refine Ai fun B=>?_
  refine A4 ?_
  obtain rfl:=oi_ D
  exact A3 [] ⟨rfl,rfl⟩
theorem L7 (u:Ax) (kind:Int) (r:Bool) (D:Fs u kind=some r):Fn Tryz.prog 168 0 [.agg [vj u.Alg,vj u.Bits],vj kind] [] (fun d' b'=>d'=.val (.bool r)/\b'=[]):=by
 unfold Fs at D
 refine Fn.of Tryz.func168 rfl rfl rfl fun w0 I ρ0=>?_
 show Ce _ ⟨w0,I,ρ0,0,0,14⟩ _ _ _
 refine Bd 0 16 A5 ?_
 refine Ak ?_
 refine Ai fun B=>?_
 refine Bd 16 96 B ?_
 refine Ak ?_
 obtain⟨y,hy,D⟩:=Ad D
 refine Dm (Mp _ _ hy) ?_
 refine Ak ?_
 rcases D2 D with ⟨h2,D⟩ | ⟨h2,D⟩
 ·refine Ak ?_
  obtain⟨y_2,hy_2,D⟩:=Ad D
  refine Dm (Nd _ _ hy_2) ?_
  refine Ak ?_
  refine Ai fun B=>?_
  refine A4 ?_
  obtain rfl:=oi_ D
  exact A3 [] ⟨rfl,rfl⟩
 ·refine Ak ?_
  refine Ai fun B=>?_
  refine A4 ?_
  obtain rfl:=oi_ D
  exact A3 [] ⟨rfl,rfl⟩
theorem P4 (n:Int) (r:Bool) (D:F9 n=some r):Fn Tryz.prog 169 0 [vj n] [] (fun d' b'=>d'=.val (.bool r)/\b'=[]):=by
 unfold F9 at D
 refine Fn.of Tryz.func169 rfl rfl rfl fun w0 I ρ0=>?_
 show Ce _ ⟨w0,I,ρ0,0,0,9⟩ _ _ _
 refine Bd 0 8 A5 ?_
 refine Ak ?_
 refine Ai fun B=>?_
 refine Bd 8 64 B ?_
 refine Ak ?_
 rcases D2 D with ⟨h2,D⟩ | ⟨h2,D⟩
 ·refine Ak ?_
  refine Ai fun B=>?_
  refine A4 ?_
  obtain rfl:=oi_ D
  exact A3 [] ⟨rfl,rfl⟩
 ·refine Ak ?_
  refine Ai fun B=>?_
  refine A4 ?_
  obtain rfl:=oi_ D
  exact A3 [] ⟨rfl,rfl⟩
theorem Ob (c:Ab) (r:Bool) (D:Ay c=some r):Fn Tryz.prog 135 0 [.agg (Ab.dv c)] [] (fun d' b'=>d'=.val (.bool r)/\b'=[]):=by
 unfold Ay at D
 refine Fn.of Tryz.func135 rfl rfl rfl fun w0 I ρ0=>?_
 show Ce _ ⟨w0,I,ρ0,0,0,91⟩ _ _ _
 refine Bd 0 16 A5 ?_
 refine Ak ?_
 refine Ai fun B=>?_
 refine Ah ?_
 refine B9 (ι:=Bool) (fun (x28_1:Bool)=>mk [(1,.ptr 0 0),(28,.val (.bool x28_1))] [(0,.box (Ab.dv c) 67)] 1) (fun (x28_1:Bool)=>Ay.j1 c x28_1=some r) ?_ ?_
 ·refine Ae (Bp _ _ []) 16 224 B rfl rfl ?_
  refine Ak ?_
  rcases D2 D with ⟨h2,D⟩ | ⟨h2,D⟩
  ·refine Ak ?_
   refine Ai fun B=>?_
   exact⟨true,D,A1 [(0,0)]⟩
  ·refine Ak ?_
   rcases D2 D with ⟨h4,D⟩ | ⟨h4,D⟩
   ·refine Ak ?_
    refine Ai fun B=>?_
    exact⟨true,D,A1 [(0,0)]⟩
   ·refine Ak ?_
    obtain⟨y,hy,D⟩:=Ad D
    refine Dm (H7 _ _ hy) ?_
    refine Ak ?_
    rcases D2 D with ⟨h6,D⟩ | ⟨h6,D⟩
    ·refine Ak ?_
     refine Ai fun B=>?_
     exact⟨true,D,A1 [(0,0)]⟩
    ·refine Ak ?_
     obtain⟨y_2,hy_2,D⟩:=Ad D
     refine Dm (H7 _ _ hy_2) ?_
     refine Ak ?_
     rcases D2 D with ⟨h8,D⟩ | ⟨h8,D⟩
     ·refine Ak ?_
      refine Ai fun B=>?_
      exact⟨true,D,A1 [(0,0)]⟩
     ·refine Ak ?_
      obtain⟨y_3,hy_3,D⟩:=Ad D
      refine Dm (Oc _ _ hy_3) ?_
      refine Ak ?_
      refine Ai fun B=>?_
      exact⟨!y_3,D,A1 [(0,0)]⟩
 ·rintro x28_1 D
  replace D:Ay.j1 c x28_1=some r:=D
  show Ce _ _ _ _ (mk _ _ _)
  unfold Ay.j1 at D
  refine Df rfl D (fun h11 D=>?_) fun h11 D=>?_
  ·refine Ah ?_
   refine Ae (Bp _ _ []) 1 9 A5 rfl rfl ?_
   refine Ak ?_
   refine Ai fun B=>?_
   refine A4 ?_
   obtain rfl:=oi_ D
   exact A3 [] ⟨rfl,rfl⟩
  ·refine Ap ?_
   repeat first | refine C4 ?_ | refine C3 ?_
   refine Ah ?_
   refine B9 (ι:=Bool) (fun (x58_2:Bool)=>mk [(1,.ptr 0 0),(58,.val (.bool x58_2))] [(0,.box (Ab.dv c) 67)] 1) (fun (x58_2:Bool)=>Ay.j2 c x58_2=some r) ?_ ?_
   ·refine Ae (Bp _ _ []) 1 241 A5 rfl rfl ?_
    refine Ak ?_
    obtain⟨y_4,hy_4,D⟩:=Ad D
    refine Dm (L7 _ _ _ hy_4) ?_
    refine Ak ?_
    rcases D2 D with ⟨h13,D⟩ | ⟨h13,D⟩
    ·refine Ak ?_
     refine Ai fun B=>?_
     exact⟨true,D,A1 [(0,0)]⟩
    ·refine Ak ?_
     obtain⟨y_5,hy_5,D⟩:=Ad D
     refine Dm (It _ _ hy_5) ?_
     refine Ak ?_
     rcases D2 D with ⟨h15,D⟩ | ⟨h15,D⟩
     ·refine Ak ?_
      refine Ai fun B=>?_
      exact⟨true,D,A1 [(0,0)]⟩
     ·refine Ak ?_
      obtain⟨y_6,hy_6,D⟩:=Ad D
      refine Dm (L7 _ _ _ hy_6) ?_
      refine Ak ?_
      rcases D2 D with ⟨h17,D⟩ | ⟨h17,D⟩
      ·refine Ak ?_
       refine Ai fun B=>?_
       exact⟨true,D,A1 [(0,0)]⟩
      ·refine Ak ?_
       obtain⟨y_7,hy_7,D⟩:=Ad D
       refine Dm (It _ _ hy_7) ?_
       refine Ak ?_
       rcases D2 D with ⟨h19,D⟩ | ⟨h19,D⟩
       ·refine Ak ?_
        refine Ai fun B=>?_
        exact⟨true,D,A1 [(0,0)]⟩
       ·refine Ak ?_
        obtain⟨y_8,hy_8,D⟩:=Ad D
        refine Dm (P4 _ _ hy_8) ?_
        refine Ak ?_
        refine Ai fun B=>?_
        exact⟨!y_8,D,A1 [(0,0)]⟩
   ·rintro x58_2 D
    replace D:Ay.j2 c x58_2=some r:=D
    show Ce _ _ _ _ (mk _ _ _)
    unfold Ay.j2 at D
    refine Df rfl D (fun h22 D=>?_) fun h22 D=>?_
    ·refine Ah ?_
     refine Ae (Bp _ _ []) 1 9 A5 rfl rfl ?_
     refine Ak ?_
     refine Ai fun B=>?_
     refine A4 ?_
     obtain rfl:=oi_ D
     exact A3 [] ⟨rfl,rfl⟩
    ·refine Ap ?_
     repeat first | refine C4 ?_ | refine C3 ?_
     refine Ah ?_
     refine B9 (ι:=Bool) (fun (x73_3:Bool)=>mk [(1,.ptr 0 0),(73,.val (.bool x73_3))] [(0,.box (Ab.dv c) 67)] 1) (fun (x73_3:Bool)=>Ay.j3 c x73_3=some r) ?_ ?_
     ·refine Ae (Bp _ _ []) 1 121 A5 rfl rfl ?_
      refine Ak ?_
      rcases D2 D with ⟨h24,D⟩ | ⟨h24,D⟩
      ·refine Ak ?_
       refine Ai fun B=>?_
       exact⟨true,D,A1 [(0,0)]⟩
      ·refine Ak ?_
       rcases D2 D with ⟨h26,D⟩ | ⟨h26,D⟩
       ·refine Ak ?_
        refine Ai fun B=>?_
        exact⟨true,D,A1 [(0,0)]⟩
       ·refine Ak ?_
        refine Ai fun B=>?_
        exact⟨decide (40000 < c.To),D,A1 [(0,0)]⟩
     ·rintro x73_3 D
      replace D:Ay.j3 c x73_3=some r:=D
      show Ce _ _ _ _ (mk _ _ _)
      unfold Ay.j3 at D
      refine Df rfl D (fun h29 D=>?_) fun h29 D=>?_
      ·refine Ah ?_
       refine Ae (Bp _ _ []) 1 9 A5 rfl rfl ?_
       refine Ak ?_
       refine Ai fun B=>?_
       refine A4 ?_
       obtain rfl:=oi_ D
       exact A3 [] ⟨rfl,rfl⟩
      ·refine Ap ?_
       repeat first | refine C4 ?_ | refine C3 ?_
       refine Bd 1 145 A5 ?_
       refine Ak ?_
       rcases D2 D with ⟨h31,D⟩ | ⟨h31,D⟩
       ·refine Ak ?_
        rcases D2 D with ⟨h32,D⟩ | ⟨h32,D⟩
        ·refine Ak ?_
         rcases D2 D with ⟨h33,D⟩ | ⟨h33,D⟩
         ·refine Ak ?_
          refine Ai fun B=>?_
          refine A4 ?_
          obtain rfl:=oi_ D
          exact A3 [] ⟨rfl,rfl⟩
         ·refine Ak ?_
          refine Ai fun B=>?_
          refine A4 ?_
          obtain rfl:=oi_ D
          exact A3 [] ⟨rfl,rfl⟩
        ·refine Ak ?_
         refine Ai fun B=>?_
         refine A4 ?_
         obtain rfl:=oi_ D
         exact A3 [] ⟨rfl,rfl⟩
       ·refine Ak ?_
        refine Ai fun B=>?_
        refine A4 ?_
        obtain rfl:=oi_ D
        exact A3 [] ⟨rfl,rfl⟩
theorem N9 (c:Ab) (r:Int) (D:Fl c=some r):Fn Tryz.prog 89 0 [.agg (Ab.dv c)] [] (fun d' b'=>d'=vj r/\b'=[]):=by
 unfold Fl at D
 refine Fn.of Tryz.func89 rfl rfl rfl fun w0 I ρ0=>?_
 show Ce _ ⟨w0,I,ρ0,0,0,6⟩ _ _ _
 refine Bd 0 16 A5 ?_
 refine Ak ?_
 refine Ai fun B=>?_
 refine Ah ?_
 refine Bd 16 40 B ?_
 refine Ak ?_
 obtain⟨y,hy,D⟩:=Ad D
 refine Dm (Ob _ _ hy) ?_
 refine Ak ?_
 refine Ai fun B=>?_
 refine Df rfl D (fun h3 D=>?_) fun h3 D=>?_
 ·refine Ah ?_
  refine Ae (Bp _ _ []) 40 48 B rfl rfl ?_
  refine Ak ?_
  refine Ai fun B=>?_
  refine A4 ?_
  obtain rfl:=oi_ D
  exact A3 [] ⟨rfl,rfl⟩
 ·refine Ap ?_
  repeat first | refine C4 ?_ | refine C3 ?_
  refine Bd 40 48 B ?_
  refine Ak ?_
  refine Ai fun B=>?_
  refine A4 ?_
  obtain rfl:=oi_ D
  exact A3 [] ⟨rfl,rfl⟩
theorem Ls (key:Ax) (id:Int) (l:(List Ab)) (r:Bool) (D:Bo key id l=some r):Fn Tryz.prog 42 0 [.agg [vj key.Alg,vj key.Bits],vj id,.sl 15 (Al Ab.enc l)] [] (fun d' b'=>d'=.val (.bool r)/\b'=[]):=by
 unfold Bo at D
 refine Fn.of Tryz.func42 rfl rfl rfl fun w0 I ρ0=>?_
 show Ce _ ⟨w0,I,ρ0,0,0,57⟩ _ _ _
 refine Bd 0 16 A5 ?_
 refine Ak ?_
 refine Ai fun B=>?_
 refine Ah ?_
 refine B9 (ι:=Bool) (fun (x27_1:Bool)=>mk [(1,vj id),(2,.sl 15 (Al Ab.enc l)),(3,.ptr 0 0),(27,.val (.bool x27_1))] [(0,.box [vj key.Alg,vj key.Bits] 37)] 1) (fun (x27_1:Bool)=>Bo.j1 key id l x27_1=some r) ?_ ?_
 ·refine Ae (Bp _ _ []) 16 168 B rfl rfl ?_
  refine Ak ?_
  obtain⟨y,hy,D⟩:=Ad D
  refine Dm (Mp _ _ hy) ?_
  refine Ak ?_
  rcases D2 D with ⟨h2,D⟩ | ⟨h2,D⟩
  ·refine Ak ?_
   refine Ai fun B=>?_
   exact⟨true,D,A1 [(0,0)]⟩
  ·refine Ak ?_
   obtain⟨y_2,hy_2,D⟩:=Ad D
   refine Dm (Nd _ _ hy_2) ?_
   refine Ak ?_
   rcases D2 D with ⟨h4,D⟩ | ⟨h4,D⟩
   ·refine Ak ?_
    refine Ai fun B=>?_
    exact⟨true,D,A1 [(0,0)]⟩
   ·refine Ak ?_
    obtain⟨y_3,hy_3,D⟩:=Ad D
    refine Dm (It _ _ hy_3) ?_
    refine Ak ?_
    rcases D2 D with ⟨h6,D⟩ | ⟨h6,D⟩
    ·refine Ak ?_
     refine Ai fun B=>?_
     exact⟨true,D,A1 [(0,0)]⟩
    ·refine Ak ?_
     refine Ai fun B=>?_
     exact⟨decide (8 < (l.length:Int)),D,A1 [(0,0)]⟩
 ·rintro x27_1 D
  replace D:Bo.j1 key id l x27_1=some r:=D
  show Ce _ _ _ _ (mk _ _ _)
  unfold Bo.j1 at D
  refine Df rfl D (fun h9 D=>?_) fun h9 D=>?_
  ·refine Ah ?_
   refine Ae (Bp _ _ []) 1 9 A5 rfl rfl ?_
   refine Ak ?_
   refine Ai fun B=>?_
   refine A4 ?_
   obtain rfl:=oi_ D
   exact A3 [] ⟨rfl,rfl⟩
  ·refine Ap ?_
   repeat first | refine C4 ?_ | refine C3 ?_
   refine Ah ?_
   refine Bd 1 25 A5 ?_
   refine Ak ?_
   refine Ai fun B=>?_
   refine As ?_
   refine Jk (fun (x30_2:Int)=>mk [(1,vj id),(2,.sl 15 (Al Ab.enc l)),(3,.ptr 0 0),(28,.sl 15 (Al Ab.enc l)),(29,.val (.int .i64 (l.length:Int))),(30,vj x30_2)] [(0,.box [vj key.Alg,vj key.Bits] 37)] 1) D (A1 [(0,0)]) ?_
   rintro x30_2 m2 o2 D hn2
   replace D:Bo.l2 key id l x30_2=some o2:=D
   show Ce _ _ _ _ (mk _ _ _)
   unfold Bo.l2 at D
   refine Bd 1 9 A5 ?_
   refine Ak ?_
   refine Ai fun B=>?_
   refine Ah ?_
   refine Df rfl D (fun h13 D=>?_) fun h13 D=>?_
   ·refine Ap ?_
    repeat first | refine C4 ?_ | refine C3 ?_
    refine Ah ?_
    refine As ?_
    refine Bd 9 41 B ?_
    obtain⟨e,he,D⟩:=Ad D
    refine Ak ?_
    refine Bn rfl rfl (C1 Uu (Bx Ab.enc_len (Ao he) (o:=0) (m:=15) (cs:=(Ab.ec e)) rfl (by decide) rfl) (Ba Ab.enc_len (Ao he) (o:=0) (m:=15) (by decide) rfl)) rfl rfl ?_
    refine Ak ?_
    refine Ai fun B=>?_
    refine Bd 41 65 B ?_
    refine Ak ?_
    obtain⟨y_4,hy_4,D⟩:=Ad D
    refine Dm (N9 _ _ hy_4) ?_
    refine Ak ?_
    refine Ai fun B=>?_
    refine Df rfl D (fun h16 D=>?_) fun h16 D=>?_
    ·refine Ah ?_
     refine Ae (Bp _ _ []) 65 73 B rfl rfl ?_
     refine Ak ?_
     refine Ai fun B=>?_
     refine A4 ?_
     replace D:=C0 D hn2
     obtain rfl:=oi_ D
     exact A3 [] ⟨rfl,rfl⟩
    ·refine Ap ?_
     repeat first | refine C4 ?_ | refine C3 ?_
     refine Ae (Bp _ _ []) 65 81 B rfl rfl ?_
     refine Ak ?_
     refine Ai fun B=>?_
     obtain rfl:=oi_ D
     exact⟨(W (x30_2 + 1),m2),vO _,hn2,A1 [(0,0)]⟩
   ·refine Bv ?_
    repeat first | refine C4 ?_ | refine C3 ?_
    replace D:=C0 D hn2
    refine Ah ?_
    refine Dh (Bp _ _ []) (by kernel_rfl) [0,1,3,7,15,31,63,127,15,511,1023,2047,4095,8191,16383,2047,65535,131071,262143,524287] 9 169 B rfl rfl (by kernel_rfl) ?_
    refine Ak ?_
    rcases D2 D with ⟨h19,D⟩ | ⟨h19,D⟩
    ·refine Ak ?_
     refine Ai fun B=>?_
     refine A4 ?_
     obtain rfl:=oi_ D
     exact A3 [] ⟨rfl,rfl⟩
    ·refine Ak ?_
     obtain⟨e_2,he_2,D⟩:=Ad D
     refine Ak ?_
     refine Bn (Bu rfl rfl h19) rfl (Dg Zk O5 (by decide) (D3 Ab.enc_len (Ao he_2) (o:=3) (by decide) rfl)) rfl rfl ?_
     refine Bn (Bu rfl rfl h19) rfl (C1 O5 (Bx Ab.enc_len (Ao he_2) (o:=3) (m:=2) (cs:=[.int .i64 e_2.Key.Alg,.int .i64 e_2.Key.Bits]) rfl (by decide) rfl) (Ba Ab.enc_len (Ao he_2) (o:=3) (m:=2) (by decide) rfl)) rfl rfl ?_
     refine Ak ?_
     refine Bn (Bu rfl rfl h19) rfl (Ic e_2.Key key) rfl rfl ?_
     refine Ak ?_
     rcases D2 D with ⟨h21,D⟩ | ⟨h21,D⟩
     ·refine Ak ?_
      refine Bn (Bu rfl rfl h21) rfl (Dg aA Qn (by decide) (D3 Ab.enc_len (Ao he_2) (o:=5) (by decide) rfl)) rfl rfl ?_
      refine Bn (Bu rfl rfl h21) rfl (Bt Qn (Bh Ab.enc_len (Ao he_2) (o:=5) (c:=.int .i64 e_2.KeyId) rfl rfl)) rfl rfl ?_
      refine Ak ?_
      refine Ai fun B=>?_
      refine A4 ?_
      obtain rfl:=oi_ D
      exact A3 [] ⟨rfl,rfl⟩
     ·refine Ak ?_
      refine Ai fun B=>?_
      refine A4 ?_
      obtain rfl:=oi_ D
      exact A3 [] ⟨rfl,rfl⟩
end Go.Proofs.YtfanepojdefdpaaGreat
