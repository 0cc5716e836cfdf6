import Derived.Test.YtbpchmikjiinpaaGreatT1
import Derived.Test.YtbpchmikjiinpaaGreatEU
import Derived.Test.YtbpchmikjiinpaaGreatA1
set_option linter.unusedVariables false
set_option linter.unusedSimpArgs false
set_option maxRecDepth 100000
set_option maxHeartbeats 40000000
namespace Go.Proofs.YtbpchmikjiinpaaGreat
open Go.RowKit
theorem mC {l n r} (G:Gl l n=some r):Fn Tryz.prog 40 0 [.sl 1 (Aj eI l),vk n] [] (fun d' b'=>d'=.val (.bool r)/\b'=[]):=by
 unfold Gl at G
 refine Dx 0 17 Tryz.func40 fun _ _ _=>?_
 refine Bt 4 fun B G=>?_
 refine G7 (fun (x9_1:Int)=>mk [(1,vk n),(7,.sl 1 (Aj eI l)),(8,.val (.int .i64 (l.length:Int))),(9,vk x9_1)] [] 0) G (B9 []) ?_
 rintro x9_1 m1 o1 G hn1
 unfold Gl.l1 at G
 exact Hf
instance aQc:Wk 40:=⟨_,@mC⟩
theorem Vj {e f r} (G:Cc e f=some r):Fn Tryz.prog 13 0 [.agg (Ad.dv e),.agg (Aa.dv f)] [] (fun d' b'=>d'=.val (.bool r)/\b'=[]):=by
 unfold Cc at G
 refine Dx 0 66 Tryz.func13 fun _ _ _=>?_
 refine Md (.l 3 (.l 5 (.r 1 (.e 3)))) fun _ _ _ B G=>?_
 refine G7 (fun (x27_1:Int)=>mk [(3,.ptr 0 0),(25,.sl 4 (Aj Am.enc e.Identities)),(26,.val (.int .i64 (e.Identities.length:Int))),(27,vk x27_1)] [(0,.box (Aa.dv f) 26)] 1) G (B9 [(0,8)]) ?_
 rintro x27_1 m1 o1 G hn1
 unfold Cc.l1 at G
 refine D4 (.r 2 (.e 6)) fun _ e_2 _ B G=>?_
 refine Ba (ι:=Bool) (fun (x42_2:Bool)=>mk [(3,.ptr 0 0),(25,.sl 4 (Aj Am.enc e.Identities)),(26,.val (.int .i64 (e.Identities.length:Int))),(27,vk x27_1),(42,.val (.bool x42_2))] [(0,.box (Aa.dv f) 26)] 1) (fun (x42_2:Bool)=>Cc.j2 x27_1 x42_2=some o1) ?_ ?_
 refine Bt 1 fun B G=>?_
 refine Et rfl rfl (Lg e_2.Key f.Use) rfl rfl ?_
 exact Cf
 rintro x42_2 G
 unfold Cc.j2 at G
 exact Hf
instance aQt:Wk 13:=⟨_,@Vj⟩
theorem Zx {s r} (G:Cg s=some r):Fn Tryz.prog 107 0 [ws s] [] (fun d' b'=>d'=.val (.bool r)/\b'=[]):=by
 unfold Cg at G
 refine Dx 0 27 Tryz.func107 fun _ _ _=>?_
 refine Bt 5 fun B G=>?_
 refine G7 (fun (x8_1:Int)=>mk [(0,ws s),(6,.sl 1 (Aj e8 (Hq s))),(7,.val (.int .i64 ((Hq s).length:Int))),(8,vk x8_1)] [] 0) G (B9 []) ?_
 rintro x8_1 m1 o1 G hn1
 unfold Cg.l1 at G
 refine D4 (.r 2 (.e 6)) fun _ e _ B G=>?_
 refine Ba (ι:=Bool) (fun (x17_2:Bool)=>mk [(0,ws s),(6,.sl 1 (Aj e8 (Hq s))),(7,.val (.int .i64 ((Hq s).length:Int))),(8,vk x8_1),(17,.val (.bool x17_2))] [] 0) (fun (x17_2:Bool)=>Cg.j2 x8_1 x17_2=some o1) ?_ ?_
 exact Cf
 rintro x17_2 G
 unfold Cg.j2 at G
 exact Hf
instance aNk:Wk 107:=⟨_,@Zx⟩
theorem cA {r} (G:Pv=some r):Fn Tryz.prog 182 0 [] [] (fun d' b'=>d'=.agg [.val (.string ((r[0]!).name)),.val (.int .i64 ((r[0]!).kind)),.val (.int .i64 ((r[0]!).way)),.sl 1 (Aj eI ((r[0]!).sizes)),.sl 1 (Aj eI ((r[0]!).strengths)),.val (.string ((r[1]!).name)),.val (.int .i64 ((r[1]!).kind)),.val (.int .i64 ((r[1]!).way)),.sl 1 (Aj eI ((r[1]!).sizes)),.sl 1 (Aj eI ((r[1]!).strengths)),.val (.string ((r[2]!).name)),.val (.int .i64 ((r[2]!).kind)),.val (.int .i64 ((r[2]!).way)),.sl 1 (Aj eI ((r[2]!).sizes)),.sl 1 (Aj eI ((r[2]!).strengths)),.val (.string ((r[3]!).name)),.val (.int .i64 ((r[3]!).kind)),.val (.int .i64 ((r[3]!).way)),.sl 1 (Aj eI ((r[3]!).sizes)),.sl 1 (Aj eI ((r[3]!).strengths)),.val (.string ((r[4]!).name)),.val (.int .i64 ((r[4]!).kind)),.val (.int .i64 ((r[4]!).way)),.sl 1 (Aj eI ((r[4]!).sizes)),.sl 1 (Aj eI ((r[4]!).strengths)),.val (.string ((r[5]!).name)),.val (.int .i64 ((r[5]!).kind)),.val (.int .i64 ((r[5]!).way)),.sl 1 (Aj eI ((r[5]!).sizes)),.sl 1 (Aj eI ((r[5]!).strengths)),.val (.string ((r[6]!).name)),.val (.int .i64 ((r[6]!).kind)),.val (.int .i64 ((r[6]!).way)),.sl 1 (Aj eI ((r[6]!).sizes)),.sl 1 (Aj eI ((r[6]!).strengths)),.val (.string ((r[7]!).name)),.val (.int .i64 ((r[7]!).kind)),.val (.int .i64 ((r[7]!).way)),.sl 1 (Aj eI ((r[7]!).sizes)),.sl 1 (Aj eI ((r[7]!).strengths)),.val (.string ((r[8]!).name)),.val (.int .i64 ((r[8]!).kind)),.val (.int .i64 ((r[8]!).way)),.sl 1 (Aj eI ((r[8]!).sizes)),.sl 1 (Aj eI ((r[8]!).strengths)),.val (.string ((r[9]!).name)),.val (.int .i64 ((r[9]!).kind)),.val (.int .i64 ((r[9]!).way)),.sl 1 (Aj eI ((r[9]!).sizes)),.sl 1 (Aj eI ((r[9]!).strengths)),.val (.string ((r[10]!).name)),.val (.int .i64 ((r[10]!).kind)),.val (.int .i64 ((r[10]!).way)),.sl 1 (Aj eI ((r[10]!).sizes)),.sl 1 (Aj eI ((r[10]!).strengths)),.val (.string ((r[11]!).name)),.val (.int .i64 ((r[11]!).kind)),.val (.int .i64 ((r[11]!).way)),.sl 1 (Aj eI ((r[11]!).sizes)),.sl 1 (Aj eI ((r[11]!).strengths)),.val (.string ((r[12]!).name)),.val (.int .i64 ((r[12]!).kind)),.val (.int .i64 ((r[12]!).way)),.sl 1 (Aj eI ((r[12]!).sizes)),.sl 1 (Aj eI ((r[12]!).strengths)),.val (.string ((r[13]!).name)),.val (.int .i64 ((r[13]!).kind)),.val (.int .i64 ((r[13]!).way)),.sl 1 (Aj eI ((r[13]!).sizes)),.sl 1 (Aj eI ((r[13]!).strengths)),.val (.string ((r[14]!).name)),.val (.int .i64 ((r[14]!).kind)),.val (.int .i64 ((r[14]!).way)),.sl 1 (Aj eI ((r[14]!).sizes)),.sl 1 (Aj eI ((r[14]!).strengths)),.val (.string ((r[15]!).name)),.val (.int .i64 ((r[15]!).kind)),.val (.int .i64 ((r[15]!).way)),.sl 1 (Aj eI ((r[15]!).sizes)),.sl 1 (Aj eI ((r[15]!).strengths)),.val (.string ((r[16]!).name)),.val (.int .i64 ((r[16]!).kind)),.val (.int .i64 ((r[16]!).way)),.sl 1 (Aj eI ((r[16]!).sizes)),.sl 1 (Aj eI ((r[16]!).strengths)),.val (.string ((r[17]!).name)),.val (.int .i64 ((r[17]!).kind)),.val (.int .i64 ((r[17]!).way)),.sl 1 (Aj eI ((r[17]!).sizes)),.sl 1 (Aj eI ((r[17]!).strengths)),.val (.string ((r[18]!).name)),.val (.int .i64 ((r[18]!).kind)),.val (.int .i64 ((r[18]!).way)),.sl 1 (Aj eI ((r[18]!).sizes)),.sl 1 (Aj eI ((r[18]!).strengths)),.val (.string ((r[19]!).name)),.val (.int .i64 ((r[19]!).kind)),.val (.int .i64 ((r[19]!).way)),.sl 1 (Aj eI ((r[19]!).sizes)),.sl 1 (Aj eI ((r[19]!).strengths)),.val (.string ((r[20]!).name)),.val (.int .i64 ((r[20]!).kind)),.val (.int .i64 ((r[20]!).way)),.sl 1 (Aj eI ((r[20]!).sizes)),.sl 1 (Aj eI ((r[20]!).strengths)),.val (.string ((r[21]!).name)),.val (.int .i64 ((r[21]!).kind)),.val (.int .i64 ((r[21]!).way)),.sl 1 (Aj eI ((r[21]!).sizes)),.sl 1 (Aj eI ((r[21]!).strengths)),.val (.string ((r[22]!).name)),.val (.int .i64 ((r[22]!).kind)),.val (.int .i64 ((r[22]!).way)),.sl 1 (Aj eI ((r[22]!).sizes)),.sl 1 (Aj eI ((r[22]!).strengths))]/\b'=[]):=by
 unfold Pv at G
 refine Dx 0 46 Tryz.func182 fun _ _ _=>?_
 refine Bt 2 fun B G=>?_
 refine Hj Eb z3 I7 ([18]:List Int) eI ?_
 refine Et rfl rfl (.build (r:=[.val (.string (⟨#[109,100,53]⟩:ByteArray)),.val (.int .i64 1),.val (.int .i64 0),.val (.slice none 0 0),.row 8]) Hg Lk O4 (by kernel_rfl) rfl) rfl rfl ?_
 refine Hj Eb z3 I7 ([60]:List Int) eI ?_
 refine Et rfl rfl (.build (r:=[.val (.string (⟨#[115,104,97,49]⟩:ByteArray)),.val (.int .i64 1),.val (.int .i64 0),.val (.slice none 0 0),.row 24]) Hg Lk O4 (by kernel_rfl) rfl) rfl rfl ?_
 refine Hj Eb z3 I7 ([128]:List Int) eI ?_
 refine Et rfl rfl (.build (r:=[.val (.string (⟨#[115,104,97,50,53,54]⟩:ByteArray)),.val (.int .i64 1),.val (.int .i64 0),.val (.slice none 0 0),.row 40]) Hg Lk O4 (by kernel_rfl) rfl) rfl rfl ?_
 refine Hj Eb z3 I7 ([192]:List Int) eI ?_
 refine Et rfl rfl (.build (r:=[.val (.string (⟨#[115,104,97,51,56,52]⟩:ByteArray)),.val (.int .i64 1),.val (.int .i64 0),.val (.slice none 0 0),.row 56]) Hg Lk O4 (by kernel_rfl) rfl) rfl rfl ?_
 refine Et rfl rfl (.build (r:=[.val (.string (⟨#[114,115,97]⟩:ByteArray)),.val (.int .i64 2),.val (.int .i64 1),.val (.slice none 0 0),.val (.slice none 0 0)]) Hg Lk O4 (by kernel_rfl) rfl) rfl rfl ?_
 refine Et rfl rfl (.build (r:=[.val (.string (⟨#[100,115,97]⟩:ByteArray)),.val (.int .i64 2),.val (.int .i64 1),.val (.slice none 0 0),.val (.slice none 0 0)]) Hg Lk O4 (by kernel_rfl) rfl) rfl rfl ?_
 refine Et rfl rfl (.build (r:=[.val (.string (⟨#[101,99,100,115,97]⟩:ByteArray)),.val (.int .i64 2),.val (.int .i64 2),.val (.slice none 0 0),.val (.slice none 0 0)]) Hg Lk O4 (by kernel_rfl) rfl) rfl rfl ?_
 refine Hj Eb z3 I7 ([128]:List Int) eI ?_
 refine Et rfl rfl (.build (r:=[.val (.string (⟨#[101,100,50,53,53,49,57]⟩:ByteArray)),.val (.int .i64 2),.val (.int .i64 0),.val (.slice none 0 0),.row 96]) Hg Lk O4 (by kernel_rfl) rfl) rfl rfl ?_
 refine Hj Eb z3 I7 ([44,65,87]:List Int) eI ?_
 refine Hj Eb z3 I7 ([128,192,256]:List Int) eI ?_
 refine Et rfl rfl (.build (r:=[.val (.string (⟨#[109,108,100,115,97]⟩:ByteArray)),.val (.int .i64 2),.val (.int .i64 3),.row 112,.row 120]) Hg Lk O4 (by kernel_rfl) rfl) rfl rfl ?_
 refine Et rfl rfl (.build (r:=[.val (.string (⟨#[114,115,97,107,120]⟩:ByteArray)),.val (.int .i64 3),.val (.int .i64 1),.val (.slice none 0 0),.val (.slice none 0 0)]) Hg Lk O4 (by kernel_rfl) rfl) rfl rfl ?_
 refine Et rfl rfl (.build (r:=[.val (.string (⟨#[100,104,101]⟩:ByteArray)),.val (.int .i64 3),.val (.int .i64 1),.val (.slice none 0 0),.val (.slice none 0 0)]) Hg Lk O4 (by kernel_rfl) rfl) rfl rfl ?_
 refine Et rfl rfl (.build (r:=[.val (.string (⟨#[101,99,100,104,101]⟩:ByteArray)),.val (.int .i64 3),.val (.int .i64 2),.val (.slice none 0 0),.val (.slice none 0 0)]) Hg Lk O4 (by kernel_rfl) rfl) rfl rfl ?_
 refine Hj Eb z3 I7 ([512,768,1024]:List Int) eI ?_
 refine Hj Eb z3 I7 ([128,192,256]:List Int) eI ?_
 refine Et rfl rfl (.build (r:=[.val (.string (⟨#[109,108,107,101,109]⟩:ByteArray)),.val (.int .i64 3),.val (.int .i64 3),.row 160,.row 168]) Hg Lk O4 (by kernel_rfl) rfl) rfl rfl ?_
 refine Hj Eb z3 I7 ([40,128]:List Int) eI ?_
 refine Hj Eb z3 I7 ([40,60]:List Int) eI ?_
 refine Et rfl rfl (.build (r:=[.val (.string (⟨#[114,99,52]⟩:ByteArray)),.val (.int .i64 4),.val (.int .i64 3),.row 184,.row 192]) Hg Lk O4 (by kernel_rfl) rfl) rfl rfl ?_
 refine Hj Eb z3 I7 ([112,168]:List Int) eI ?_
 refine Hj Eb z3 I7 ([80,112]:List Int) eI ?_
 refine Et rfl rfl (.build (r:=[.val (.string (⟨#[100,101,115,51]⟩:ByteArray)),.val (.int .i64 4),.val (.int .i64 3),.row 208,.row 216]) Hg Lk O4 (by kernel_rfl) rfl) rfl rfl ?_
 refine Hj Eb z3 I7 ([128,256]:List Int) eI ?_
 refine Hj Eb z3 I7 ([128,256]:List Int) eI ?_
 refine Et rfl rfl (.build (r:=[.val (.string (⟨#[97,101,115,99,98,99]⟩:ByteArray)),.val (.int .i64 4),.val (.int .i64 3),.row 232,.row 240]) Hg Lk O4 (by kernel_rfl) rfl) rfl rfl ?_
 refine Hj Eb z3 I7 ([128,256]:List Int) eI ?_
 refine Hj Eb z3 I7 ([128,256]:List Int) eI ?_
 refine Et rfl rfl (.build (r:=[.val (.string (⟨#[97,101,115,103,99,109]⟩:ByteArray)),.val (.int .i64 4),.val (.int .i64 3),.row 256,.row 264]) Hg Lk O4 (by kernel_rfl) rfl) rfl rfl ?_
 refine Hj Eb z3 I7 ([256]:List Int) eI ?_
 refine Et rfl rfl (.build (r:=[.val (.string (⟨#[99,104,97,99,104,97]⟩:ByteArray)),.val (.int .i64 4),.val (.int .i64 0),.val (.slice none 0 0),.row 280]) Hg Lk O4 (by kernel_rfl) rfl) rfl rfl ?_
 refine Hj Eb z3 I7 ([64]:List Int) eI ?_
 refine Et rfl rfl (.build (r:=[.val (.string (⟨#[104,109,97,99,109,100,53]⟩:ByteArray)),.val (.int .i64 5),.val (.int .i64 0),.val (.slice none 0 0),.row 296]) Hg Lk O4 (by kernel_rfl) rfl) rfl rfl ?_
 refine Hj Eb z3 I7 ([80]:List Int) eI ?_
 refine Et rfl rfl (.build (r:=[.val (.string (⟨#[104,109,97,99,115,104,97,49]⟩:ByteArray)),.val (.int .i64 5),.val (.int .i64 0),.val (.slice none 0 0),.row 312]) Hg Lk O4 (by kernel_rfl) rfl) rfl rfl ?_
 refine Hj Eb z3 I7 ([128]:List Int) eI ?_
 refine Et rfl rfl (.build (r:=[.val (.string (⟨#[104,109,97,99,115,104,97,50,53,54]⟩:ByteArray)),.val (.int .i64 5),.val (.int .i64 0),.val (.slice none 0 0),.row 328]) Hg Lk O4 (by kernel_rfl) rfl) rfl rfl ?_
 refine Hj Eb z3 I7 ([256]:List Int) eI ?_
 refine Et rfl rfl (.build (r:=[.val (.string (⟨#[97,101,97,100]⟩:ByteArray)),.val (.int .i64 5),.val (.int .i64 0),.val (.slice none 0 0),.row 344]) Hg Lk O4 (by kernel_rfl) rfl) rfl rfl ?_
 refine Et rfl rfl (.buildArr (sz:=5) (r:=[.val (.string (⟨#[]⟩:ByteArray)),.val (.int .i64 0),.val (.int .i64 0),.val (.slice none 0 0),.val (.slice none 0 0),.val (.string (⟨#[109,100,53]⟩:ByteArray)),.val (.int .i64 1),.val (.int .i64 0),.val (.slice none 0 0),.row 8,.val (.string (⟨#[115,104,97,49]⟩:ByteArray)),.val (.int .i64 1),.val (.int .i64 0),.val (.slice none 0 0),.row 24,.val (.string (⟨#[115,104,97,50,53,54]⟩:ByteArray)),.val (.int .i64 1),.val (.int .i64 0),.val (.slice none 0 0),.row 40,.val (.string (⟨#[115,104,97,51,56,52]⟩:ByteArray)),.val (.int .i64 1),.val (.int .i64 0),.val (.slice none 0 0),.row 56,.val (.string (⟨#[114,115,97]⟩:ByteArray)),.val (.int .i64 2),.val (.int .i64 1),.val (.slice none 0 0),.val (.slice none 0 0),.val (.string (⟨#[100,115,97]⟩:ByteArray)),.val (.int .i64 2),.val (.int .i64 1),.val (.slice none 0 0),.val (.slice none 0 0),.val (.string (⟨#[101,99,100,115,97]⟩:ByteArray)),.val (.int .i64 2),.val (.int .i64 2),.val (.slice none 0 0),.val (.slice none 0 0),.val (.string (⟨#[101,100,50,53,53,49,57]⟩:ByteArray)),.val (.int .i64 2),.val (.int .i64 0),.val (.slice none 0 0),.row 96,.val (.string (⟨#[109,108,100,115,97]⟩:ByteArray)),.val (.int .i64 2),.val (.int .i64 3),.row 112,.row 120,.val (.string (⟨#[114,115,97,107,120]⟩:ByteArray)),.val (.int .i64 3),.val (.int .i64 1),.val (.slice none 0 0),.val (.slice none 0 0),.val (.string (⟨#[100,104,101]⟩:ByteArray)),.val (.int .i64 3),.val (.int .i64 1),.val (.slice none 0 0),.val (.slice none 0 0),.val (.string (⟨#[101,99,100,104,101]⟩:ByteArray)),.val (.int .i64 3),.val (.int .i64 2),.val (.slice none 0 0),.val (.slice none 0 0),.val (.string (⟨#[109,108,107,101,109]⟩:ByteArray)),.val (.int .i64 3),.val (.int .i64 3),.row 160,.row 168,.val (.string (⟨#[114,99,52]⟩:ByteArray)),.val (.int .i64 4),.val (.int .i64 3),.row 184,.row 192,.val (.string (⟨#[100,101,115,51]⟩:ByteArray)),.val (.int .i64 4),.val (.int .i64 3),.row 208,.row 216,.val (.string (⟨#[97,101,115,99,98,99]⟩:ByteArray)),.val (.int .i64 4),.val (.int .i64 3),.row 232,.row 240,.val (.string (⟨#[97,101,115,103,99,109]⟩:ByteArray)),.val (.int .i64 4),.val (.int .i64 3),.row 256,.row 264,.val (.string (⟨#[99,104,97,99,104,97]⟩:ByteArray)),.val (.int .i64 4),.val (.int .i64 0),.val (.slice none 0 0),.row 280,.val (.string (⟨#[104,109,97,99,109,100,53]⟩:ByteArray)),.val (.int .i64 5),.val (.int .i64 0),.val (.slice none 0 0),.row 296,.val (.string (⟨#[104,109,97,99,115,104,97,49]⟩:ByteArray)),.val (.int .i64 5),.val (.int .i64 0),.val (.slice none 0 0),.row 312,.val (.string (⟨#[104,109,97,99,115,104,97,50,53,54]⟩:ByteArray)),.val (.int .i64 5),.val (.int .i64 0),.val (.slice none 0 0),.row 328,.val (.string (⟨#[97,101,97,100]⟩:ByteArray)),.val (.int .i64 5),.val (.int .i64 0),.val (.slice none 0 0),.row 344]) oO (by kernel_rfl) aJm (by kernel_rfl) rfl) rfl rfl ?_
 exact Cf
instance aO8:Wk 182:=⟨_,@cA⟩
theorem gX {alg r} (G:Fb alg=some r):Fn Tryz.prog 159 0 [vk alg] [] (fun d' b'=>d'=.tup [.agg (Cd.dv r.1),.val (.bool r.2)]/\b'=[]):=by
 unfold Fb at G
 refine Dx 0 14 Tryz.func159 fun _ _ _=>?_
 refine Bt 1 fun B G=>?_
 refine Au <| Ba (ι:=Bool) (fun (x9_1:Bool)=>mk [(0,vk alg),(2,.ptr 0 0),(9,.val (.bool x9_1))] [(0,.box [.val (.string (⟨#[]⟩:ByteArray)),.val (.int .i64 0),.val (.int .i64 0),.val (.slice none 0 0),.val (.slice none 0 0)] 194)] 1) (fun (x9_1:Bool)=>Fb.j1 alg x9_1=some r) ?_ ?_
 exact Cf
 rintro x9_1 G
 unfold Fb.j1 at G
 try dsimp only at G
 refine R3 rfl ?_
 refine Jf rfl G (fun _ G=>?_) fun _ G=>?_
 refine Bt 1 fun B G=>?_
 refine L1 Hg Lk O4 ?_
 exact Cf
 refine Bt 3 fun y _ B G=>?_
 obtain⟨e,he,G⟩:=Ak G
 refine Et rfl rfl (eY (f:=Cd.enc) (L:=(aKg 23 y)) oO aCz Cd.enc_len rfl rfl he (d2:=[ws e.name,vk e.kind,vk e.way,.sl 1 (Aj eI e.sizes),.sl 1 (Aj eI e.strengths)]) rfl) rfl rfl ?_
 exact Cf
instance aNa:Wk 159:=⟨_,@gX⟩
theorem Xo {bits r} (G:Dn bits=some r):Fn Tryz.prog 173 0 [vk bits] [] (fun d' b'=>d'=vk r/\b'=[]):=by
 unfold Dn at G
 refine Dx 0 21 Tryz.func173 fun _ _ _=>?_
 refine Bt 3 fun B G=>?_
 refine Et rfl rfl (.buildArr (sz:=1) (r:=[.val (.int .i64 1024),.val (.int .i64 56)]) T7 (by kernel_rfl) rU (by kernel_rfl) rfl) rfl rfl ?_
 refine Et rfl rfl (.buildArr (sz:=1) (r:=[.val (.int .i64 2048),.val (.int .i64 80)]) T7 (by kernel_rfl) rU (by kernel_rfl) rfl) rfl rfl ?_
 refine Et rfl rfl (.buildArr (sz:=1) (r:=[.val (.int .i64 3072),.val (.int .i64 112)]) T7 (by kernel_rfl) rU (by kernel_rfl) rfl) rfl rfl ?_
 refine Et rfl rfl (.buildArr (sz:=1) (r:=[.val (.int .i64 7680),.val (.int .i64 128)]) T7 (by kernel_rfl) rU (by kernel_rfl) rfl) rfl rfl ?_
 refine Et rfl rfl (.buildArr (sz:=1) (r:=[.val (.int .i64 15360),.val (.int .i64 192)]) T7 (by kernel_rfl) rU (by kernel_rfl) rfl) rfl rfl ?_
 refine Et rfl rfl (.buildArr (sz:=2) (r:=[.val (.int .i64 1024),.val (.int .i64 56),.val (.int .i64 2048),.val (.int .i64 80),.val (.int .i64 3072),.val (.int .i64 112),.val (.int .i64 7680),.val (.int .i64 128),.val (.int .i64 15360),.val (.int .i64 192)]) nZ (by kernel_rfl) aJf (by kernel_rfl) rfl) rfl rfl ?_
 refine Bt 1 fun B G=>?_
 refine G7 (fun (x11_1:Int)=>mk [(0,vk bits),(10,.agg [.val (.int .i64 1024),.val (.int .i64 56),.val (.int .i64 2048),.val (.int .i64 80),.val (.int .i64 3072),.val (.int .i64 112),.val (.int .i64 7680),.val (.int .i64 128),.val (.int .i64 15360),.val (.int .i64 192)]),(11,vk x11_1)] [] 0) G (B9 []) ?_
 rintro x11_1 m1 o1 G hn1
 unfold Dn.l1 at G
 refine D4 (.r 2 (.e 4)) fun _ B G=>?_
 obtain⟨e,he,G⟩:=Ak G
 refine Et rfl rfl (eY (f:=(eA 2 eI)) (L:=([([1024,56]:List Int),([2048,80]:List Int),([3072,112]:List Int),([7680,128]:List Int),([15360,192]:List Int)]:List (List Int))) nZ aDe (aHb Rf) rfl rfl he (d2:=[.val (.int .i64 (e[0]!)),.val (.int .i64 (e[1]!))]) rfl) rfl rfl ?_
 refine Bt 1 fun B G=>?_
 refine Mz (rd:=[16]) rfl rfl (.idxA (j:=0) T7 yW rfl (by decide)) rfl rfl ?_
 refine Md (.r 0 (.e 1)) fun _ B G=>?_
 refine Mz (rd:=[16]) rfl rfl (.idxA (j:=1) T7 yW rfl (by decide)) rfl rfl ?_
 exact Cf
instance aO2:Wk 173:=⟨_,@Xo⟩
theorem V4 {u r} (G:A6 u=some r):Fn Tryz.prog 143 0 [.agg [vk u.Alg,vk u.Bits]] [] (fun d' b'=>d'=vk r/\b'=[]):=by
 unfold A6 at G
 refine Dx 0 61 Tryz.func143 fun _ _ _=>?_
 refine Md (.l 5 (.l 5 (.e 1))) fun _ _ _ _ B G=>?_
 refine Jf rfl G (fun _ G=>?_) fun _ G=>?_
 refine Ba (ι:=Bool) (fun (x34_1:Bool)=>mk [(1,.ptr 0 0),(34,.val (.bool x34_1))] [(0,.box [vk u.Alg,vk u.Bits] 24)] 1) (fun (x34_1:Bool)=>A6.j1 u x34_1=some r) ?_ ?_
 exact Cf
 rintro x34_1 G
 unfold A6.j1 at G
 exact Hf
 refine Md (.r 1 (.e 1)) fun _ B G=>?_
 refine Hj Eb z3 I7 ([160,224,256,384,521]:List Int) eI ?_
 refine Bt 0 fun B G=>?_
 obtain⟨y_3,hy_3,G⟩:=Ak G
 refine P5 [168] [] [] true (Ns hy_3) ?_
 exact Cf
instance aNc:Wk 143:=⟨_,@V4⟩
theorem aB {u r} (G:Ga u=some r):Fn Tryz.prog 108 0 [.agg [vk u.Alg,vk u.Bits]] [] (fun d' b'=>d'=.val (.bool r)/\b'=[]):=by
 unfold Ga at G
 refine Dx 0 6 Tryz.func108 fun _ _ _=>?_
 exact Cf
instance aO1:Wk 108:=⟨_,@aB⟩
theorem bB {alg r} (G:Hp alg=some r):Fn Tryz.prog 121 0 [vk alg] [] (fun d' b'=>d'=vk r/\b'=[]):=by
 unfold Hp at G
 refine Dx 0 12 Tryz.func121 fun _ _ _=>?_
 exact Cf
instance aOe:Wk 121:=⟨_,@bB⟩
theorem Xp {f r} (G:A4 f=some r):Fn Tryz.prog 118 0 [.agg (Aa.dv f)] [] (fun d' b'=>d'=.val (.bool r)/\b'=[]):=by
 unfold A4 at G
 refine Dx 0 114 Tryz.func118 fun _ _ _=>?_
 refine Bt 1 fun B G=>?_
 refine Ba (ι:=Bool) (fun (bare_1:Bool)=>mk [(1,.ptr 0 0),(3,.val (.bool bare_1))] [(0,.box (Aa.dv f) 26)] 1) (fun (bare_1:Bool)=>A4.j1 f bare_1=some r) ?_ ?_
 refine Bt 1 fun B G=>?_
 refine L1 Hh Lt S8 ?_
 refine Et rfl rfl (Lg f.Use (Aq.mk 0 0)) rfl rfl ?_
 exact Cf
 rintro bare_1 G
 unfold A4.j1 at G
 refine I9 3 fun B G=>?_
 refine Ba (ι:=Bool) (fun (x15_2:Bool)=>mk [(1,.ptr 0 0),(3,.val (.bool bare_1)),(14,vk f.Kind),(15,.val (.bool x15_2))] [(0,.box (Aa.dv f) 26)] 1) (fun (x15_2:Bool)=>A4.j2 f bare_1 x15_2=some r) ?_ ?_
 exact Cf
 rintro x15_2 G
 unfold A4.j2 at G
 refine D4 (.l 0 (.l 1 (.l 1 (.e 0)))) fun _ _ _ B G=>?_
 refine Ba (ι:=Bool) (fun (x71_3:Bool)=>mk [(1,.ptr 0 0),(3,.val (.bool bare_1)),(14,vk f.Kind),(71,.val (.bool x71_3))] [(0,.box (Aa.dv f) 26)] 1) (fun (x71_3:Bool)=>A4.j3 f bare_1 x71_3=some r) ?_ ?_
 exact Cf
 rintro x71_3 G
 unfold A4.j3 at G
 refine D4 (.l 0 (.l 1 (.r 1 (.e 1)))) fun _ _ _ B G=>?_
 refine L1 Hh Lt S8 ?_
 refine Et rfl rfl (Lg f.Use (Aq.mk 0 0)) rfl rfl ?_
 exact Cf
instance aOj:Wk 118:=⟨_,@Xp⟩
theorem Zy {f r} (G:Br f=some r):Fn Tryz.prog 92 0 [.agg (Aa.dv f)] [] (fun d' b'=>d'=vk r/\b'=[]):=by
 unfold Br at G
 refine Dx 0 62 Tryz.func92 fun _ _ _=>?_
 refine Bt 1 fun B G=>?_
 refine Ba (ι:=Bool) (fun (where_1:Bool)=>mk [(1,.ptr 0 0),(3,.val (.bool where_1))] [(0,.box (Aa.dv f) 26)] 1) (fun (where_1:Bool)=>Br.j1 f where_1=some r) ?_ ?_
 exact Cf
 rintro where_1 G
 unfold Br.j1 at G
 try dsimp only at G
 refine R3 rfl ?_
 refine Ba (ι:=Bool) (fun (when_2:Bool)=>mk [(1,.ptr 0 0),(3,.val (.bool where_1)),(4,.val (.bool when_2))] [(0,.box (Aa.dv f) 26)] 1) (fun (when_2:Bool)=>Br.j2 f where_1 when_2=some r) ?_ ?_
 exact Cf
 rintro when_2 G
 unfold Br.j2 at G
 try dsimp only at G
 refine R3 rfl ?_
 refine Au <| Ba (ι:=Bool) (fun (x61_3:Bool)=>mk [(61,.val (.bool x61_3))] [] 0) (fun (x61_3:Bool)=>Br.j3 x61_3=some r) ?_ ?_
 exact Cf
 rintro x61_3 G
 unfold Br.j3 at G
 exact Hf
instance aP2:Wk 92:=⟨_,@Zy⟩
end Go.Proofs.YtbpchmikjiinpaaGreat
