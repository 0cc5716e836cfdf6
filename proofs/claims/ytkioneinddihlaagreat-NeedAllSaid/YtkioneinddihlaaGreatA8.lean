import Derived.Test.YtkioneinddihlaaGreatT1
import Derived.Test.YtkioneinddihlaaGreatEU
import Derived.Test.YtkioneinddihlaaGreatA7
set_option linter.unusedVariables false
set_option linter.unusedSimpArgs false
set_option maxRecDepth 100000
set_option maxHeartbeats 40000000
namespace Go.Proofs.YtkioneinddihlaaGreat
open Go.RowKit
theorem Xc {code r} (G:Fk code=some r):Fn Tryz.prog 108 0 [vk code] [] (fun d' b'=>d'=.tup [.agg (A7.dv r.1),vk r.2]/\b'=[]):=by
 unfold Fk at G
 refine Ez 0 20 Tryz.func108 fun _ _ _=>?_
 refine B7 3 fun y _ B G=>?_
 refine A8 <| A6 (ι:=Bool) (fun (x13_1:Bool)=>mk [(0,vk code),(2,.ptr 0 0),(4,.sl 12 (Ak A7.enc y)),(13,.val (.bool x13_1))] [(0,.box [.val (.int .i64 0),.val (.string (⟨#[]⟩:ByteArray)),.val (.int .i64 0),.val (.int .i64 0),.val (.int .i64 0),.val (.int .i64 0),.val (.int .i64 0),.val (.int .i64 0),.val (.int .i64 0),.val (.int .i64 0),.val (.int .i64 0),.val (.int .i64 0)] 146)] 1) (fun (x13_1:Bool)=>Fk.j1 code y x13_1=some r) ?_ ?_
 exact C1
 rintro x13_1 G
 unfold Fk.j1 at G
 refine Dl (.r 0 (.e 1)) fun _ B G=>?_
 refine Kp Ir Lu Oi ?_
 exact C1
instance aLc:Wk 108:=⟨_,@Xc⟩
theorem Tq {s v r} (G:Ck s v=some r):Fn Tryz.prog 138 0 [.sl 1 (Ak eI s),vk v] [] (fun d' b'=>d'=vk r/\b'=[]):=by
 unfold Ck at G
 refine Ez 0 19 Tryz.func138 fun _ _ _=>?_
 refine B7 4 fun B G=>?_
 refine Gc (fun (x8_1:Int)=>mk [(0,.sl 1 (Ak eI s)),(1,vk v),(7,.val (.int .i64 (s.length:Int))),(8,vk x8_1)] [] 0) G (B9 []) ?_
 rintro x8_1 m1 o1 G hn1
 unfold Ck.l1 at G
 exact F0
instance aK6:Wk 138:=⟨_,@Tq⟩
theorem L2 {s v r} (G:Er s v=some r):Fn Tryz.prog 109 0 [.sl 1 (Ak eI s),vk v] [] (fun d' b'=>d'=.val (.bool r)/\b'=[]):=by
 unfold Er at G
 refine Ez 0 9 Tryz.func109 fun _ _ _=>?_
 exact C1
instance aKx:Wk 109:=⟨_,@L2⟩
theorem U5 {l r} (G:Dg l=some r):Fn Tryz.prog 81 0 [.sl 1 (Ak eI l)] [] (fun d' b'=>d'=.val (.bool r)/\b'=[]):=by
 unfold Dg at G
 refine Ez 0 29 Tryz.func81 fun _ _ _=>?_
 refine B7 4 fun B G=>?_
 refine Gc (fun (x9_1:Int)=>mk [(0,.sl 1 (Ak eI l)),(7,.sl 1 (Ak eI l)),(8,.val (.int .i64 (l.length:Int))),(9,vk x9_1)] [] 0) G (B9 []) ?_
 rintro x9_1 m1 o1 G hn1
 unfold Dg.l1 at G
 refine Dl (.r 2 (.e 8)) fun _ _ _ _ _ B G=>?_
 refine A6 (ι:=Bool) (fun (x27_2:Bool)=>mk [(0,.sl 1 (Ak eI l)),(7,.sl 1 (Ak eI l)),(8,.val (.int .i64 (l.length:Int))),(9,vk x9_1),(27,.val (.bool x27_2))] [] 0) (fun (x27_2:Bool)=>Dg.j2 x9_1 x27_2=some o1) ?_ ?_
 exact C1
 rintro x27_2 G
 unfold Dg.j2 at G
 exact F0
instance aM6:Wk 81:=⟨_,@U5⟩
theorem Tl {l r} (G:C0 l=some r):Fn Tryz.prog 82 0 [.sl 1 (Ak eI l)] [] (fun d' b'=>d'=.val (.bool r)/\b'=[]):=by
 unfold C0 at G
 refine Ez 0 24 Tryz.func82 fun _ _ _=>?_
 refine B7 4 fun B G=>?_
 refine Gc (fun (x6_1:Int)=>mk [(0,.sl 1 (Ak eI l)),(5,.val (.int .i64 (l.length:Int))),(6,vk x6_1)] [] 0) G (B9 []) ?_
 rintro x6_1 m1 o1 G hn1
 unfold C0.l1 at G
 refine Dl (.r 2 (.e 4)) fun _ B G=>?_
 refine A6 (ι:=Bool) (fun (x22_2:Bool)=>mk [(0,.sl 1 (Ak eI l)),(5,.val (.int .i64 (l.length:Int))),(6,vk x6_1),(22,.val (.bool x22_2))] [] 0) (fun (x22_2:Bool)=>C0.j2 x6_1 x22_2=some o1) ?_ ?_
 refine Bn (Dx _ _ []) (by kernel_rfl) [0,1,3,7,7,23,63,127,7,7,775,1799,4095,8191] 24 136 B rfl rfl (by kernel_rfl) ?_
 exact C1
 rintro x22_2 G
 unfold C0.j2 at G
 exact F0
instance aMj:Wk 82:=⟨_,@Tl⟩
theorem Yc {r} (G:Ob=some r):Fn Tryz.prog 157 0 [] [] (fun d' b'=>d'=.agg [.val (.string ((r[0]!).name)),.val (.int .i64 ((r[0]!).kind)),.val (.int .i64 ((r[0]!).way)),.sl 1 (Ak eI ((r[0]!).sizes)),.sl 1 (Ak eI ((r[0]!).strengths)),.val (.string ((r[1]!).name)),.val (.int .i64 ((r[1]!).kind)),.val (.int .i64 ((r[1]!).way)),.sl 1 (Ak eI ((r[1]!).sizes)),.sl 1 (Ak eI ((r[1]!).strengths)),.val (.string ((r[2]!).name)),.val (.int .i64 ((r[2]!).kind)),.val (.int .i64 ((r[2]!).way)),.sl 1 (Ak eI ((r[2]!).sizes)),.sl 1 (Ak eI ((r[2]!).strengths)),.val (.string ((r[3]!).name)),.val (.int .i64 ((r[3]!).kind)),.val (.int .i64 ((r[3]!).way)),.sl 1 (Ak eI ((r[3]!).sizes)),.sl 1 (Ak eI ((r[3]!).strengths)),.val (.string ((r[4]!).name)),.val (.int .i64 ((r[4]!).kind)),.val (.int .i64 ((r[4]!).way)),.sl 1 (Ak eI ((r[4]!).sizes)),.sl 1 (Ak eI ((r[4]!).strengths)),.val (.string ((r[5]!).name)),.val (.int .i64 ((r[5]!).kind)),.val (.int .i64 ((r[5]!).way)),.sl 1 (Ak eI ((r[5]!).sizes)),.sl 1 (Ak eI ((r[5]!).strengths)),.val (.string ((r[6]!).name)),.val (.int .i64 ((r[6]!).kind)),.val (.int .i64 ((r[6]!).way)),.sl 1 (Ak eI ((r[6]!).sizes)),.sl 1 (Ak eI ((r[6]!).strengths)),.val (.string ((r[7]!).name)),.val (.int .i64 ((r[7]!).kind)),.val (.int .i64 ((r[7]!).way)),.sl 1 (Ak eI ((r[7]!).sizes)),.sl 1 (Ak eI ((r[7]!).strengths)),.val (.string ((r[8]!).name)),.val (.int .i64 ((r[8]!).kind)),.val (.int .i64 ((r[8]!).way)),.sl 1 (Ak eI ((r[8]!).sizes)),.sl 1 (Ak eI ((r[8]!).strengths)),.val (.string ((r[9]!).name)),.val (.int .i64 ((r[9]!).kind)),.val (.int .i64 ((r[9]!).way)),.sl 1 (Ak eI ((r[9]!).sizes)),.sl 1 (Ak eI ((r[9]!).strengths)),.val (.string ((r[10]!).name)),.val (.int .i64 ((r[10]!).kind)),.val (.int .i64 ((r[10]!).way)),.sl 1 (Ak eI ((r[10]!).sizes)),.sl 1 (Ak eI ((r[10]!).strengths)),.val (.string ((r[11]!).name)),.val (.int .i64 ((r[11]!).kind)),.val (.int .i64 ((r[11]!).way)),.sl 1 (Ak eI ((r[11]!).sizes)),.sl 1 (Ak eI ((r[11]!).strengths)),.val (.string ((r[12]!).name)),.val (.int .i64 ((r[12]!).kind)),.val (.int .i64 ((r[12]!).way)),.sl 1 (Ak eI ((r[12]!).sizes)),.sl 1 (Ak eI ((r[12]!).strengths)),.val (.string ((r[13]!).name)),.val (.int .i64 ((r[13]!).kind)),.val (.int .i64 ((r[13]!).way)),.sl 1 (Ak eI ((r[13]!).sizes)),.sl 1 (Ak eI ((r[13]!).strengths)),.val (.string ((r[14]!).name)),.val (.int .i64 ((r[14]!).kind)),.val (.int .i64 ((r[14]!).way)),.sl 1 (Ak eI ((r[14]!).sizes)),.sl 1 (Ak eI ((r[14]!).strengths)),.val (.string ((r[15]!).name)),.val (.int .i64 ((r[15]!).kind)),.val (.int .i64 ((r[15]!).way)),.sl 1 (Ak eI ((r[15]!).sizes)),.sl 1 (Ak eI ((r[15]!).strengths)),.val (.string ((r[16]!).name)),.val (.int .i64 ((r[16]!).kind)),.val (.int .i64 ((r[16]!).way)),.sl 1 (Ak eI ((r[16]!).sizes)),.sl 1 (Ak eI ((r[16]!).strengths)),.val (.string ((r[17]!).name)),.val (.int .i64 ((r[17]!).kind)),.val (.int .i64 ((r[17]!).way)),.sl 1 (Ak eI ((r[17]!).sizes)),.sl 1 (Ak eI ((r[17]!).strengths)),.val (.string ((r[18]!).name)),.val (.int .i64 ((r[18]!).kind)),.val (.int .i64 ((r[18]!).way)),.sl 1 (Ak eI ((r[18]!).sizes)),.sl 1 (Ak eI ((r[18]!).strengths)),.val (.string ((r[19]!).name)),.val (.int .i64 ((r[19]!).kind)),.val (.int .i64 ((r[19]!).way)),.sl 1 (Ak eI ((r[19]!).sizes)),.sl 1 (Ak eI ((r[19]!).strengths)),.val (.string ((r[20]!).name)),.val (.int .i64 ((r[20]!).kind)),.val (.int .i64 ((r[20]!).way)),.sl 1 (Ak eI ((r[20]!).sizes)),.sl 1 (Ak eI ((r[20]!).strengths)),.val (.string ((r[21]!).name)),.val (.int .i64 ((r[21]!).kind)),.val (.int .i64 ((r[21]!).way)),.sl 1 (Ak eI ((r[21]!).sizes)),.sl 1 (Ak eI ((r[21]!).strengths)),.val (.string ((r[22]!).name)),.val (.int .i64 ((r[22]!).kind)),.val (.int .i64 ((r[22]!).way)),.sl 1 (Ak eI ((r[22]!).sizes)),.sl 1 (Ak eI ((r[22]!).strengths))]/\b'=[]):=by
 unfold Ob at G
 refine Ez 0 46 Tryz.func157 fun _ _ _=>?_
 refine B7 2 fun B G=>?_
 refine H0 Es z3 I6 ([18]:List Int) eI ?_
 refine Fw rfl rfl (.build (r:=[.val (.string (⟨#[109,100,53]⟩:ByteArray)),.val (.int .i64 1),.val (.int .i64 0),.val (.slice none 0 0),.row 8]) G0 Jz Nd (by kernel_rfl) rfl) rfl rfl ?_
 refine H0 Es z3 I6 ([60]:List Int) eI ?_
 refine Fw rfl rfl (.build (r:=[.val (.string (⟨#[115,104,97,49]⟩:ByteArray)),.val (.int .i64 1),.val (.int .i64 0),.val (.slice none 0 0),.row 24]) G0 Jz Nd (by kernel_rfl) rfl) rfl rfl ?_
 refine H0 Es z3 I6 ([128]:List Int) eI ?_
 refine Fw rfl rfl (.build (r:=[.val (.string (⟨#[115,104,97,50,53,54]⟩:ByteArray)),.val (.int .i64 1),.val (.int .i64 0),.val (.slice none 0 0),.row 40]) G0 Jz Nd (by kernel_rfl) rfl) rfl rfl ?_
 refine H0 Es z3 I6 ([192]:List Int) eI ?_
 refine Fw rfl rfl (.build (r:=[.val (.string (⟨#[115,104,97,51,56,52]⟩:ByteArray)),.val (.int .i64 1),.val (.int .i64 0),.val (.slice none 0 0),.row 56]) G0 Jz Nd (by kernel_rfl) rfl) rfl rfl ?_
 refine Fw rfl rfl (.build (r:=[.val (.string (⟨#[114,115,97]⟩:ByteArray)),.val (.int .i64 2),.val (.int .i64 1),.val (.slice none 0 0),.val (.slice none 0 0)]) G0 Jz Nd (by kernel_rfl) rfl) rfl rfl ?_
 refine Fw rfl rfl (.build (r:=[.val (.string (⟨#[100,115,97]⟩:ByteArray)),.val (.int .i64 2),.val (.int .i64 1),.val (.slice none 0 0),.val (.slice none 0 0)]) G0 Jz Nd (by kernel_rfl) rfl) rfl rfl ?_
 refine Fw rfl rfl (.build (r:=[.val (.string (⟨#[101,99,100,115,97]⟩:ByteArray)),.val (.int .i64 2),.val (.int .i64 2),.val (.slice none 0 0),.val (.slice none 0 0)]) G0 Jz Nd (by kernel_rfl) rfl) rfl rfl ?_
 refine H0 Es z3 I6 ([128]:List Int) eI ?_
 refine Fw rfl rfl (.build (r:=[.val (.string (⟨#[101,100,50,53,53,49,57]⟩:ByteArray)),.val (.int .i64 2),.val (.int .i64 0),.val (.slice none 0 0),.row 96]) G0 Jz Nd (by kernel_rfl) rfl) rfl rfl ?_
 refine H0 Es z3 I6 ([44,65,87]:List Int) eI ?_
 refine H0 Es z3 I6 ([128,192,256]:List Int) eI ?_
 refine Fw rfl rfl (.build (r:=[.val (.string (⟨#[109,108,100,115,97]⟩:ByteArray)),.val (.int .i64 2),.val (.int .i64 3),.row 112,.row 120]) G0 Jz Nd (by kernel_rfl) rfl) rfl rfl ?_
 refine Fw rfl rfl (.build (r:=[.val (.string (⟨#[114,115,97,107,120]⟩:ByteArray)),.val (.int .i64 3),.val (.int .i64 1),.val (.slice none 0 0),.val (.slice none 0 0)]) G0 Jz Nd (by kernel_rfl) rfl) rfl rfl ?_
 refine Fw rfl rfl (.build (r:=[.val (.string (⟨#[100,104,101]⟩:ByteArray)),.val (.int .i64 3),.val (.int .i64 1),.val (.slice none 0 0),.val (.slice none 0 0)]) G0 Jz Nd (by kernel_rfl) rfl) rfl rfl ?_
 refine Fw rfl rfl (.build (r:=[.val (.string (⟨#[101,99,100,104,101]⟩:ByteArray)),.val (.int .i64 3),.val (.int .i64 2),.val (.slice none 0 0),.val (.slice none 0 0)]) G0 Jz Nd (by kernel_rfl) rfl) rfl rfl ?_
 refine H0 Es z3 I6 ([512,768,1024]:List Int) eI ?_
 refine H0 Es z3 I6 ([128,192,256]:List Int) eI ?_
 refine Fw rfl rfl (.build (r:=[.val (.string (⟨#[109,108,107,101,109]⟩:ByteArray)),.val (.int .i64 3),.val (.int .i64 3),.row 160,.row 168]) G0 Jz Nd (by kernel_rfl) rfl) rfl rfl ?_
 refine H0 Es z3 I6 ([40,128]:List Int) eI ?_
 refine H0 Es z3 I6 ([40,60]:List Int) eI ?_
 refine Fw rfl rfl (.build (r:=[.val (.string (⟨#[114,99,52]⟩:ByteArray)),.val (.int .i64 4),.val (.int .i64 3),.row 184,.row 192]) G0 Jz Nd (by kernel_rfl) rfl) rfl rfl ?_
 refine H0 Es z3 I6 ([112,168]:List Int) eI ?_
 refine H0 Es z3 I6 ([80,112]:List Int) eI ?_
 refine Fw rfl rfl (.build (r:=[.val (.string (⟨#[100,101,115,51]⟩:ByteArray)),.val (.int .i64 4),.val (.int .i64 3),.row 208,.row 216]) G0 Jz Nd (by kernel_rfl) rfl) rfl rfl ?_
 refine H0 Es z3 I6 ([128,256]:List Int) eI ?_
 refine H0 Es z3 I6 ([128,256]:List Int) eI ?_
 refine Fw rfl rfl (.build (r:=[.val (.string (⟨#[97,101,115,99,98,99]⟩:ByteArray)),.val (.int .i64 4),.val (.int .i64 3),.row 232,.row 240]) G0 Jz Nd (by kernel_rfl) rfl) rfl rfl ?_
 refine H0 Es z3 I6 ([128,256]:List Int) eI ?_
 refine H0 Es z3 I6 ([128,256]:List Int) eI ?_
 refine Fw rfl rfl (.build (r:=[.val (.string (⟨#[97,101,115,103,99,109]⟩:ByteArray)),.val (.int .i64 4),.val (.int .i64 3),.row 256,.row 264]) G0 Jz Nd (by kernel_rfl) rfl) rfl rfl ?_
 refine H0 Es z3 I6 ([256]:List Int) eI ?_
 refine Fw rfl rfl (.build (r:=[.val (.string (⟨#[99,104,97,99,104,97]⟩:ByteArray)),.val (.int .i64 4),.val (.int .i64 0),.val (.slice none 0 0),.row 280]) G0 Jz Nd (by kernel_rfl) rfl) rfl rfl ?_
 refine H0 Es z3 I6 ([64]:List Int) eI ?_
 refine Fw rfl rfl (.build (r:=[.val (.string (⟨#[104,109,97,99,109,100,53]⟩:ByteArray)),.val (.int .i64 5),.val (.int .i64 0),.val (.slice none 0 0),.row 296]) G0 Jz Nd (by kernel_rfl) rfl) rfl rfl ?_
 refine H0 Es z3 I6 ([80]:List Int) eI ?_
 refine Fw rfl rfl (.build (r:=[.val (.string (⟨#[104,109,97,99,115,104,97,49]⟩:ByteArray)),.val (.int .i64 5),.val (.int .i64 0),.val (.slice none 0 0),.row 312]) G0 Jz Nd (by kernel_rfl) rfl) rfl rfl ?_
 refine H0 Es z3 I6 ([128]:List Int) eI ?_
 refine Fw rfl rfl (.build (r:=[.val (.string (⟨#[104,109,97,99,115,104,97,50,53,54]⟩:ByteArray)),.val (.int .i64 5),.val (.int .i64 0),.val (.slice none 0 0),.row 328]) G0 Jz Nd (by kernel_rfl) rfl) rfl rfl ?_
 refine H0 Es z3 I6 ([256]:List Int) eI ?_
 refine Fw rfl rfl (.build (r:=[.val (.string (⟨#[97,101,97,100]⟩:ByteArray)),.val (.int .i64 5),.val (.int .i64 0),.val (.slice none 0 0),.row 344]) G0 Jz Nd (by kernel_rfl) rfl) rfl rfl ?_
 refine Fw rfl rfl (.buildArr (sz:=5) (r:=[.val (.string (⟨#[]⟩:ByteArray)),.val (.int .i64 0),.val (.int .i64 0),.val (.slice none 0 0),.val (.slice none 0 0),.val (.string (⟨#[109,100,53]⟩:ByteArray)),.val (.int .i64 1),.val (.int .i64 0),.val (.slice none 0 0),.row 8,.val (.string (⟨#[115,104,97,49]⟩:ByteArray)),.val (.int .i64 1),.val (.int .i64 0),.val (.slice none 0 0),.row 24,.val (.string (⟨#[115,104,97,50,53,54]⟩:ByteArray)),.val (.int .i64 1),.val (.int .i64 0),.val (.slice none 0 0),.row 40,.val (.string (⟨#[115,104,97,51,56,52]⟩:ByteArray)),.val (.int .i64 1),.val (.int .i64 0),.val (.slice none 0 0),.row 56,.val (.string (⟨#[114,115,97]⟩:ByteArray)),.val (.int .i64 2),.val (.int .i64 1),.val (.slice none 0 0),.val (.slice none 0 0),.val (.string (⟨#[100,115,97]⟩:ByteArray)),.val (.int .i64 2),.val (.int .i64 1),.val (.slice none 0 0),.val (.slice none 0 0),.val (.string (⟨#[101,99,100,115,97]⟩:ByteArray)),.val (.int .i64 2),.val (.int .i64 2),.val (.slice none 0 0),.val (.slice none 0 0),.val (.string (⟨#[101,100,50,53,53,49,57]⟩:ByteArray)),.val (.int .i64 2),.val (.int .i64 0),.val (.slice none 0 0),.row 96,.val (.string (⟨#[109,108,100,115,97]⟩:ByteArray)),.val (.int .i64 2),.val (.int .i64 3),.row 112,.row 120,.val (.string (⟨#[114,115,97,107,120]⟩:ByteArray)),.val (.int .i64 3),.val (.int .i64 1),.val (.slice none 0 0),.val (.slice none 0 0),.val (.string (⟨#[100,104,101]⟩:ByteArray)),.val (.int .i64 3),.val (.int .i64 1),.val (.slice none 0 0),.val (.slice none 0 0),.val (.string (⟨#[101,99,100,104,101]⟩:ByteArray)),.val (.int .i64 3),.val (.int .i64 2),.val (.slice none 0 0),.val (.slice none 0 0),.val (.string (⟨#[109,108,107,101,109]⟩:ByteArray)),.val (.int .i64 3),.val (.int .i64 3),.row 160,.row 168,.val (.string (⟨#[114,99,52]⟩:ByteArray)),.val (.int .i64 4),.val (.int .i64 3),.row 184,.row 192,.val (.string (⟨#[100,101,115,51]⟩:ByteArray)),.val (.int .i64 4),.val (.int .i64 3),.row 208,.row 216,.val (.string (⟨#[97,101,115,99,98,99]⟩:ByteArray)),.val (.int .i64 4),.val (.int .i64 3),.row 232,.row 240,.val (.string (⟨#[97,101,115,103,99,109]⟩:ByteArray)),.val (.int .i64 4),.val (.int .i64 3),.row 256,.row 264,.val (.string (⟨#[99,104,97,99,104,97]⟩:ByteArray)),.val (.int .i64 4),.val (.int .i64 0),.val (.slice none 0 0),.row 280,.val (.string (⟨#[104,109,97,99,109,100,53]⟩:ByteArray)),.val (.int .i64 5),.val (.int .i64 0),.val (.slice none 0 0),.row 296,.val (.string (⟨#[104,109,97,99,115,104,97,49]⟩:ByteArray)),.val (.int .i64 5),.val (.int .i64 0),.val (.slice none 0 0),.row 312,.val (.string (⟨#[104,109,97,99,115,104,97,50,53,54]⟩:ByteArray)),.val (.int .i64 5),.val (.int .i64 0),.val (.slice none 0 0),.row 328,.val (.string (⟨#[97,101,97,100]⟩:ByteArray)),.val (.int .i64 5),.val (.int .i64 0),.val (.slice none 0 0),.row 344]) lC (by kernel_rfl) aHo (by kernel_rfl) rfl) rfl rfl ?_
 exact C1
instance aK7:Wk 157:=⟨_,@Yc⟩
theorem cY {alg r} (G:E2 alg=some r):Fn Tryz.prog 139 0 [vk alg] [] (fun d' b'=>d'=.tup [.agg (Cg.dv r.1),.val (.bool r.2)]/\b'=[]):=by
 unfold E2 at G
 refine Ez 0 14 Tryz.func139 fun _ _ _=>?_
 refine B7 1 fun B G=>?_
 refine A8 <| A6 (ι:=Bool) (fun (x9_1:Bool)=>mk [(0,vk alg),(2,.ptr 0 0),(9,.val (.bool x9_1))] [(0,.box [.val (.string (⟨#[]⟩:ByteArray)),.val (.int .i64 0),.val (.int .i64 0),.val (.slice none 0 0),.val (.slice none 0 0)] 186)] 1) (fun (x9_1:Bool)=>E2.j1 alg x9_1=some r) ?_ ?_
 exact C1
 rintro x9_1 G
 unfold E2.j1 at G
 try dsimp only at G
 refine Nl rfl ?_
 refine Ja rfl G (fun _ G=>?_) fun _ G=>?_
 refine B7 1 fun B G=>?_
 refine Kp G0 Jz Nd ?_
 exact C1
 refine B7 3 fun y _ B G=>?_
 obtain⟨e,he,G⟩:=Aq G
 refine Fw rfl rfl (bX (f:=Cg.enc) (L:=(aE0 23 y)) lC zX Cg.enc_len rfl rfl he (d2:=[ws e.name,vk e.kind,vk e.way,.sl 1 (Ak eI e.sizes),.sl 1 (Ak eI e.strengths)]) rfl) rfl rfl ?_
 exact C1
instance aLb:Wk 139:=⟨_,@cY⟩
theorem Ui {bits r} (G:Dq bits=some r):Fn Tryz.prog 141 0 [vk bits] [] (fun d' b'=>d'=vk r/\b'=[]):=by
 unfold Dq at G
 refine Ez 0 21 Tryz.func141 fun _ _ _=>?_
 refine B7 3 fun B G=>?_
 refine Fw rfl rfl (.buildArr (sz:=1) (r:=[.val (.int .i64 1024),.val (.int .i64 56)]) R1 (by kernel_rfl) pF (by kernel_rfl) rfl) rfl rfl ?_
 refine Fw rfl rfl (.buildArr (sz:=1) (r:=[.val (.int .i64 2048),.val (.int .i64 80)]) R1 (by kernel_rfl) pF (by kernel_rfl) rfl) rfl rfl ?_
 refine Fw rfl rfl (.buildArr (sz:=1) (r:=[.val (.int .i64 3072),.val (.int .i64 112)]) R1 (by kernel_rfl) pF (by kernel_rfl) rfl) rfl rfl ?_
 refine Fw rfl rfl (.buildArr (sz:=1) (r:=[.val (.int .i64 7680),.val (.int .i64 128)]) R1 (by kernel_rfl) pF (by kernel_rfl) rfl) rfl rfl ?_
 refine Fw rfl rfl (.buildArr (sz:=1) (r:=[.val (.int .i64 15360),.val (.int .i64 192)]) R1 (by kernel_rfl) pF (by kernel_rfl) rfl) rfl rfl ?_
 refine Fw rfl rfl (.buildArr (sz:=2) (r:=[.val (.int .i64 1024),.val (.int .i64 56),.val (.int .i64 2048),.val (.int .i64 80),.val (.int .i64 3072),.val (.int .i64 112),.val (.int .i64 7680),.val (.int .i64 128),.val (.int .i64 15360),.val (.int .i64 192)]) lM (by kernel_rfl) aFa (by kernel_rfl) rfl) rfl rfl ?_
 refine B7 1 fun B G=>?_
 refine Gc (fun (x11_1:Int)=>mk [(0,vk bits),(10,.agg [.val (.int .i64 1024),.val (.int .i64 56),.val (.int .i64 2048),.val (.int .i64 80),.val (.int .i64 3072),.val (.int .i64 112),.val (.int .i64 7680),.val (.int .i64 128),.val (.int .i64 15360),.val (.int .i64 192)]),(11,vk x11_1)] [] 0) G (B9 []) ?_
 rintro x11_1 m1 o1 G hn1
 unfold Dq.l1 at G
 refine Dl (.r 2 (.e 4)) fun _ B G=>?_
 obtain⟨e,he,G⟩:=Aq G
 refine Fw rfl rfl (bX (f:=(eA 2 eI)) (L:=([([1024,56]:List Int),([2048,80]:List Int),([3072,112]:List Int),([7680,128]:List Int),([15360,192]:List Int)]:List (List Int))) lM zN (aDj O4) rfl rfl he (d2:=[.val (.int .i64 (e[0]!)),.val (.int .i64 (e[1]!))]) rfl) rfl rfl ?_
 refine B7 1 fun B G=>?_
 refine Ik (rd:=[16]) rfl rfl (.idxA (j:=0) R1 sF rfl (by decide)) rfl rfl ?_
 refine Jv (.r 0 (.e 1)) fun _ B G=>?_
 refine Ik (rd:=[16]) rfl rfl (.idxA (j:=1) R1 sF rfl (by decide)) rfl rfl ?_
 exact C1
instance aJ3:Wk 141:=⟨_,@Ui⟩
theorem Te {u r} (G:A9 u=some r):Fn Tryz.prog 113 0 [.agg [vk u.Alg,vk u.Bits]] [] (fun d' b'=>d'=vk r/\b'=[]):=by
 unfold A9 at G
 refine Ez 0 61 Tryz.func113 fun _ _ _=>?_
 refine Jv (.l 5 (.l 5 (.e 1))) fun _ _ _ _ B G=>?_
 refine Ja rfl G (fun _ G=>?_) fun _ G=>?_
 refine A6 (ι:=Bool) (fun (x34_1:Bool)=>mk [(1,.ptr 0 0),(34,.val (.bool x34_1))] [(0,.box [vk u.Alg,vk u.Bits] 40)] 1) (fun (x34_1:Bool)=>A9.j1 u x34_1=some r) ?_ ?_
 exact C1
 rintro x34_1 G
 unfold A9.j1 at G
 exact F0
 refine Jv (.r 1 (.e 1)) fun _ B G=>?_
 refine H0 Es z3 I6 ([160,224,256,384,521]:List Int) eI ?_
 refine B7 0 fun B G=>?_
 obtain⟨y_3,hy_3,G⟩:=Aq G
 refine L3 [168] [] [] true (L2 hy_3) ?_
 exact C1
instance aKq:Wk 113:=⟨_,@Te⟩
theorem Xl {u r} (G:Hb u=some r):Fn Tryz.prog 91 0 [.agg [vk u.Alg,vk u.Bits]] [] (fun d' b'=>d'=.val (.bool r)/\b'=[]):=by
 unfold Hb at G
 refine Ez 0 6 Tryz.func91 fun _ _ _=>?_
 exact C1
instance aMr:Wk 91:=⟨_,@Xl⟩
theorem Zv {alg r} (G:H2 alg=some r):Fn Tryz.prog 110 0 [vk alg] [] (fun d' b'=>d'=vk r/\b'=[]):=by
 unfold H2 at G
 refine Ez 0 12 Tryz.func110 fun _ _ _=>?_
 exact C1
instance aJ4:Wk 110:=⟨_,@Zv⟩
theorem Ox {n r} (G:Fc n=some r):Fn Tryz.prog 87 0 [vk n] [] (fun d' b'=>d'=.val (.bool r)/\b'=[]):=by
 unfold Fc at G
 refine Ez 0 9 Tryz.func87 fun _ _ _=>?_
 exact C1
instance aNn:Wk 87:=⟨_,@Ox⟩
theorem Xe {s r} (G:C4 s=some r):Fn Tryz.prog 90 0 [ws s] [] (fun d' b'=>d'=.val (.bool r)/\b'=[]):=by
 unfold C4 at G
 refine Ez 0 27 Tryz.func90 fun _ _ _=>?_
 refine B7 5 fun B G=>?_
 refine Gc (fun (x8_1:Int)=>mk [(0,ws s),(6,.sl 1 (Ak e8 (K0 s))),(7,.val (.int .i64 ((K0 s).length:Int))),(8,vk x8_1)] [] 0) G (B9 []) ?_
 rintro x8_1 m1 o1 G hn1
 unfold C4.l1 at G
 refine Dl (.r 2 (.e 6)) fun _ e _ B G=>?_
 refine A6 (ι:=Bool) (fun (x17_2:Bool)=>mk [(0,ws s),(6,.sl 1 (Ak e8 (K0 s))),(7,.val (.int .i64 ((K0 s).length:Int))),(8,vk x8_1),(17,.val (.bool x17_2))] [] 0) (fun (x17_2:Bool)=>C4.j2 x8_1 x17_2=some o1) ?_ ?_
 exact C1
 rintro x17_2 G
 unfold C4.j2 at G
 exact F0
instance aL9:Wk 90:=⟨_,@Xe⟩
theorem Ss {l r} (G:Ci l=some r):Fn Tryz.prog 158 0 [.sl 1 (Ak eS l)] [] (fun d' b'=>d'=.val (.bool r)/\b'=[]):=by
 unfold Ci at G
 refine Ez 0 32 Tryz.func158 fun _ _ _=>?_
 refine B7 4 fun B G=>?_
 refine Gc (fun (x7_1:Int)=>mk [(0,.sl 1 (Ak eS l)),(5,.sl 1 (Ak eS l)),(6,.val (.int .i64 (l.length:Int))),(7,vk x7_1)] [] 0) G (B9 []) ?_
 rintro x7_1 m1 o1 G hn1
 unfold Ci.l1 at G
 refine Dl (.r 2 (.e 6)) fun _ e _ B G=>?_
 refine A6 (ι:=Bool) (fun (x27_2:Bool)=>mk [(0,.sl 1 (Ak eS l)),(5,.sl 1 (Ak eS l)),(6,.val (.int .i64 (l.length:Int))),(7,vk x7_1),(27,.val (.bool x27_2))] [] 0) (fun (x27_2:Bool)=>Ci.j2 x7_1 x27_2=some o1) ?_ ?_
 exact C1
 rintro x27_2 G
 unfold Ci.j2 at G
 exact F0
instance aJ5:Wk 158:=⟨_,@Ss⟩
theorem Wb {u kind r} (G:Hy u kind=some r):Fn Tryz.prog 159 0 [.agg [vk u.Alg,vk u.Bits],vk kind] [] (fun d' b'=>d'=.val (.bool r)/\b'=[]):=by
 unfold Hy at G
 refine Ez 0 14 Tryz.func159 fun _ _ _=>?_
 exact C1
instance aJ7:Wk 159:=⟨_,@Wb⟩
theorem Tz {n r} (G:Il n=some r):Fn Tryz.prog 160 0 [vk n] [] (fun d' b'=>d'=.val (.bool r)/\b'=[]):=by
 unfold Il at G
 refine Ez 0 9 Tryz.func160 fun _ _ _=>?_
 exact C1
instance aJ8:Wk 160:=⟨_,@Tz⟩
theorem S1 {c r} (G:Bj c=some r):Fn Tryz.prog 140 0 [.agg (Ah.dv c)] [] (fun d' b'=>d'=.val (.bool r)/\b'=[]):=by
 unfold Bj at G
 refine Ez 0 91 Tryz.func140 fun _ _ _=>?_
 refine B7 1 fun B G=>?_
 refine A8 <| A6 (ι:=Bool) (fun (x28_1:Bool)=>mk [(1,.ptr 0 0),(28,.val (.bool x28_1))] [(0,.box (Ah.dv c) 103)] 1) (fun (x28_1:Bool)=>Bj.j1 c x28_1=some r) ?_ ?_
 exact C1
 rintro x28_1 G
 unfold Bj.j1 at G
 refine Dl (.l 0 (.e 1)) fun _ B G=>?_
 refine A8 <| A6 (ι:=Bool) (fun (x58_2:Bool)=>mk [(1,.ptr 0 0),(58,.val (.bool x58_2))] [(0,.box (Ah.dv c) 103)] 1) (fun (x58_2:Bool)=>Bj.j2 c x58_2=some r) ?_ ?_
 exact C1
 rintro x58_2 G
 unfold Bj.j2 at G
 refine Dl (.l 0 (.e 1)) fun _ B G=>?_
 refine A8 <| A6 (ι:=Bool) (fun (x73_3:Bool)=>mk [(1,.ptr 0 0),(73,.val (.bool x73_3))] [(0,.box (Ah.dv c) 103)] 1) (fun (x73_3:Bool)=>Bj.j3 c x73_3=some r) ?_ ?_
 exact C1
 rintro x73_3 G
 unfold Bj.j3 at G
 exact F0
instance aKm:Wk 140:=⟨_,@S1⟩
end Go.Proofs.YtkioneinddihlaaGreat
