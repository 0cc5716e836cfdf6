import Derived.Test.YtchpcpaacenodaaGreatT1
set_option linter.unusedVariables false
set_option linter.unusedSimpArgs false
set_option maxRecDepth 100000
set_option maxHeartbeats 1600000
namespace Go.Proofs.YtchpcpaacenodaaGreat
open Go.RowKit
theorem fY (l:(List Int)) (r:Bool) (G:Rz l=some r):Fn Tryz.prog 4 0 [.sl 1 (Aq eI l)] [] (fun d' b'=>d'=.val (.bool r)/\b'=[]):=by
 unfold Rz at G
 refine Fn.of Tryz.func4 rfl rfl rfl fun w0 I ρ0=>?_
 show B3 _ ⟨w0,I,ρ0,0,0,6⟩ _ _ _
 refine Bf 0 8 Ay fun B=>?_
 refine Bf 8 40 B fun B=>?_
 exact Lf
theorem Hx (s:ByteArray) (r:Bool) (G:B2 s=some r):Fn Tryz.prog 54 0 [ws s] [] (fun d' b'=>d'=.val (.bool r)/\b'=[]):=by
 unfold B2 at G
 refine Fn.of Tryz.func54 rfl rfl rfl fun w0 I ρ0=>?_
 show B3 _ ⟨w0,I,ρ0,0,0,27⟩ _ _ _
 refine Bf 0 8 Ay fun B=>?_
 refine Aj <| Cc 8 40 B ?_
 refine As ?_
 refine C0 rfl rfl (gQ Ti rL Ng) rfl rfl ?_
 refine Bd fun B=>?_
 refine Ap <| Ji (fun (x8_1:Int)=>mk [(0,ws s),(6,.sl 1 (Aq e8 (Hg s))),(7,.val (.int .i64 ((Hg s).length:Int))),(8,vk x8_1)] [] 0) G (Ar []) ?_
 rintro x8_1 m1 o1 G hn1
 replace G:B2.l1 s x8_1=some o1:=G
 show B3 _ _ _ _ (mk _ _ _)
 unfold B2.l1 at G
 refine Bf 0 8 Ay fun B=>?_
 refine Aj <| Cp rfl G (fun h4 G=>?_) fun h4 G=>?_
 refine C8 ?_
 refine Aj <| Ap <| Cc 8 32 B ?_
 obtain⟨e,he,G⟩:=Ab G
 refine As ?_
 refine No he ?_
 refine Bd fun B=>?_
 refine Bo (ι:=Bool) (fun (x17_2:Bool)=>mk [(0,ws s),(6,.sl 1 (Aq e8 (Hg s))),(7,.val (.int .i64 ((Hg s).length:Int))),(8,vk x8_1),(17,.val (.bool x17_2))] [] 0) (fun (x17_2:Bool)=>B2.j2 x8_1 x17_2=some o1) ?_ ?_
 refine Ak (B6 _ _ []) 32 80 B rfl rfl ?_
 refine As ?_
 rcases Dm G with ⟨h6,G⟩ | ⟨h6,G⟩
 refine Bd fun B=>?_
 exact⟨true,G,Ar []⟩
 refine Bd fun B=>?_
 exact⟨decide (126 < (e.toNat:Int)),G,Ar []⟩
 rintro x17_2 G
 replace G:B2.j2 x8_1 x17_2=some o1:=G
 show B3 _ _ _ _ (mk _ _ _)
 unfold B2.j2 at G
 refine Cp rfl G (fun h9 G=>?_) fun h9 G=>?_
 refine Bf 0 8 Ay fun B=>?_
 refine E2 ?_
 replace G:=Cd G hn1
 exact Uq
 refine C8 ?_
 refine Ak (B6 _ _ []) 0 16 Ay rfl rfl ?_
 refine Bd fun B=>?_
 obtain rfl:=oi_ G
 exact⟨(W (x8_1 + 1),m1),aCz _,hn1,Ar []⟩
 refine Je ?_
 replace G:=Cd G hn1
 refine Cc 8 80 B ?_
 refine As ?_
 refine C0 rfl rfl (P9 Ti) rfl rfl ?_
 refine As ?_
 rcases Dm G with ⟨h12,G⟩ | ⟨h12,G⟩
 refine As ?_
 refine C0 (Eb rfl rfl h12) rfl (P9 Ti) rfl rfl ?_
 exact De
 exact De
theorem aW  (r:(List Cb)) (G:Pi=some r):Fn Tryz.prog 142 0 [] [] (fun d' b'=>d'=.agg [.val (.string ((r[0]!).name)),.val (.int .i64 ((r[0]!).kind)),.val (.int .i64 ((r[0]!).way)),.sl 1 (Aq eI ((r[0]!).sizes)),.sl 1 (Aq eI ((r[0]!).strengths)),.val (.string ((r[1]!).name)),.val (.int .i64 ((r[1]!).kind)),.val (.int .i64 ((r[1]!).way)),.sl 1 (Aq eI ((r[1]!).sizes)),.sl 1 (Aq eI ((r[1]!).strengths)),.val (.string ((r[2]!).name)),.val (.int .i64 ((r[2]!).kind)),.val (.int .i64 ((r[2]!).way)),.sl 1 (Aq eI ((r[2]!).sizes)),.sl 1 (Aq eI ((r[2]!).strengths)),.val (.string ((r[3]!).name)),.val (.int .i64 ((r[3]!).kind)),.val (.int .i64 ((r[3]!).way)),.sl 1 (Aq eI ((r[3]!).sizes)),.sl 1 (Aq eI ((r[3]!).strengths)),.val (.string ((r[4]!).name)),.val (.int .i64 ((r[4]!).kind)),.val (.int .i64 ((r[4]!).way)),.sl 1 (Aq eI ((r[4]!).sizes)),.sl 1 (Aq eI ((r[4]!).strengths)),.val (.string ((r[5]!).name)),.val (.int .i64 ((r[5]!).kind)),.val (.int .i64 ((r[5]!).way)),.sl 1 (Aq eI ((r[5]!).sizes)),.sl 1 (Aq eI ((r[5]!).strengths)),.val (.string ((r[6]!).name)),.val (.int .i64 ((r[6]!).kind)),.val (.int .i64 ((r[6]!).way)),.sl 1 (Aq eI ((r[6]!).sizes)),.sl 1 (Aq eI ((r[6]!).strengths)),.val (.string ((r[7]!).name)),.val (.int .i64 ((r[7]!).kind)),.val (.int .i64 ((r[7]!).way)),.sl 1 (Aq eI ((r[7]!).sizes)),.sl 1 (Aq eI ((r[7]!).strengths)),.val (.string ((r[8]!).name)),.val (.int .i64 ((r[8]!).kind)),.val (.int .i64 ((r[8]!).way)),.sl 1 (Aq eI ((r[8]!).sizes)),.sl 1 (Aq eI ((r[8]!).strengths)),.val (.string ((r[9]!).name)),.val (.int .i64 ((r[9]!).kind)),.val (.int .i64 ((r[9]!).way)),.sl 1 (Aq eI ((r[9]!).sizes)),.sl 1 (Aq eI ((r[9]!).strengths)),.val (.string ((r[10]!).name)),.val (.int .i64 ((r[10]!).kind)),.val (.int .i64 ((r[10]!).way)),.sl 1 (Aq eI ((r[10]!).sizes)),.sl 1 (Aq eI ((r[10]!).strengths)),.val (.string ((r[11]!).name)),.val (.int .i64 ((r[11]!).kind)),.val (.int .i64 ((r[11]!).way)),.sl 1 (Aq eI ((r[11]!).sizes)),.sl 1 (Aq eI ((r[11]!).strengths)),.val (.string ((r[12]!).name)),.val (.int .i64 ((r[12]!).kind)),.val (.int .i64 ((r[12]!).way)),.sl 1 (Aq eI ((r[12]!).sizes)),.sl 1 (Aq eI ((r[12]!).strengths)),.val (.string ((r[13]!).name)),.val (.int .i64 ((r[13]!).kind)),.val (.int .i64 ((r[13]!).way)),.sl 1 (Aq eI ((r[13]!).sizes)),.sl 1 (Aq eI ((r[13]!).strengths)),.val (.string ((r[14]!).name)),.val (.int .i64 ((r[14]!).kind)),.val (.int .i64 ((r[14]!).way)),.sl 1 (Aq eI ((r[14]!).sizes)),.sl 1 (Aq eI ((r[14]!).strengths)),.val (.string ((r[15]!).name)),.val (.int .i64 ((r[15]!).kind)),.val (.int .i64 ((r[15]!).way)),.sl 1 (Aq eI ((r[15]!).sizes)),.sl 1 (Aq eI ((r[15]!).strengths)),.val (.string ((r[16]!).name)),.val (.int .i64 ((r[16]!).kind)),.val (.int .i64 ((r[16]!).way)),.sl 1 (Aq eI ((r[16]!).sizes)),.sl 1 (Aq eI ((r[16]!).strengths)),.val (.string ((r[17]!).name)),.val (.int .i64 ((r[17]!).kind)),.val (.int .i64 ((r[17]!).way)),.sl 1 (Aq eI ((r[17]!).sizes)),.sl 1 (Aq eI ((r[17]!).strengths)),.val (.string ((r[18]!).name)),.val (.int .i64 ((r[18]!).kind)),.val (.int .i64 ((r[18]!).way)),.sl 1 (Aq eI ((r[18]!).sizes)),.sl 1 (Aq eI ((r[18]!).strengths)),.val (.string ((r[19]!).name)),.val (.int .i64 ((r[19]!).kind)),.val (.int .i64 ((r[19]!).way)),.sl 1 (Aq eI ((r[19]!).sizes)),.sl 1 (Aq eI ((r[19]!).strengths)),.val (.string ((r[20]!).name)),.val (.int .i64 ((r[20]!).kind)),.val (.int .i64 ((r[20]!).way)),.sl 1 (Aq eI ((r[20]!).sizes)),.sl 1 (Aq eI ((r[20]!).strengths)),.val (.string ((r[21]!).name)),.val (.int .i64 ((r[21]!).kind)),.val (.int .i64 ((r[21]!).way)),.sl 1 (Aq eI ((r[21]!).sizes)),.sl 1 (Aq eI ((r[21]!).strengths)),.val (.string ((r[22]!).name)),.val (.int .i64 ((r[22]!).kind)),.val (.int .i64 ((r[22]!).way)),.sl 1 (Aq eI ((r[22]!).sizes)),.sl 1 (Aq eI ((r[22]!).strengths))]/\b'=[]):=by
 unfold Pi at G
 refine Fn.of Tryz.func142 rfl rfl rfl fun w0 I ρ0=>?_
 show B3 _ ⟨w0,I,ρ0,0,0,46⟩ _ _ _
 refine Bf 0 8 Ay fun B=>?_
 refine Cc 8 376 B ?_
 refine I8 Ee z3 I1 ([18]:List Int) eI ?_
 refine C0 rfl rfl (.build (r:=[.val (.string (⟨#[109,100,53]⟩:ByteArray)),.val (.int .i64 1),.val (.int .i64 0),.val (.slice none 0 0),.row 8]) G9 Kt N2 (by kernel_rfl) rfl) rfl rfl ?_
 refine I8 Ee z3 I1 ([60]:List Int) eI ?_
 refine C0 rfl rfl (.build (r:=[.val (.string (⟨#[115,104,97,49]⟩:ByteArray)),.val (.int .i64 1),.val (.int .i64 0),.val (.slice none 0 0),.row 24]) G9 Kt N2 (by kernel_rfl) rfl) rfl rfl ?_
 refine I8 Ee z3 I1 ([128]:List Int) eI ?_
 refine C0 rfl rfl (.build (r:=[.val (.string (⟨#[115,104,97,50,53,54]⟩:ByteArray)),.val (.int .i64 1),.val (.int .i64 0),.val (.slice none 0 0),.row 40]) G9 Kt N2 (by kernel_rfl) rfl) rfl rfl ?_
 refine I8 Ee z3 I1 ([192]:List Int) eI ?_
 refine C0 rfl rfl (.build (r:=[.val (.string (⟨#[115,104,97,51,56,52]⟩:ByteArray)),.val (.int .i64 1),.val (.int .i64 0),.val (.slice none 0 0),.row 56]) G9 Kt N2 (by kernel_rfl) rfl) rfl rfl ?_
 refine C0 rfl rfl (.build (r:=[.val (.string (⟨#[114,115,97]⟩:ByteArray)),.val (.int .i64 2),.val (.int .i64 1),.val (.slice none 0 0),.val (.slice none 0 0)]) G9 Kt N2 (by kernel_rfl) rfl) rfl rfl ?_
 refine C0 rfl rfl (.build (r:=[.val (.string (⟨#[100,115,97]⟩:ByteArray)),.val (.int .i64 2),.val (.int .i64 1),.val (.slice none 0 0),.val (.slice none 0 0)]) G9 Kt N2 (by kernel_rfl) rfl) rfl rfl ?_
 refine C0 rfl rfl (.build (r:=[.val (.string (⟨#[101,99,100,115,97]⟩:ByteArray)),.val (.int .i64 2),.val (.int .i64 2),.val (.slice none 0 0),.val (.slice none 0 0)]) G9 Kt N2 (by kernel_rfl) rfl) rfl rfl ?_
 refine I8 Ee z3 I1 ([128]:List Int) eI ?_
 refine C0 rfl rfl (.build (r:=[.val (.string (⟨#[101,100,50,53,53,49,57]⟩:ByteArray)),.val (.int .i64 2),.val (.int .i64 0),.val (.slice none 0 0),.row 96]) G9 Kt N2 (by kernel_rfl) rfl) rfl rfl ?_
 refine I8 Ee z3 I1 ([44,65,87]:List Int) eI ?_
 refine I8 Ee z3 I1 ([128,192,256]:List Int) eI ?_
 refine C0 rfl rfl (.build (r:=[.val (.string (⟨#[109,108,100,115,97]⟩:ByteArray)),.val (.int .i64 2),.val (.int .i64 3),.row 112,.row 120]) G9 Kt N2 (by kernel_rfl) rfl) rfl rfl ?_
 refine C0 rfl rfl (.build (r:=[.val (.string (⟨#[114,115,97,107,120]⟩:ByteArray)),.val (.int .i64 3),.val (.int .i64 1),.val (.slice none 0 0),.val (.slice none 0 0)]) G9 Kt N2 (by kernel_rfl) rfl) rfl rfl ?_
 refine C0 rfl rfl (.build (r:=[.val (.string (⟨#[100,104,101]⟩:ByteArray)),.val (.int .i64 3),.val (.int .i64 1),.val (.slice none 0 0),.val (.slice none 0 0)]) G9 Kt N2 (by kernel_rfl) rfl) rfl rfl ?_
 refine C0 rfl rfl (.build (r:=[.val (.string (⟨#[101,99,100,104,101]⟩:ByteArray)),.val (.int .i64 3),.val (.int .i64 2),.val (.slice none 0 0),.val (.slice none 0 0)]) G9 Kt N2 (by kernel_rfl) rfl) rfl rfl ?_
 refine I8 Ee z3 I1 ([512,768,1024]:List Int) eI ?_
 refine I8 Ee z3 I1 ([128,192,256]:List Int) eI ?_
 refine C0 rfl rfl (.build (r:=[.val (.string (⟨#[109,108,107,101,109]⟩:ByteArray)),.val (.int .i64 3),.val (.int .i64 3),.row 160,.row 168]) G9 Kt N2 (by kernel_rfl) rfl) rfl rfl ?_
 refine I8 Ee z3 I1 ([40,128]:List Int) eI ?_
 refine I8 Ee z3 I1 ([40,60]:List Int) eI ?_
 refine C0 rfl rfl (.build (r:=[.val (.string (⟨#[114,99,52]⟩:ByteArray)),.val (.int .i64 4),.val (.int .i64 3),.row 184,.row 192]) G9 Kt N2 (by kernel_rfl) rfl) rfl rfl ?_
 refine I8 Ee z3 I1 ([112,168]:List Int) eI ?_
 refine I8 Ee z3 I1 ([80,112]:List Int) eI ?_
 refine C0 rfl rfl (.build (r:=[.val (.string (⟨#[100,101,115,51]⟩:ByteArray)),.val (.int .i64 4),.val (.int .i64 3),.row 208,.row 216]) G9 Kt N2 (by kernel_rfl) rfl) rfl rfl ?_
 refine I8 Ee z3 I1 ([128,256]:List Int) eI ?_
 refine I8 Ee z3 I1 ([128,256]:List Int) eI ?_
 refine C0 rfl rfl (.build (r:=[.val (.string (⟨#[97,101,115,99,98,99]⟩:ByteArray)),.val (.int .i64 4),.val (.int .i64 3),.row 232,.row 240]) G9 Kt N2 (by kernel_rfl) rfl) rfl rfl ?_
 refine I8 Ee z3 I1 ([128,256]:List Int) eI ?_
 refine I8 Ee z3 I1 ([128,256]:List Int) eI ?_
 refine C0 rfl rfl (.build (r:=[.val (.string (⟨#[97,101,115,103,99,109]⟩:ByteArray)),.val (.int .i64 4),.val (.int .i64 3),.row 256,.row 264]) G9 Kt N2 (by kernel_rfl) rfl) rfl rfl ?_
 refine I8 Ee z3 I1 ([256]:List Int) eI ?_
 refine C0 rfl rfl (.build (r:=[.val (.string (⟨#[99,104,97,99,104,97]⟩:ByteArray)),.val (.int .i64 4),.val (.int .i64 0),.val (.slice none 0 0),.row 280]) G9 Kt N2 (by kernel_rfl) rfl) rfl rfl ?_
 refine I8 Ee z3 I1 ([64]:List Int) eI ?_
 refine C0 rfl rfl (.build (r:=[.val (.string (⟨#[104,109,97,99,109,100,53]⟩:ByteArray)),.val (.int .i64 5),.val (.int .i64 0),.val (.slice none 0 0),.row 296]) G9 Kt N2 (by kernel_rfl) rfl) rfl rfl ?_
 refine I8 Ee z3 I1 ([80]:List Int) eI ?_
 refine C0 rfl rfl (.build (r:=[.val (.string (⟨#[104,109,97,99,115,104,97,49]⟩:ByteArray)),.val (.int .i64 5),.val (.int .i64 0),.val (.slice none 0 0),.row 312]) G9 Kt N2 (by kernel_rfl) rfl) rfl rfl ?_
 refine I8 Ee z3 I1 ([128]:List Int) eI ?_
 refine C0 rfl rfl (.build (r:=[.val (.string (⟨#[104,109,97,99,115,104,97,50,53,54]⟩:ByteArray)),.val (.int .i64 5),.val (.int .i64 0),.val (.slice none 0 0),.row 328]) G9 Kt N2 (by kernel_rfl) rfl) rfl rfl ?_
 refine I8 Ee z3 I1 ([256]:List Int) eI ?_
 refine C0 rfl rfl (.build (r:=[.val (.string (⟨#[97,101,97,100]⟩:ByteArray)),.val (.int .i64 5),.val (.int .i64 0),.val (.slice none 0 0),.row 344]) G9 Kt N2 (by kernel_rfl) rfl) rfl rfl ?_
 refine C0 rfl rfl (.buildArr (sz:=5) (r:=[.val (.string (⟨#[]⟩:ByteArray)),.val (.int .i64 0),.val (.int .i64 0),.val (.slice none 0 0),.val (.slice none 0 0),.val (.string (⟨#[109,100,53]⟩:ByteArray)),.val (.int .i64 1),.val (.int .i64 0),.val (.slice none 0 0),.row 8,.val (.string (⟨#[115,104,97,49]⟩:ByteArray)),.val (.int .i64 1),.val (.int .i64 0),.val (.slice none 0 0),.row 24,.val (.string (⟨#[115,104,97,50,53,54]⟩:ByteArray)),.val (.int .i64 1),.val (.int .i64 0),.val (.slice none 0 0),.row 40,.val (.string (⟨#[115,104,97,51,56,52]⟩:ByteArray)),.val (.int .i64 1),.val (.int .i64 0),.val (.slice none 0 0),.row 56,.val (.string (⟨#[114,115,97]⟩:ByteArray)),.val (.int .i64 2),.val (.int .i64 1),.val (.slice none 0 0),.val (.slice none 0 0),.val (.string (⟨#[100,115,97]⟩:ByteArray)),.val (.int .i64 2),.val (.int .i64 1),.val (.slice none 0 0),.val (.slice none 0 0),.val (.string (⟨#[101,99,100,115,97]⟩:ByteArray)),.val (.int .i64 2),.val (.int .i64 2),.val (.slice none 0 0),.val (.slice none 0 0),.val (.string (⟨#[101,100,50,53,53,49,57]⟩:ByteArray)),.val (.int .i64 2),.val (.int .i64 0),.val (.slice none 0 0),.row 96,.val (.string (⟨#[109,108,100,115,97]⟩:ByteArray)),.val (.int .i64 2),.val (.int .i64 3),.row 112,.row 120,.val (.string (⟨#[114,115,97,107,120]⟩:ByteArray)),.val (.int .i64 3),.val (.int .i64 1),.val (.slice none 0 0),.val (.slice none 0 0),.val (.string (⟨#[100,104,101]⟩:ByteArray)),.val (.int .i64 3),.val (.int .i64 1),.val (.slice none 0 0),.val (.slice none 0 0),.val (.string (⟨#[101,99,100,104,101]⟩:ByteArray)),.val (.int .i64 3),.val (.int .i64 2),.val (.slice none 0 0),.val (.slice none 0 0),.val (.string (⟨#[109,108,107,101,109]⟩:ByteArray)),.val (.int .i64 3),.val (.int .i64 3),.row 160,.row 168,.val (.string (⟨#[114,99,52]⟩:ByteArray)),.val (.int .i64 4),.val (.int .i64 3),.row 184,.row 192,.val (.string (⟨#[100,101,115,51]⟩:ByteArray)),.val (.int .i64 4),.val (.int .i64 3),.row 208,.row 216,.val (.string (⟨#[97,101,115,99,98,99]⟩:ByteArray)),.val (.int .i64 4),.val (.int .i64 3),.row 232,.row 240,.val (.string (⟨#[97,101,115,103,99,109]⟩:ByteArray)),.val (.int .i64 4),.val (.int .i64 3),.row 256,.row 264,.val (.string (⟨#[99,104,97,99,104,97]⟩:ByteArray)),.val (.int .i64 4),.val (.int .i64 0),.val (.slice none 0 0),.row 280,.val (.string (⟨#[104,109,97,99,109,100,53]⟩:ByteArray)),.val (.int .i64 5),.val (.int .i64 0),.val (.slice none 0 0),.row 296,.val (.string (⟨#[104,109,97,99,115,104,97,49]⟩:ByteArray)),.val (.int .i64 5),.val (.int .i64 0),.val (.slice none 0 0),.row 312,.val (.string (⟨#[104,109,97,99,115,104,97,50,53,54]⟩:ByteArray)),.val (.int .i64 5),.val (.int .i64 0),.val (.slice none 0 0),.row 328,.val (.string (⟨#[97,101,97,100]⟩:ByteArray)),.val (.int .i64 5),.val (.int .i64 0),.val (.slice none 0 0),.row 344]) sA (by kernel_rfl) aFy (by kernel_rfl) rfl) rfl rfl ?_
 exact De
theorem V9 (alg:Int) (r:Cb×Bool) (G:E0 alg=some r):Fn Tryz.prog 113 0 [vk alg] [] (fun d' b'=>d'=.tup [.agg (Cb.dv r.1),.val (.bool r.2)]/\b'=[]):=by
 unfold E0 at G
 refine Fn.of Tryz.func113 rfl rfl rfl fun w0 I ρ0=>?_
 show B3 _ ⟨w0,I,ρ0,0,0,14⟩ _ _ _
 refine Bf 0 16 Ay fun B=>?_
 refine Aj <| Bo (ι:=Bool) (fun (x9_1:Bool)=>mk [(0,vk alg),(2,.ptr 0 0),(9,.val (.bool x9_1))] [(0,.box [.val (.string (⟨#[]⟩:ByteArray)),.val (.int .i64 0),.val (.int .i64 0),.val (.slice none 0 0),.val (.slice none 0 0)] 137)] 1) (fun (x9_1:Bool)=>E0.j1 alg x9_1=some r) ?_ ?_
 refine Ak (B6 _ _ []) 16 64 B rfl rfl ?_
 refine As ?_
 rcases Dm G with ⟨h2,G⟩ | ⟨h2,G⟩
 refine Bd fun B=>?_
 exact⟨true,G,Ar [(0,0)]⟩
 refine Bd fun B=>?_
 exact⟨decide (22 < alg),G,Ar [(0,0)]⟩
 rintro x9_1 G
 replace G:E0.j1 alg x9_1=some r:=G
 show B3 _ _ _ _ (mk _ _ _)
 unfold E0.j1 at G
 refine Cp rfl G (fun h5 G=>?_) fun h5 G=>?_
 refine Cc 1 25 Ay ?_
 refine Lq G9 Kt N2 ?_
 exact De
 refine C8 ?_
 refine Cc 1 41 Ay ?_
 obtain⟨y,hy,G⟩:=Ab G
 refine Dh (aW _ hy) ?_
 refine As ?_
 obtain⟨e,he,G⟩:=Ab G
 refine C0 rfl rfl (dF (f:=Cb.enc) (L:=(aF6 23 y)) sA zG Cb.enc_len rfl rfl he (d2:=[ws e.name,vk e.kind,vk e.way,.sl 1 (Aq eI e.sizes),.sl 1 (Aq eI e.strengths)]) rfl) rfl rfl ?_
 exact De
theorem Wh (bits:Int) (r:Int) (G:Du bits=some r):Fn Tryz.prog 114 0 [vk bits] [] (fun d' b'=>d'=vk r/\b'=[]):=by
 unfold Du at G
 refine Fn.of Tryz.func114 rfl rfl rfl fun w0 I ρ0=>?_
 show B3 _ ⟨w0,I,ρ0,0,0,21⟩ _ _ _
 refine Bf 0 8 Ay fun B=>?_
 refine Aj <| Cc 8 64 B ?_
 refine C0 rfl rfl (.buildArr (sz:=1) (r:=[.val (.int .i64 1024),.val (.int .i64 56)]) Vl (by kernel_rfl) qH (by kernel_rfl) rfl) rfl rfl ?_
 refine C0 rfl rfl (.buildArr (sz:=1) (r:=[.val (.int .i64 2048),.val (.int .i64 80)]) Vl (by kernel_rfl) qH (by kernel_rfl) rfl) rfl rfl ?_
 refine C0 rfl rfl (.buildArr (sz:=1) (r:=[.val (.int .i64 3072),.val (.int .i64 112)]) Vl (by kernel_rfl) qH (by kernel_rfl) rfl) rfl rfl ?_
 refine C0 rfl rfl (.buildArr (sz:=1) (r:=[.val (.int .i64 7680),.val (.int .i64 128)]) Vl (by kernel_rfl) qH (by kernel_rfl) rfl) rfl rfl ?_
 refine C0 rfl rfl (.buildArr (sz:=1) (r:=[.val (.int .i64 15360),.val (.int .i64 192)]) Vl (by kernel_rfl) qH (by kernel_rfl) rfl) rfl rfl ?_
 refine C0 rfl rfl (.buildArr (sz:=2) (r:=[.val (.int .i64 1024),.val (.int .i64 56),.val (.int .i64 2048),.val (.int .i64 80),.val (.int .i64 3072),.val (.int .i64 112),.val (.int .i64 7680),.val (.int .i64 128),.val (.int .i64 15360),.val (.int .i64 192)]) rD (by kernel_rfl) aEs (by kernel_rfl) rfl) rfl rfl ?_
 refine Bd fun B=>?_
 refine Ap <| Ji (fun (x11_1:Int)=>mk [(0,vk bits),(10,.agg [.val (.int .i64 1024),.val (.int .i64 56),.val (.int .i64 2048),.val (.int .i64 80),.val (.int .i64 3072),.val (.int .i64 112),.val (.int .i64 7680),.val (.int .i64 128),.val (.int .i64 15360),.val (.int .i64 192)]),(11,vk x11_1)] [] 0) G (Ar []) ?_
 rintro x11_1 m1 o1 G hn1
 replace G:Du.l1 bits x11_1=some o1:=G
 show B3 _ _ _ _ (mk _ _ _)
 unfold Du.l1 at G
 refine Bf 0 8 Ay fun B=>?_
 refine Aj <| Cp rfl G (fun h4 G=>?_) fun h4 G=>?_
 refine C8 ?_
 refine Aj <| Ap <| Cc 8 32 B ?_
 obtain⟨e,he,G⟩:=Ab G
 refine C0 rfl rfl (dF (f:=(eA 2 eI)) (L:=([([1024,56]:List Int),([2048,80]:List Int),([3072,112]:List Int),([7680,128]:List Int),([15360,192]:List Int)]:List (List Int))) rD zF (aDe Jo) rfl rfl he (d2:=[.val (.int .i64 (e[0]!)),.val (.int .i64 (e[1]!))]) rfl) rfl rfl ?_
 refine Bd fun B=>?_
 refine Cc 32 64 B ?_
 refine As ?_
 refine Fi (rd:=[16]) rfl rfl (.idxA (j:=0) Vl Yl rfl (by decide)) rfl rfl ?_
 refine Bd fun B=>?_
 refine Cp rfl G (fun h7 G=>?_) fun h7 G=>?_
 refine Cc 64 88 B ?_
 refine Fi (rd:=[16]) rfl rfl (.idxA (j:=1) Vl Yl rfl (by decide)) rfl rfl ?_
 refine Bd fun B=>?_
 refine E2 ?_
 replace G:=Cd G hn1
 exact Uq
 refine C8 ?_
 refine Ak (B6 _ _ []) 64 80 B rfl rfl ?_
 refine Bd fun B=>?_
 obtain rfl:=oi_ G
 exact⟨(W (x11_1 + 1),m1),aCz _,hn1,Ar []⟩
 refine Je ?_
 replace G:=Cd G hn1
 refine Bf 8 16 B fun B=>?_
 exact Lf
theorem Ol (s:(List Int)) (v:Int) (r:Int) (G:Ck s v=some r):Fn Tryz.prog 115 0 [.sl 1 (Aq eI s),vk v] [] (fun d' b'=>d'=vk r/\b'=[]):=by
 unfold Ck at G
 refine Fn.of Tryz.func115 rfl rfl rfl fun w0 I ρ0=>?_
 show B3 _ ⟨w0,I,ρ0,0,0,19⟩ _ _ _
 refine Bf 0 8 Ay fun B=>?_
 refine Aj <| Bf 8 32 B fun B=>?_
 refine Ap <| Ji (fun (x8_1:Int)=>mk [(0,.sl 1 (Aq eI s)),(1,vk v),(7,.val (.int .i64 (s.length:Int))),(8,vk x8_1)] [] 0) G (Ar []) ?_
 rintro x8_1 m1 o1 G hn1
 replace G:Ck.l1 s v x8_1=some o1:=G
 show B3 _ _ _ _ (mk _ _ _)
 unfold Ck.l1 at G
 refine Bf 0 8 Ay fun B=>?_
 refine Aj <| Cp rfl G (fun h4 G=>?_) fun h4 G=>?_
 refine C8 ?_
 refine Aj <| Ap <| Bf 8 24 B fun B=>?_
 refine Cc 24 72 B ?_
 refine As ?_
 obtain⟨e,he,G⟩:=Ab G
 refine As ?_
 refine No he ?_
 refine Bd fun B=>?_
 refine Cp rfl G (fun h7 G=>?_) fun h7 G=>?_
 refine Bf 72 88 B fun B=>?_
 refine E2 ?_
 replace G:=Cd G hn1
 exact Uq
 refine C8 ?_
 refine Ak (B6 _ _ []) 72 88 B rfl rfl ?_
 refine Bd fun B=>?_
 obtain rfl:=oi_ G
 exact⟨(W (x8_1 + 1),m1),aCz _,hn1,Ar []⟩
 refine Je ?_
 replace G:=Cd G hn1
 refine Bf 8 16 B fun B=>?_
 exact Lf
theorem Kd (s:(List Int)) (v:Int) (r:Bool) (G:En s v=some r):Fn Tryz.prog 87 0 [.sl 1 (Aq eI s),vk v] [] (fun d' b'=>d'=.val (.bool r)/\b'=[]):=by
 unfold En at G
 refine Fn.of Tryz.func87 rfl rfl rfl fun w0 I ρ0=>?_
 show B3 _ ⟨w0,I,ρ0,0,0,9⟩ _ _ _
 refine Bf 0 8 Ay fun B=>?_
 refine Cc 8 48 B ?_
 refine As ?_
 obtain⟨y,hy,G⟩:=Ab G
 refine Dh (Ol _ _ _ hy) ?_
 exact De
theorem Vz (u:Am) (r:Int) (G:Bb u=some r):Fn Tryz.prog 77 0 [.agg [vk u.Alg,vk u.Bits]] [] (fun d' b'=>d'=vk r/\b'=[]):=by
 unfold Bb at G
 refine Fn.of Tryz.func77 rfl rfl rfl fun w0 I ρ0=>?_
 show B3 _ ⟨w0,I,ρ0,0,0,61⟩ _ _ _
 refine Bf 0 16 Ay fun B=>?_
 refine Cc 16 88 B ?_
 refine As ?_
 obtain⟨y,hy,G⟩:=Ab G
 refine Dh (V9 _ _ hy) ?_
 refine Bd fun B=>?_
 refine Aj <| Bf 88 104 B fun B=>?_
 refine Cp rfl G (fun h4 G=>?_) fun h4 G=>?_
 refine Cc 104 112 B ?_
 exact De
 refine C8 ?_
 refine Aj <| Bf 104 120 B fun B=>?_
 refine Ap <| Bf 120 136 B fun B=>?_
 refine Cp rfl G (fun h8 G=>?_) fun h8 G=>?_
 refine Bf 136 160 B fun B=>?_
 refine Cp rfl G (fun h10 G=>?_) fun h10 G=>?_
 refine Cc 160 200 B ?_
 refine As ?_
 obtain⟨e,he,G⟩:=Ab G
 refine As ?_
 refine No he ?_
 exact De
 refine C8 ?_
 refine Bf 160 168 B fun B=>?_
 exact Lf
 refine Bf 136 152 B fun B=>?_
 refine Cp rfl G (fun h13 G=>?_) fun h13 G=>?_
 refine Bo (ι:=Bool) (fun (x34_1:Bool)=>mk [(1,.ptr 0 0),(34,.val (.bool x34_1))] [(0,.box [vk u.Alg,vk u.Bits] 28)] 1) (fun (x34_1:Bool)=>Bb.j1 u x34_1=some r) ?_ ?_
 refine Ak (B6 _ _ []) 152 216 B rfl rfl ?_
 refine As ?_
 rcases Dm G with ⟨h14,G⟩ | ⟨h14,G⟩
 refine Bd fun B=>?_
 exact⟨decide (u.Bits<=16384),G,Ar [(0,0)]⟩
 refine Bd fun B=>?_
 exact⟨false,G,Ar [(0,0)]⟩
 rintro x34_1 G
 replace G:Bb.j1 u x34_1=some r:=G
 show B3 _ _ _ _ (mk _ _ _)
 unfold Bb.j1 at G
 refine Cp rfl G (fun h17 G=>?_) fun h17 G=>?_
 refine Cc 1 33 Ay ?_
 refine As ?_
 obtain⟨y_2,hy_2,G⟩:=Ab G
 refine Dh (Wh _ _ hy_2) ?_
 exact De
 refine C8 ?_
 refine Bf 1 9 Ay fun B=>?_
 exact Lf
 refine Bf 152 168 B fun B=>?_
 refine Cp rfl G (fun h20 G=>?_) fun h20 G=>?_
 refine Cc 168 200 B ?_
 refine I8 Ee z3 I1 ([160,224,256,384,521]:List Int) eI ?_
 refine As ?_
 obtain⟨y_3,hy_3,G⟩:=Ab G
 refine F9 [168] [] [] true (Kd _ _ _ hy_3) ?_
 refine Gh fun B=>?_
 refine Cp rfl G (fun h22 G=>?_) fun h22 G=>?_
 refine Cc 200 232 B ?_
 refine As ?_
 obtain⟨q,hq,G⟩:=Ab G
 refine C0 rfl rfl (Tj hq) rfl rfl ?_
 exact De
 refine C8 ?_
 refine Bf 200 208 B fun B=>?_
 exact Lf
 refine Bf 168 184 B fun B=>?_
 refine Cp rfl G (fun h25 G=>?_) fun h25 G=>?_
 refine Cc 184 232 B ?_
 refine As ?_
 obtain⟨y_4,hy_4,G⟩:=Ab G
 refine Dh (Ol _ _ _ hy_4) ?_
 refine Bd fun B=>?_
 refine Bf 232 248 B fun B=>?_
 refine Cp rfl G (fun h28 G=>?_) fun h28 G=>?_
 refine Cc 248 296 B ?_
 refine As ?_
 obtain⟨e_2,he_2,G⟩:=Ab G
 refine As ?_
 refine No he_2 ?_
 exact De
 refine C8 ?_
 refine Bf 248 256 B fun B=>?_
 exact Lf
 refine C8 ?_
 refine Bf 184 192 B fun B=>?_
 exact Lf
theorem J3 (u:Am) (r:Bool) (G:F7 u=some r):Fn Tryz.prog 46 0 [.agg [vk u.Alg,vk u.Bits]] [] (fun d' b'=>d'=.val (.bool r)/\b'=[]):=by
 unfold F7 at G
 refine Fn.of Tryz.func46 rfl rfl rfl fun w0 I ρ0=>?_
 show B3 _ ⟨w0,I,ρ0,0,0,6⟩ _ _ _
 refine Bf 0 16 Ay fun B=>?_
 refine Cc 16 48 B ?_
 refine As ?_
 obtain⟨y,hy,G⟩:=Ab G
 refine Dh (Vz _ _ hy) ?_
 exact De
theorem L5 (alg:Int) (r:Int) (G:Hc alg=some r):Fn Tryz.prog 84 0 [vk alg] [] (fun d' b'=>d'=vk r/\b'=[]):=by
 unfold Hc at G
 refine Fn.of Tryz.func84 rfl rfl rfl fun w0 I ρ0=>?_
 show B3 _ ⟨w0,I,ρ0,0,0,12⟩ _ _ _
 refine Bf 0 8 Ay fun B=>?_
 refine Cc 8 72 B ?_
 refine As ?_
 obtain⟨y,hy,G⟩:=Ab G
 refine Dh (V9 _ _ hy) ?_
 refine Bd fun B=>?_
 refine Bf 72 96 B fun B=>?_
 exact Lf
theorem V6 (f:Aa) (r:Bool) (G:A6 f=some r):Fn Tryz.prog 55 0 [.agg (Aa.dv f)] [] (fun d' b'=>d'=.val (.bool r)/\b'=[]):=by
 unfold A6 at G
 refine Fn.of Tryz.func55 rfl rfl rfl fun w0 I ρ0=>?_
 show B3 _ ⟨w0,I,ρ0,0,0,114⟩ _ _ _
 refine Bf 0 16 Ay fun B=>?_
 refine Bo (ι:=Bool) (fun (bare_1:Bool)=>mk [(1,.ptr 0 0),(3,.val (.bool bare_1))] [(0,.box (Aa.dv f) 30)] 1) (fun (bare_1:Bool)=>A6.j1 f bare_1=some r) ?_ ?_
 refine Ak (B6 _ _ []) 16 96 B rfl rfl ?_
 refine As ?_
 refine Lq Hj Lc S6 ?_
 refine C0 rfl rfl (O6 f.Use (Am.mk 0 0)) rfl rfl ?_
 refine As ?_
 rcases Dm G with ⟨h2,G⟩ | ⟨h2,G⟩
 refine Bd fun B=>?_
 exact⟨decide (f.Text=(⟨#[]⟩:ByteArray)),G,Ar [(0,0)]⟩
 refine Bd fun B=>?_
 exact⟨false,G,Ar [(0,0)]⟩
 rintro bare_1 G
 replace G:A6.j1 f bare_1=some r:=G
 show B3 _ _ _ _ (mk _ _ _)
 unfold A6.j1 at G
 refine Aj <| Bf 1 17 Ay fun B=>?_
 refine Ap <| Bo (ι:=Bool) (fun (x15_2:Bool)=>mk [(1,.ptr 0 0),(3,.val (.bool bare_1)),(14,vk f.Kind),(15,.val (.bool x15_2))] [(0,.box (Aa.dv f) 30)] 1) (fun (x15_2:Bool)=>A6.j2 f bare_1 x15_2=some r) ?_ ?_
 refine Bf 17 33 B fun B=>?_
 refine Cp rfl G (fun h7 G=>?_) fun h7 G=>?_
 refine C8 ?_
 exact⟨decide (f.Kind=1),G,Ar [(0,0)]⟩
 refine Ak (B6 _ _ []) 33 49 B rfl rfl ?_
 refine Bd fun B=>?_
 exact⟨decide (f.Kind=8),G,Ar [(0,0)]⟩
 rintro x15_2 G
 replace G:A6.j2 f bare_1 x15_2=some r:=G
 show B3 _ _ _ _ (mk _ _ _)
 unfold A6.j2 at G
 refine Cp rfl G (fun h9 G=>?_) fun h9 G=>?_
 refine Cc 1 113 Ay ?_
 refine As ?_
 obtain⟨y,hy,G⟩:=Ab G
 refine Dh (J3 _ _ hy) ?_
 refine As ?_
 rcases Dm G with ⟨h10,G⟩ | ⟨h10,G⟩
 refine As ?_
 rcases Dm G with ⟨h11,G⟩ | ⟨h11,G⟩
 exact De
 exact De
 exact De
 refine Bf 1 17 Ay fun B=>?_
 refine Cp rfl G (fun h16 G=>?_) fun h16 G=>?_
 refine Cc 17 113 B ?_
 refine As ?_
 rcases Dm G with ⟨h17,G⟩ | ⟨h17,G⟩
 refine As ?_
 rcases Dm G with ⟨h18,G⟩ | ⟨h18,G⟩
 exact De
 exact De
 exact De
 refine Bf 17 33 B fun B=>?_
 refine Cp rfl G (fun h23 G=>?_) fun h23 G=>?_
 refine Cc 33 241 B ?_
 refine As ?_
 obtain⟨y_2,hy_2,G⟩:=Ab G
 refine Dh (J3 _ _ hy_2) ?_
 refine As ?_
 rcases Dm G with ⟨h24,G⟩ | ⟨h24,G⟩
 refine As ?_
 obtain⟨y_3,hy_3,G⟩:=Ab G
 refine Dh (L5 _ _ hy_3) ?_
 refine As ?_
 rcases Dm G with ⟨h25,G⟩ | ⟨h25,G⟩
 refine As ?_
 rcases Dm G with ⟨h26,G⟩ | ⟨h26,G⟩
 refine As ?_
 rcases Dm G with ⟨h27,G⟩ | ⟨h27,G⟩
 exact De
 exact De
 exact De
 exact De
 exact De
 refine Bo (ι:=Bool) (fun (x71_3:Bool)=>mk [(1,.ptr 0 0),(3,.val (.bool bare_1)),(14,vk f.Kind),(71,.val (.bool x71_3))] [(0,.box (Aa.dv f) 30)] 1) (fun (x71_3:Bool)=>A6.j3 f bare_1 x71_3=some r) ?_ ?_
 refine Bf 33 49 B fun B=>?_
 refine Cp rfl G (fun h34 G=>?_) fun h34 G=>?_
 refine C8 ?_
 exact⟨decide (f.Kind=4),G,Ar [(0,0)]⟩
 refine Ak (B6 _ _ []) 49 65 B rfl rfl ?_
 refine Bd fun B=>?_
 exact⟨decide (f.Kind=5),G,Ar [(0,0)]⟩
 rintro x71_3 G
 replace G:A6.j3 f bare_1 x71_3=some r:=G
 show B3 _ _ _ _ (mk _ _ _)
 unfold A6.j3 at G
 refine Cp rfl G (fun h36 G=>?_) fun h36 G=>?_
 refine Cc 1 97 Ay ?_
 refine As ?_
 rcases Dm G with ⟨h37,G⟩ | ⟨h37,G⟩
 refine As ?_
 rcases Dm G with ⟨h38,G⟩ | ⟨h38,G⟩
 exact De
 exact De
 exact De
 refine Bf 1 17 Ay fun B=>?_
 refine Cp rfl G (fun h43 G=>?_) fun h43 G=>?_
 refine Cc 17 113 B ?_
 refine As ?_
 rcases Dm G with ⟨h44,G⟩ | ⟨h44,G⟩
 refine As ?_
 rcases Dm G with ⟨h45,G⟩ | ⟨h45,G⟩
 exact De
 exact De
 exact De
 refine Bf 17 33 B fun B=>?_
 refine Cp rfl G (fun h50 G=>?_) fun h50 G=>?_
 refine Cc 33 153 B ?_
 refine As ?_
 refine Lq Hj Lc S6 ?_
 refine C0 rfl rfl (O6 f.Use (Am.mk 0 0)) rfl rfl ?_
 refine As ?_
 rcases Dm G with ⟨h51,G⟩ | ⟨h51,G⟩
 refine As ?_
 rcases Dm G with ⟨h52,G⟩ | ⟨h52,G⟩
 refine As ?_
 obtain⟨y_4,hy_4,G⟩:=Ab G
 refine Dh (Hx _ _ hy_4) ?_
 exact De
 exact De
 exact De
 refine C8 ?_
 refine Bf 33 41 B fun B=>?_
 exact Lf
theorem Nl (f:Aa) (r:Int) (G:Bj f=some r):Fn Tryz.prog 25 0 [.agg (Aa.dv f)] [] (fun d' b'=>d'=vk r/\b'=[]):=by
 unfold Bj at G
 refine Fn.of Tryz.func25 rfl rfl rfl fun w0 I ρ0=>?_
 show B3 _ ⟨w0,I,ρ0,0,0,62⟩ _ _ _
 refine Bf 0 16 Ay fun B=>?_
 refine Bo (ι:=Bool) (fun (where_1:Bool)=>mk [(1,.ptr 0 0),(3,.val (.bool where_1))] [(0,.box (Aa.dv f) 30)] 1) (fun (where_1:Bool)=>Bj.j1 f where_1=some r) ?_ ?_
 refine Ak (B6 _ _ []) 16 168 B rfl rfl ?_
 refine As ?_
 obtain⟨y,hy,G⟩:=Ab G
 refine Dh (Hx _ _ hy) ?_
 refine As ?_
 rcases Dm G with ⟨h2,G⟩ | ⟨h2,G⟩
 refine As ?_
 obtain⟨y_2,hy_2,G⟩:=Ab G
 refine Dh (Hx _ _ hy_2) ?_
 refine As ?_
 rcases Dm G with ⟨h3,G⟩ | ⟨h3,G⟩
 refine As ?_
 rcases Dm G with ⟨h4,G⟩ | ⟨h4,G⟩
 refine Bd fun B=>?_
 exact⟨decide (f.Machine<=1099511627776),G,Ar [(0,0)]⟩
 refine Bd fun B=>?_
 exact⟨false,G,Ar [(0,0)]⟩
 refine Bd fun B=>?_
 exact⟨false,G,Ar [(0,0)]⟩
 refine Bd fun B=>?_
 exact⟨false,G,Ar [(0,0)]⟩
 rintro where_1 G
 replace G:Bj.j1 f where_1=some r:=G
 show B3 _ _ _ _ (mk _ _ _)
 unfold Bj.j1 at G
 refine Bo (ι:=Bool) (fun (when_2:Bool)=>mk [(1,.ptr 0 0),(3,.val (.bool where_1)),(4,.val (.bool when_2))] [(0,.box (Aa.dv f) 30)] 1) (fun (when_2:Bool)=>Bj.j2 f where_1 when_2=some r) ?_ ?_
 refine Ak (B6 _ _ []) 1 153 Ay rfl rfl ?_
 refine As ?_
 rcases Dm G with ⟨h9,G⟩ | ⟨h9,G⟩
 refine As ?_
 rcases Dm G with ⟨h10,G⟩ | ⟨h10,G⟩
 refine As ?_
 rcases Dm G with ⟨h11,G⟩ | ⟨h11,G⟩
 refine Bd fun B=>?_
 exact⟨decide (f.Confidence<=100),G,Ar [(0,0)]⟩
 refine Bd fun B=>?_
 exact⟨false,G,Ar [(0,0)]⟩
 refine Bd fun B=>?_
 exact⟨false,G,Ar [(0,0)]⟩
 refine Bd fun B=>?_
 exact⟨false,G,Ar [(0,0)]⟩
 rintro when_2 G
 replace G:Bj.j2 f where_1 when_2=some r:=G
 show B3 _ _ _ _ (mk _ _ _)
 unfold Bj.j2 at G
 refine Aj <| Bo (ι:=Bool) (fun (x61_3:Bool)=>mk [(61,.val (.bool x61_3))] [] 0) (fun (x61_3:Bool)=>Bj.j3 x61_3=some r) ?_ ?_
 refine Ak (B6 _ _ []) 1 169 Ay rfl rfl ?_
 refine As ?_
 rcases Dm G with ⟨h16,G⟩ | ⟨h16,G⟩
 refine Bd fun B=>?_
 exact⟨true,G,Ar []⟩
 refine As ?_
 rcases Dm G with ⟨h18,G⟩ | ⟨h18,G⟩
 refine Bd fun B=>?_
 exact⟨true,G,Ar []⟩
 refine As ?_
 rcases Dm G with ⟨h20,G⟩ | ⟨h20,G⟩
 refine Bd fun B=>?_
 exact⟨true,G,Ar []⟩
 refine As ?_
 rcases Dm G with ⟨h22,G⟩ | ⟨h22,G⟩
 refine Bd fun B=>?_
 exact⟨true,G,Ar []⟩
 refine As ?_
 obtain⟨y_3,hy_3,G⟩:=Ab G
 refine Dh (V6 _ _ hy_3) ?_
 refine Bd fun B=>?_
 exact⟨!y_3,G,Ar []⟩
 rintro x61_3 G
 replace G:Bj.j3 x61_3=some r:=G
 show B3 _ _ _ _ (mk _ _ _)
 unfold Bj.j3 at G
 refine Cp rfl G (fun h25 G=>?_) fun h25 G=>?_
 refine Cc 0 8 Ay ?_
 exact De
 refine C8 ?_
 refine Bf 0 8 Ay fun B=>?_
 exact Lf
theorem Ly (at':Aa) (r:Dv×Int) (G:Gx at'=some r):Fn Tryz.prog 35 0 [.agg (Aa.dv at')] [] (fun d' b'=>d'=.tup [.ptr 0 0,vk r.2]/\b'=[.box [vk r.1.at_.Source,ws r.1.at_.Host,vk r.1.at_.Machine,vk r.1.at_.Day,vk r.1.at_.Confidence,vk r.1.at_.Kind,ws r.1.at_.Subject,vk r.1.at_.Use.Alg,vk r.1.at_.Use.Bits,vk r.1.at_.Number,ws r.1.at_.Text,.row 1] 82,.row 30 11 (Aq Aa.enc r.1.l)]):=by
 unfold Gx at G
 refine Fn.of Tryz.func35 rfl rfl rfl fun w0 I ρ0=>?_
 show B3 _ ⟨w0,I,ρ0,0,0,14⟩ _ _ _
 refine Bf 0 24 Ay fun B=>?_
 refine Cc 24 96 B ?_
 refine Lq Hj Lc S6 ?_
 refine Bd fun B=>?_
 refine Aj <| Bn (B6 _ _ []) (by kernel_rfl) [0,1,3,0,8,31,63] 96 152 B rfl rfl (by kernel_rfl) ?_
 refine As ?_
 refine Lq sH aGo z82 ?_
 refine As ?_
 obtain⟨y,hy,G⟩:=Ab G
 refine Dh (Nl _ _ hy) ?_
 refine Bd fun B=>?_
 refine E2 ?_
 obtain rfl:=oi_ G
 exact Gg [(0,112)] ⟨rfl,rfl⟩
end Go.Proofs.YtchpcpaacenodaaGreat
