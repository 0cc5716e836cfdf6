import Derived.Test.YtbpchmikjiinpaaGreatT1
import Derived.Test.YtbpchmikjiinpaaGreatEU
import Derived.Test.YtbpchmikjiinpaaGreatA1
import Derived.Test.YtbpchmikjiinpaaGreatA7
set_option linter.unusedVariables false
set_option linter.unusedSimpArgs false
set_option maxRecDepth 100000
set_option maxHeartbeats 40000000
namespace Go.Proofs.YtbpchmikjiinpaaGreat
open Go.RowKit
theorem T3 {at' r} (G:Ll at'=some r):Fn Tryz.prog 67 0 [.agg (Aa.dv at')] [] (fun d' b'=>d'=.tup [.ptr 0 0,vk r.2]/\b'=[.box [vk r.1.at_.Source,ws r.1.at_.Host,vk r.1.at_.Machine,vk r.1.at_.Day,vk r.1.at_.Confidence,vk r.1.at_.Kind,ws r.1.at_.Subject,vk r.1.at_.Use.Alg,vk r.1.at_.Use.Bits,vk r.1.at_.Number,ws r.1.at_.Text,.row 1] 126,.row 26 11 (Aj Aa.enc r.1.l)]):=by
 unfold Ll at G
 refine Dx 0 14 Tryz.func67 fun _ _ _=>?_
 refine Bt 2 fun B G=>?_
 refine L1 Hh Lt S8 ?_
 refine Bt 0 fun B G=>?_
 refine Au <| Bb (Df _ _ []) (by kernel_rfl) [0,1,3,0,8,31,63] 96 152 B rfl rfl (by kernel_rfl) ?_
 refine Bt 0 fun B G=>?_
 refine L1 nK aI1 aKq ?_
 exact Cf
instance aPu:Wk 67:=⟨_,@T3⟩
theorem Nd {s c r} (G:Gw s c=some r):Fn Tryz.prog 180 0 [ws s,.val (.int .u8 (c.toNat:Int))] [] (fun d' b'=>d'=vk r/\b'=[]):=by
 unfold Gw at G
 refine Dx 0 8 Tryz.func180 fun _ _ _=>?_
 refine Bt 2 fun B G=>?_
 refine Mn (rd:=[]) rfl rfl (.extV rfl zA (aMi s c)) rfl rfl (fun _=>⟨_,rfl⟩) ?_
 rintro _ rfl
 exact Cf
instance aN3:Wk 180:=⟨_,@Nd⟩
theorem Vb {s c r} (G:D5 s c=some r):Fn Tryz.prog 157 0 [ws s,.val (.int .u8 (c.toNat:Int))] [] (fun d' b'=>d'=vk r/\b'=[]):=by
 unfold D5 at G
 refine Dx 0 8 Tryz.func157 fun _ _ _=>?_
 exact Cf
instance aNh:Wk 157:=⟨_,@Vb⟩
theorem W8 {c others r} (G:Jh c others=some r):Fn Tryz.prog 119 0 [.val (.int .u8 (c.toNat:Int)),ws others] [] (fun d' b'=>d'=.val (.bool r)/\b'=[]):=by
 unfold Jh at G
 refine Dx 0 33 Tryz.func119 fun _ _ _=>?_
 exact Cf
instance aPa:Wk 119:=⟨_,@W8⟩
theorem Zw {s r} (G:Ev s=some r):Fn Tryz.prog 93 0 [ws s] [] (fun d' b'=>d'=.val (.bool r)/\b'=[]):=by
 unfold Ev at G
 refine Dx 0 24 Tryz.func93 fun _ _ _=>?_
 refine Bt 5 fun B G=>?_
 refine G7 (fun (x8_1:Int)=>mk [(0,ws s),(6,.sl 1 (Aj e8 (Hq s))),(7,.val (.int .i64 ((Hq s).length:Int))),(8,vk x8_1)] [] 0) G (B9 []) ?_
 rintro x8_1 m1 o1 G hn1
 unfold Ev.l1 at G
 exact Hf
instance aP1:Wk 93:=⟨_,@Zw⟩
theorem dQ {alg bits r} (G:C0 alg bits=some r):Fn Tryz.prog 181 0 [vk alg,vk bits] [] (fun d' b'=>d'=.agg [vk r.Alg,vk r.Bits]/\b'=[]):=by
 unfold C0 at G
 refine Dx 0 8 Tryz.func181 fun _ _ _=>?_
 refine Bt 2 fun B G=>?_
 refine L1 Hh Lt S8 ?_
 exact Cf
instance aNz:Wk 181:=⟨_,@dQ⟩
theorem Y4 {r} (G:E5=some r):Fn Tryz.prog 158 0 [] [] (fun d' b'=>d'=.sl 12 (Aj A1.enc r)/\b'=[]):=by
 unfold E5 at G
 refine Dx 0 125 Tryz.func158 fun _ _ _=>?_
 refine Bt 6 fun y _ y_2 _ y_3 _ y_4 _ B G=>?_
 refine Et rfl rfl (.build (r:=[.val (.int .i64 0),.val (.int .i64 0)]) Hh Lt S8 (by kernel_rfl) rfl) rfl rfl ?_
 refine Bt 11 fun y_5 _ y_6 _ y_7 _ y_8 _ y_9 _ y_10 _ y_11 _ y_12 _ y_13 _ B G=>?_
 refine Au <| Bb (Df _ _ []) (by kernel_rfl) [0,0,0,0,15,0,0,4,0,484,0,0,0,0,15360,132,0,0,0,491652,32900,0,0,0,15761540,0,0,0,0,503316480,1081476,0,0,0,16107208836,0,0,0,0,515396075520,0,0,1074823300,4399121334404,16493749239940,0,0,0,0,527765581332480,13195214356612,0,0,0,16901693816995972,0,0,0,0,540431955284459520,0,0,0,0,17293822569102704640,0,0,0,0,553402322211286548480,0,0,0,0,17708874310761169551360,1139095121199236,0,0,0,566683979083452546842756,1208925819614629174706175,2417851639229258349412351] 344 1000 B rfl rfl (by kernel_rfl) ?_
 refine Bt 1 fun y_14 _ B G=>?_
 refine Et rfl rfl (.build (r:=[.val (.int .i64 0),.val (.string (⟨#[114,115,97,45,114,99,52,45,109,100,53]⟩:ByteArray)),vk y.Alg,vk y.Bits,vk y_2.Alg,vk y_2.Bits,vk y_14.Alg,vk y_14.Bits,vk y_10.Alg,vk y_10.Bits,.val (.int .i64 1),.val (.int .i64 2)]) Jq M1 Qp (by kernel_rfl) rfl) rfl rfl ?_
 refine Bt 1 fun y_15 _ B G=>?_
 refine Et rfl rfl (.build (r:=[.val (.int .i64 0),.val (.string (⟨#[114,115,97,45,114,99,52,45,115,104,97]⟩:ByteArray)),vk y.Alg,vk y.Bits,vk y_2.Alg,vk y_2.Bits,vk y_15.Alg,vk y_15.Bits,vk y_11.Alg,vk y_11.Bits,.val (.int .i64 1),.val (.int .i64 3)]) Jq M1 Qp (by kernel_rfl) rfl) rfl rfl ?_
 refine Bt 0 fun B G=>?_
 refine Et rfl rfl (.build (r:=[.val (.int .i64 0),.val (.string (⟨#[114,115,97,45,100,101,115,51,45,115,104,97]⟩:ByteArray)),vk y.Alg,vk y.Bits,vk y_2.Alg,vk y_2.Bits,vk y_5.Alg,vk y_5.Bits,vk y_11.Alg,vk y_11.Bits,.val (.int .i64 1),.val (.int .i64 3)]) Jq M1 Qp (by kernel_rfl) rfl) rfl rfl ?_
 refine Bt 1 fun y_16 _ B G=>?_
 refine Et rfl rfl (.build (r:=[.val (.int .i64 0),.val (.string (⟨#[100,104,101,45,100,115,97,45,100,101,115,51,45,115,104,97]⟩:ByteArray)),vk y_16.Alg,vk y_16.Bits,vk y_3.Alg,vk y_3.Bits,vk y_5.Alg,vk y_5.Bits,vk y_11.Alg,vk y_11.Bits,.val (.int .i64 1),.val (.int .i64 3)]) Jq M1 Qp (by kernel_rfl) rfl) rfl rfl ?_
 refine Bt 1 fun y_17 _ B G=>?_
 refine Et rfl rfl (.build (r:=[.val (.int .i64 0),.val (.string (⟨#[100,104,101,45,114,115,97,45,100,101,115,51,45,115,104,97]⟩:ByteArray)),vk y_17.Alg,vk y_17.Bits,vk y_2.Alg,vk y_2.Bits,vk y_5.Alg,vk y_5.Bits,vk y_11.Alg,vk y_11.Bits,.val (.int .i64 1),.val (.int .i64 3)]) Jq M1 Qp (by kernel_rfl) rfl) rfl rfl ?_
 refine Bt 0 fun B G=>?_
 refine Et rfl rfl (.build (r:=[.val (.int .i64 0),.val (.string (⟨#[114,115,97,45,97,101,115,49,50,56,45,115,104,97]⟩:ByteArray)),vk y.Alg,vk y.Bits,vk y_2.Alg,vk y_2.Bits,vk y_6.Alg,vk y_6.Bits,vk y_11.Alg,vk y_11.Bits,.val (.int .i64 1),.val (.int .i64 3)]) Jq M1 Qp (by kernel_rfl) rfl) rfl rfl ?_
 refine Bt 1 fun y_18 _ B G=>?_
 refine Et rfl rfl (.build (r:=[.val (.int .i64 0),.val (.string (⟨#[100,104,101,45,114,115,97,45,97,101,115,49,50,56,45,115,104,97]⟩:ByteArray)),vk y_18.Alg,vk y_18.Bits,vk y_2.Alg,vk y_2.Bits,vk y_6.Alg,vk y_6.Bits,vk y_11.Alg,vk y_11.Bits,.val (.int .i64 1),.val (.int .i64 3)]) Jq M1 Qp (by kernel_rfl) rfl) rfl rfl ?_
 refine Bt 0 fun B G=>?_
 refine Et rfl rfl (.build (r:=[.val (.int .i64 0),.val (.string (⟨#[101,99,100,104,101,45,114,115,97,45,97,101,115,49,50,56,45,115,104,97]⟩:ByteArray)),vk y_13.Alg,vk y_13.Bits,vk y_2.Alg,vk y_2.Bits,vk y_6.Alg,vk y_6.Bits,vk y_11.Alg,vk y_11.Bits,.val (.int .i64 1),.val (.int .i64 3)]) Jq M1 Qp (by kernel_rfl) rfl) rfl rfl ?_
 refine Bt 2 fun y_19 _ y_20 _ B G=>?_
 refine Et rfl rfl (.build (r:=[.val (.int .i64 0),.val (.string (⟨#[101,99,100,104,101,45,101,99,100,115,97,45,97,101,115,50,53,54,45,115,104,97,50,53,54]⟩:ByteArray)),vk y_13.Alg,vk y_13.Bits,vk y_4.Alg,vk y_4.Bits,vk y_19.Alg,vk y_19.Bits,vk y_20.Alg,vk y_20.Bits,.val (.int .i64 3),.val (.int .i64 3)]) Jq M1 Qp (by kernel_rfl) rfl) rfl rfl ?_
 refine Bt 0 fun B G=>?_
 refine Et rfl rfl (.build (r:=[.val (.int .i64 0),.val (.string (⟨#[101,99,100,104,101,45,114,115,97,45,97,101,115,49,50,56,45,103,99,109]⟩:ByteArray)),vk y_13.Alg,vk y_13.Bits,vk y_2.Alg,vk y_2.Bits,vk y_7.Alg,vk y_7.Bits,vk y_12.Alg,vk y_12.Bits,.val (.int .i64 3),.val (.int .i64 3)]) Jq M1 Qp (by kernel_rfl) rfl) rfl rfl ?_
 refine Bt 1 fun y_21 _ B G=>?_
 refine Et rfl rfl (.build (r:=[.val (.int .i64 0),.val (.string (⟨#[101,99,100,104,101,45,101,99,100,115,97,45,97,101,115,50,53,54,45,103,99,109]⟩:ByteArray)),vk y_21.Alg,vk y_21.Bits,vk y_4.Alg,vk y_4.Bits,vk y_8.Alg,vk y_8.Bits,vk y_12.Alg,vk y_12.Bits,.val (.int .i64 3),.val (.int .i64 3)]) Jq M1 Qp (by kernel_rfl) rfl) rfl rfl ?_
 refine Bt 0 fun B G=>?_
 refine Et rfl rfl (.build (r:=[.val (.int .i64 0),.val (.string (⟨#[101,99,100,104,101,45,114,115,97,45,99,104,97,99,104,97]⟩:ByteArray)),vk y_13.Alg,vk y_13.Bits,vk y_2.Alg,vk y_2.Bits,vk y_9.Alg,vk y_9.Bits,vk y_12.Alg,vk y_12.Bits,.val (.int .i64 3),.val (.int .i64 3)]) Jq M1 Qp (by kernel_rfl) rfl) rfl rfl ?_
 refine Bt 0 fun B G=>?_
 refine Et rfl rfl (.build (r:=[.val (.int .i64 0),.val (.string (⟨#[114,115,97,45,97,101,115,50,53,54,45,103,99,109]⟩:ByteArray)),vk y.Alg,vk y.Bits,vk y_2.Alg,vk y_2.Bits,vk y_8.Alg,vk y_8.Bits,vk y_12.Alg,vk y_12.Bits,.val (.int .i64 3),.val (.int .i64 3)]) Jq M1 Qp (by kernel_rfl) rfl) rfl rfl ?_
 refine Bt 0 fun B G=>?_
 refine Et rfl rfl (.build (r:=[.val (.int .i64 0),.val (.string (⟨#[97,101,115,49,50,56,45,103,99,109]⟩:ByteArray)),vk y_13.Alg,vk y_13.Bits,.val (.int .i64 0),.val (.int .i64 0),vk y_7.Alg,vk y_7.Bits,vk y_12.Alg,vk y_12.Bits,.val (.int .i64 4),.val (.int .i64 4)]) Jq M1 Qp (by kernel_rfl) rfl) rfl rfl ?_
 refine Bt 0 fun B G=>?_
 refine Et rfl rfl (.build (r:=[.val (.int .i64 0),.val (.string (⟨#[99,104,97,99,104,97]⟩:ByteArray)),vk y_13.Alg,vk y_13.Bits,.val (.int .i64 0),.val (.int .i64 0),vk y_9.Alg,vk y_9.Bits,vk y_12.Alg,vk y_12.Bits,.val (.int .i64 4),.val (.int .i64 4)]) Jq M1 Qp (by kernel_rfl) rfl) rfl rfl ?_
 refine Bt 1 fun y_22 _ B G=>?_
 refine Et rfl rfl (.build (r:=[.val (.int .i64 0),.val (.string (⟨#[109,108,107,101,109,45,97,101,115,50,53,54,45,103,99,109]⟩:ByteArray)),vk y_22.Alg,vk y_22.Bits,.val (.int .i64 0),.val (.int .i64 0),vk y_8.Alg,vk y_8.Bits,vk y_12.Alg,vk y_12.Bits,.val (.int .i64 4),.val (.int .i64 4)]) Jq M1 Qp (by kernel_rfl) rfl) rfl rfl ?_
 refine Hj wS Qp aCy ([(A1.mk 0 (⟨#[114,115,97,45,114,99,52,45,109,100,53]⟩:ByteArray) y y_2 y_14 y_10 1 2),(A1.mk 0 (⟨#[114,115,97,45,114,99,52,45,115,104,97]⟩:ByteArray) y y_2 y_15 y_11 1 3),(A1.mk 0 (⟨#[114,115,97,45,100,101,115,51,45,115,104,97]⟩:ByteArray) y y_2 y_5 y_11 1 3),(A1.mk 0 (⟨#[100,104,101,45,100,115,97,45,100,101,115,51,45,115,104,97]⟩:ByteArray) y_16 y_3 y_5 y_11 1 3),(A1.mk 0 (⟨#[100,104,101,45,114,115,97,45,100,101,115,51,45,115,104,97]⟩:ByteArray) y_17 y_2 y_5 y_11 1 3),(A1.mk 0 (⟨#[114,115,97,45,97,101,115,49,50,56,45,115,104,97]⟩:ByteArray) y y_2 y_6 y_11 1 3),(A1.mk 0 (⟨#[100,104,101,45,114,115,97,45,97,101,115,49,50,56,45,115,104,97]⟩:ByteArray) y_18 y_2 y_6 y_11 1 3),(A1.mk 0 (⟨#[101,99,100,104,101,45,114,115,97,45,97,101,115,49,50,56,45,115,104,97]⟩:ByteArray) y_13 y_2 y_6 y_11 1 3),(A1.mk 0 (⟨#[101,99,100,104,101,45,101,99,100,115,97,45,97,101,115,50,53,54,45,115,104,97,50,53,54]⟩:ByteArray) y_13 y_4 y_19 y_20 3 3),(A1.mk 0 (⟨#[101,99,100,104,101,45,114,115,97,45,97,101,115,49,50,56,45,103,99,109]⟩:ByteArray) y_13 y_2 y_7 y_12 3 3),(A1.mk 0 (⟨#[101,99,100,104,101,45,101,99,100,115,97,45,97,101,115,50,53,54,45,103,99,109]⟩:ByteArray) y_21 y_4 y_8 y_12 3 3),(A1.mk 0 (⟨#[101,99,100,104,101,45,114,115,97,45,99,104,97,99,104,97]⟩:ByteArray) y_13 y_2 y_9 y_12 3 3),(A1.mk 0 (⟨#[114,115,97,45,97,101,115,50,53,54,45,103,99,109]⟩:ByteArray) y y_2 y_8 y_12 3 3),(A1.mk 0 (⟨#[97,101,115,49,50,56,45,103,99,109]⟩:ByteArray) y_13 (Aq.mk 0 0) y_7 y_12 4 4),(A1.mk 0 (⟨#[99,104,97,99,104,97]⟩:ByteArray) y_13 (Aq.mk 0 0) y_9 y_12 4 4),(A1.mk 0 (⟨#[109,108,107,101,109,45,97,101,115,50,53,54,45,103,99,109]⟩:ByteArray) y_22 (Aq.mk 0 0) y_8 y_12 4 4)]:List A1) A1.enc ?_
 refine Bt 3 fun B G=>?_
 refine G7 (fun ((x114_1,l_1):Int×List A1)=>mk [(15,.row 0),(113,.val (.int .i64 (([(A1.mk 0 (⟨#[114,115,97,45,114,99,52,45,109,100,53]⟩:ByteArray) y y_2 y_14 y_10 1 2),(A1.mk 0 (⟨#[114,115,97,45,114,99,52,45,115,104,97]⟩:ByteArray) y y_2 y_15 y_11 1 3),(A1.mk 0 (⟨#[114,115,97,45,100,101,115,51,45,115,104,97]⟩:ByteArray) y y_2 y_5 y_11 1 3),(A1.mk 0 (⟨#[100,104,101,45,100,115,97,45,100,101,115,51,45,115,104,97]⟩:ByteArray) y_16 y_3 y_5 y_11 1 3),(A1.mk 0 (⟨#[100,104,101,45,114,115,97,45,100,101,115,51,45,115,104,97]⟩:ByteArray) y_17 y_2 y_5 y_11 1 3),(A1.mk 0 (⟨#[114,115,97,45,97,101,115,49,50,56,45,115,104,97]⟩:ByteArray) y y_2 y_6 y_11 1 3),(A1.mk 0 (⟨#[100,104,101,45,114,115,97,45,97,101,115,49,50,56,45,115,104,97]⟩:ByteArray) y_18 y_2 y_6 y_11 1 3),(A1.mk 0 (⟨#[101,99,100,104,101,45,114,115,97,45,97,101,115,49,50,56,45,115,104,97]⟩:ByteArray) y_13 y_2 y_6 y_11 1 3),(A1.mk 0 (⟨#[101,99,100,104,101,45,101,99,100,115,97,45,97,101,115,50,53,54,45,115,104,97,50,53,54]⟩:ByteArray) y_13 y_4 y_19 y_20 3 3),(A1.mk 0 (⟨#[101,99,100,104,101,45,114,115,97,45,97,101,115,49,50,56,45,103,99,109]⟩:ByteArray) y_13 y_2 y_7 y_12 3 3),(A1.mk 0 (⟨#[101,99,100,104,101,45,101,99,100,115,97,45,97,101,115,50,53,54,45,103,99,109]⟩:ByteArray) y_21 y_4 y_8 y_12 3 3),(A1.mk 0 (⟨#[101,99,100,104,101,45,114,115,97,45,99,104,97,99,104,97]⟩:ByteArray) y_13 y_2 y_9 y_12 3 3),(A1.mk 0 (⟨#[114,115,97,45,97,101,115,50,53,54,45,103,99,109]⟩:ByteArray) y y_2 y_8 y_12 3 3),(A1.mk 0 (⟨#[97,101,115,49,50,56,45,103,99,109]⟩:ByteArray) y_13 (Aq.mk 0 0) y_7 y_12 4 4),(A1.mk 0 (⟨#[99,104,97,99,104,97]⟩:ByteArray) y_13 (Aq.mk 0 0) y_9 y_12 4 4),(A1.mk 0 (⟨#[109,108,107,101,109,45,97,101,115,50,53,54,45,103,99,109]⟩:ByteArray) y_22 (Aq.mk 0 0) y_8 y_12 4 4)]:List A1).length:Int))),(114,vk x114_1)] [(0,.row 145 12 (Aj A1.enc l_1))] 1) G (B9 [(0,984)]) ?_
 rintro⟨x114_1,l_1⟩ m1 o1 G hn1
 unfold E5.l1 at G
 refine D4 (.r 2 (.e 6)) fun _ e he B G=>?_
 refine Mz (rd:=[0]) rfl rfl (lK yW rfl (Gd A1.enc_len (Dj he) (o:=0) (m:=1) (by decide) rfl) I7 (cs':=[.int .i64 (W (x114_1 + 1))]) (.cons .int .nil) (bC A1.enc_len (Dj he) (o:=0) (x':=(A1.mk (W (x114_1 + 1)) e.Name e.Exchange e.Sign e.Cipher e.Mac e.Least e.Most)) (aCt rfl) rfl rfl)) rfl rfl ?_
 exact Cf
instance aNo:Wk 158:=⟨_,@Y4⟩
theorem Zv {code r} (G:Fx code=some r):Fn Tryz.prog 120 0 [vk code] [] (fun d' b'=>d'=.tup [.agg (A1.dv r.1),vk r.2]/\b'=[]):=by
 unfold Fx at G
 refine Dx 0 20 Tryz.func120 fun _ _ _=>?_
 refine Bt 3 fun y _ B G=>?_
 refine Au <| Ba (ι:=Bool) (fun (x13_1:Bool)=>mk [(0,vk code),(2,.ptr 0 0),(4,.sl 12 (Aj A1.enc y)),(13,.val (.bool x13_1))] [(0,.box [.val (.int .i64 0),.val (.string (⟨#[]⟩:ByteArray)),.val (.int .i64 0),.val (.int .i64 0),.val (.int .i64 0),.val (.int .i64 0),.val (.int .i64 0),.val (.int .i64 0),.val (.int .i64 0),.val (.int .i64 0),.val (.int .i64 0),.val (.int .i64 0)] 145)] 1) (fun (x13_1:Bool)=>Fx.j1 code y x13_1=some r) ?_ ?_
 exact Cf
 rintro x13_1 G
 unfold Fx.j1 at G
 refine D4 (.r 0 (.e 1)) fun _ B G=>?_
 refine L1 Jq M1 Qp ?_
 exact Cf
instance aN1:Wk 120:=⟨_,@Zv⟩
theorem W5 {l r} (G:C4 l=some r):Fn Tryz.prog 94 0 [.sl 1 (Aj eI l)] [] (fun d' b'=>d'=.val (.bool r)/\b'=[]):=by
 unfold C4 at G
 refine Dx 0 29 Tryz.func94 fun _ _ _=>?_
 refine Bt 4 fun B G=>?_
 refine G7 (fun (x9_1:Int)=>mk [(0,.sl 1 (Aj eI l)),(7,.sl 1 (Aj eI l)),(8,.val (.int .i64 (l.length:Int))),(9,vk x9_1)] [] 0) G (B9 []) ?_
 rintro x9_1 m1 o1 G hn1
 unfold C4.l1 at G
 refine D4 (.r 2 (.e 8)) fun _ _ _ _ _ B G=>?_
 refine Ba (ι:=Bool) (fun (x27_2:Bool)=>mk [(0,.sl 1 (Aj eI l)),(7,.sl 1 (Aj eI l)),(8,.val (.int .i64 (l.length:Int))),(9,vk x9_1),(27,.val (.bool x27_2))] [] 0) (fun (x27_2:Bool)=>C4.j2 x9_1 x27_2=some o1) ?_ ?_
 exact Cf
 rintro x27_2 G
 unfold C4.j2 at G
 exact Hf
instance aQm:Wk 94:=⟨_,@W5⟩
theorem V0 {l r} (G:Ct l=some r):Fn Tryz.prog 95 0 [.sl 1 (Aj eI l)] [] (fun d' b'=>d'=.val (.bool r)/\b'=[]):=by
 unfold Ct at G
 refine Dx 0 24 Tryz.func95 fun _ _ _=>?_
 refine Bt 4 fun B G=>?_
 refine G7 (fun (x6_1:Int)=>mk [(0,.sl 1 (Aj eI l)),(5,.val (.int .i64 (l.length:Int))),(6,vk x6_1)] [] 0) G (B9 []) ?_
 rintro x6_1 m1 o1 G hn1
 unfold Ct.l1 at G
 refine D4 (.r 2 (.e 4)) fun _ B G=>?_
 refine Ba (ι:=Bool) (fun (x22_2:Bool)=>mk [(0,.sl 1 (Aj eI l)),(5,.val (.int .i64 (l.length:Int))),(6,vk x6_1),(22,.val (.bool x22_2))] [] 0) (fun (x22_2:Bool)=>Ct.j2 x6_1 x22_2=some o1) ?_ ?_
 refine Bb (Df _ _ []) (by kernel_rfl) [0,1,3,7,7,23,63,127,7,7,775,1799,4095,8191] 24 136 B rfl rfl (by kernel_rfl) ?_
 exact Cf
 rintro x22_2 G
 unfold Ct.j2 at G
 exact Hf
instance aQf:Wk 95:=⟨_,@V0⟩
theorem Qy {n r} (G:Fv n=some r):Fn Tryz.prog 100 0 [vk n] [] (fun d' b'=>d'=.val (.bool r)/\b'=[]):=by
 unfold Fv at G
 refine Dx 0 9 Tryz.func100 fun _ _ _=>?_
 exact Cf
instance aOl:Wk 100:=⟨_,@Qy⟩
theorem Vg {l r} (G:Ce l=some r):Fn Tryz.prog 183 0 [.sl 1 (Aj eS l)] [] (fun d' b'=>d'=.val (.bool r)/\b'=[]):=by
 unfold Ce at G
 refine Dx 0 32 Tryz.func183 fun _ _ _=>?_
 refine Bt 4 fun B G=>?_
 refine G7 (fun (x7_1:Int)=>mk [(0,.sl 1 (Aj eS l)),(5,.sl 1 (Aj eS l)),(6,.val (.int .i64 (l.length:Int))),(7,vk x7_1)] [] 0) G (B9 []) ?_
 rintro x7_1 m1 o1 G hn1
 unfold Ce.l1 at G
 refine D4 (.r 2 (.e 6)) fun _ e _ B G=>?_
 refine Ba (ι:=Bool) (fun (x27_2:Bool)=>mk [(0,.sl 1 (Aj eS l)),(5,.sl 1 (Aj eS l)),(6,.val (.int .i64 (l.length:Int))),(7,vk x7_1),(27,.val (.bool x27_2))] [] 0) (fun (x27_2:Bool)=>Ce.j2 x7_1 x27_2=some o1) ?_ ?_
 exact Cf
 rintro x27_2 G
 unfold Ce.j2 at G
 exact Hf
instance aPh:Wk 183:=⟨_,@Vg⟩
theorem Xt {u kind r} (G:In u kind=some r):Fn Tryz.prog 184 0 [.agg [vk u.Alg,vk u.Bits],vk kind] [] (fun d' b'=>d'=.val (.bool r)/\b'=[]):=by
 unfold In at G
 refine Dx 0 14 Tryz.func184 fun _ _ _=>?_
 exact Cf
instance aO5:Wk 184:=⟨_,@Xt⟩
theorem Wt {n r} (G:Jo n=some r):Fn Tryz.prog 185 0 [vk n] [] (fun d' b'=>d'=.val (.bool r)/\b'=[]):=by
 unfold Jo at G
 refine Dx 0 9 Tryz.func185 fun _ _ _=>?_
 exact Cf
instance aOb:Wk 185:=⟨_,@Wt⟩
theorem Va {c r} (G:Bj c=some r):Fn Tryz.prog 160 0 [.agg (Ah.dv c)] [] (fun d' b'=>d'=.val (.bool r)/\b'=[]):=by
 unfold Bj at G
 refine Dx 0 91 Tryz.func160 fun _ _ _=>?_
 refine Bt 1 fun B G=>?_
 refine Au <| Ba (ι:=Bool) (fun (x28_1:Bool)=>mk [(1,.ptr 0 0),(28,.val (.bool x28_1))] [(0,.box (Ah.dv c) 103)] 1) (fun (x28_1:Bool)=>Bj.j1 c x28_1=some r) ?_ ?_
 exact Cf
 rintro x28_1 G
 unfold Bj.j1 at G
 refine D4 (.l 0 (.e 1)) fun _ B G=>?_
 refine Au <| Ba (ι:=Bool) (fun (x58_2:Bool)=>mk [(1,.ptr 0 0),(58,.val (.bool x58_2))] [(0,.box (Ah.dv c) 103)] 1) (fun (x58_2:Bool)=>Bj.j2 c x58_2=some r) ?_ ?_
 exact Cf
 rintro x58_2 G
 unfold Bj.j2 at G
 refine D4 (.l 0 (.e 1)) fun _ B G=>?_
 refine Au <| Ba (ι:=Bool) (fun (x73_3:Bool)=>mk [(1,.ptr 0 0),(73,.val (.bool x73_3))] [(0,.box (Ah.dv c) 103)] 1) (fun (x73_3:Bool)=>Bj.j3 c x73_3=some r) ?_ ?_
 exact Cf
 rintro x73_3 G
 unfold Bj.j3 at G
 exact Hf
instance aOh:Wk 160:=⟨_,@Va⟩
end Go.Proofs.YtbpchmikjiinpaaGreat
