import Derived.Test.YtboglmbblmakjaaGreatDoorT1
import Derived.Test.YtboglmbblmakjaaGreatDoorEU
import Derived.Test.YtboglmbblmakjaaGreatDoorA5
set_option linter.unusedVariables false
set_option linter.unusedSimpArgs false
set_option maxRecDepth 100000
set_option maxHeartbeats 40000000
namespace Go.Proofs.YtboglmbblmakjaaGreatDoor
open Go.RowKit
theorem gF {s r} (G:F8 s=some r):Fn Tryz.prog 124 0 [ws s] [] (fun d' b'=>d'=.val (.bool r)/\b'=[]):=by
 unfold F8 at G
 refine Ea 0 24 Tryz.func124 fun _ _ _=>?_
 refine Cb 5 fun B G=>?_
 refine Ip (fun (x8_1:Int)=>mk [(0,ws s),(6,.sl 1 (Ac e8 (Q2 s))),(7,.val (.int .i64 ((Q2 s).length:Int))),(8,vk x8_1)] [] 0) G (B5 []) ?_
 rintro x8_1 m1 o1 G hn1
 unfold F8.l1 at G
 exact Ik
instance aX2:Wk 124:=⟨_,@gF⟩
theorem lH {alg bits r} (G:Dp alg bits=some r):Fn Tryz.prog 189 0 [vk alg,vk bits] [] (fun d' b'=>d'=.agg [vk r.Alg,vk r.Bits]/\b'=[]):=by
 unfold Dp at G
 refine Ea 0 8 Tryz.func189 fun _ _ _=>?_
 refine Cb 2 fun B G=>?_
 refine Ox T3 fW tL ?_
 exact C6
instance aX0:Wk 189:=⟨_,@lH⟩
theorem cM {r} (G:E1=some r):Fn Tryz.prog 134 0 [] [] (fun d' b'=>d'=.sl 12 (Ac Am.enc r)/\b'=[]):=by
 unfold E1 at G
 refine Ea 0 125 Tryz.func134 fun _ _ _=>?_
 refine Cb 6 fun y _ y_2 _ y_3 _ y_4 _ B G=>?_
 refine Ex rfl rfl (.build (r:=[.val (.int .i64 0),.val (.int .i64 0)]) T3 fW tL (by kernel_rfl) rfl) rfl rfl ?_
 refine Cb 11 fun y_5 _ y_6 _ y_7 _ y_8 _ y_9 _ y_10 _ y_11 _ y_12 _ y_13 _ B G=>?_
 refine Ar <| Ca (E4 _ _ []) (by kernel_rfl) [0,0,0,0,15,0,0,4,0,484,0,0,0,0,15360,132,0,0,0,491652,32900,0,0,0,15761540,0,0,0,0,503316480,1081476,0,0,0,16107208836,0,0,0,0,515396075520,0,0,1074823300,4399121334404,16493749239940,0,0,0,0,527765581332480,13195214356612,0,0,0,16901693816995972,0,0,0,0,540431955284459520,0,0,0,0,17293822569102704640,0,0,0,0,553402322211286548480,0,0,0,0,17708874310761169551360,1139095121199236,0,0,0,566683979083452546842756,1208925819614629174706175,2417851639229258349412351] 344 1000 B rfl rfl (by kernel_rfl) ?_
 refine Cb 1 fun y_14 _ B G=>?_
 refine Ex rfl rfl (.build (r:=[.val (.int .i64 0),.val (.string (⟨#[114,115,97,45,114,99,52,45,109,100,53]⟩:ByteArray)),vk y.Alg,vk y.Bits,vk y_2.Alg,vk y_2.Bits,vk y_14.Alg,vk y_14.Bits,vk y_10.Alg,vk y_10.Bits,.val (.int .i64 1),.val (.int .i64 2)]) J0 R0 V3 (by kernel_rfl) rfl) rfl rfl ?_
 refine Cb 1 fun y_15 _ B G=>?_
 refine Ex rfl rfl (.build (r:=[.val (.int .i64 0),.val (.string (⟨#[114,115,97,45,114,99,52,45,115,104,97]⟩:ByteArray)),vk y.Alg,vk y.Bits,vk y_2.Alg,vk y_2.Bits,vk y_15.Alg,vk y_15.Bits,vk y_11.Alg,vk y_11.Bits,.val (.int .i64 1),.val (.int .i64 3)]) J0 R0 V3 (by kernel_rfl) rfl) rfl rfl ?_
 refine Cb 0 fun B G=>?_
 refine Ex rfl rfl (.build (r:=[.val (.int .i64 0),.val (.string (⟨#[114,115,97,45,100,101,115,51,45,115,104,97]⟩:ByteArray)),vk y.Alg,vk y.Bits,vk y_2.Alg,vk y_2.Bits,vk y_5.Alg,vk y_5.Bits,vk y_11.Alg,vk y_11.Bits,.val (.int .i64 1),.val (.int .i64 3)]) J0 R0 V3 (by kernel_rfl) rfl) rfl rfl ?_
 refine Cb 1 fun y_16 _ B G=>?_
 refine Ex rfl rfl (.build (r:=[.val (.int .i64 0),.val (.string (⟨#[100,104,101,45,100,115,97,45,100,101,115,51,45,115,104,97]⟩:ByteArray)),vk y_16.Alg,vk y_16.Bits,vk y_3.Alg,vk y_3.Bits,vk y_5.Alg,vk y_5.Bits,vk y_11.Alg,vk y_11.Bits,.val (.int .i64 1),.val (.int .i64 3)]) J0 R0 V3 (by kernel_rfl) rfl) rfl rfl ?_
 refine Cb 1 fun y_17 _ B G=>?_
 refine Ex rfl rfl (.build (r:=[.val (.int .i64 0),.val (.string (⟨#[100,104,101,45,114,115,97,45,100,101,115,51,45,115,104,97]⟩:ByteArray)),vk y_17.Alg,vk y_17.Bits,vk y_2.Alg,vk y_2.Bits,vk y_5.Alg,vk y_5.Bits,vk y_11.Alg,vk y_11.Bits,.val (.int .i64 1),.val (.int .i64 3)]) J0 R0 V3 (by kernel_rfl) rfl) rfl rfl ?_
 refine Cb 0 fun B G=>?_
 refine Ex rfl rfl (.build (r:=[.val (.int .i64 0),.val (.string (⟨#[114,115,97,45,97,101,115,49,50,56,45,115,104,97]⟩:ByteArray)),vk y.Alg,vk y.Bits,vk y_2.Alg,vk y_2.Bits,vk y_6.Alg,vk y_6.Bits,vk y_11.Alg,vk y_11.Bits,.val (.int .i64 1),.val (.int .i64 3)]) J0 R0 V3 (by kernel_rfl) rfl) rfl rfl ?_
 refine Cb 1 fun y_18 _ B G=>?_
 refine Ex rfl rfl (.build (r:=[.val (.int .i64 0),.val (.string (⟨#[100,104,101,45,114,115,97,45,97,101,115,49,50,56,45,115,104,97]⟩:ByteArray)),vk y_18.Alg,vk y_18.Bits,vk y_2.Alg,vk y_2.Bits,vk y_6.Alg,vk y_6.Bits,vk y_11.Alg,vk y_11.Bits,.val (.int .i64 1),.val (.int .i64 3)]) J0 R0 V3 (by kernel_rfl) rfl) rfl rfl ?_
 refine Cb 0 fun B G=>?_
 refine Ex rfl rfl (.build (r:=[.val (.int .i64 0),.val (.string (⟨#[101,99,100,104,101,45,114,115,97,45,97,101,115,49,50,56,45,115,104,97]⟩:ByteArray)),vk y_13.Alg,vk y_13.Bits,vk y_2.Alg,vk y_2.Bits,vk y_6.Alg,vk y_6.Bits,vk y_11.Alg,vk y_11.Bits,.val (.int .i64 1),.val (.int .i64 3)]) J0 R0 V3 (by kernel_rfl) rfl) rfl rfl ?_
 refine Cb 2 fun y_19 _ y_20 _ B G=>?_
 refine Ex rfl rfl (.build (r:=[.val (.int .i64 0),.val (.string (⟨#[101,99,100,104,101,45,101,99,100,115,97,45,97,101,115,50,53,54,45,115,104,97,50,53,54]⟩:ByteArray)),vk y_13.Alg,vk y_13.Bits,vk y_4.Alg,vk y_4.Bits,vk y_19.Alg,vk y_19.Bits,vk y_20.Alg,vk y_20.Bits,.val (.int .i64 3),.val (.int .i64 3)]) J0 R0 V3 (by kernel_rfl) rfl) rfl rfl ?_
 refine Cb 0 fun B G=>?_
 refine Ex rfl rfl (.build (r:=[.val (.int .i64 0),.val (.string (⟨#[101,99,100,104,101,45,114,115,97,45,97,101,115,49,50,56,45,103,99,109]⟩:ByteArray)),vk y_13.Alg,vk y_13.Bits,vk y_2.Alg,vk y_2.Bits,vk y_7.Alg,vk y_7.Bits,vk y_12.Alg,vk y_12.Bits,.val (.int .i64 3),.val (.int .i64 3)]) J0 R0 V3 (by kernel_rfl) rfl) rfl rfl ?_
 refine Cb 1 fun y_21 _ B G=>?_
 refine Ex rfl rfl (.build (r:=[.val (.int .i64 0),.val (.string (⟨#[101,99,100,104,101,45,101,99,100,115,97,45,97,101,115,50,53,54,45,103,99,109]⟩:ByteArray)),vk y_21.Alg,vk y_21.Bits,vk y_4.Alg,vk y_4.Bits,vk y_8.Alg,vk y_8.Bits,vk y_12.Alg,vk y_12.Bits,.val (.int .i64 3),.val (.int .i64 3)]) J0 R0 V3 (by kernel_rfl) rfl) rfl rfl ?_
 refine Cb 0 fun B G=>?_
 refine Ex rfl rfl (.build (r:=[.val (.int .i64 0),.val (.string (⟨#[101,99,100,104,101,45,114,115,97,45,99,104,97,99,104,97]⟩:ByteArray)),vk y_13.Alg,vk y_13.Bits,vk y_2.Alg,vk y_2.Bits,vk y_9.Alg,vk y_9.Bits,vk y_12.Alg,vk y_12.Bits,.val (.int .i64 3),.val (.int .i64 3)]) J0 R0 V3 (by kernel_rfl) rfl) rfl rfl ?_
 refine Cb 0 fun B G=>?_
 refine Ex rfl rfl (.build (r:=[.val (.int .i64 0),.val (.string (⟨#[114,115,97,45,97,101,115,50,53,54,45,103,99,109]⟩:ByteArray)),vk y.Alg,vk y.Bits,vk y_2.Alg,vk y_2.Bits,vk y_8.Alg,vk y_8.Bits,vk y_12.Alg,vk y_12.Bits,.val (.int .i64 3),.val (.int .i64 3)]) J0 R0 V3 (by kernel_rfl) rfl) rfl rfl ?_
 refine Cb 0 fun B G=>?_
 refine Ex rfl rfl (.build (r:=[.val (.int .i64 0),.val (.string (⟨#[97,101,115,49,50,56,45,103,99,109]⟩:ByteArray)),vk y_13.Alg,vk y_13.Bits,.val (.int .i64 0),.val (.int .i64 0),vk y_7.Alg,vk y_7.Bits,vk y_12.Alg,vk y_12.Bits,.val (.int .i64 4),.val (.int .i64 4)]) J0 R0 V3 (by kernel_rfl) rfl) rfl rfl ?_
 refine Cb 0 fun B G=>?_
 refine Ex rfl rfl (.build (r:=[.val (.int .i64 0),.val (.string (⟨#[99,104,97,99,104,97]⟩:ByteArray)),vk y_13.Alg,vk y_13.Bits,.val (.int .i64 0),.val (.int .i64 0),vk y_9.Alg,vk y_9.Bits,vk y_12.Alg,vk y_12.Bits,.val (.int .i64 4),.val (.int .i64 4)]) J0 R0 V3 (by kernel_rfl) rfl) rfl rfl ?_
 refine Cb 1 fun y_22 _ B G=>?_
 refine Ex rfl rfl (.build (r:=[.val (.int .i64 0),.val (.string (⟨#[109,108,107,101,109,45,97,101,115,50,53,54,45,103,99,109]⟩:ByteArray)),vk y_22.Alg,vk y_22.Bits,.val (.int .i64 0),.val (.int .i64 0),vk y_8.Alg,vk y_8.Bits,vk y_12.Alg,vk y_12.Bits,.val (.int .i64 4),.val (.int .i64 4)]) J0 R0 V3 (by kernel_rfl) rfl) rfl rfl ?_
 refine Kv aKj V3 aTu ([(Am.mk 0 (⟨#[114,115,97,45,114,99,52,45,109,100,53]⟩:ByteArray) y y_2 y_14 y_10 1 2),(Am.mk 0 (⟨#[114,115,97,45,114,99,52,45,115,104,97]⟩:ByteArray) y y_2 y_15 y_11 1 3),(Am.mk 0 (⟨#[114,115,97,45,100,101,115,51,45,115,104,97]⟩:ByteArray) y y_2 y_5 y_11 1 3),(Am.mk 0 (⟨#[100,104,101,45,100,115,97,45,100,101,115,51,45,115,104,97]⟩:ByteArray) y_16 y_3 y_5 y_11 1 3),(Am.mk 0 (⟨#[100,104,101,45,114,115,97,45,100,101,115,51,45,115,104,97]⟩:ByteArray) y_17 y_2 y_5 y_11 1 3),(Am.mk 0 (⟨#[114,115,97,45,97,101,115,49,50,56,45,115,104,97]⟩:ByteArray) y y_2 y_6 y_11 1 3),(Am.mk 0 (⟨#[100,104,101,45,114,115,97,45,97,101,115,49,50,56,45,115,104,97]⟩:ByteArray) y_18 y_2 y_6 y_11 1 3),(Am.mk 0 (⟨#[101,99,100,104,101,45,114,115,97,45,97,101,115,49,50,56,45,115,104,97]⟩:ByteArray) y_13 y_2 y_6 y_11 1 3),(Am.mk 0 (⟨#[101,99,100,104,101,45,101,99,100,115,97,45,97,101,115,50,53,54,45,115,104,97,50,53,54]⟩:ByteArray) y_13 y_4 y_19 y_20 3 3),(Am.mk 0 (⟨#[101,99,100,104,101,45,114,115,97,45,97,101,115,49,50,56,45,103,99,109]⟩:ByteArray) y_13 y_2 y_7 y_12 3 3),(Am.mk 0 (⟨#[101,99,100,104,101,45,101,99,100,115,97,45,97,101,115,50,53,54,45,103,99,109]⟩:ByteArray) y_21 y_4 y_8 y_12 3 3),(Am.mk 0 (⟨#[101,99,100,104,101,45,114,115,97,45,99,104,97,99,104,97]⟩:ByteArray) y_13 y_2 y_9 y_12 3 3),(Am.mk 0 (⟨#[114,115,97,45,97,101,115,50,53,54,45,103,99,109]⟩:ByteArray) y y_2 y_8 y_12 3 3),(Am.mk 0 (⟨#[97,101,115,49,50,56,45,103,99,109]⟩:ByteArray) y_13 (Ah.mk 0 0) y_7 y_12 4 4),(Am.mk 0 (⟨#[99,104,97,99,104,97]⟩:ByteArray) y_13 (Ah.mk 0 0) y_9 y_12 4 4),(Am.mk 0 (⟨#[109,108,107,101,109,45,97,101,115,50,53,54,45,103,99,109]⟩:ByteArray) y_22 (Ah.mk 0 0) y_8 y_12 4 4)]:List Am) Am.enc ?_
 refine Cb 3 fun B G=>?_
 refine Ip (fun ((x114_1,l_1):Int×List Am)=>mk [(15,.row 0),(113,.val (.int .i64 (([(Am.mk 0 (⟨#[114,115,97,45,114,99,52,45,109,100,53]⟩:ByteArray) y y_2 y_14 y_10 1 2),(Am.mk 0 (⟨#[114,115,97,45,114,99,52,45,115,104,97]⟩:ByteArray) y y_2 y_15 y_11 1 3),(Am.mk 0 (⟨#[114,115,97,45,100,101,115,51,45,115,104,97]⟩:ByteArray) y y_2 y_5 y_11 1 3),(Am.mk 0 (⟨#[100,104,101,45,100,115,97,45,100,101,115,51,45,115,104,97]⟩:ByteArray) y_16 y_3 y_5 y_11 1 3),(Am.mk 0 (⟨#[100,104,101,45,114,115,97,45,100,101,115,51,45,115,104,97]⟩:ByteArray) y_17 y_2 y_5 y_11 1 3),(Am.mk 0 (⟨#[114,115,97,45,97,101,115,49,50,56,45,115,104,97]⟩:ByteArray) y y_2 y_6 y_11 1 3),(Am.mk 0 (⟨#[100,104,101,45,114,115,97,45,97,101,115,49,50,56,45,115,104,97]⟩:ByteArray) y_18 y_2 y_6 y_11 1 3),(Am.mk 0 (⟨#[101,99,100,104,101,45,114,115,97,45,97,101,115,49,50,56,45,115,104,97]⟩:ByteArray) y_13 y_2 y_6 y_11 1 3),(Am.mk 0 (⟨#[101,99,100,104,101,45,101,99,100,115,97,45,97,101,115,50,53,54,45,115,104,97,50,53,54]⟩:ByteArray) y_13 y_4 y_19 y_20 3 3),(Am.mk 0 (⟨#[101,99,100,104,101,45,114,115,97,45,97,101,115,49,50,56,45,103,99,109]⟩:ByteArray) y_13 y_2 y_7 y_12 3 3),(Am.mk 0 (⟨#[101,99,100,104,101,45,101,99,100,115,97,45,97,101,115,50,53,54,45,103,99,109]⟩:ByteArray) y_21 y_4 y_8 y_12 3 3),(Am.mk 0 (⟨#[101,99,100,104,101,45,114,115,97,45,99,104,97,99,104,97]⟩:ByteArray) y_13 y_2 y_9 y_12 3 3),(Am.mk 0 (⟨#[114,115,97,45,97,101,115,50,53,54,45,103,99,109]⟩:ByteArray) y y_2 y_8 y_12 3 3),(Am.mk 0 (⟨#[97,101,115,49,50,56,45,103,99,109]⟩:ByteArray) y_13 (Ah.mk 0 0) y_7 y_12 4 4),(Am.mk 0 (⟨#[99,104,97,99,104,97]⟩:ByteArray) y_13 (Ah.mk 0 0) y_9 y_12 4 4),(Am.mk 0 (⟨#[109,108,107,101,109,45,97,101,115,50,53,54,45,103,99,109]⟩:ByteArray) y_22 (Ah.mk 0 0) y_8 y_12 4 4)]:List Am).length:Int))),(114,vk x114_1)] [(0,.row 201 12 (Ac Am.enc l_1))] 1) G (B5 [(0,984)]) ?_
 rintro⟨x114_1,l_1⟩ m1 o1 G hn1
 unfold E1.l1 at G
 refine E6 (.r 2 (.e 6)) fun _ e he B G=>?_
 refine Lk (rd:=[0]) rfl rfl (Qu Z4 rfl (Fh Am.enc_len (Cf he) (o:=0) (m:=1) (by decide) rfl) Pp (cs':=[.int .i64 (W (x114_1 + 1))]) (.cons .int .nil) (My Am.enc_len (Cf he) (o:=0) (x':=(Am.mk (W (x114_1 + 1)) e.Name e.Exchange e.Sign e.Cipher e.Mac e.Least e.Most)) (aC1 rfl) rfl rfl)) rfl rfl ?_
 exact C6
instance aXn:Wk 134:=⟨_,@cM⟩
theorem fU {code r} (G:Du code=some r):Fn Tryz.prog 84 0 [vk code] [] (fun d' b'=>d'=.tup [.agg (Am.dv r.1),vk r.2]/\b'=[]):=by
 unfold Du at G
 refine Ea 0 20 Tryz.func84 fun _ _ _=>?_
 refine Cb 3 fun y _ B G=>?_
 refine Ar <| Ba (ι:=Bool) (fun (x13_1:Bool)=>mk [(0,vk code),(2,.ptr 0 0),(4,.sl 12 (Ac Am.enc y)),(13,.val (.bool x13_1))] [(0,.box [.val (.int .i64 0),.val (.string (⟨#[]⟩:ByteArray)),.val (.int .i64 0),.val (.int .i64 0),.val (.int .i64 0),.val (.int .i64 0),.val (.int .i64 0),.val (.int .i64 0),.val (.int .i64 0),.val (.int .i64 0),.val (.int .i64 0),.val (.int .i64 0)] 201)] 1) (fun (x13_1:Bool)=>Du.j1 code y x13_1=some r) ?_ ?_
 exact C6
 rintro x13_1 G
 unfold Du.j1 at G
 refine E6 (.r 0 (.e 1)) fun _ B G=>?_
 refine Ox J0 R0 V3 ?_
 exact C6
instance bBh:Wk 84:=⟨_,@fU⟩
theorem Zs {s v r} (G:C0 s v=some r):Fn Tryz.prog 165 0 [.sl 1 (Ac eI s),vk v] [] (fun d' b'=>d'=vk r/\b'=[]):=by
 unfold C0 at G
 refine Ea 0 19 Tryz.func165 fun _ _ _=>?_
 refine Cb 4 fun B G=>?_
 refine Ip (fun (x8_1:Int)=>mk [(0,.sl 1 (Ac eI s)),(1,vk v),(7,.val (.int .i64 (s.length:Int))),(8,vk x8_1)] [] 0) G (B5 []) ?_
 rintro x8_1 m1 o1 G hn1
 unfold C0.l1 at G
 exact Ik
instance aZj:Wk 165:=⟨_,@Zs⟩
theorem Np {s v r} (G:Ds s v=some r):Fn Tryz.prog 164 0 [.sl 1 (Ac eI s),vk v] [] (fun d' b'=>d'=.val (.bool r)/\b'=[]):=by
 unfold Ds at G
 refine Ea 0 9 Tryz.func164 fun _ _ _=>?_
 exact C6
instance aXd:Wk 164:=⟨_,@Np⟩
theorem aG {l r} (G:D5 l=some r):Fn Tryz.prog 125 0 [.sl 1 (Ac eI l)] [] (fun d' b'=>d'=.val (.bool r)/\b'=[]):=by
 unfold D5 at G
 refine Ea 0 29 Tryz.func125 fun _ _ _=>?_
 refine Cb 4 fun B G=>?_
 refine Ip (fun (x9_1:Int)=>mk [(0,.sl 1 (Ac eI l)),(7,.sl 1 (Ac eI l)),(8,.val (.int .i64 (l.length:Int))),(9,vk x9_1)] [] 0) G (B5 []) ?_
 rintro x9_1 m1 o1 G hn1
 unfold D5.l1 at G
 refine E6 (.r 2 (.e 8)) fun _ _ _ _ _ B G=>?_
 refine Ba (ι:=Bool) (fun (x27_2:Bool)=>mk [(0,.sl 1 (Ac eI l)),(7,.sl 1 (Ac eI l)),(8,.val (.int .i64 (l.length:Int))),(9,vk x9_1),(27,.val (.bool x27_2))] [] 0) (fun (x27_2:Bool)=>D5.j2 x9_1 x27_2=some o1) ?_ ?_
 exact C6
 rintro x27_2 G
 unfold D5.j2 at G
 exact Ik
instance aZ0:Wk 125:=⟨_,@aG⟩
theorem Zg {l r} (G:Dr l=some r):Fn Tryz.prog 126 0 [.sl 1 (Ac eI l)] [] (fun d' b'=>d'=.val (.bool r)/\b'=[]):=by
 unfold Dr at G
 refine Ea 0 24 Tryz.func126 fun _ _ _=>?_
 refine Cb 4 fun B G=>?_
 refine Ip (fun (x6_1:Int)=>mk [(0,.sl 1 (Ac eI l)),(5,.val (.int .i64 (l.length:Int))),(6,vk x6_1)] [] 0) G (B5 []) ?_
 rintro x6_1 m1 o1 G hn1
 unfold Dr.l1 at G
 refine E6 (.r 2 (.e 4)) fun _ B G=>?_
 refine Ba (ι:=Bool) (fun (x22_2:Bool)=>mk [(0,.sl 1 (Ac eI l)),(5,.val (.int .i64 (l.length:Int))),(6,vk x6_1),(22,.val (.bool x22_2))] [] 0) (fun (x22_2:Bool)=>Dr.j2 x6_1 x22_2=some o1) ?_ ?_
 refine Ca (E4 _ _ []) (by kernel_rfl) [0,1,3,7,7,23,63,127,7,7,775,1799,4095,8191] 24 136 B rfl rfl (by kernel_rfl) ?_
 exact C6
 rintro x22_2 G
 unfold Dr.j2 at G
 exact Ik
instance aXf:Wk 126:=⟨_,@Zg⟩
theorem kS {r} (G:Tu=some r):Fn Tryz.prog 209 0 [] [] (fun d' b'=>d'=.agg [.val (.string ((r[0]!).name)),.val (.int .i64 ((r[0]!).kind)),.val (.int .i64 ((r[0]!).way)),.sl 1 (Ac eI ((r[0]!).sizes)),.sl 1 (Ac eI ((r[0]!).strengths)),.val (.string ((r[1]!).name)),.val (.int .i64 ((r[1]!).kind)),.val (.int .i64 ((r[1]!).way)),.sl 1 (Ac eI ((r[1]!).sizes)),.sl 1 (Ac eI ((r[1]!).strengths)),.val (.string ((r[2]!).name)),.val (.int .i64 ((r[2]!).kind)),.val (.int .i64 ((r[2]!).way)),.sl 1 (Ac eI ((r[2]!).sizes)),.sl 1 (Ac eI ((r[2]!).strengths)),.val (.string ((r[3]!).name)),.val (.int .i64 ((r[3]!).kind)),.val (.int .i64 ((r[3]!).way)),.sl 1 (Ac eI ((r[3]!).sizes)),.sl 1 (Ac eI ((r[3]!).strengths)),.val (.string ((r[4]!).name)),.val (.int .i64 ((r[4]!).kind)),.val (.int .i64 ((r[4]!).way)),.sl 1 (Ac eI ((r[4]!).sizes)),.sl 1 (Ac eI ((r[4]!).strengths)),.val (.string ((r[5]!).name)),.val (.int .i64 ((r[5]!).kind)),.val (.int .i64 ((r[5]!).way)),.sl 1 (Ac eI ((r[5]!).sizes)),.sl 1 (Ac eI ((r[5]!).strengths)),.val (.string ((r[6]!).name)),.val (.int .i64 ((r[6]!).kind)),.val (.int .i64 ((r[6]!).way)),.sl 1 (Ac eI ((r[6]!).sizes)),.sl 1 (Ac eI ((r[6]!).strengths)),.val (.string ((r[7]!).name)),.val (.int .i64 ((r[7]!).kind)),.val (.int .i64 ((r[7]!).way)),.sl 1 (Ac eI ((r[7]!).sizes)),.sl 1 (Ac eI ((r[7]!).strengths)),.val (.string ((r[8]!).name)),.val (.int .i64 ((r[8]!).kind)),.val (.int .i64 ((r[8]!).way)),.sl 1 (Ac eI ((r[8]!).sizes)),.sl 1 (Ac eI ((r[8]!).strengths)),.val (.string ((r[9]!).name)),.val (.int .i64 ((r[9]!).kind)),.val (.int .i64 ((r[9]!).way)),.sl 1 (Ac eI ((r[9]!).sizes)),.sl 1 (Ac eI ((r[9]!).strengths)),.val (.string ((r[10]!).name)),.val (.int .i64 ((r[10]!).kind)),.val (.int .i64 ((r[10]!).way)),.sl 1 (Ac eI ((r[10]!).sizes)),.sl 1 (Ac eI ((r[10]!).strengths)),.val (.string ((r[11]!).name)),.val (.int .i64 ((r[11]!).kind)),.val (.int .i64 ((r[11]!).way)),.sl 1 (Ac eI ((r[11]!).sizes)),.sl 1 (Ac eI ((r[11]!).strengths)),.val (.string ((r[12]!).name)),.val (.int .i64 ((r[12]!).kind)),.val (.int .i64 ((r[12]!).way)),.sl 1 (Ac eI ((r[12]!).sizes)),.sl 1 (Ac eI ((r[12]!).strengths)),.val (.string ((r[13]!).name)),.val (.int .i64 ((r[13]!).kind)),.val (.int .i64 ((r[13]!).way)),.sl 1 (Ac eI ((r[13]!).sizes)),.sl 1 (Ac eI ((r[13]!).strengths)),.val (.string ((r[14]!).name)),.val (.int .i64 ((r[14]!).kind)),.val (.int .i64 ((r[14]!).way)),.sl 1 (Ac eI ((r[14]!).sizes)),.sl 1 (Ac eI ((r[14]!).strengths)),.val (.string ((r[15]!).name)),.val (.int .i64 ((r[15]!).kind)),.val (.int .i64 ((r[15]!).way)),.sl 1 (Ac eI ((r[15]!).sizes)),.sl 1 (Ac eI ((r[15]!).strengths)),.val (.string ((r[16]!).name)),.val (.int .i64 ((r[16]!).kind)),.val (.int .i64 ((r[16]!).way)),.sl 1 (Ac eI ((r[16]!).sizes)),.sl 1 (Ac eI ((r[16]!).strengths)),.val (.string ((r[17]!).name)),.val (.int .i64 ((r[17]!).kind)),.val (.int .i64 ((r[17]!).way)),.sl 1 (Ac eI ((r[17]!).sizes)),.sl 1 (Ac eI ((r[17]!).strengths)),.val (.string ((r[18]!).name)),.val (.int .i64 ((r[18]!).kind)),.val (.int .i64 ((r[18]!).way)),.sl 1 (Ac eI ((r[18]!).sizes)),.sl 1 (Ac eI ((r[18]!).strengths)),.val (.string ((r[19]!).name)),.val (.int .i64 ((r[19]!).kind)),.val (.int .i64 ((r[19]!).way)),.sl 1 (Ac eI ((r[19]!).sizes)),.sl 1 (Ac eI ((r[19]!).strengths)),.val (.string ((r[20]!).name)),.val (.int .i64 ((r[20]!).kind)),.val (.int .i64 ((r[20]!).way)),.sl 1 (Ac eI ((r[20]!).sizes)),.sl 1 (Ac eI ((r[20]!).strengths)),.val (.string ((r[21]!).name)),.val (.int .i64 ((r[21]!).kind)),.val (.int .i64 ((r[21]!).way)),.sl 1 (Ac eI ((r[21]!).sizes)),.sl 1 (Ac eI ((r[21]!).strengths)),.val (.string ((r[22]!).name)),.val (.int .i64 ((r[22]!).kind)),.val (.int .i64 ((r[22]!).way)),.sl 1 (Ac eI ((r[22]!).sizes)),.sl 1 (Ac eI ((r[22]!).strengths))]/\b'=[]):=by
 unfold Tu at G
 refine Ea 0 46 Tryz.func209 fun _ _ _=>?_
 refine Cb 2 fun B G=>?_
 refine Kv Hz z3 Pp ([18]:List Int) eI ?_
 refine Ex rfl rfl (.build (r:=[.val (.string (⟨#[109,100,53]⟩:ByteArray)),.val (.int .i64 1),.val (.int .i64 0),.val (.slice none 0 0),.row 8]) Jc Oa S1 (by kernel_rfl) rfl) rfl rfl ?_
 refine Kv Hz z3 Pp ([60]:List Int) eI ?_
 refine Ex rfl rfl (.build (r:=[.val (.string (⟨#[115,104,97,49]⟩:ByteArray)),.val (.int .i64 1),.val (.int .i64 0),.val (.slice none 0 0),.row 24]) Jc Oa S1 (by kernel_rfl) rfl) rfl rfl ?_
 refine Kv Hz z3 Pp ([128]:List Int) eI ?_
 refine Ex rfl rfl (.build (r:=[.val (.string (⟨#[115,104,97,50,53,54]⟩:ByteArray)),.val (.int .i64 1),.val (.int .i64 0),.val (.slice none 0 0),.row 40]) Jc Oa S1 (by kernel_rfl) rfl) rfl rfl ?_
 refine Kv Hz z3 Pp ([192]:List Int) eI ?_
 refine Ex rfl rfl (.build (r:=[.val (.string (⟨#[115,104,97,51,56,52]⟩:ByteArray)),.val (.int .i64 1),.val (.int .i64 0),.val (.slice none 0 0),.row 56]) Jc Oa S1 (by kernel_rfl) rfl) rfl rfl ?_
 refine Ex rfl rfl (.build (r:=[.val (.string (⟨#[114,115,97]⟩:ByteArray)),.val (.int .i64 2),.val (.int .i64 1),.val (.slice none 0 0),.val (.slice none 0 0)]) Jc Oa S1 (by kernel_rfl) rfl) rfl rfl ?_
 refine Ex rfl rfl (.build (r:=[.val (.string (⟨#[100,115,97]⟩:ByteArray)),.val (.int .i64 2),.val (.int .i64 1),.val (.slice none 0 0),.val (.slice none 0 0)]) Jc Oa S1 (by kernel_rfl) rfl) rfl rfl ?_
 refine Ex rfl rfl (.build (r:=[.val (.string (⟨#[101,99,100,115,97]⟩:ByteArray)),.val (.int .i64 2),.val (.int .i64 2),.val (.slice none 0 0),.val (.slice none 0 0)]) Jc Oa S1 (by kernel_rfl) rfl) rfl rfl ?_
 refine Kv Hz z3 Pp ([128]:List Int) eI ?_
 refine Ex rfl rfl (.build (r:=[.val (.string (⟨#[101,100,50,53,53,49,57]⟩:ByteArray)),.val (.int .i64 2),.val (.int .i64 0),.val (.slice none 0 0),.row 96]) Jc Oa S1 (by kernel_rfl) rfl) rfl rfl ?_
 refine Kv Hz z3 Pp ([44,65,87]:List Int) eI ?_
 refine Kv Hz z3 Pp ([128,192,256]:List Int) eI ?_
 refine Ex rfl rfl (.build (r:=[.val (.string (⟨#[109,108,100,115,97]⟩:ByteArray)),.val (.int .i64 2),.val (.int .i64 3),.row 112,.row 120]) Jc Oa S1 (by kernel_rfl) rfl) rfl rfl ?_
 refine Ex rfl rfl (.build (r:=[.val (.string (⟨#[114,115,97,107,120]⟩:ByteArray)),.val (.int .i64 3),.val (.int .i64 1),.val (.slice none 0 0),.val (.slice none 0 0)]) Jc Oa S1 (by kernel_rfl) rfl) rfl rfl ?_
 refine Ex rfl rfl (.build (r:=[.val (.string (⟨#[100,104,101]⟩:ByteArray)),.val (.int .i64 3),.val (.int .i64 1),.val (.slice none 0 0),.val (.slice none 0 0)]) Jc Oa S1 (by kernel_rfl) rfl) rfl rfl ?_
 refine Ex rfl rfl (.build (r:=[.val (.string (⟨#[101,99,100,104,101]⟩:ByteArray)),.val (.int .i64 3),.val (.int .i64 2),.val (.slice none 0 0),.val (.slice none 0 0)]) Jc Oa S1 (by kernel_rfl) rfl) rfl rfl ?_
 refine Kv Hz z3 Pp ([512,768,1024]:List Int) eI ?_
 refine Kv Hz z3 Pp ([128,192,256]:List Int) eI ?_
 refine Ex rfl rfl (.build (r:=[.val (.string (⟨#[109,108,107,101,109]⟩:ByteArray)),.val (.int .i64 3),.val (.int .i64 3),.row 160,.row 168]) Jc Oa S1 (by kernel_rfl) rfl) rfl rfl ?_
 refine Kv Hz z3 Pp ([40,128]:List Int) eI ?_
 refine Kv Hz z3 Pp ([40,60]:List Int) eI ?_
 refine Ex rfl rfl (.build (r:=[.val (.string (⟨#[114,99,52]⟩:ByteArray)),.val (.int .i64 4),.val (.int .i64 3),.row 184,.row 192]) Jc Oa S1 (by kernel_rfl) rfl) rfl rfl ?_
 refine Kv Hz z3 Pp ([112,168]:List Int) eI ?_
 refine Kv Hz z3 Pp ([80,112]:List Int) eI ?_
 refine Ex rfl rfl (.build (r:=[.val (.string (⟨#[100,101,115,51]⟩:ByteArray)),.val (.int .i64 4),.val (.int .i64 3),.row 208,.row 216]) Jc Oa S1 (by kernel_rfl) rfl) rfl rfl ?_
 refine Kv Hz z3 Pp ([128,256]:List Int) eI ?_
 refine Kv Hz z3 Pp ([128,256]:List Int) eI ?_
 refine Ex rfl rfl (.build (r:=[.val (.string (⟨#[97,101,115,99,98,99]⟩:ByteArray)),.val (.int .i64 4),.val (.int .i64 3),.row 232,.row 240]) Jc Oa S1 (by kernel_rfl) rfl) rfl rfl ?_
 refine Kv Hz z3 Pp ([128,256]:List Int) eI ?_
 refine Kv Hz z3 Pp ([128,256]:List Int) eI ?_
 refine Ex rfl rfl (.build (r:=[.val (.string (⟨#[97,101,115,103,99,109]⟩:ByteArray)),.val (.int .i64 4),.val (.int .i64 3),.row 256,.row 264]) Jc Oa S1 (by kernel_rfl) rfl) rfl rfl ?_
 refine Kv Hz z3 Pp ([256]:List Int) eI ?_
 refine Ex rfl rfl (.build (r:=[.val (.string (⟨#[99,104,97,99,104,97]⟩:ByteArray)),.val (.int .i64 4),.val (.int .i64 0),.val (.slice none 0 0),.row 280]) Jc Oa S1 (by kernel_rfl) rfl) rfl rfl ?_
 refine Kv Hz z3 Pp ([64]:List Int) eI ?_
 refine Ex rfl rfl (.build (r:=[.val (.string (⟨#[104,109,97,99,109,100,53]⟩:ByteArray)),.val (.int .i64 5),.val (.int .i64 0),.val (.slice none 0 0),.row 296]) Jc Oa S1 (by kernel_rfl) rfl) rfl rfl ?_
 refine Kv Hz z3 Pp ([80]:List Int) eI ?_
 refine Ex rfl rfl (.build (r:=[.val (.string (⟨#[104,109,97,99,115,104,97,49]⟩:ByteArray)),.val (.int .i64 5),.val (.int .i64 0),.val (.slice none 0 0),.row 312]) Jc Oa S1 (by kernel_rfl) rfl) rfl rfl ?_
 refine Kv Hz z3 Pp ([128]:List Int) eI ?_
 refine Ex rfl rfl (.build (r:=[.val (.string (⟨#[104,109,97,99,115,104,97,50,53,54]⟩:ByteArray)),.val (.int .i64 5),.val (.int .i64 0),.val (.slice none 0 0),.row 328]) Jc Oa S1 (by kernel_rfl) rfl) rfl rfl ?_
 refine Kv Hz z3 Pp ([256]:List Int) eI ?_
 refine Ex rfl rfl (.build (r:=[.val (.string (⟨#[97,101,97,100]⟩:ByteArray)),.val (.int .i64 5),.val (.int .i64 0),.val (.slice none 0 0),.row 344]) Jc Oa S1 (by kernel_rfl) rfl) rfl rfl ?_
 refine Ex rfl rfl (.buildArr (sz:=5) (r:=[.val (.string (⟨#[]⟩:ByteArray)),.val (.int .i64 0),.val (.int .i64 0),.val (.slice none 0 0),.val (.slice none 0 0),.val (.string (⟨#[109,100,53]⟩:ByteArray)),.val (.int .i64 1),.val (.int .i64 0),.val (.slice none 0 0),.row 8,.val (.string (⟨#[115,104,97,49]⟩:ByteArray)),.val (.int .i64 1),.val (.int .i64 0),.val (.slice none 0 0),.row 24,.val (.string (⟨#[115,104,97,50,53,54]⟩:ByteArray)),.val (.int .i64 1),.val (.int .i64 0),.val (.slice none 0 0),.row 40,.val (.string (⟨#[115,104,97,51,56,52]⟩:ByteArray)),.val (.int .i64 1),.val (.int .i64 0),.val (.slice none 0 0),.row 56,.val (.string (⟨#[114,115,97]⟩:ByteArray)),.val (.int .i64 2),.val (.int .i64 1),.val (.slice none 0 0),.val (.slice none 0 0),.val (.string (⟨#[100,115,97]⟩:ByteArray)),.val (.int .i64 2),.val (.int .i64 1),.val (.slice none 0 0),.val (.slice none 0 0),.val (.string (⟨#[101,99,100,115,97]⟩:ByteArray)),.val (.int .i64 2),.val (.int .i64 2),.val (.slice none 0 0),.val (.slice none 0 0),.val (.string (⟨#[101,100,50,53,53,49,57]⟩:ByteArray)),.val (.int .i64 2),.val (.int .i64 0),.val (.slice none 0 0),.row 96,.val (.string (⟨#[109,108,100,115,97]⟩:ByteArray)),.val (.int .i64 2),.val (.int .i64 3),.row 112,.row 120,.val (.string (⟨#[114,115,97,107,120]⟩:ByteArray)),.val (.int .i64 3),.val (.int .i64 1),.val (.slice none 0 0),.val (.slice none 0 0),.val (.string (⟨#[100,104,101]⟩:ByteArray)),.val (.int .i64 3),.val (.int .i64 1),.val (.slice none 0 0),.val (.slice none 0 0),.val (.string (⟨#[101,99,100,104,101]⟩:ByteArray)),.val (.int .i64 3),.val (.int .i64 2),.val (.slice none 0 0),.val (.slice none 0 0),.val (.string (⟨#[109,108,107,101,109]⟩:ByteArray)),.val (.int .i64 3),.val (.int .i64 3),.row 160,.row 168,.val (.string (⟨#[114,99,52]⟩:ByteArray)),.val (.int .i64 4),.val (.int .i64 3),.row 184,.row 192,.val (.string (⟨#[100,101,115,51]⟩:ByteArray)),.val (.int .i64 4),.val (.int .i64 3),.row 208,.row 216,.val (.string (⟨#[97,101,115,99,98,99]⟩:ByteArray)),.val (.int .i64 4),.val (.int .i64 3),.row 232,.row 240,.val (.string (⟨#[97,101,115,103,99,109]⟩:ByteArray)),.val (.int .i64 4),.val (.int .i64 3),.row 256,.row 264,.val (.string (⟨#[99,104,97,99,104,97]⟩:ByteArray)),.val (.int .i64 4),.val (.int .i64 0),.val (.slice none 0 0),.row 280,.val (.string (⟨#[104,109,97,99,109,100,53]⟩:ByteArray)),.val (.int .i64 5),.val (.int .i64 0),.val (.slice none 0 0),.row 296,.val (.string (⟨#[104,109,97,99,115,104,97,49]⟩:ByteArray)),.val (.int .i64 5),.val (.int .i64 0),.val (.slice none 0 0),.row 312,.val (.string (⟨#[104,109,97,99,115,104,97,50,53,54]⟩:ByteArray)),.val (.int .i64 5),.val (.int .i64 0),.val (.slice none 0 0),.row 328,.val (.string (⟨#[97,101,97,100]⟩:ByteArray)),.val (.int .i64 5),.val (.int .i64 0),.val (.slice none 0 0),.row 344]) uY (by kernel_rfl) aTc (by kernel_rfl) rfl) rfl rfl ?_
 exact C6
instance aY6:Wk 209:=⟨_,@kS⟩
theorem pK {alg r} (G:Gr alg=some r):Fn Tryz.prog 162 0 [vk alg] [] (fun d' b'=>d'=.tup [.agg (C9.dv r.1),.val (.bool r.2)]/\b'=[]):=by
 unfold Gr at G
 refine Ea 0 14 Tryz.func162 fun _ _ _=>?_
 refine Cb 1 fun B G=>?_
 refine Ar <| Ba (ι:=Bool) (fun (x9_1:Bool)=>mk [(0,vk alg),(2,.ptr 0 0),(9,.val (.bool x9_1))] [(0,.box [.val (.string (⟨#[]⟩:ByteArray)),.val (.int .i64 0),.val (.int .i64 0),.val (.slice none 0 0),.val (.slice none 0 0)] 281)] 1) (fun (x9_1:Bool)=>Gr.j1 alg x9_1=some r) ?_ ?_
 exact C6
 rintro x9_1 G
 unfold Gr.j1 at G
 try dsimp only at G
 refine X5 rfl ?_
 refine Ji rfl G (fun _ G=>?_) fun _ G=>?_
 refine Cb 1 fun B G=>?_
 refine Ox Jc Oa S1 ?_
 exact C6
 refine Cb 3 fun y _ B G=>?_
 obtain⟨e,he,G⟩:=Af G
 refine Ex rfl rfl (nM (f:=C9.enc) (L:=(aTq 23 y)) uY aK9 C9.enc_len rfl rfl he (d2:=[ws e.name,vk e.kind,vk e.way,.sl 1 (Ac eI e.sizes),.sl 1 (Ac eI e.strengths)]) rfl) rfl rfl ?_
 exact C6
instance aZw:Wk 162:=⟨_,@pK⟩
theorem bY {bits r} (G:E0 bits=some r):Fn Tryz.prog 163 0 [vk bits] [] (fun d' b'=>d'=vk r/\b'=[]):=by
 unfold E0 at G
 refine Ea 0 21 Tryz.func163 fun _ _ _=>?_
 refine Cb 3 fun B G=>?_
 refine Ex rfl rfl (.buildArr (sz:=1) (r:=[.val (.int .i64 1024),.val (.int .i64 56)]) Xx (by kernel_rfl) aAi (by kernel_rfl) rfl) rfl rfl ?_
 refine Ex rfl rfl (.buildArr (sz:=1) (r:=[.val (.int .i64 2048),.val (.int .i64 80)]) Xx (by kernel_rfl) aAi (by kernel_rfl) rfl) rfl rfl ?_
 refine Ex rfl rfl (.buildArr (sz:=1) (r:=[.val (.int .i64 3072),.val (.int .i64 112)]) Xx (by kernel_rfl) aAi (by kernel_rfl) rfl) rfl rfl ?_
 refine Ex rfl rfl (.buildArr (sz:=1) (r:=[.val (.int .i64 7680),.val (.int .i64 128)]) Xx (by kernel_rfl) aAi (by kernel_rfl) rfl) rfl rfl ?_
 refine Ex rfl rfl (.buildArr (sz:=1) (r:=[.val (.int .i64 15360),.val (.int .i64 192)]) Xx (by kernel_rfl) aAi (by kernel_rfl) rfl) rfl rfl ?_
 refine Ex rfl rfl (.buildArr (sz:=2) (r:=[.val (.int .i64 1024),.val (.int .i64 56),.val (.int .i64 2048),.val (.int .i64 80),.val (.int .i64 3072),.val (.int .i64 112),.val (.int .i64 7680),.val (.int .i64 128),.val (.int .i64 15360),.val (.int .i64 192)]) uM (by kernel_rfl) aRz (by kernel_rfl) rfl) rfl rfl ?_
 refine Cb 1 fun B G=>?_
 refine Ip (fun (x11_1:Int)=>mk [(0,vk bits),(10,.agg [.val (.int .i64 1024),.val (.int .i64 56),.val (.int .i64 2048),.val (.int .i64 80),.val (.int .i64 3072),.val (.int .i64 112),.val (.int .i64 7680),.val (.int .i64 128),.val (.int .i64 15360),.val (.int .i64 192)]),(11,vk x11_1)] [] 0) G (B5 []) ?_
 rintro x11_1 m1 o1 G hn1
 unfold E0.l1 at G
 refine E6 (.r 2 (.e 4)) fun _ B G=>?_
 obtain⟨e,he,G⟩:=Af G
 refine Ex rfl rfl (nM (f:=(eA 2 eI)) (L:=([([1024,56]:List Int),([2048,80]:List Int),([3072,112]:List Int),([7680,128]:List Int),([15360,192]:List Int)]:List (List Int))) uM aKo (aNy R7) rfl rfl he (d2:=[.val (.int .i64 (e[0]!)),.val (.int .i64 (e[1]!))]) rfl) rfl rfl ?_
 refine Cb 1 fun B G=>?_
 refine Lk (rd:=[16]) rfl rfl (.idxA (j:=0) Xx Z4 rfl (by decide)) rfl rfl ?_
 refine Qg (.r 0 (.e 1)) fun _ B G=>?_
 refine Lk (rd:=[16]) rfl rfl (.idxA (j:=1) Xx Z4 rfl (by decide)) rfl rfl ?_
 exact C6
instance aX5:Wk 163:=⟨_,@bY⟩
theorem Zu {u r} (G:A6 u=some r):Fn Tryz.prog 108 0 [.agg [vk u.Alg,vk u.Bits]] [] (fun d' b'=>d'=vk r/\b'=[]):=by
 unfold A6 at G
 refine Ea 0 61 Tryz.func108 fun _ _ _=>?_
 refine Qg (.l 5 (.l 5 (.e 1))) fun _ _ _ _ B G=>?_
 refine Ji rfl G (fun _ G=>?_) fun _ G=>?_
 refine Ba (ι:=Bool) (fun (x34_1:Bool)=>mk [(1,.ptr 0 0),(34,.val (.bool x34_1))] [(0,.box [vk u.Alg,vk u.Bits] 49)] 1) (fun (x34_1:Bool)=>A6.j1 u x34_1=some r) ?_ ?_
 exact C6
 rintro x34_1 G
 unfold A6.j1 at G
 exact Ik
 refine Qg (.r 1 (.e 1)) fun _ B G=>?_
 refine Kv Hz z3 Pp ([160,224,256,384,521]:List Int) eI ?_
 refine Cb 0 fun B G=>?_
 obtain⟨y_3,hy_3,G⟩:=Af G
 refine dO [168] [] [] true (Np hy_3) ?_
 exact C6
instance bAt:Wk 108:=⟨_,@Zu⟩
end Go.Proofs.YtboglmbblmakjaaGreatDoor
