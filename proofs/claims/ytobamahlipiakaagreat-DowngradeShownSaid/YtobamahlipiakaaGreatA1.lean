import Derived.Test.YtobamahlipiakaaGreatT1
import Derived.Test.YtobamahlipiakaaGreatEU
set_option linter.unusedVariables false
set_option linter.unusedSimpArgs false
set_option maxRecDepth 100000
set_option maxHeartbeats 40000000
namespace Go.Proofs.YtobamahlipiakaaGreat
open Go.RowKit
theorem pL {l r} (G:G4 l=some r):Fn Tryz.prog 8 0 [.sl 1 (Ai eI l)] [] (fun d' b'=>d'=.val (.bool r)/\b'=[]):=by
 unfold G4 at G
 refine Ea 0 6 Tryz.func8 fun _ _ _=>?_
 exact Cj
instance wk8:Wk 8:=⟨_,@pL⟩
theorem Og {s c r} (G:Hl s c=some r):Fn Tryz.prog 191 0 [vk s,.val (.int .u8 (c.toNat:Int))] [] (fun d' b'=>d'=vj r/\b'=[]):=by
 unfold Hl at G
 refine Ea 0 8 Tryz.func191 fun _ _ _=>?_
 refine Br 2 fun B G=>?_
 refine aAk (rd:=[]) rfl rfl (.extV rfl aGx (aSy s c)) rfl rfl (fun _=>⟨_,rfl⟩) ?_
 rintro _ rfl
 exact Cj
instance aWa:Wk 191:=⟨_,@Og⟩
theorem Ww {s c r} (G:Fa s c=some r):Fn Tryz.prog 163 0 [vk s,.val (.int .u8 (c.toNat:Int))] [] (fun d' b'=>d'=vj r/\b'=[]):=by
 unfold Fa at G
 refine Ea 0 8 Tryz.func163 fun _ _ _=>?_
 exact Cj
instance aUs:Wk 163:=⟨_,@Ww⟩
theorem Y6 {c others r} (G:Jv c others=some r):Fn Tryz.prog 110 0 [.val (.int .u8 (c.toNat:Int)),vk others] [] (fun d' b'=>d'=.val (.bool r)/\b'=[]):=by
 unfold Jv at G
 refine Ea 0 33 Tryz.func110 fun _ _ _=>?_
 exact Cj
instance aUy:Wk 110:=⟨_,@Y6⟩
theorem dC {s r} (G:Ft s=some r):Fn Tryz.prog 68 0 [vk s] [] (fun d' b'=>d'=.val (.bool r)/\b'=[]):=by
 unfold Ft at G
 refine Ea 0 24 Tryz.func68 fun _ _ _=>?_
 refine Br 5 fun B G=>?_
 refine He (fun (x8_1:Int)=>mk [(0,vk s),(6,.sl 1 (Ai e8 (Oz s))),(7,.val (.int .i64 ((Oz s).length:Int))),(8,vj x8_1)] [] 0) G (Cd []) ?_
 rintro x8_1 m1 o1 G hn1
 unfold Ft.l1 at G
 exact Gn
instance aX8:Wk 68:=⟨_,@dC⟩
theorem jV {alg bits r} (G:Df alg bits=some r):Fn Tryz.prog 170 0 [vj alg,vj bits] [] (fun d' b'=>d'=.agg [vj r.Alg,vj r.Bits]/\b'=[]):=by
 unfold Df at G
 refine Ea 0 8 Tryz.func170 fun _ _ _=>?_
 refine Br 2 fun B G=>?_
 refine M6 P5 Yb rV ?_
 exact Cj
instance aVh:Wk 170:=⟨_,@jV⟩
theorem aA {r} (G:Fi=some r):Fn Tryz.prog 123 0 [] [] (fun d' b'=>d'=.sl 12 (Ai Az.enc r)/\b'=[]):=by
 unfold Fi at G
 refine Ea 0 125 Tryz.func123 fun _ _ _=>?_
 refine Br 6 fun y _ y_2 _ y_3 _ y_4 _ B G=>?_
 refine F0 rfl rfl (.build (r:=[.val (.int .i64 0),.val (.int .i64 0)]) P5 Yb rV (by kernel_rfl) rfl) rfl rfl ?_
 refine Br 11 fun y_5 _ y_6 _ y_7 _ y_8 _ y_9 _ y_10 _ y_11 _ y_12 _ y_13 _ B G=>?_
 refine Ay <| Bg (D9 _ _ []) (by kernel_rfl) [0,0,0,0,15,0,0,4,0,484,0,0,0,0,15360,132,0,0,0,491652,32900,0,0,0,15761540,0,0,0,0,503316480,1081476,0,0,0,16107208836,0,0,0,0,515396075520,0,0,1074823300,4399121334404,16493749239940,0,0,0,0,527765581332480,13195214356612,0,0,0,16901693816995972,0,0,0,0,540431955284459520,0,0,0,0,17293822569102704640,0,0,0,0,553402322211286548480,0,0,0,0,17708874310761169551360,1139095121199236,0,0,0,566683979083452546842756,1208925819614629174706175,2417851639229258349412351] 344 1000 B rfl rfl (by kernel_rfl) ?_
 refine Br 1 fun y_14 _ B G=>?_
 refine F0 rfl rfl (.build (r:=[.val (.int .i64 0),.val (.string (⟨#[114,115,97,45,114,99,52,45,109,100,53]⟩:ByteArray)),vj y.Alg,vj y.Bits,vj y_2.Alg,vj y_2.Bits,vj y_14.Alg,vj y_14.Bits,vj y_10.Alg,vj y_10.Bits,.val (.int .i64 1),.val (.int .i64 2)]) K6 Tn jB (by kernel_rfl) rfl) rfl rfl ?_
 refine Br 1 fun y_15 _ B G=>?_
 refine F0 rfl rfl (.build (r:=[.val (.int .i64 0),.val (.string (⟨#[114,115,97,45,114,99,52,45,115,104,97]⟩:ByteArray)),vj y.Alg,vj y.Bits,vj y_2.Alg,vj y_2.Bits,vj y_15.Alg,vj y_15.Bits,vj y_11.Alg,vj y_11.Bits,.val (.int .i64 1),.val (.int .i64 3)]) K6 Tn jB (by kernel_rfl) rfl) rfl rfl ?_
 refine Br 0 fun B G=>?_
 refine F0 rfl rfl (.build (r:=[.val (.int .i64 0),.val (.string (⟨#[114,115,97,45,100,101,115,51,45,115,104,97]⟩:ByteArray)),vj y.Alg,vj y.Bits,vj y_2.Alg,vj y_2.Bits,vj y_5.Alg,vj y_5.Bits,vj y_11.Alg,vj y_11.Bits,.val (.int .i64 1),.val (.int .i64 3)]) K6 Tn jB (by kernel_rfl) rfl) rfl rfl ?_
 refine Br 1 fun y_16 _ B G=>?_
 refine F0 rfl rfl (.build (r:=[.val (.int .i64 0),.val (.string (⟨#[100,104,101,45,100,115,97,45,100,101,115,51,45,115,104,97]⟩:ByteArray)),vj y_16.Alg,vj y_16.Bits,vj y_3.Alg,vj y_3.Bits,vj y_5.Alg,vj y_5.Bits,vj y_11.Alg,vj y_11.Bits,.val (.int .i64 1),.val (.int .i64 3)]) K6 Tn jB (by kernel_rfl) rfl) rfl rfl ?_
 refine Br 1 fun y_17 _ B G=>?_
 refine F0 rfl rfl (.build (r:=[.val (.int .i64 0),.val (.string (⟨#[100,104,101,45,114,115,97,45,100,101,115,51,45,115,104,97]⟩:ByteArray)),vj y_17.Alg,vj y_17.Bits,vj y_2.Alg,vj y_2.Bits,vj y_5.Alg,vj y_5.Bits,vj y_11.Alg,vj y_11.Bits,.val (.int .i64 1),.val (.int .i64 3)]) K6 Tn jB (by kernel_rfl) rfl) rfl rfl ?_
 refine Br 0 fun B G=>?_
 refine F0 rfl rfl (.build (r:=[.val (.int .i64 0),.val (.string (⟨#[114,115,97,45,97,101,115,49,50,56,45,115,104,97]⟩:ByteArray)),vj y.Alg,vj y.Bits,vj y_2.Alg,vj y_2.Bits,vj y_6.Alg,vj y_6.Bits,vj y_11.Alg,vj y_11.Bits,.val (.int .i64 1),.val (.int .i64 3)]) K6 Tn jB (by kernel_rfl) rfl) rfl rfl ?_
 refine Br 1 fun y_18 _ B G=>?_
 refine F0 rfl rfl (.build (r:=[.val (.int .i64 0),.val (.string (⟨#[100,104,101,45,114,115,97,45,97,101,115,49,50,56,45,115,104,97]⟩:ByteArray)),vj y_18.Alg,vj y_18.Bits,vj y_2.Alg,vj y_2.Bits,vj y_6.Alg,vj y_6.Bits,vj y_11.Alg,vj y_11.Bits,.val (.int .i64 1),.val (.int .i64 3)]) K6 Tn jB (by kernel_rfl) rfl) rfl rfl ?_
 refine Br 0 fun B G=>?_
 refine F0 rfl rfl (.build (r:=[.val (.int .i64 0),.val (.string (⟨#[101,99,100,104,101,45,114,115,97,45,97,101,115,49,50,56,45,115,104,97]⟩:ByteArray)),vj y_13.Alg,vj y_13.Bits,vj y_2.Alg,vj y_2.Bits,vj y_6.Alg,vj y_6.Bits,vj y_11.Alg,vj y_11.Bits,.val (.int .i64 1),.val (.int .i64 3)]) K6 Tn jB (by kernel_rfl) rfl) rfl rfl ?_
 refine Br 2 fun y_19 _ y_20 _ B G=>?_
 refine F0 rfl rfl (.build (r:=[.val (.int .i64 0),.val (.string (⟨#[101,99,100,104,101,45,101,99,100,115,97,45,97,101,115,50,53,54,45,115,104,97,50,53,54]⟩:ByteArray)),vj y_13.Alg,vj y_13.Bits,vj y_4.Alg,vj y_4.Bits,vj y_19.Alg,vj y_19.Bits,vj y_20.Alg,vj y_20.Bits,.val (.int .i64 3),.val (.int .i64 3)]) K6 Tn jB (by kernel_rfl) rfl) rfl rfl ?_
 refine Br 0 fun B G=>?_
 refine F0 rfl rfl (.build (r:=[.val (.int .i64 0),.val (.string (⟨#[101,99,100,104,101,45,114,115,97,45,97,101,115,49,50,56,45,103,99,109]⟩:ByteArray)),vj y_13.Alg,vj y_13.Bits,vj y_2.Alg,vj y_2.Bits,vj y_7.Alg,vj y_7.Bits,vj y_12.Alg,vj y_12.Bits,.val (.int .i64 3),.val (.int .i64 3)]) K6 Tn jB (by kernel_rfl) rfl) rfl rfl ?_
 refine Br 1 fun y_21 _ B G=>?_
 refine F0 rfl rfl (.build (r:=[.val (.int .i64 0),.val (.string (⟨#[101,99,100,104,101,45,101,99,100,115,97,45,97,101,115,50,53,54,45,103,99,109]⟩:ByteArray)),vj y_21.Alg,vj y_21.Bits,vj y_4.Alg,vj y_4.Bits,vj y_8.Alg,vj y_8.Bits,vj y_12.Alg,vj y_12.Bits,.val (.int .i64 3),.val (.int .i64 3)]) K6 Tn jB (by kernel_rfl) rfl) rfl rfl ?_
 refine Br 0 fun B G=>?_
 refine F0 rfl rfl (.build (r:=[.val (.int .i64 0),.val (.string (⟨#[101,99,100,104,101,45,114,115,97,45,99,104,97,99,104,97]⟩:ByteArray)),vj y_13.Alg,vj y_13.Bits,vj y_2.Alg,vj y_2.Bits,vj y_9.Alg,vj y_9.Bits,vj y_12.Alg,vj y_12.Bits,.val (.int .i64 3),.val (.int .i64 3)]) K6 Tn jB (by kernel_rfl) rfl) rfl rfl ?_
 refine Br 0 fun B G=>?_
 refine F0 rfl rfl (.build (r:=[.val (.int .i64 0),.val (.string (⟨#[114,115,97,45,97,101,115,50,53,54,45,103,99,109]⟩:ByteArray)),vj y.Alg,vj y.Bits,vj y_2.Alg,vj y_2.Bits,vj y_8.Alg,vj y_8.Bits,vj y_12.Alg,vj y_12.Bits,.val (.int .i64 3),.val (.int .i64 3)]) K6 Tn jB (by kernel_rfl) rfl) rfl rfl ?_
 refine Br 0 fun B G=>?_
 refine F0 rfl rfl (.build (r:=[.val (.int .i64 0),.val (.string (⟨#[97,101,115,49,50,56,45,103,99,109]⟩:ByteArray)),vj y_13.Alg,vj y_13.Bits,.val (.int .i64 0),.val (.int .i64 0),vj y_7.Alg,vj y_7.Bits,vj y_12.Alg,vj y_12.Bits,.val (.int .i64 4),.val (.int .i64 4)]) K6 Tn jB (by kernel_rfl) rfl) rfl rfl ?_
 refine Br 0 fun B G=>?_
 refine F0 rfl rfl (.build (r:=[.val (.int .i64 0),.val (.string (⟨#[99,104,97,99,104,97]⟩:ByteArray)),vj y_13.Alg,vj y_13.Bits,.val (.int .i64 0),.val (.int .i64 0),vj y_9.Alg,vj y_9.Bits,vj y_12.Alg,vj y_12.Bits,.val (.int .i64 4),.val (.int .i64 4)]) K6 Tn jB (by kernel_rfl) rfl) rfl rfl ?_
 refine Br 1 fun y_22 _ B G=>?_
 refine F0 rfl rfl (.build (r:=[.val (.int .i64 0),.val (.string (⟨#[109,108,107,101,109,45,97,101,115,50,53,54,45,103,99,109]⟩:ByteArray)),vj y_22.Alg,vj y_22.Bits,.val (.int .i64 0),.val (.int .i64 0),vj y_8.Alg,vj y_8.Bits,vj y_12.Alg,vj y_12.Bits,.val (.int .i64 4),.val (.int .i64 4)]) K6 Tn jB (by kernel_rfl) rfl) rfl rfl ?_
 refine Iz aD3 jB aP0 ([(Az.mk 0 (⟨#[114,115,97,45,114,99,52,45,109,100,53]⟩:ByteArray) y y_2 y_14 y_10 1 2),(Az.mk 0 (⟨#[114,115,97,45,114,99,52,45,115,104,97]⟩:ByteArray) y y_2 y_15 y_11 1 3),(Az.mk 0 (⟨#[114,115,97,45,100,101,115,51,45,115,104,97]⟩:ByteArray) y y_2 y_5 y_11 1 3),(Az.mk 0 (⟨#[100,104,101,45,100,115,97,45,100,101,115,51,45,115,104,97]⟩:ByteArray) y_16 y_3 y_5 y_11 1 3),(Az.mk 0 (⟨#[100,104,101,45,114,115,97,45,100,101,115,51,45,115,104,97]⟩:ByteArray) y_17 y_2 y_5 y_11 1 3),(Az.mk 0 (⟨#[114,115,97,45,97,101,115,49,50,56,45,115,104,97]⟩:ByteArray) y y_2 y_6 y_11 1 3),(Az.mk 0 (⟨#[100,104,101,45,114,115,97,45,97,101,115,49,50,56,45,115,104,97]⟩:ByteArray) y_18 y_2 y_6 y_11 1 3),(Az.mk 0 (⟨#[101,99,100,104,101,45,114,115,97,45,97,101,115,49,50,56,45,115,104,97]⟩:ByteArray) y_13 y_2 y_6 y_11 1 3),(Az.mk 0 (⟨#[101,99,100,104,101,45,101,99,100,115,97,45,97,101,115,50,53,54,45,115,104,97,50,53,54]⟩:ByteArray) y_13 y_4 y_19 y_20 3 3),(Az.mk 0 (⟨#[101,99,100,104,101,45,114,115,97,45,97,101,115,49,50,56,45,103,99,109]⟩:ByteArray) y_13 y_2 y_7 y_12 3 3),(Az.mk 0 (⟨#[101,99,100,104,101,45,101,99,100,115,97,45,97,101,115,50,53,54,45,103,99,109]⟩:ByteArray) y_21 y_4 y_8 y_12 3 3),(Az.mk 0 (⟨#[101,99,100,104,101,45,114,115,97,45,99,104,97,99,104,97]⟩:ByteArray) y_13 y_2 y_9 y_12 3 3),(Az.mk 0 (⟨#[114,115,97,45,97,101,115,50,53,54,45,103,99,109]⟩:ByteArray) y y_2 y_8 y_12 3 3),(Az.mk 0 (⟨#[97,101,115,49,50,56,45,103,99,109]⟩:ByteArray) y_13 (Ao.mk 0 0) y_7 y_12 4 4),(Az.mk 0 (⟨#[99,104,97,99,104,97]⟩:ByteArray) y_13 (Ao.mk 0 0) y_9 y_12 4 4),(Az.mk 0 (⟨#[109,108,107,101,109,45,97,101,115,50,53,54,45,103,99,109]⟩:ByteArray) y_22 (Ao.mk 0 0) y_8 y_12 4 4)]:List Az) Az.enc ?_
 refine Br 3 fun B G=>?_
 refine He (fun ((x114_1,l_1):Int×List Az)=>mk [(15,.row 0),(113,.val (.int .i64 (([(Az.mk 0 (⟨#[114,115,97,45,114,99,52,45,109,100,53]⟩:ByteArray) y y_2 y_14 y_10 1 2),(Az.mk 0 (⟨#[114,115,97,45,114,99,52,45,115,104,97]⟩:ByteArray) y y_2 y_15 y_11 1 3),(Az.mk 0 (⟨#[114,115,97,45,100,101,115,51,45,115,104,97]⟩:ByteArray) y y_2 y_5 y_11 1 3),(Az.mk 0 (⟨#[100,104,101,45,100,115,97,45,100,101,115,51,45,115,104,97]⟩:ByteArray) y_16 y_3 y_5 y_11 1 3),(Az.mk 0 (⟨#[100,104,101,45,114,115,97,45,100,101,115,51,45,115,104,97]⟩:ByteArray) y_17 y_2 y_5 y_11 1 3),(Az.mk 0 (⟨#[114,115,97,45,97,101,115,49,50,56,45,115,104,97]⟩:ByteArray) y y_2 y_6 y_11 1 3),(Az.mk 0 (⟨#[100,104,101,45,114,115,97,45,97,101,115,49,50,56,45,115,104,97]⟩:ByteArray) y_18 y_2 y_6 y_11 1 3),(Az.mk 0 (⟨#[101,99,100,104,101,45,114,115,97,45,97,101,115,49,50,56,45,115,104,97]⟩:ByteArray) y_13 y_2 y_6 y_11 1 3),(Az.mk 0 (⟨#[101,99,100,104,101,45,101,99,100,115,97,45,97,101,115,50,53,54,45,115,104,97,50,53,54]⟩:ByteArray) y_13 y_4 y_19 y_20 3 3),(Az.mk 0 (⟨#[101,99,100,104,101,45,114,115,97,45,97,101,115,49,50,56,45,103,99,109]⟩:ByteArray) y_13 y_2 y_7 y_12 3 3),(Az.mk 0 (⟨#[101,99,100,104,101,45,101,99,100,115,97,45,97,101,115,50,53,54,45,103,99,109]⟩:ByteArray) y_21 y_4 y_8 y_12 3 3),(Az.mk 0 (⟨#[101,99,100,104,101,45,114,115,97,45,99,104,97,99,104,97]⟩:ByteArray) y_13 y_2 y_9 y_12 3 3),(Az.mk 0 (⟨#[114,115,97,45,97,101,115,50,53,54,45,103,99,109]⟩:ByteArray) y y_2 y_8 y_12 3 3),(Az.mk 0 (⟨#[97,101,115,49,50,56,45,103,99,109]⟩:ByteArray) y_13 (Ao.mk 0 0) y_7 y_12 4 4),(Az.mk 0 (⟨#[99,104,97,99,104,97]⟩:ByteArray) y_13 (Ao.mk 0 0) y_9 y_12 4 4),(Az.mk 0 (⟨#[109,108,107,101,109,45,97,101,115,50,53,54,45,103,99,109]⟩:ByteArray) y_22 (Ao.mk 0 0) y_8 y_12 4 4)]:List Az).length:Int))),(114,vj x114_1)] [(0,.row 47 12 (Ai Az.enc l_1))] 1) G (Cd [(0,984)]) ?_
 rintro⟨x114_1,l_1⟩ m1 o1 G hn1
 unfold Fi.l1 at G
 refine Dx (.r 2 (.e 6)) fun _ e he B G=>?_
 refine Sk (rd:=[0]) rfl rfl (Yi jA rfl (Ga Az.enc_len (D5 he) (o:=0) (m:=1) (by decide) rfl) Ia (cs':=[.int .i64 (W (x114_1 + 1))]) (.cons .int .nil) (T9 Az.enc_len (D5 he) (o:=0) (x':=(Az.mk (W (x114_1 + 1)) e.Name e.Exchange e.Sign e.Cipher e.Mac e.Least e.Most)) (aEi rfl) rfl rfl)) rfl rfl ?_
 exact Cj
instance aUu:Wk 123:=⟨_,@aA⟩
theorem cX {code r} (G:Dw code=some r):Fn Tryz.prog 85 0 [vj code] [] (fun d' b'=>d'=.tup [.agg (Az.dv r.1),vj r.2]/\b'=[]):=by
 unfold Dw at G
 refine Ea 0 20 Tryz.func85 fun _ _ _=>?_
 refine Br 3 fun y _ B G=>?_
 refine Ay <| A4 (ι:=Bool) (fun (x13_1:Bool)=>mk [(0,vj code),(2,.ptr 0 0),(4,.sl 12 (Ai Az.enc y)),(13,.val (.bool x13_1))] [(0,.box [.val (.int .i64 0),.val (.string (⟨#[]⟩:ByteArray)),.val (.int .i64 0),.val (.int .i64 0),.val (.int .i64 0),.val (.int .i64 0),.val (.int .i64 0),.val (.int .i64 0),.val (.int .i64 0),.val (.int .i64 0),.val (.int .i64 0),.val (.int .i64 0)] 47)] 1) (fun (x13_1:Bool)=>Dw.j1 code y x13_1=some r) ?_ ?_
 exact Cj
 rintro x13_1 G
 unfold Dw.j1 at G
 refine Dx (.r 0 (.e 1)) fun _ B G=>?_
 refine M6 K6 Tn jB ?_
 exact Cj
instance aZt:Wk 85:=⟨_,@cX⟩
theorem Xo {s v r} (G:Ch s v=some r):Fn Tryz.prog 126 0 [.sl 1 (Ai eI s),vj v] [] (fun d' b'=>d'=vj r/\b'=[]):=by
 unfold Ch at G
 refine Ea 0 19 Tryz.func126 fun _ _ _=>?_
 refine Br 4 fun B G=>?_
 refine He (fun (x8_1:Int)=>mk [(0,.sl 1 (Ai eI s)),(1,vj v),(7,.val (.int .i64 (s.length:Int))),(8,vj x8_1)] [] 0) G (Cd []) ?_
 rintro x8_1 m1 o1 G hn1
 unfold Ch.l1 at G
 exact Gn
instance aUv:Wk 126:=⟨_,@Xo⟩
theorem L3 {s v r} (G:Cz s v=some r):Fn Tryz.prog 111 0 [.sl 1 (Ai eI s),vj v] [] (fun d' b'=>d'=.val (.bool r)/\b'=[]):=by
 unfold Cz at G
 refine Ea 0 9 Tryz.func111 fun _ _ _=>?_
 exact Cj
instance aVs:Wk 111:=⟨_,@L3⟩
theorem Yj {l r} (G:Ds l=some r):Fn Tryz.prog 69 0 [.sl 1 (Ai eI l)] [] (fun d' b'=>d'=.val (.bool r)/\b'=[]):=by
 unfold Ds at G
 refine Ea 0 29 Tryz.func69 fun _ _ _=>?_
 refine Br 4 fun B G=>?_
 refine He (fun (x9_1:Int)=>mk [(0,.sl 1 (Ai eI l)),(7,.sl 1 (Ai eI l)),(8,.val (.int .i64 (l.length:Int))),(9,vj x9_1)] [] 0) G (Cd []) ?_
 rintro x9_1 m1 o1 G hn1
 unfold Ds.l1 at G
 refine Dx (.r 2 (.e 8)) fun _ _ _ _ _ B G=>?_
 refine A4 (ι:=Bool) (fun (x27_2:Bool)=>mk [(0,.sl 1 (Ai eI l)),(7,.sl 1 (Ai eI l)),(8,.val (.int .i64 (l.length:Int))),(9,vj x9_1),(27,.val (.bool x27_2))] [] 0) (fun (x27_2:Bool)=>Ds.j2 x9_1 x27_2=some o1) ?_ ?_
 exact Cj
 rintro x27_2 G
 unfold Ds.j2 at G
 exact Gn
instance aX2:Wk 69:=⟨_,@Yj⟩
theorem Xv {l r} (G:Da l=some r):Fn Tryz.prog 70 0 [.sl 1 (Ai eI l)] [] (fun d' b'=>d'=.val (.bool r)/\b'=[]):=by
 unfold Da at G
 refine Ea 0 24 Tryz.func70 fun _ _ _=>?_
 refine Br 4 fun B G=>?_
 refine He (fun (x6_1:Int)=>mk [(0,.sl 1 (Ai eI l)),(5,.val (.int .i64 (l.length:Int))),(6,vj x6_1)] [] 0) G (Cd []) ?_
 rintro x6_1 m1 o1 G hn1
 unfold Da.l1 at G
 refine Dx (.r 2 (.e 4)) fun _ B G=>?_
 refine A4 (ι:=Bool) (fun (x22_2:Bool)=>mk [(0,.sl 1 (Ai eI l)),(5,.val (.int .i64 (l.length:Int))),(6,vj x6_1),(22,.val (.bool x22_2))] [] 0) (fun (x22_2:Bool)=>Da.j2 x6_1 x22_2=some o1) ?_ ?_
 refine Bg (D9 _ _ []) (by kernel_rfl) [0,1,3,7,7,23,63,127,7,7,775,1799,4095,8191] 24 136 B rfl rfl (by kernel_rfl) ?_
 exact Cj
 rintro x22_2 G
 unfold Da.j2 at G
 exact Gn
instance aXt:Wk 70:=⟨_,@Xv⟩
theorem gC {r} (G:Q5=some r):Fn Tryz.prog 171 0 [] [] (fun d' b'=>d'=.agg [.val (.string ((r[0]!).name)),.val (.int .i64 ((r[0]!).kind)),.val (.int .i64 ((r[0]!).way)),.sl 1 (Ai eI ((r[0]!).sizes)),.sl 1 (Ai eI ((r[0]!).strengths)),.val (.string ((r[1]!).name)),.val (.int .i64 ((r[1]!).kind)),.val (.int .i64 ((r[1]!).way)),.sl 1 (Ai eI ((r[1]!).sizes)),.sl 1 (Ai eI ((r[1]!).strengths)),.val (.string ((r[2]!).name)),.val (.int .i64 ((r[2]!).kind)),.val (.int .i64 ((r[2]!).way)),.sl 1 (Ai eI ((r[2]!).sizes)),.sl 1 (Ai eI ((r[2]!).strengths)),.val (.string ((r[3]!).name)),.val (.int .i64 ((r[3]!).kind)),.val (.int .i64 ((r[3]!).way)),.sl 1 (Ai eI ((r[3]!).sizes)),.sl 1 (Ai eI ((r[3]!).strengths)),.val (.string ((r[4]!).name)),.val (.int .i64 ((r[4]!).kind)),.val (.int .i64 ((r[4]!).way)),.sl 1 (Ai eI ((r[4]!).sizes)),.sl 1 (Ai eI ((r[4]!).strengths)),.val (.string ((r[5]!).name)),.val (.int .i64 ((r[5]!).kind)),.val (.int .i64 ((r[5]!).way)),.sl 1 (Ai eI ((r[5]!).sizes)),.sl 1 (Ai eI ((r[5]!).strengths)),.val (.string ((r[6]!).name)),.val (.int .i64 ((r[6]!).kind)),.val (.int .i64 ((r[6]!).way)),.sl 1 (Ai eI ((r[6]!).sizes)),.sl 1 (Ai eI ((r[6]!).strengths)),.val (.string ((r[7]!).name)),.val (.int .i64 ((r[7]!).kind)),.val (.int .i64 ((r[7]!).way)),.sl 1 (Ai eI ((r[7]!).sizes)),.sl 1 (Ai eI ((r[7]!).strengths)),.val (.string ((r[8]!).name)),.val (.int .i64 ((r[8]!).kind)),.val (.int .i64 ((r[8]!).way)),.sl 1 (Ai eI ((r[8]!).sizes)),.sl 1 (Ai eI ((r[8]!).strengths)),.val (.string ((r[9]!).name)),.val (.int .i64 ((r[9]!).kind)),.val (.int .i64 ((r[9]!).way)),.sl 1 (Ai eI ((r[9]!).sizes)),.sl 1 (Ai eI ((r[9]!).strengths)),.val (.string ((r[10]!).name)),.val (.int .i64 ((r[10]!).kind)),.val (.int .i64 ((r[10]!).way)),.sl 1 (Ai eI ((r[10]!).sizes)),.sl 1 (Ai eI ((r[10]!).strengths)),.val (.string ((r[11]!).name)),.val (.int .i64 ((r[11]!).kind)),.val (.int .i64 ((r[11]!).way)),.sl 1 (Ai eI ((r[11]!).sizes)),.sl 1 (Ai eI ((r[11]!).strengths)),.val (.string ((r[12]!).name)),.val (.int .i64 ((r[12]!).kind)),.val (.int .i64 ((r[12]!).way)),.sl 1 (Ai eI ((r[12]!).sizes)),.sl 1 (Ai eI ((r[12]!).strengths)),.val (.string ((r[13]!).name)),.val (.int .i64 ((r[13]!).kind)),.val (.int .i64 ((r[13]!).way)),.sl 1 (Ai eI ((r[13]!).sizes)),.sl 1 (Ai eI ((r[13]!).strengths)),.val (.string ((r[14]!).name)),.val (.int .i64 ((r[14]!).kind)),.val (.int .i64 ((r[14]!).way)),.sl 1 (Ai eI ((r[14]!).sizes)),.sl 1 (Ai eI ((r[14]!).strengths)),.val (.string ((r[15]!).name)),.val (.int .i64 ((r[15]!).kind)),.val (.int .i64 ((r[15]!).way)),.sl 1 (Ai eI ((r[15]!).sizes)),.sl 1 (Ai eI ((r[15]!).strengths)),.val (.string ((r[16]!).name)),.val (.int .i64 ((r[16]!).kind)),.val (.int .i64 ((r[16]!).way)),.sl 1 (Ai eI ((r[16]!).sizes)),.sl 1 (Ai eI ((r[16]!).strengths)),.val (.string ((r[17]!).name)),.val (.int .i64 ((r[17]!).kind)),.val (.int .i64 ((r[17]!).way)),.sl 1 (Ai eI ((r[17]!).sizes)),.sl 1 (Ai eI ((r[17]!).strengths)),.val (.string ((r[18]!).name)),.val (.int .i64 ((r[18]!).kind)),.val (.int .i64 ((r[18]!).way)),.sl 1 (Ai eI ((r[18]!).sizes)),.sl 1 (Ai eI ((r[18]!).strengths)),.val (.string ((r[19]!).name)),.val (.int .i64 ((r[19]!).kind)),.val (.int .i64 ((r[19]!).way)),.sl 1 (Ai eI ((r[19]!).sizes)),.sl 1 (Ai eI ((r[19]!).strengths)),.val (.string ((r[20]!).name)),.val (.int .i64 ((r[20]!).kind)),.val (.int .i64 ((r[20]!).way)),.sl 1 (Ai eI ((r[20]!).sizes)),.sl 1 (Ai eI ((r[20]!).strengths)),.val (.string ((r[21]!).name)),.val (.int .i64 ((r[21]!).kind)),.val (.int .i64 ((r[21]!).way)),.sl 1 (Ai eI ((r[21]!).sizes)),.sl 1 (Ai eI ((r[21]!).strengths)),.val (.string ((r[22]!).name)),.val (.int .i64 ((r[22]!).kind)),.val (.int .i64 ((r[22]!).way)),.sl 1 (Ai eI ((r[22]!).sizes)),.sl 1 (Ai eI ((r[22]!).strengths))]/\b'=[]):=by
 unfold Q5 at G
 refine Ea 0 46 Tryz.func171 fun _ _ _=>?_
 refine Br 2 fun B G=>?_
 refine Iz Er z3 Ia ([18]:List Int) eI ?_
 refine F0 rfl rfl (.build (r:=[.val (.string (⟨#[109,100,53]⟩:ByteArray)),.val (.int .i64 1),.val (.int .i64 0),.val (.slice none 0 0),.row 8]) H0 Ml Qd (by kernel_rfl) rfl) rfl rfl ?_
 refine Iz Er z3 Ia ([60]:List Int) eI ?_
 refine F0 rfl rfl (.build (r:=[.val (.string (⟨#[115,104,97,49]⟩:ByteArray)),.val (.int .i64 1),.val (.int .i64 0),.val (.slice none 0 0),.row 24]) H0 Ml Qd (by kernel_rfl) rfl) rfl rfl ?_
 refine Iz Er z3 Ia ([128]:List Int) eI ?_
 refine F0 rfl rfl (.build (r:=[.val (.string (⟨#[115,104,97,50,53,54]⟩:ByteArray)),.val (.int .i64 1),.val (.int .i64 0),.val (.slice none 0 0),.row 40]) H0 Ml Qd (by kernel_rfl) rfl) rfl rfl ?_
 refine Iz Er z3 Ia ([192]:List Int) eI ?_
 refine F0 rfl rfl (.build (r:=[.val (.string (⟨#[115,104,97,51,56,52]⟩:ByteArray)),.val (.int .i64 1),.val (.int .i64 0),.val (.slice none 0 0),.row 56]) H0 Ml Qd (by kernel_rfl) rfl) rfl rfl ?_
 refine F0 rfl rfl (.build (r:=[.val (.string (⟨#[114,115,97]⟩:ByteArray)),.val (.int .i64 2),.val (.int .i64 1),.val (.slice none 0 0),.val (.slice none 0 0)]) H0 Ml Qd (by kernel_rfl) rfl) rfl rfl ?_
 refine F0 rfl rfl (.build (r:=[.val (.string (⟨#[100,115,97]⟩:ByteArray)),.val (.int .i64 2),.val (.int .i64 1),.val (.slice none 0 0),.val (.slice none 0 0)]) H0 Ml Qd (by kernel_rfl) rfl) rfl rfl ?_
 refine F0 rfl rfl (.build (r:=[.val (.string (⟨#[101,99,100,115,97]⟩:ByteArray)),.val (.int .i64 2),.val (.int .i64 2),.val (.slice none 0 0),.val (.slice none 0 0)]) H0 Ml Qd (by kernel_rfl) rfl) rfl rfl ?_
 refine Iz Er z3 Ia ([128]:List Int) eI ?_
 refine F0 rfl rfl (.build (r:=[.val (.string (⟨#[101,100,50,53,53,49,57]⟩:ByteArray)),.val (.int .i64 2),.val (.int .i64 0),.val (.slice none 0 0),.row 96]) H0 Ml Qd (by kernel_rfl) rfl) rfl rfl ?_
 refine Iz Er z3 Ia ([44,65,87]:List Int) eI ?_
 refine Iz Er z3 Ia ([128,192,256]:List Int) eI ?_
 refine F0 rfl rfl (.build (r:=[.val (.string (⟨#[109,108,100,115,97]⟩:ByteArray)),.val (.int .i64 2),.val (.int .i64 3),.row 112,.row 120]) H0 Ml Qd (by kernel_rfl) rfl) rfl rfl ?_
 refine F0 rfl rfl (.build (r:=[.val (.string (⟨#[114,115,97,107,120]⟩:ByteArray)),.val (.int .i64 3),.val (.int .i64 1),.val (.slice none 0 0),.val (.slice none 0 0)]) H0 Ml Qd (by kernel_rfl) rfl) rfl rfl ?_
 refine F0 rfl rfl (.build (r:=[.val (.string (⟨#[100,104,101]⟩:ByteArray)),.val (.int .i64 3),.val (.int .i64 1),.val (.slice none 0 0),.val (.slice none 0 0)]) H0 Ml Qd (by kernel_rfl) rfl) rfl rfl ?_
 refine F0 rfl rfl (.build (r:=[.val (.string (⟨#[101,99,100,104,101]⟩:ByteArray)),.val (.int .i64 3),.val (.int .i64 2),.val (.slice none 0 0),.val (.slice none 0 0)]) H0 Ml Qd (by kernel_rfl) rfl) rfl rfl ?_
 refine Iz Er z3 Ia ([512,768,1024]:List Int) eI ?_
 refine Iz Er z3 Ia ([128,192,256]:List Int) eI ?_
 refine F0 rfl rfl (.build (r:=[.val (.string (⟨#[109,108,107,101,109]⟩:ByteArray)),.val (.int .i64 3),.val (.int .i64 3),.row 160,.row 168]) H0 Ml Qd (by kernel_rfl) rfl) rfl rfl ?_
 refine Iz Er z3 Ia ([40,128]:List Int) eI ?_
 refine Iz Er z3 Ia ([40,60]:List Int) eI ?_
 refine F0 rfl rfl (.build (r:=[.val (.string (⟨#[114,99,52]⟩:ByteArray)),.val (.int .i64 4),.val (.int .i64 3),.row 184,.row 192]) H0 Ml Qd (by kernel_rfl) rfl) rfl rfl ?_
 refine Iz Er z3 Ia ([112,168]:List Int) eI ?_
 refine Iz Er z3 Ia ([80,112]:List Int) eI ?_
 refine F0 rfl rfl (.build (r:=[.val (.string (⟨#[100,101,115,51]⟩:ByteArray)),.val (.int .i64 4),.val (.int .i64 3),.row 208,.row 216]) H0 Ml Qd (by kernel_rfl) rfl) rfl rfl ?_
 refine Iz Er z3 Ia ([128,256]:List Int) eI ?_
 refine Iz Er z3 Ia ([128,256]:List Int) eI ?_
 refine F0 rfl rfl (.build (r:=[.val (.string (⟨#[97,101,115,99,98,99]⟩:ByteArray)),.val (.int .i64 4),.val (.int .i64 3),.row 232,.row 240]) H0 Ml Qd (by kernel_rfl) rfl) rfl rfl ?_
 refine Iz Er z3 Ia ([128,256]:List Int) eI ?_
 refine Iz Er z3 Ia ([128,256]:List Int) eI ?_
 refine F0 rfl rfl (.build (r:=[.val (.string (⟨#[97,101,115,103,99,109]⟩:ByteArray)),.val (.int .i64 4),.val (.int .i64 3),.row 256,.row 264]) H0 Ml Qd (by kernel_rfl) rfl) rfl rfl ?_
 refine Iz Er z3 Ia ([256]:List Int) eI ?_
 refine F0 rfl rfl (.build (r:=[.val (.string (⟨#[99,104,97,99,104,97]⟩:ByteArray)),.val (.int .i64 4),.val (.int .i64 0),.val (.slice none 0 0),.row 280]) H0 Ml Qd (by kernel_rfl) rfl) rfl rfl ?_
 refine Iz Er z3 Ia ([64]:List Int) eI ?_
 refine F0 rfl rfl (.build (r:=[.val (.string (⟨#[104,109,97,99,109,100,53]⟩:ByteArray)),.val (.int .i64 5),.val (.int .i64 0),.val (.slice none 0 0),.row 296]) H0 Ml Qd (by kernel_rfl) rfl) rfl rfl ?_
 refine Iz Er z3 Ia ([80]:List Int) eI ?_
 refine F0 rfl rfl (.build (r:=[.val (.string (⟨#[104,109,97,99,115,104,97,49]⟩:ByteArray)),.val (.int .i64 5),.val (.int .i64 0),.val (.slice none 0 0),.row 312]) H0 Ml Qd (by kernel_rfl) rfl) rfl rfl ?_
 refine Iz Er z3 Ia ([128]:List Int) eI ?_
 refine F0 rfl rfl (.build (r:=[.val (.string (⟨#[104,109,97,99,115,104,97,50,53,54]⟩:ByteArray)),.val (.int .i64 5),.val (.int .i64 0),.val (.slice none 0 0),.row 328]) H0 Ml Qd (by kernel_rfl) rfl) rfl rfl ?_
 refine Iz Er z3 Ia ([256]:List Int) eI ?_
 refine F0 rfl rfl (.build (r:=[.val (.string (⟨#[97,101,97,100]⟩:ByteArray)),.val (.int .i64 5),.val (.int .i64 0),.val (.slice none 0 0),.row 344]) H0 Ml Qd (by kernel_rfl) rfl) rfl rfl ?_
 refine F0 rfl rfl (.buildArr (sz:=5) (r:=[.val (.string (⟨#[]⟩:ByteArray)),.val (.int .i64 0),.val (.int .i64 0),.val (.slice none 0 0),.val (.slice none 0 0),.val (.string (⟨#[109,100,53]⟩:ByteArray)),.val (.int .i64 1),.val (.int .i64 0),.val (.slice none 0 0),.row 8,.val (.string (⟨#[115,104,97,49]⟩:ByteArray)),.val (.int .i64 1),.val (.int .i64 0),.val (.slice none 0 0),.row 24,.val (.string (⟨#[115,104,97,50,53,54]⟩:ByteArray)),.val (.int .i64 1),.val (.int .i64 0),.val (.slice none 0 0),.row 40,.val (.string (⟨#[115,104,97,51,56,52]⟩:ByteArray)),.val (.int .i64 1),.val (.int .i64 0),.val (.slice none 0 0),.row 56,.val (.string (⟨#[114,115,97]⟩:ByteArray)),.val (.int .i64 2),.val (.int .i64 1),.val (.slice none 0 0),.val (.slice none 0 0),.val (.string (⟨#[100,115,97]⟩:ByteArray)),.val (.int .i64 2),.val (.int .i64 1),.val (.slice none 0 0),.val (.slice none 0 0),.val (.string (⟨#[101,99,100,115,97]⟩:ByteArray)),.val (.int .i64 2),.val (.int .i64 2),.val (.slice none 0 0),.val (.slice none 0 0),.val (.string (⟨#[101,100,50,53,53,49,57]⟩:ByteArray)),.val (.int .i64 2),.val (.int .i64 0),.val (.slice none 0 0),.row 96,.val (.string (⟨#[109,108,100,115,97]⟩:ByteArray)),.val (.int .i64 2),.val (.int .i64 3),.row 112,.row 120,.val (.string (⟨#[114,115,97,107,120]⟩:ByteArray)),.val (.int .i64 3),.val (.int .i64 1),.val (.slice none 0 0),.val (.slice none 0 0),.val (.string (⟨#[100,104,101]⟩:ByteArray)),.val (.int .i64 3),.val (.int .i64 1),.val (.slice none 0 0),.val (.slice none 0 0),.val (.string (⟨#[101,99,100,104,101]⟩:ByteArray)),.val (.int .i64 3),.val (.int .i64 2),.val (.slice none 0 0),.val (.slice none 0 0),.val (.string (⟨#[109,108,107,101,109]⟩:ByteArray)),.val (.int .i64 3),.val (.int .i64 3),.row 160,.row 168,.val (.string (⟨#[114,99,52]⟩:ByteArray)),.val (.int .i64 4),.val (.int .i64 3),.row 184,.row 192,.val (.string (⟨#[100,101,115,51]⟩:ByteArray)),.val (.int .i64 4),.val (.int .i64 3),.row 208,.row 216,.val (.string (⟨#[97,101,115,99,98,99]⟩:ByteArray)),.val (.int .i64 4),.val (.int .i64 3),.row 232,.row 240,.val (.string (⟨#[97,101,115,103,99,109]⟩:ByteArray)),.val (.int .i64 4),.val (.int .i64 3),.row 256,.row 264,.val (.string (⟨#[99,104,97,99,104,97]⟩:ByteArray)),.val (.int .i64 4),.val (.int .i64 0),.val (.slice none 0 0),.row 280,.val (.string (⟨#[104,109,97,99,109,100,53]⟩:ByteArray)),.val (.int .i64 5),.val (.int .i64 0),.val (.slice none 0 0),.row 296,.val (.string (⟨#[104,109,97,99,115,104,97,49]⟩:ByteArray)),.val (.int .i64 5),.val (.int .i64 0),.val (.slice none 0 0),.row 312,.val (.string (⟨#[104,109,97,99,115,104,97,50,53,54]⟩:ByteArray)),.val (.int .i64 5),.val (.int .i64 0),.val (.slice none 0 0),.row 328,.val (.string (⟨#[97,101,97,100]⟩:ByteArray)),.val (.int .i64 5),.val (.int .i64 0),.val (.slice none 0 0),.row 344]) vY (by kernel_rfl) aP6 (by kernel_rfl) rfl) rfl rfl ?_
 exact Cj
instance aW7:Wk 171:=⟨_,@gC⟩
theorem nV {alg r} (G:Gb alg=some r):Fn Tryz.prog 124 0 [vj alg] [] (fun d' b'=>d'=.tup [.agg (Co.dv r.1),.val (.bool r.2)]/\b'=[]):=by
 unfold Gb at G
 refine Ea 0 14 Tryz.func124 fun _ _ _=>?_
 refine Br 1 fun B G=>?_
 refine Ay <| A4 (ι:=Bool) (fun (x9_1:Bool)=>mk [(0,vj alg),(2,.ptr 0 0),(9,.val (.bool x9_1))] [(0,.box [.val (.string (⟨#[]⟩:ByteArray)),.val (.int .i64 0),.val (.int .i64 0),.val (.slice none 0 0),.val (.slice none 0 0)] 174)] 1) (fun (x9_1:Bool)=>Gb.j1 alg x9_1=some r) ?_ ?_
 exact Cj
 rintro x9_1 G
 unfold Gb.j1 at G
 try dsimp only at G
 refine Rp rfl ?_
 refine Kd rfl G (fun _ G=>?_) fun _ G=>?_
 refine Br 1 fun B G=>?_
 refine M6 H0 Ml Qd ?_
 exact Cj
 refine Br 3 fun y _ B G=>?_
 obtain⟨e,he,G⟩:=An G
 refine F0 rfl rfl (mL (f:=Co.enc) (L:=(aPl 23 y)) vY aJq Co.enc_len rfl rfl he (d2:=[vk e.name,vj e.kind,vj e.way,.sl 1 (Ai eI e.sizes),.sl 1 (Ai eI e.strengths)]) rfl) rfl rfl ?_
 exact Cj
instance aVo:Wk 124:=⟨_,@nV⟩
end Go.Proofs.YtobamahlipiakaaGreat
