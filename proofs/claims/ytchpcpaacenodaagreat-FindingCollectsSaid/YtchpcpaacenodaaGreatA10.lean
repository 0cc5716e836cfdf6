import Derived.Test.YtchpcpaacenodaaGreatT1
import Derived.Test.YtchpcpaacenodaaGreatA1
import Derived.Test.YtchpcpaacenodaaGreatA2
set_option linter.unusedVariables false
set_option linter.unusedSimpArgs false
set_option maxRecDepth 100000
set_option maxHeartbeats 1600000
namespace Go.Proofs.YtchpcpaacenodaaGreat
open Go.RowKit
theorem Lv (s:ByteArray) (c:UInt8) (r:Int) (G:Gi s c=some r):Fn Tryz.prog 145 0 [ws s,.val (.int .u8 (c.toNat:Int))] [] (fun d' b'=>d'=vk r/\b'=[]):=by
 unfold Gi at G
 refine Fn.of Tryz.func145 rfl rfl rfl fun w0 I ρ0=>?_
 show B3 _ ⟨w0,I,ρ0,0,0,8⟩ _ _ _
 refine Bf 0 8 Ay fun B=>?_
 refine Cc 8 40 B ?_
 refine As ?_
 refine Mw (rd:=[]) rfl rfl (.extV rfl wY (aGk s c)) rfl rfl (fun _=>⟨_,rfl⟩) ?_
 rintro _ rfl
 exact De
theorem Fh (s:ByteArray) (c:UInt8) (r:Int) (G:Ed s c=some r):Fn Tryz.prog 126 0 [ws s,.val (.int .u8 (c.toNat:Int))] [] (fun d' b'=>d'=vk r/\b'=[]):=by
 unfold Ed at G
 refine Fn.of Tryz.func126 rfl rfl rfl fun w0 I ρ0=>?_
 show B3 _ ⟨w0,I,ρ0,0,0,8⟩ _ _ _
 refine Bf 0 8 Ay fun B=>?_
 refine Cc 8 40 B ?_
 refine As ?_
 obtain⟨y,hy,G⟩:=Ab G
 refine Dh (Lv _ _ _ hy) ?_
 exact De
theorem W3 (c:UInt8) (others:ByteArray) (r:Bool) (G:I2 c others=some r):Fn Tryz.prog 86 0 [.val (.int .u8 (c.toNat:Int)),ws others] [] (fun d' b'=>d'=.val (.bool r)/\b'=[]):=by
 unfold I2 at G
 refine Fn.of Tryz.func86 rfl rfl rfl fun w0 I ρ0=>?_
 show B3 _ ⟨w0,I,ρ0,0,0,33⟩ _ _ _
 refine Bf 0 8 Ay fun B=>?_
 refine Cc 8 240 B ?_
 refine As ?_
 rcases Dm G with ⟨h2,G⟩ | ⟨h2,G⟩
 refine As ?_
 rcases Dm G with ⟨h3,G⟩ | ⟨h3,G⟩
 exact De
 refine As ?_
 rcases Dm G with ⟨h5,G⟩ | ⟨h5,G⟩
 refine As ?_
 rcases Dm G with ⟨h6,G⟩ | ⟨h6,G⟩
 exact De
 refine As ?_
 rcases Dm G with ⟨h8,G⟩ | ⟨h8,G⟩
 refine As ?_
 rcases Dm G with ⟨h9,G⟩ | ⟨h9,G⟩
 exact De
 refine As ?_
 obtain⟨y,hy,G⟩:=Ab G
 refine Dh (Fh _ _ _ hy) ?_
 exact De
 refine As ?_
 obtain⟨y_2,hy_2,G⟩:=Ab G
 refine Dh (Fh _ _ _ hy_2) ?_
 exact De
 refine As ?_
 rcases Dm G with ⟨h13,G⟩ | ⟨h13,G⟩
 refine As ?_
 rcases Dm G with ⟨h14,G⟩ | ⟨h14,G⟩
 exact De
 refine As ?_
 obtain⟨y_3,hy_3,G⟩:=Ab G
 refine Dh (Fh _ _ _ hy_3) ?_
 exact De
 refine As ?_
 obtain⟨y_4,hy_4,G⟩:=Ab G
 refine Dh (Fh _ _ _ hy_4) ?_
 exact De
 refine As ?_
 rcases Dm G with ⟨h18,G⟩ | ⟨h18,G⟩
 refine As ?_
 rcases Dm G with ⟨h19,G⟩ | ⟨h19,G⟩
 exact De
 refine As ?_
 rcases Dm G with ⟨h21,G⟩ | ⟨h21,G⟩
 refine As ?_
 rcases Dm G with ⟨h22,G⟩ | ⟨h22,G⟩
 exact De
 refine As ?_
 obtain⟨y_5,hy_5,G⟩:=Ab G
 refine Dh (Fh _ _ _ hy_5) ?_
 exact De
 refine As ?_
 obtain⟨y_6,hy_6,G⟩:=Ab G
 refine Dh (Fh _ _ _ hy_6) ?_
 exact De
 refine As ?_
 rcases Dm G with ⟨h26,G⟩ | ⟨h26,G⟩
 refine As ?_
 rcases Dm G with ⟨h27,G⟩ | ⟨h27,G⟩
 exact De
 refine As ?_
 obtain⟨y_7,hy_7,G⟩:=Ab G
 refine Dh (Fh _ _ _ hy_7) ?_
 exact De
 refine As ?_
 obtain⟨y_8,hy_8,G⟩:=Ab G
 refine Dh (Fh _ _ _ hy_8) ?_
 exact De
theorem Y3 (s:ByteArray) (r:Bool) (G:El s=some r):Fn Tryz.prog 58 0 [ws s] [] (fun d' b'=>d'=.val (.bool r)/\b'=[]):=by
 unfold El at G
 refine Fn.of Tryz.func58 rfl rfl rfl fun w0 I ρ0=>?_
 show B3 _ ⟨w0,I,ρ0,0,0,24⟩ _ _ _
 refine Bf 0 8 Ay fun B=>?_
 refine Aj <| Cc 8 40 B ?_
 refine As ?_
 refine C0 rfl rfl (gQ Ti rL Ng) rfl rfl ?_
 refine Bd fun B=>?_
 refine Ap <| Ji (fun (x8_1:Int)=>mk [(0,ws s),(6,.sl 1 (Aq e8 (Hg s))),(7,.val (.int .i64 ((Hg s).length:Int))),(8,vk x8_1)] [] 0) G (Ar []) ?_
 rintro x8_1 m1 o1 G hn1
 replace G:El.l1 s x8_1=some o1:=G
 show B3 _ _ _ _ (mk _ _ _)
 unfold El.l1 at G
 refine Bf 0 8 Ay fun B=>?_
 refine Aj <| Cp rfl G (fun h4 G=>?_) fun h4 G=>?_
 refine C8 ?_
 refine Aj <| Ap <| Cc 8 32 B ?_
 obtain⟨e,he,G⟩:=Ab G
 refine As ?_
 refine No he ?_
 refine Bd fun B=>?_
 refine Cc 32 56 B ?_
 refine As ?_
 obtain⟨y,hy,G⟩:=Ab G
 refine Dh (W3 _ _ _ hy) ?_
 refine Bd fun B=>?_
 refine Cp rfl G (fun h7 G=>?_) fun h7 G=>?_
 refine Bf 56 64 B fun B=>?_
 refine E2 ?_
 replace G:=Cd G hn1
 exact Uq
 refine C8 ?_
 refine Ak (B6 _ _ []) 56 72 B rfl rfl ?_
 refine Bd fun B=>?_
 obtain rfl:=oi_ G
 exact⟨(W (x8_1 + 1),m1),aCz _,hn1,Ar []⟩
 refine Je ?_
 replace G:=Cd G hn1
 refine Cc 8 80 B ?_
 refine As ?_
 refine C0 rfl rfl (P9 Ti) rfl rfl ?_
 refine As ?_
 rcases Dm G with ⟨h10,G⟩ | ⟨h10,G⟩
 refine As ?_
 refine C0 (Eb rfl rfl h10) rfl (P9 Ti) rfl rfl ?_
 exact De
 exact De
theorem Dq (alg:Int) (bits:Int) (r:Am) (G:Cy alg bits=some r):Fn Tryz.prog 120 0 [vk alg,vk bits] [] (fun d' b'=>d'=.agg [vk r.Alg,vk r.Bits]/\b'=[]):=by
 unfold Cy at G
 refine Fn.of Tryz.func120 rfl rfl rfl fun w0 I ρ0=>?_
 show B3 _ ⟨w0,I,ρ0,0,0,8⟩ _ _ _
 refine Bf 0 8 Ay fun B=>?_
 refine Cc 8 40 B ?_
 refine As ?_
 refine Lq Hj Lc S6 ?_
 exact De
theorem Yd  (r:(List A4)) (G:Di=some r):Fn Tryz.prog 81 0 [] [] (fun d' b'=>d'=.sl 12 (Aq A4.enc r)/\b'=[]):=by
 unfold Di at G
 refine Fn.of Tryz.func81 rfl rfl rfl fun w0 I ρ0=>?_
 show B3 _ ⟨w0,I,ρ0,0,0,125⟩ _ _ _
 refine Bf 0 8 Ay fun B=>?_
 refine Cc 8 128 B ?_
 obtain⟨y,hy,G⟩:=Ab G
 refine Dh (Dq _ _ _ hy) ?_
 obtain⟨y_2,hy_2,G⟩:=Ab G
 refine Dh (Dq _ _ _ hy_2) ?_
 obtain⟨y_3,hy_3,G⟩:=Ab G
 refine Dh (Dq _ _ _ hy_3) ?_
 obtain⟨y_4,hy_4,G⟩:=Ab G
 refine Dh (Dq _ _ _ hy_4) ?_
 refine C0 rfl rfl (.build (r:=[.val (.int .i64 0),.val (.int .i64 0)]) Hj Lc S6 (by kernel_rfl) rfl) rfl rfl ?_
 refine Bd fun B=>?_
 refine Cc 128 248 B ?_
 obtain⟨y_5,hy_5,G⟩:=Ab G
 refine Dh (Dq _ _ _ hy_5) ?_
 obtain⟨y_6,hy_6,G⟩:=Ab G
 refine Dh (Dq _ _ _ hy_6) ?_
 obtain⟨y_7,hy_7,G⟩:=Ab G
 refine Dh (Dq _ _ _ hy_7) ?_
 obtain⟨y_8,hy_8,G⟩:=Ab G
 refine Dh (Dq _ _ _ hy_8) ?_
 obtain⟨y_9,hy_9,G⟩:=Ab G
 refine Dh (Dq _ _ _ hy_9) ?_
 refine Bd fun B=>?_
 refine Cc 248 344 B ?_
 obtain⟨y_10,hy_10,G⟩:=Ab G
 refine Dh (Dq _ _ _ hy_10) ?_
 obtain⟨y_11,hy_11,G⟩:=Ab G
 refine Dh (Dq _ _ _ hy_11) ?_
 obtain⟨y_12,hy_12,G⟩:=Ab G
 refine Dh (Dq _ _ _ hy_12) ?_
 obtain⟨y_13,hy_13,G⟩:=Ab G
 refine Dh (Dq _ _ _ hy_13) ?_
 refine Bd fun B=>?_
 refine Aj <| Bn (B6 _ _ []) (by kernel_rfl) [0,0,0,0,15,0,0,4,0,484,0,0,0,0,15360,132,0,0,0,491652,32900,0,0,0,15761540,0,0,0,0,503316480,1081476,0,0,0,16107208836,0,0,0,0,515396075520,0,0,1074823300,4399121334404,16493749239940,0,0,0,0,527765581332480,13195214356612,0,0,0,16901693816995972,0,0,0,0,540431955284459520,0,0,0,0,17293822569102704640,0,0,0,0,553402322211286548480,0,0,0,0,17708874310761169551360,1139095121199236,0,0,0,566683979083452546842756,1208925819614629174706175,2417851639229258349412351] 344 1000 B rfl rfl (by kernel_rfl) ?_
 refine As ?_
 obtain⟨y_14,hy_14,G⟩:=Ab G
 refine Dh (Dq _ _ _ hy_14) ?_
 refine As ?_
 refine C0 rfl rfl (.build (r:=[.val (.int .i64 0),.val (.string (⟨#[114,115,97,45,114,99,52,45,109,100,53]⟩:ByteArray)),vk y.Alg,vk y.Bits,vk y_2.Alg,vk y_2.Bits,vk y_14.Alg,vk y_14.Bits,vk y_10.Alg,vk y_10.Bits,.val (.int .i64 1),.val (.int .i64 2)]) K2 Rx cB (by kernel_rfl) rfl) rfl rfl ?_
 refine As ?_
 obtain⟨y_15,hy_15,G⟩:=Ab G
 refine Dh (Dq _ _ _ hy_15) ?_
 refine As ?_
 refine C0 rfl rfl (.build (r:=[.val (.int .i64 0),.val (.string (⟨#[114,115,97,45,114,99,52,45,115,104,97]⟩:ByteArray)),vk y.Alg,vk y.Bits,vk y_2.Alg,vk y_2.Bits,vk y_15.Alg,vk y_15.Bits,vk y_11.Alg,vk y_11.Bits,.val (.int .i64 1),.val (.int .i64 3)]) K2 Rx cB (by kernel_rfl) rfl) rfl rfl ?_
 refine As ?_
 refine C0 rfl rfl (.build (r:=[.val (.int .i64 0),.val (.string (⟨#[114,115,97,45,100,101,115,51,45,115,104,97]⟩:ByteArray)),vk y.Alg,vk y.Bits,vk y_2.Alg,vk y_2.Bits,vk y_5.Alg,vk y_5.Bits,vk y_11.Alg,vk y_11.Bits,.val (.int .i64 1),.val (.int .i64 3)]) K2 Rx cB (by kernel_rfl) rfl) rfl rfl ?_
 obtain⟨y_16,hy_16,G⟩:=Ab G
 refine Dh (Dq _ _ _ hy_16) ?_
 refine As ?_
 refine C0 rfl rfl (.build (r:=[.val (.int .i64 0),.val (.string (⟨#[100,104,101,45,100,115,97,45,100,101,115,51,45,115,104,97]⟩:ByteArray)),vk y_16.Alg,vk y_16.Bits,vk y_3.Alg,vk y_3.Bits,vk y_5.Alg,vk y_5.Bits,vk y_11.Alg,vk y_11.Bits,.val (.int .i64 1),.val (.int .i64 3)]) K2 Rx cB (by kernel_rfl) rfl) rfl rfl ?_
 obtain⟨y_17,hy_17,G⟩:=Ab G
 refine Dh (Dq _ _ _ hy_17) ?_
 refine As ?_
 refine C0 rfl rfl (.build (r:=[.val (.int .i64 0),.val (.string (⟨#[100,104,101,45,114,115,97,45,100,101,115,51,45,115,104,97]⟩:ByteArray)),vk y_17.Alg,vk y_17.Bits,vk y_2.Alg,vk y_2.Bits,vk y_5.Alg,vk y_5.Bits,vk y_11.Alg,vk y_11.Bits,.val (.int .i64 1),.val (.int .i64 3)]) K2 Rx cB (by kernel_rfl) rfl) rfl rfl ?_
 refine As ?_
 refine C0 rfl rfl (.build (r:=[.val (.int .i64 0),.val (.string (⟨#[114,115,97,45,97,101,115,49,50,56,45,115,104,97]⟩:ByteArray)),vk y.Alg,vk y.Bits,vk y_2.Alg,vk y_2.Bits,vk y_6.Alg,vk y_6.Bits,vk y_11.Alg,vk y_11.Bits,.val (.int .i64 1),.val (.int .i64 3)]) K2 Rx cB (by kernel_rfl) rfl) rfl rfl ?_
 obtain⟨y_18,hy_18,G⟩:=Ab G
 refine Dh (Dq _ _ _ hy_18) ?_
 refine As ?_
 refine C0 rfl rfl (.build (r:=[.val (.int .i64 0),.val (.string (⟨#[100,104,101,45,114,115,97,45,97,101,115,49,50,56,45,115,104,97]⟩:ByteArray)),vk y_18.Alg,vk y_18.Bits,vk y_2.Alg,vk y_2.Bits,vk y_6.Alg,vk y_6.Bits,vk y_11.Alg,vk y_11.Bits,.val (.int .i64 1),.val (.int .i64 3)]) K2 Rx cB (by kernel_rfl) rfl) rfl rfl ?_
 refine As ?_
 refine C0 rfl rfl (.build (r:=[.val (.int .i64 0),.val (.string (⟨#[101,99,100,104,101,45,114,115,97,45,97,101,115,49,50,56,45,115,104,97]⟩:ByteArray)),vk y_13.Alg,vk y_13.Bits,vk y_2.Alg,vk y_2.Bits,vk y_6.Alg,vk y_6.Bits,vk y_11.Alg,vk y_11.Bits,.val (.int .i64 1),.val (.int .i64 3)]) K2 Rx cB (by kernel_rfl) rfl) rfl rfl ?_
 refine As ?_
 obtain⟨y_19,hy_19,G⟩:=Ab G
 refine Dh (Dq _ _ _ hy_19) ?_
 obtain⟨y_20,hy_20,G⟩:=Ab G
 refine Dh (Dq _ _ _ hy_20) ?_
 refine C0 rfl rfl (.build (r:=[.val (.int .i64 0),.val (.string (⟨#[101,99,100,104,101,45,101,99,100,115,97,45,97,101,115,50,53,54,45,115,104,97,50,53,54]⟩:ByteArray)),vk y_13.Alg,vk y_13.Bits,vk y_4.Alg,vk y_4.Bits,vk y_19.Alg,vk y_19.Bits,vk y_20.Alg,vk y_20.Bits,.val (.int .i64 3),.val (.int .i64 3)]) K2 Rx cB (by kernel_rfl) rfl) rfl rfl ?_
 refine As ?_
 refine C0 rfl rfl (.build (r:=[.val (.int .i64 0),.val (.string (⟨#[101,99,100,104,101,45,114,115,97,45,97,101,115,49,50,56,45,103,99,109]⟩:ByteArray)),vk y_13.Alg,vk y_13.Bits,vk y_2.Alg,vk y_2.Bits,vk y_7.Alg,vk y_7.Bits,vk y_12.Alg,vk y_12.Bits,.val (.int .i64 3),.val (.int .i64 3)]) K2 Rx cB (by kernel_rfl) rfl) rfl rfl ?_
 obtain⟨y_21,hy_21,G⟩:=Ab G
 refine Dh (Dq _ _ _ hy_21) ?_
 refine As ?_
 refine C0 rfl rfl (.build (r:=[.val (.int .i64 0),.val (.string (⟨#[101,99,100,104,101,45,101,99,100,115,97,45,97,101,115,50,53,54,45,103,99,109]⟩:ByteArray)),vk y_21.Alg,vk y_21.Bits,vk y_4.Alg,vk y_4.Bits,vk y_8.Alg,vk y_8.Bits,vk y_12.Alg,vk y_12.Bits,.val (.int .i64 3),.val (.int .i64 3)]) K2 Rx cB (by kernel_rfl) rfl) rfl rfl ?_
 refine As ?_
 refine C0 rfl rfl (.build (r:=[.val (.int .i64 0),.val (.string (⟨#[101,99,100,104,101,45,114,115,97,45,99,104,97,99,104,97]⟩:ByteArray)),vk y_13.Alg,vk y_13.Bits,vk y_2.Alg,vk y_2.Bits,vk y_9.Alg,vk y_9.Bits,vk y_12.Alg,vk y_12.Bits,.val (.int .i64 3),.val (.int .i64 3)]) K2 Rx cB (by kernel_rfl) rfl) rfl rfl ?_
 refine As ?_
 refine C0 rfl rfl (.build (r:=[.val (.int .i64 0),.val (.string (⟨#[114,115,97,45,97,101,115,50,53,54,45,103,99,109]⟩:ByteArray)),vk y.Alg,vk y.Bits,vk y_2.Alg,vk y_2.Bits,vk y_8.Alg,vk y_8.Bits,vk y_12.Alg,vk y_12.Bits,.val (.int .i64 3),.val (.int .i64 3)]) K2 Rx cB (by kernel_rfl) rfl) rfl rfl ?_
 refine As ?_
 refine C0 rfl rfl (.build (r:=[.val (.int .i64 0),.val (.string (⟨#[97,101,115,49,50,56,45,103,99,109]⟩:ByteArray)),vk y_13.Alg,vk y_13.Bits,.val (.int .i64 0),.val (.int .i64 0),vk y_7.Alg,vk y_7.Bits,vk y_12.Alg,vk y_12.Bits,.val (.int .i64 4),.val (.int .i64 4)]) K2 Rx cB (by kernel_rfl) rfl) rfl rfl ?_
 refine As ?_
 refine C0 rfl rfl (.build (r:=[.val (.int .i64 0),.val (.string (⟨#[99,104,97,99,104,97]⟩:ByteArray)),vk y_13.Alg,vk y_13.Bits,.val (.int .i64 0),.val (.int .i64 0),vk y_9.Alg,vk y_9.Bits,vk y_12.Alg,vk y_12.Bits,.val (.int .i64 4),.val (.int .i64 4)]) K2 Rx cB (by kernel_rfl) rfl) rfl rfl ?_
 obtain⟨y_22,hy_22,G⟩:=Ab G
 refine Dh (Dq _ _ _ hy_22) ?_
 refine As ?_
 refine C0 rfl rfl (.build (r:=[.val (.int .i64 0),.val (.string (⟨#[109,108,107,101,109,45,97,101,115,50,53,54,45,103,99,109]⟩:ByteArray)),vk y_22.Alg,vk y_22.Bits,.val (.int .i64 0),.val (.int .i64 0),vk y_8.Alg,vk y_8.Bits,vk y_12.Alg,vk y_12.Bits,.val (.int .i64 4),.val (.int .i64 4)]) K2 Rx cB (by kernel_rfl) rfl) rfl rfl ?_
 refine I8 vS cB aEd ([(A4.mk 0 (⟨#[114,115,97,45,114,99,52,45,109,100,53]⟩:ByteArray) y y_2 y_14 y_10 1 2),(A4.mk 0 (⟨#[114,115,97,45,114,99,52,45,115,104,97]⟩:ByteArray) y y_2 y_15 y_11 1 3),(A4.mk 0 (⟨#[114,115,97,45,100,101,115,51,45,115,104,97]⟩:ByteArray) y y_2 y_5 y_11 1 3),(A4.mk 0 (⟨#[100,104,101,45,100,115,97,45,100,101,115,51,45,115,104,97]⟩:ByteArray) y_16 y_3 y_5 y_11 1 3),(A4.mk 0 (⟨#[100,104,101,45,114,115,97,45,100,101,115,51,45,115,104,97]⟩:ByteArray) y_17 y_2 y_5 y_11 1 3),(A4.mk 0 (⟨#[114,115,97,45,97,101,115,49,50,56,45,115,104,97]⟩:ByteArray) y y_2 y_6 y_11 1 3),(A4.mk 0 (⟨#[100,104,101,45,114,115,97,45,97,101,115,49,50,56,45,115,104,97]⟩:ByteArray) y_18 y_2 y_6 y_11 1 3),(A4.mk 0 (⟨#[101,99,100,104,101,45,114,115,97,45,97,101,115,49,50,56,45,115,104,97]⟩:ByteArray) y_13 y_2 y_6 y_11 1 3),(A4.mk 0 (⟨#[101,99,100,104,101,45,101,99,100,115,97,45,97,101,115,50,53,54,45,115,104,97,50,53,54]⟩:ByteArray) y_13 y_4 y_19 y_20 3 3),(A4.mk 0 (⟨#[101,99,100,104,101,45,114,115,97,45,97,101,115,49,50,56,45,103,99,109]⟩:ByteArray) y_13 y_2 y_7 y_12 3 3),(A4.mk 0 (⟨#[101,99,100,104,101,45,101,99,100,115,97,45,97,101,115,50,53,54,45,103,99,109]⟩:ByteArray) y_21 y_4 y_8 y_12 3 3),(A4.mk 0 (⟨#[101,99,100,104,101,45,114,115,97,45,99,104,97,99,104,97]⟩:ByteArray) y_13 y_2 y_9 y_12 3 3),(A4.mk 0 (⟨#[114,115,97,45,97,101,115,50,53,54,45,103,99,109]⟩:ByteArray) y y_2 y_8 y_12 3 3),(A4.mk 0 (⟨#[97,101,115,49,50,56,45,103,99,109]⟩:ByteArray) y_13 (Am.mk 0 0) y_7 y_12 4 4),(A4.mk 0 (⟨#[99,104,97,99,104,97]⟩:ByteArray) y_13 (Am.mk 0 0) y_9 y_12 4 4),(A4.mk 0 (⟨#[109,108,107,101,109,45,97,101,115,50,53,54,45,103,99,109]⟩:ByteArray) y_22 (Am.mk 0 0) y_8 y_12 4 4)]:List A4) A4.enc ?_
 refine Bd fun B=>?_
 refine Aj <| Bf 1000 1024 B fun B=>?_
 refine Ap <| Ji (fun ((x114_1,l_1):Int×List A4)=>mk [(15,.row 0),(113,.val (.int .i64 (([(A4.mk 0 (⟨#[114,115,97,45,114,99,52,45,109,100,53]⟩:ByteArray) y y_2 y_14 y_10 1 2),(A4.mk 0 (⟨#[114,115,97,45,114,99,52,45,115,104,97]⟩:ByteArray) y y_2 y_15 y_11 1 3),(A4.mk 0 (⟨#[114,115,97,45,100,101,115,51,45,115,104,97]⟩:ByteArray) y y_2 y_5 y_11 1 3),(A4.mk 0 (⟨#[100,104,101,45,100,115,97,45,100,101,115,51,45,115,104,97]⟩:ByteArray) y_16 y_3 y_5 y_11 1 3),(A4.mk 0 (⟨#[100,104,101,45,114,115,97,45,100,101,115,51,45,115,104,97]⟩:ByteArray) y_17 y_2 y_5 y_11 1 3),(A4.mk 0 (⟨#[114,115,97,45,97,101,115,49,50,56,45,115,104,97]⟩:ByteArray) y y_2 y_6 y_11 1 3),(A4.mk 0 (⟨#[100,104,101,45,114,115,97,45,97,101,115,49,50,56,45,115,104,97]⟩:ByteArray) y_18 y_2 y_6 y_11 1 3),(A4.mk 0 (⟨#[101,99,100,104,101,45,114,115,97,45,97,101,115,49,50,56,45,115,104,97]⟩:ByteArray) y_13 y_2 y_6 y_11 1 3),(A4.mk 0 (⟨#[101,99,100,104,101,45,101,99,100,115,97,45,97,101,115,50,53,54,45,115,104,97,50,53,54]⟩:ByteArray) y_13 y_4 y_19 y_20 3 3),(A4.mk 0 (⟨#[101,99,100,104,101,45,114,115,97,45,97,101,115,49,50,56,45,103,99,109]⟩:ByteArray) y_13 y_2 y_7 y_12 3 3),(A4.mk 0 (⟨#[101,99,100,104,101,45,101,99,100,115,97,45,97,101,115,50,53,54,45,103,99,109]⟩:ByteArray) y_21 y_4 y_8 y_12 3 3),(A4.mk 0 (⟨#[101,99,100,104,101,45,114,115,97,45,99,104,97,99,104,97]⟩:ByteArray) y_13 y_2 y_9 y_12 3 3),(A4.mk 0 (⟨#[114,115,97,45,97,101,115,50,53,54,45,103,99,109]⟩:ByteArray) y y_2 y_8 y_12 3 3),(A4.mk 0 (⟨#[97,101,115,49,50,56,45,103,99,109]⟩:ByteArray) y_13 (Am.mk 0 0) y_7 y_12 4 4),(A4.mk 0 (⟨#[99,104,97,99,104,97]⟩:ByteArray) y_13 (Am.mk 0 0) y_9 y_12 4 4),(A4.mk 0 (⟨#[109,108,107,101,109,45,97,101,115,50,53,54,45,103,99,109]⟩:ByteArray) y_22 (Am.mk 0 0) y_8 y_12 4 4)]:List A4).length:Int))),(114,vk x114_1)] [(0,.row 94 12 (Aq A4.enc l_1))] 1) G (Ar [(0,984)]) ?_
 rintro⟨x114_1,l_1⟩ m1 o1 G hn1
 replace G:Di.l1 y y_2 y_3 y_4 y_5 y_6 y_7 y_8 y_9 y_10 y_11 y_12 y_13 y_14 y_15 y_16 y_17 y_18 y_19 y_20 y_21 y_22 x114_1 l_1=some o1:=G
 show B3 _ _ _ _ (mk _ _ _)
 unfold Di.l1 at G
 refine Bf 1 9 Ay fun B=>?_
 refine Aj <| Cp rfl G (fun h8 G=>?_) fun h8 G=>?_
 refine C8 ?_
 refine Aj <| Ap <| Bf 9 25 B fun B=>?_
 refine Ak (B6 _ _ []) 25 81 B rfl rfl ?_
 refine As ?_
 obtain⟨e,he,G⟩:=Ab G
 refine As ?_
 refine Fi (rd:=[0]) rfl rfl (bD Yl rfl (Eg A4.enc_len (Bq he) (o:=0) (m:=1) (by decide) rfl) I1 (cs':=[.int .i64 (W (x114_1 + 1))]) (.cons .int .nil) (V0 A4.enc_len (Bq he) (o:=0) (x':=(A4.mk (W (x114_1 + 1)) e.Name e.Exchange e.Sign e.Cipher e.Mac e.Least e.Most)) (aD6 rfl) rfl rfl)) rfl rfl ?_
 refine Gh fun B=>?_
 refine Ak (B6 _ _ []) 81 97 B rfl rfl ?_
 refine Bd fun B=>?_
 obtain rfl:=oi_ G
 exact⟨((W (x114_1 + 1),Db l_1 ((x114_1).toNat) (A4.mk (W (x114_1 + 1)) e.Name e.Exchange e.Sign e.Cipher e.Mac e.Least e.Most)),m1),aCz _,hn1,Ar [(0,0)]⟩
 refine Je ?_
 replace G:=Cd G hn1
 refine Bf 9 25 B fun B=>?_
 exact Lf
theorem Sx (code:Int) (r:A4×Int) (G:Df code=some r):Fn Tryz.prog 50 0 [vk code] [] (fun d' b'=>d'=.tup [.agg (A4.dv r.1),vk r.2]/\b'=[]):=by
 unfold Df at G
 refine Fn.of Tryz.func50 rfl rfl rfl fun w0 I ρ0=>?_
 show B3 _ ⟨w0,I,ρ0,0,0,20⟩ _ _ _
 refine Bf 0 16 Ay fun B=>?_
 refine Cc 16 32 B ?_
 obtain⟨y,hy,G⟩:=Ab G
 refine Dh (Yd _ hy) ?_
 refine Bd fun B=>?_
 refine Aj <| Bo (ι:=Bool) (fun (x13_1:Bool)=>mk [(0,vk code),(2,.ptr 0 0),(4,.sl 12 (Aq A4.enc y)),(13,.val (.bool x13_1))] [(0,.box [.val (.int .i64 0),.val (.string (⟨#[]⟩:ByteArray)),.val (.int .i64 0),.val (.int .i64 0),.val (.int .i64 0),.val (.int .i64 0),.val (.int .i64 0),.val (.int .i64 0),.val (.int .i64 0),.val (.int .i64 0),.val (.int .i64 0),.val (.int .i64 0)] 94)] 1) (fun (x13_1:Bool)=>Df.j1 code y x13_1=some r) ?_ ?_
 refine Ak (B6 _ _ []) 32 96 B rfl rfl ?_
 refine As ?_
 rcases Dm G with ⟨h3,G⟩ | ⟨h3,G⟩
 refine Bd fun B=>?_
 exact⟨true,G,Ar [(0,0)]⟩
 refine Bd fun B=>?_
 exact⟨decide ((y.length:Int) < code),G,Ar [(0,0)]⟩
 rintro x13_1 G
 replace G:Df.j1 code y x13_1=some r:=G
 show B3 _ _ _ _ (mk _ _ _)
 unfold Df.j1 at G
 refine Cp rfl G (fun h6 G=>?_) fun h6 G=>?_
 refine Cc 1 25 Ay ?_
 refine Lq K2 Rx cB ?_
 exact De
 refine C8 ?_
 refine Cc 1 57 Ay ?_
 refine As ?_
 obtain⟨e,he,G⟩:=Ab G
 refine As ?_
 refine gZ he ?_
 exact De
theorem V4 (l:(List Int)) (r:Bool) (G:C2 l=some r):Fn Tryz.prog 59 0 [.sl 1 (Aq eI l)] [] (fun d' b'=>d'=.val (.bool r)/\b'=[]):=by
 unfold C2 at G
 refine Fn.of Tryz.func59 rfl rfl rfl fun w0 I ρ0=>?_
 show B3 _ ⟨w0,I,ρ0,0,0,29⟩ _ _ _
 refine Bf 0 8 Ay fun B=>?_
 refine Aj <| Bf 8 32 B fun B=>?_
 refine Ap <| Ji (fun (x9_1:Int)=>mk [(0,.sl 1 (Aq eI l)),(7,.sl 1 (Aq eI l)),(8,.val (.int .i64 (l.length:Int))),(9,vk x9_1)] [] 0) G (Ar []) ?_
 rintro x9_1 m1 o1 G hn1
 replace G:C2.l1 l x9_1=some o1:=G
 show B3 _ _ _ _ (mk _ _ _)
 unfold C2.l1 at G
 refine Bf 0 8 Ay fun B=>?_
 refine Aj <| Cp rfl G (fun h4 G=>?_) fun h4 G=>?_
 refine C8 ?_
 refine Aj <| Ap <| Cc 8 48 B ?_
 refine As ?_
 obtain⟨e,he,G⟩:=Ab G
 refine As ?_
 refine No he ?_
 refine Bd fun B=>?_
 refine Cc 48 112 B ?_
 refine As ?_
 obtain⟨y,hy,G⟩:=Ab G
 refine Dh (Sx _ _ hy) ?_
 refine Bd fun B=>?_
 refine Bo (ι:=Bool) (fun (x27_2:Bool)=>mk [(0,.sl 1 (Aq eI l)),(7,.sl 1 (Aq eI l)),(8,.val (.int .i64 (l.length:Int))),(9,vk x9_1),(27,.val (.bool x27_2))] [] 0) (fun (x27_2:Bool)=>C2.j2 x9_1 x27_2=some o1) ?_ ?_
 refine Ak (B6 _ _ []) 112 184 B rfl rfl ?_
 refine As ?_
 rcases Dm G with ⟨h7,G⟩ | ⟨h7,G⟩
 refine Bd fun B=>?_
 exact⟨true,G,Ar []⟩
 refine As ?_
 obtain⟨l_2,hl_2,G⟩:=Ab G
 refine C0 (Eb rfl rfl h7) rfl (Ue Ee Jo hl_2) rfl rfl ?_
 refine As ?_
 obtain⟨y_2,hy_2,G⟩:=Ab G
 refine Dh (Kd _ _ _ hy_2) ?_
 refine Bd fun B=>?_
 exact⟨y_2,G,Ar []⟩
 rintro x27_2 G
 replace G:C2.j2 x9_1 x27_2=some o1:=G
 show B3 _ _ _ _ (mk _ _ _)
 unfold C2.j2 at G
 refine Cp rfl G (fun h10 G=>?_) fun h10 G=>?_
 refine Bf 0 8 Ay fun B=>?_
 refine E2 ?_
 replace G:=Cd G hn1
 exact Uq
 refine C8 ?_
 refine Ak (B6 _ _ []) 0 16 Ay rfl rfl ?_
 refine Bd fun B=>?_
 obtain rfl:=oi_ G
 exact⟨(W (x9_1 + 1),m1),aCz _,hn1,Ar []⟩
 refine Je ?_
 replace G:=Cd G hn1
 refine Bf 8 16 B fun B=>?_
 exact Lf
theorem Ob (l:(List Int)) (r:Bool) (G:Cq l=some r):Fn Tryz.prog 60 0 [.sl 1 (Aq eI l)] [] (fun d' b'=>d'=.val (.bool r)/\b'=[]):=by
 unfold Cq at G
 refine Fn.of Tryz.func60 rfl rfl rfl fun w0 I ρ0=>?_
 show B3 _ ⟨w0,I,ρ0,0,0,24⟩ _ _ _
 refine Bf 0 8 Ay fun B=>?_
 refine Aj <| Bf 8 32 B fun B=>?_
 refine Ap <| Ji (fun (x6_1:Int)=>mk [(0,.sl 1 (Aq eI l)),(5,.val (.int .i64 (l.length:Int))),(6,vk x6_1)] [] 0) G (Ar []) ?_
 rintro x6_1 m1 o1 G hn1
 replace G:Cq.l1 l x6_1=some o1:=G
 show B3 _ _ _ _ (mk _ _ _)
 unfold Cq.l1 at G
 refine Bf 0 8 Ay fun B=>?_
 refine Aj <| Cp rfl G (fun h4 G=>?_) fun h4 G=>?_
 refine C8 ?_
 refine Aj <| Ap <| Bf 8 24 B fun B=>?_
 refine Bo (ι:=Bool) (fun (x22_2:Bool)=>mk [(0,.sl 1 (Aq eI l)),(5,.val (.int .i64 (l.length:Int))),(6,vk x6_1),(22,.val (.bool x22_2))] [] 0) (fun (x22_2:Bool)=>Cq.j2 x6_1 x22_2=some o1) ?_ ?_
 refine Bn (B6 _ _ []) (by kernel_rfl) [0,1,3,7,7,23,63,127,7,7,775,1799,4095,8191] 24 136 B rfl rfl (by kernel_rfl) ?_
 refine As ?_
 rcases Dm G with ⟨h6,G⟩ | ⟨h6,G⟩
 refine As ?_
 obtain⟨e,he,G⟩:=Ab G
 refine As ?_
 refine No he ?_
 refine As ?_
 obtain⟨e_2,he_2,G⟩:=Ab G
 refine As ?_
 refine No he_2 ?_
 refine Bd fun B=>?_
 exact⟨decide (e_2<=e),G,Ar []⟩
 refine Bd fun B=>?_
 exact⟨false,G,Ar []⟩
 rintro x22_2 G
 replace G:Cq.j2 x6_1 x22_2=some o1:=G
 show B3 _ _ _ _ (mk _ _ _)
 unfold Cq.j2 at G
 refine Cp rfl G (fun h9 G=>?_) fun h9 G=>?_
 refine Bf 0 8 Ay fun B=>?_
 refine E2 ?_
 replace G:=Cd G hn1
 exact Uq
 refine C8 ?_
 refine Ak (B6 _ _ []) 0 16 Ay rfl rfl ?_
 refine Bd fun B=>?_
 obtain rfl:=oi_ G
 exact⟨(W (x6_1 + 1),m1),aCz _,hn1,Ar []⟩
 refine Je ?_
 replace G:=Cd G hn1
 refine Bf 8 16 B fun B=>?_
 exact Lf
theorem Rr  (r:Unit) (G:Jj=some r):Fn Tryz.prog 62 0 [.val (.func (.func 65) #[] #[])] [] (fun d' b'=>d'=.clo 63 0 [.elt (([.raw (.func (.func 65) #[] #[])]:List C).drop 0)]/\b'=[]):=by
 unfold Jj at G
 refine Fn.of Tryz.func62 rfl rfl rfl fun w0 I ρ0=>?_
 show B3 _ ⟨w0,I,ρ0,0,0,4⟩ _ _ _
 refine Bf 0 16 Ay fun B=>?_
 refine Aj <| Fw (σ':=mk [(1,.elt (([.raw (.func (.func 65) #[] #[])]:List C).drop 0))] [] 0) ((by exact Ru.lists [] rfl rfl ⟨⟨_,rfl,.frzb (ks:=[none]) rfl (.cons .func .nil) (Gz rfl)⟩,trivial⟩ trivial)) ?_
 refine Ak (B6 _ _ []) 0 16 Ay rfl rfl ?_
 exact De
theorem O1 (n:Int) (r:Bool) (G:Gj n=some r):Fn Tryz.prog 63 0 [vk n,.elt (([.raw (.func (.func 65) #[] #[])]:List C).drop 0)] [] (fun d' b'=>d'=.val (.bool r)/\b'=[]):=by
 unfold Gj at G
 refine Fn.of Tryz.func63 rfl rfl rfl fun w0 I ρ0=>?_
 show B3 _ ⟨w0,I,ρ0,0,0,8⟩ _ _ _
 refine Bf 0 8 Ay fun B=>?_
 refine Cc 8 48 B ?_
 refine C0 rfl rfl (Do aC9 (c:=.raw (.func (.func 65) #[] #[])) rfl) rfl rfl ?_
 refine As ?_
 obtain⟨y,hy,G⟩:=Ab G
 refine Eo (rd:=[]) (ps:=[]) (gs:=[]) false rfl rfl (Ki _ _ hy) rfl rfl (.cons .val .nil) rfl rfl (by intro h; cases h) rfl rfl rfl rfl ?_
 exact De
theorem Jw (s:(List Int)) (f:Int->Option (Bool)) (hf_f:∀ (x0:Int) (y:Bool),f x0=some y->Fn Tryz.prog 63 0 [vk x0,.elt (([.raw (.func (.func 65) #[] #[])]:List C).drop 0)] [] (fun d' b'=>d'=.val (.bool y)/\b'=[])) (r:Int) (G:Br s f=some r):Fn Tryz.prog 89 0 [.sl 1 (Aq eI s),.clo 63 0 [.elt (([.raw (.func (.func 65) #[] #[])]:List C).drop 0)]] [] (fun d' b'=>d'=vk r/\b'=[]):=by
 unfold Br at G
 refine Fn.of Tryz.func89 rfl rfl rfl fun w0 I ρ0=>?_
 show B3 _ ⟨w0,I,ρ0,0,0,19⟩ _ _ _
 refine Bf 0 8 Ay fun B=>?_
 refine Aj <| Bf 8 32 B fun B=>?_
 refine Ap <| Ji (fun (x8_1:Int)=>mk [(0,.sl 1 (Aq eI s)),(1,.clo 63 0 [.elt (([.raw (.func (.func 65) #[] #[])]:List C).drop 0)]),(7,.val (.int .i64 (s.length:Int))),(8,vk x8_1)] [] 0) G (Ar []) ?_
 rintro x8_1 m1 o1 G hn1
 replace G:Br.l1 s f x8_1=some o1:=G
 show B3 _ _ _ _ (mk _ _ _)
 unfold Br.l1 at G
 refine Bf 0 8 Ay fun B=>?_
 refine Aj <| Cp rfl G (fun h4 G=>?_) fun h4 G=>?_
 refine C8 ?_
 refine Aj <| Ap <| Bf 8 24 B fun B=>?_
 refine Cc 24 72 B ?_
 refine As ?_
 obtain⟨e,he,G⟩:=Ab G
 refine As ?_
 refine No he ?_
 obtain⟨y,hy,G⟩:=Ab G
 refine Dg (rd:=[]) (ps:=[]) (gs:=[]) false rfl rfl (hf_f e _ hy) rfl rfl (.cons .val (.cons .elt .nil)) rfl rfl (by intro h; cases h) rfl rfl rfl rfl ?_
 refine Gh fun B=>?_
 refine Cp rfl G (fun h7 G=>?_) fun h7 G=>?_
 refine Bf 72 88 B fun B=>?_
 refine E2 ?_
 replace G:=Cd G hn1
 exact Uq
 refine C8 ?_
 refine Ak (B6 _ _ []) 72 88 B rfl rfl ?_
 refine Bd fun B=>?_
 obtain rfl:=oi_ G
 exact⟨(W (x8_1 + 1),m1),aCz _,hn1,Ar []⟩
 refine Je ?_
 replace G:=Cd G hn1
 refine Bf 8 16 B fun B=>?_
 exact Lf
theorem Jh (s:(List Int)) (f:Int->Option (Bool)) (hf_f:∀ (x0:Int) (y:Bool),f x0=some y->Fn Tryz.prog 63 0 [vk x0,.elt (([.raw (.func (.func 65) #[] #[])]:List C).drop 0)] [] (fun d' b'=>d'=.val (.bool y)/\b'=[])) (r:Bool) (G:Ec s f=some r):Fn Tryz.prog 64 0 [.sl 1 (Aq eI s),.clo 63 0 [.elt (([.raw (.func (.func 65) #[] #[])]:List C).drop 0)]] [] (fun d' b'=>d'=.val (.bool r)/\b'=[]):=by
 unfold Ec at G
 refine Fn.of Tryz.func64 rfl rfl rfl fun w0 I ρ0=>?_
 show B3 _ ⟨w0,I,ρ0,0,0,9⟩ _ _ _
 refine Bf 0 8 Ay fun B=>?_
 refine Cc 8 48 B ?_
 refine As ?_
 obtain⟨y,hy,G⟩:=Ab G
 refine Dh (Jw s f hf_f _ hy) ?_
 exact De
theorem Ro  (r:Unit) (G:Jk=some r):Fn Tryz.prog 62 0 [.val (.func (.func 66) #[] #[])] [] (fun d' b'=>d'=.clo 63 0 [.elt (([.raw (.func (.func 66) #[] #[])]:List C).drop 0)]/\b'=[]):=by
 unfold Jk at G
 refine Fn.of Tryz.func62 rfl rfl rfl fun w0 I ρ0=>?_
 show B3 _ ⟨w0,I,ρ0,0,0,4⟩ _ _ _
 refine Bf 0 16 Ay fun B=>?_
 refine Aj <| Fw (σ':=mk [(1,.elt (([.raw (.func (.func 66) #[] #[])]:List C).drop 0))] [] 0) ((by exact Ru.lists [] rfl rfl ⟨⟨_,rfl,.frzb (ks:=[none]) rfl (.cons .func .nil) (Gz rfl)⟩,trivial⟩ trivial)) ?_
 refine Ak (B6 _ _ []) 0 16 Ay rfl rfl ?_
 exact De
theorem Y2 (alg:Int) (r:Bool) (G:J6 alg=some r):Fn Tryz.prog 66 0 [vk alg] [] (fun d' b'=>d'=.val (.bool r)/\b'=[]):=by
 unfold J6 at G
 refine Fn.of Tryz.func66 rfl rfl rfl fun w0 I ρ0=>?_
 show B3 _ ⟨w0,I,ρ0,0,0,6⟩ _ _ _
 refine Bf 0 8 Ay fun B=>?_
 refine Cc 8 40 B ?_
 refine As ?_
 obtain⟨y,hy,G⟩:=Ab G
 refine Dh (L5 _ _ hy) ?_
 exact De
theorem O0 (n:Int) (r:Bool) (G:Gy n=some r):Fn Tryz.prog 63 0 [vk n,.elt (([.raw (.func (.func 66) #[] #[])]:List C).drop 0)] [] (fun d' b'=>d'=.val (.bool r)/\b'=[]):=by
 unfold Gy at G
 refine Fn.of Tryz.func63 rfl rfl rfl fun w0 I ρ0=>?_
 show B3 _ ⟨w0,I,ρ0,0,0,8⟩ _ _ _
 refine Bf 0 8 Ay fun B=>?_
 refine Cc 8 48 B ?_
 refine C0 rfl rfl (Do aC9 (c:=.raw (.func (.func 66) #[] #[])) rfl) rfl rfl ?_
 refine As ?_
 obtain⟨y,hy,G⟩:=Ab G
 refine Eo (rd:=[]) (ps:=[]) (gs:=[]) false rfl rfl (Y2 _ _ hy) rfl rfl (.cons .val .nil) rfl rfl (by intro h; cases h) rfl rfl rfl rfl ?_
 exact De
theorem J0 (s:(List Int)) (f:Int->Option (Bool)) (hf_f:∀ (x0:Int) (y:Bool),f x0=some y->Fn Tryz.prog 63 0 [vk x0,.elt (([.raw (.func (.func 66) #[] #[])]:List C).drop 0)] [] (fun d' b'=>d'=.val (.bool y)/\b'=[])) (r:Int) (G:Br s f=some r):Fn Tryz.prog 89 0 [.sl 1 (Aq eI s),.clo 63 0 [.elt (([.raw (.func (.func 66) #[] #[])]:List C).drop 0)]] [] (fun d' b'=>d'=vk r/\b'=[]):=by
 unfold Br at G
 refine Fn.of Tryz.func89 rfl rfl rfl fun w0 I ρ0=>?_
 show B3 _ ⟨w0,I,ρ0,0,0,19⟩ _ _ _
 refine Bf 0 8 Ay fun B=>?_
 refine Aj <| Bf 8 32 B fun B=>?_
 refine Ap <| Ji (fun (x8_1:Int)=>mk [(0,.sl 1 (Aq eI s)),(1,.clo 63 0 [.elt (([.raw (.func (.func 66) #[] #[])]:List C).drop 0)]),(7,.val (.int .i64 (s.length:Int))),(8,vk x8_1)] [] 0) G (Ar []) ?_
 rintro x8_1 m1 o1 G hn1
 replace G:Br.l1 s f x8_1=some o1:=G
 show B3 _ _ _ _ (mk _ _ _)
 unfold Br.l1 at G
 refine Bf 0 8 Ay fun B=>?_
 refine Aj <| Cp rfl G (fun h4 G=>?_) fun h4 G=>?_
 refine C8 ?_
 refine Aj <| Ap <| Bf 8 24 B fun B=>?_
 refine Cc 24 72 B ?_
 refine As ?_
 obtain⟨e,he,G⟩:=Ab G
 refine As ?_
 refine No he ?_
 obtain⟨y,hy,G⟩:=Ab G
 refine Dg (rd:=[]) (ps:=[]) (gs:=[]) false rfl rfl (hf_f e _ hy) rfl rfl (.cons .val (.cons .elt .nil)) rfl rfl (by intro h; cases h) rfl rfl rfl rfl ?_
 refine Gh fun B=>?_
 refine Cp rfl G (fun h7 G=>?_) fun h7 G=>?_
 refine Bf 72 88 B fun B=>?_
 refine E2 ?_
 replace G:=Cd G hn1
 exact Uq
 refine C8 ?_
 refine Ak (B6 _ _ []) 72 88 B rfl rfl ?_
 refine Bd fun B=>?_
 obtain rfl:=oi_ G
 exact⟨(W (x8_1 + 1),m1),aCz _,hn1,Ar []⟩
 refine Je ?_
 replace G:=Cd G hn1
 refine Bf 8 16 B fun B=>?_
 exact Lf
theorem Jg (s:(List Int)) (f:Int->Option (Bool)) (hf_f:∀ (x0:Int) (y:Bool),f x0=some y->Fn Tryz.prog 63 0 [vk x0,.elt (([.raw (.func (.func 66) #[] #[])]:List C).drop 0)] [] (fun d' b'=>d'=.val (.bool y)/\b'=[])) (r:Bool) (G:Ec s f=some r):Fn Tryz.prog 64 0 [.sl 1 (Aq eI s),.clo 63 0 [.elt (([.raw (.func (.func 66) #[] #[])]:List C).drop 0)]] [] (fun d' b'=>d'=.val (.bool r)/\b'=[]):=by
 unfold Ec at G
 refine Fn.of Tryz.func64 rfl rfl rfl fun w0 I ρ0=>?_
 show B3 _ ⟨w0,I,ρ0,0,0,9⟩ _ _ _
 refine Bf 0 8 Ay fun B=>?_
 refine Cc 8 48 B ?_
 refine As ?_
 obtain⟨y,hy,G⟩:=Ab G
 refine Dh (J0 s f hf_f _ hy) ?_
 exact De
theorem Xn (e:Av) (r:Int) (G:Bm e=some r):Fn Tryz.prog 36 0 [.agg (Av.dv e)] [] (fun d' b'=>d'=vk r/\b'=[]):=by
 unfold Bm at G
 refine Fn.of Tryz.func36 rfl rfl rfl fun w0 I ρ0=>?_
 show B3 _ ⟨w0,I,ρ0,0,0,83⟩ _ _ _
 refine Bf 0 16 Ay fun B=>?_
 refine Aj <| Bo (ι:=Bool) (fun (x32_1:Bool)=>mk [(1,.ptr 0 0),(32,.val (.bool x32_1))] [(0,.box (Av.dv e) 34)] 1) (fun (x32_1:Bool)=>Bm.j1 e x32_1=some r) ?_ ?_
 refine Ak (B6 _ _ []) 16 232 B rfl rfl ?_
 refine As ?_
 obtain⟨y,hy,G⟩:=Ab G
 refine Dh (Y3 _ _ hy) ?_
 refine As ?_
 rcases Dm G with ⟨h2,G⟩ | ⟨h2,G⟩
 refine Bd fun B=>?_
 exact⟨true,G,Ar [(0,0)]⟩
 refine As ?_
 rcases Dm G with ⟨h4,G⟩ | ⟨h4,G⟩
 refine Bd fun B=>?_
 exact⟨true,G,Ar [(0,0)]⟩
 refine As ?_
 rcases Dm G with ⟨h6,G⟩ | ⟨h6,G⟩
 refine Bd fun B=>?_
 exact⟨true,G,Ar [(0,0)]⟩
 refine As ?_
 rcases Dm G with ⟨h8,G⟩ | ⟨h8,G⟩
 refine Bd fun B=>?_
 exact⟨true,G,Ar [(0,0)]⟩
 refine As ?_
 obtain⟨y_2,hy_2,G⟩:=Ab G
 refine Dh (V4 _ _ hy_2) ?_
 refine Bd fun B=>?_
 exact⟨!y_2,G,Ar [(0,0)]⟩
 rintro x32_1 G
 replace G:Bm.j1 e x32_1=some r:=G
 show B3 _ _ _ _ (mk _ _ _)
 unfold Bm.j1 at G
 refine Cp rfl G (fun h11 G=>?_) fun h11 G=>?_
 refine Cc 1 9 Ay ?_
 exact De
 refine C8 ?_
 refine Aj <| Bo (ι:=Bool) (fun (x54_2:Bool)=>mk [(1,.ptr 0 0),(54,.val (.bool x54_2))] [(0,.box (Av.dv e) 34)] 1) (fun (x54_2:Bool)=>Bm.j2 e x54_2=some r) ?_ ?_
 refine Ak (B6 _ _ []) 1 177 Ay rfl rfl ?_
 refine As ?_
 rcases Dm G with ⟨h13,G⟩ | ⟨h13,G⟩
 refine Bd fun B=>?_
 exact⟨true,G,Ar [(0,0)]⟩
 refine As ?_
 rcases Dm G with ⟨h15,G⟩ | ⟨h15,G⟩
 refine Bd fun B=>?_
 exact⟨true,G,Ar [(0,0)]⟩
 refine As ?_
 obtain⟨y_3,hy_3,G⟩:=Ab G
 refine Dh (Ob _ _ hy_3) ?_
 refine As ?_
 rcases Dm G with ⟨h17,G⟩ | ⟨h17,G⟩
 refine Bd fun B=>?_
 exact⟨true,G,Ar [(0,0)]⟩
 refine As ?_
 obtain⟨y_4,hy_4,G⟩:=Ab G
 refine Dh (Ob _ _ hy_4) ?_
 refine Bd fun B=>?_
 exact⟨!y_4,G,Ar [(0,0)]⟩
 rintro x54_2 G
 replace G:Bm.j2 e x54_2=some r:=G
 show B3 _ _ _ _ (mk _ _ _)
 unfold Bm.j2 at G
 refine Cp rfl G (fun h20 G=>?_) fun h20 G=>?_
 refine Cc 1 9 Ay ?_
 exact De
 refine C8 ?_
 refine Aj <| Bf 1 33 Ay fun B=>?_
 refine Ap <| Ji (fun (x58_3:Int)=>mk [(1,.ptr 0 0),(56,.sl 4 (Aq A9.enc e.Identities)),(57,.val (.int .i64 (e.Identities.length:Int))),(58,vk x58_3)] [(0,.box (Av.dv e) 34)] 1) G (Ar [(0,0)]) ?_
 rintro x58_3 m3 o3 G hn3
 replace G:Bm.l3 e x58_3=some o3:=G
 show B3 _ _ _ _ (mk _ _ _)
 unfold Bm.l3 at G
 refine Bf 1 9 Ay fun B=>?_
 refine Aj <| Cp rfl G (fun h24 G=>?_) fun h24 G=>?_
 refine C8 ?_
 refine Aj <| Ap <| Cc 9 41 B ?_
 obtain⟨e_2,he_2,G⟩:=Ab G
 refine As ?_
 refine gZ he_2 ?_
 refine Bd fun B=>?_
 refine Cc 41 105 B ?_
 refine As ?_
 obtain⟨y_5,hy_5,G⟩:=Ab G
 refine Dh (Ml _ _ _ _ hy_5) ?_
 refine Bd fun B=>?_
 refine Cp rfl G (fun h27 G=>?_) fun h27 G=>?_
 refine Bf 105 113 B fun B=>?_
 refine E2 ?_
 replace G:=Cd G hn3
 exact Uq
 refine C8 ?_
 refine Ak (B6 _ _ []) 105 121 B rfl rfl ?_
 refine Bd fun B=>?_
 obtain rfl:=oi_ G
 exact⟨(W (x58_3 + 1),m3),aCz _,hn3,Ar [(0,0)]⟩
 refine Je ?_
 replace G:=Cd G hn3
 refine Bf 9 17 B fun B=>?_
 refine Aj <| Bo (ι:=Bool) (fun (x82_4:Bool)=>mk [(82,.val (.bool x82_4))] [] 0) (fun (x82_4:Bool)=>Bm.j4 x82_4=some r) ?_ ?_
 refine Bn (B6 _ _ []) (by kernel_rfl) [0,1,0,4,15,31,63,127,63,319,1023,2047] 17 113 B rfl rfl (by kernel_rfl) ?_
 refine As ?_
 obtain⟨y_6,hy_6,G⟩:=Ab G
 refine Eo (rd:=[]) (ps:=[]) (gs:=[]) false rfl rfl (Rr _ hy_6) rfl rfl (.cons .val .nil) rfl rfl (by intro h; cases h) rfl rfl rfl rfl ?_
 obtain⟨y_7,hy_7,G⟩:=Ab G
 refine Dh (Jh e.Anchors (fun x0=>Gj x0) (fun x0 y h=>O1 x0 y h) _ hy_7) ?_
 refine As ?_
 rcases Dm G with ⟨h31,G⟩ | ⟨h31,G⟩
 refine Bd fun B=>?_
 exact⟨true,G,Ar []⟩
 refine As ?_
 obtain⟨y_8,hy_8,G⟩:=Ab G
 refine Eo (rd:=[]) (ps:=[]) (gs:=[]) false (Eb rfl rfl h31) rfl (Ro _ hy_8) rfl rfl (.cons .val .nil) rfl rfl (by intro h; cases h) rfl rfl rfl rfl ?_
 obtain⟨y_9,hy_9,G⟩:=Ab G
 refine Dh (Jg e.Hashes (fun x0=>Gy x0) (fun x0 y h=>O0 x0 y h) _ hy_9) ?_
 refine Bd fun B=>?_
 exact⟨y_9,G,Ar []⟩
 rintro x82_4 G
 replace G:Bm.j4 x82_4=some r:=G
 show B3 _ _ _ _ (mk _ _ _)
 unfold Bm.j4 at G
 refine Cp rfl G (fun h34 G=>?_) fun h34 G=>?_
 refine Cc 0 8 Ay ?_
 exact De
 refine C8 ?_
 refine Bf 0 8 Ay fun B=>?_
 exact Lf
end Go.Proofs.YtchpcpaacenodaaGreat
