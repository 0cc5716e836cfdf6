import Derived.Test.YtkoflhimdenjaaaGreatT1
import Derived.Test.YtkoflhimdenjaaaGreatA1
import Derived.Test.YtkoflhimdenjaaaGreatA7
set_option linter.unusedVariables false
set_option linter.unusedSimpArgs false
set_option maxRecDepth 100000
set_option maxHeartbeats 1600000
namespace Go.Proofs.YtkoflhimdenjaaaGreat
open Go.RowKit
theorem Sb (f:Aa) (r:Int) (G:Bx f=some r):Fn Tryz.prog 100 0 [.agg (Aa.dv f)] [] (fun d' b'=>d'=vk r/\b'=[]):=by
 unfold Bx at G
 refine Fn.of Tryz.func100 rfl rfl rfl fun w0 I ρ0=>?_
 show B4 _ ⟨w0,I,ρ0,0,0,62⟩ _ _ _
 refine Bk 0 16 Ay fun B=>?_
 refine Bs (ι:=Bool) (fun (where_1:Bool)=>mk [(1,.ptr 0 0),(3,.val (.bool where_1))] [(0,.box (Aa.dv f) 48)] 1) (fun (where_1:Bool)=>Bx.j1 f where_1=some r) ?_ ?_
 refine Al (Ch _ _ []) 16 168 B rfl rfl ?_
 refine Aw ?_
 obtain⟨y,hy,G⟩:=Ab G
 refine Dl (I0 _ _ hy) ?_
 refine Aw ?_
 rcases Dj G with ⟨h2,G⟩ | ⟨h2,G⟩
 refine Aw ?_
 obtain⟨y_2,hy_2,G⟩:=Ab G
 refine Dl (I0 _ _ hy_2) ?_
 refine Aw ?_
 rcases Dj G with ⟨h3,G⟩ | ⟨h3,G⟩
 refine Aw ?_
 rcases Dj G with ⟨h4,G⟩ | ⟨h4,G⟩
 refine Bi fun B=>?_
 exact⟨decide (f.Machine<=1099511627776),G,Av [(0,0)]⟩
 refine Bi fun B=>?_
 exact⟨false,G,Av [(0,0)]⟩
 refine Bi fun B=>?_
 exact⟨false,G,Av [(0,0)]⟩
 refine Bi fun B=>?_
 exact⟨false,G,Av [(0,0)]⟩
 rintro where_1 G
 replace G:Bx.j1 f where_1=some r:=G
 show B4 _ _ _ _ (mk _ _ _)
 unfold Bx.j1 at G
 refine Bs (ι:=Bool) (fun (when_2:Bool)=>mk [(1,.ptr 0 0),(3,.val (.bool where_1)),(4,.val (.bool when_2))] [(0,.box (Aa.dv f) 48)] 1) (fun (when_2:Bool)=>Bx.j2 f where_1 when_2=some r) ?_ ?_
 refine Al (Ch _ _ []) 1 153 Ay rfl rfl ?_
 refine Aw ?_
 rcases Dj G with ⟨h9,G⟩ | ⟨h9,G⟩
 refine Aw ?_
 rcases Dj G with ⟨h10,G⟩ | ⟨h10,G⟩
 refine Aw ?_
 rcases Dj G with ⟨h11,G⟩ | ⟨h11,G⟩
 refine Bi fun B=>?_
 exact⟨decide (f.Confidence<=100),G,Av [(0,0)]⟩
 refine Bi fun B=>?_
 exact⟨false,G,Av [(0,0)]⟩
 refine Bi fun B=>?_
 exact⟨false,G,Av [(0,0)]⟩
 refine Bi fun B=>?_
 exact⟨false,G,Av [(0,0)]⟩
 rintro when_2 G
 replace G:Bx.j2 f where_1 when_2=some r:=G
 show B4 _ _ _ _ (mk _ _ _)
 unfold Bx.j2 at G
 refine Ak <| Bs (ι:=Bool) (fun (x61_3:Bool)=>mk [(61,.val (.bool x61_3))] [] 0) (fun (x61_3:Bool)=>Bx.j3 x61_3=some r) ?_ ?_
 refine Al (Ch _ _ []) 1 169 Ay rfl rfl ?_
 refine Aw ?_
 rcases Dj G with ⟨h16,G⟩ | ⟨h16,G⟩
 refine Bi fun B=>?_
 exact⟨true,G,Av []⟩
 refine Aw ?_
 rcases Dj G with ⟨h18,G⟩ | ⟨h18,G⟩
 refine Bi fun B=>?_
 exact⟨true,G,Av []⟩
 refine Aw ?_
 rcases Dj G with ⟨h20,G⟩ | ⟨h20,G⟩
 refine Bi fun B=>?_
 exact⟨true,G,Av []⟩
 refine Aw ?_
 rcases Dj G with ⟨h22,G⟩ | ⟨h22,G⟩
 refine Bi fun B=>?_
 exact⟨true,G,Av []⟩
 refine Aw ?_
 obtain⟨y_3,hy_3,G⟩:=Ab G
 refine Dl (Vp _ _ hy_3) ?_
 refine Bi fun B=>?_
 exact⟨!y_3,G,Av []⟩
 rintro x61_3 G
 replace G:Bx.j3 x61_3=some r:=G
 show B4 _ _ _ _ (mk _ _ _)
 unfold Bx.j3 at G
 refine Cr rfl G (fun h25 G=>?_) fun h25 G=>?_
 refine Ca 0 8 Ay ?_
 exact Df
 refine C9 ?_
 refine Bk 0 8 Ay fun B=>?_
 exact K0
theorem Zv (at':Aa) (r:D1×Int) (G:Ks at'=some r):Fn Tryz.prog 65 0 [.agg (Aa.dv at')] [] (fun d' b'=>d'=.tup [.ptr 0 0,vk r.2]/\b'=[.box [vk r.1.at_.Source,ws r.1.at_.Host,vk r.1.at_.Machine,vk r.1.at_.Day,vk r.1.at_.Confidence,vk r.1.at_.Kind,ws r.1.at_.Subject,vk r.1.at_.Use.Alg,vk r.1.at_.Use.Bits,vk r.1.at_.Number,ws r.1.at_.Text,.row 1] 126,.row 48 11 (As Aa.enc r.1.l)]):=by
 unfold Ks at G
 refine Fn.of Tryz.func65 rfl rfl rfl fun w0 I ρ0=>?_
 show B4 _ ⟨w0,I,ρ0,0,0,14⟩ _ _ _
 refine Bk 0 24 Ay fun B=>?_
 refine Ca 24 96 B ?_
 refine Mv Kv Qd X1 ?_
 refine Bi fun B=>?_
 refine Ak <| Bu (Ch _ _ []) (by kernel_rfl) [0,1,3,0,8,31,63] 96 152 B rfl rfl (by kernel_rfl) ?_
 refine Aw ?_
 refine Mv kL aGg aFg ?_
 refine Aw ?_
 obtain⟨y,hy,G⟩:=Ab G
 refine Dl (Sb _ _ hy) ?_
 refine Bi fun B=>?_
 refine Fj ?_
 obtain rfl:=oi_ G
 exact Ip [(0,112)] ⟨rfl,rfl⟩
theorem Lz (s:ByteArray) (c:UInt8) (r:Int) (G:Gb s c=some r):Fn Tryz.prog 200 0 [ws s,.val (.int .u8 (c.toNat:Int))] [] (fun d' b'=>d'=vk r/\b'=[]):=by
 unfold Gb at G
 refine Fn.of Tryz.func200 rfl rfl rfl fun w0 I ρ0=>?_
 show B4 _ ⟨w0,I,ρ0,0,0,8⟩ _ _ _
 refine Bk 0 8 Ay fun B=>?_
 refine Ca 8 40 B ?_
 refine Aw ?_
 refine Lh (rd:=[]) rfl rfl (.extV rfl wR (aIt s c)) rfl rfl (fun _=>⟨_,rfl⟩) ?_
 rintro _ rfl
 exact Df
theorem E7 (s:ByteArray) (c:UInt8) (r:Int) (G:D5 s c=some r):Fn Tryz.prog 177 0 [ws s,.val (.int .u8 (c.toNat:Int))] [] (fun d' b'=>d'=vk r/\b'=[]):=by
 unfold D5 at G
 refine Fn.of Tryz.func177 rfl rfl rfl fun w0 I ρ0=>?_
 show B4 _ ⟨w0,I,ρ0,0,0,8⟩ _ _ _
 refine Bk 0 8 Ay fun B=>?_
 refine Ca 8 40 B ?_
 refine Aw ?_
 obtain⟨y,hy,G⟩:=Ab G
 refine Dl (Lz _ _ _ hy) ?_
 exact Df
theorem V1 (c:UInt8) (others:ByteArray) (r:Bool) (G:I7 c others=some r):Fn Tryz.prog 135 0 [.val (.int .u8 (c.toNat:Int)),ws others] [] (fun d' b'=>d'=.val (.bool r)/\b'=[]):=by
 unfold I7 at G
 refine Fn.of Tryz.func135 rfl rfl rfl fun w0 I ρ0=>?_
 show B4 _ ⟨w0,I,ρ0,0,0,33⟩ _ _ _
 refine Bk 0 8 Ay fun B=>?_
 refine Ca 8 240 B ?_
 refine Aw ?_
 rcases Dj G with ⟨h2,G⟩ | ⟨h2,G⟩
 refine Aw ?_
 rcases Dj G with ⟨h3,G⟩ | ⟨h3,G⟩
 exact Df
 refine Aw ?_
 rcases Dj G with ⟨h5,G⟩ | ⟨h5,G⟩
 refine Aw ?_
 rcases Dj G with ⟨h6,G⟩ | ⟨h6,G⟩
 exact Df
 refine Aw ?_
 rcases Dj G with ⟨h8,G⟩ | ⟨h8,G⟩
 refine Aw ?_
 rcases Dj G with ⟨h9,G⟩ | ⟨h9,G⟩
 exact Df
 refine Aw ?_
 obtain⟨y,hy,G⟩:=Ab G
 refine Dl (E7 _ _ _ hy) ?_
 exact Df
 refine Aw ?_
 obtain⟨y_2,hy_2,G⟩:=Ab G
 refine Dl (E7 _ _ _ hy_2) ?_
 exact Df
 refine Aw ?_
 rcases Dj G with ⟨h13,G⟩ | ⟨h13,G⟩
 refine Aw ?_
 rcases Dj G with ⟨h14,G⟩ | ⟨h14,G⟩
 exact Df
 refine Aw ?_
 obtain⟨y_3,hy_3,G⟩:=Ab G
 refine Dl (E7 _ _ _ hy_3) ?_
 exact Df
 refine Aw ?_
 obtain⟨y_4,hy_4,G⟩:=Ab G
 refine Dl (E7 _ _ _ hy_4) ?_
 exact Df
 refine Aw ?_
 rcases Dj G with ⟨h18,G⟩ | ⟨h18,G⟩
 refine Aw ?_
 rcases Dj G with ⟨h19,G⟩ | ⟨h19,G⟩
 exact Df
 refine Aw ?_
 rcases Dj G with ⟨h21,G⟩ | ⟨h21,G⟩
 refine Aw ?_
 rcases Dj G with ⟨h22,G⟩ | ⟨h22,G⟩
 exact Df
 refine Aw ?_
 obtain⟨y_5,hy_5,G⟩:=Ab G
 refine Dl (E7 _ _ _ hy_5) ?_
 exact Df
 refine Aw ?_
 obtain⟨y_6,hy_6,G⟩:=Ab G
 refine Dl (E7 _ _ _ hy_6) ?_
 exact Df
 refine Aw ?_
 rcases Dj G with ⟨h26,G⟩ | ⟨h26,G⟩
 refine Aw ?_
 rcases Dj G with ⟨h27,G⟩ | ⟨h27,G⟩
 exact Df
 refine Aw ?_
 obtain⟨y_7,hy_7,G⟩:=Ab G
 refine Dl (E7 _ _ _ hy_7) ?_
 exact Df
 refine Aw ?_
 obtain⟨y_8,hy_8,G⟩:=Ab G
 refine Dl (E7 _ _ _ hy_8) ?_
 exact Df
theorem Yq (s:ByteArray) (r:Bool) (G:D8 s=some r):Fn Tryz.prog 101 0 [ws s] [] (fun d' b'=>d'=.val (.bool r)/\b'=[]):=by
 unfold D8 at G
 refine Fn.of Tryz.func101 rfl rfl rfl fun w0 I ρ0=>?_
 show B4 _ ⟨w0,I,ρ0,0,0,24⟩ _ _ _
 refine Bk 0 8 Ay fun B=>?_
 refine Ak <| Ca 8 40 B ?_
 refine Aw ?_
 refine C1 rfl rfl (fH S4 kT Yw) rfl rfl ?_
 refine Bi fun B=>?_
 refine Aq <| Jp (fun (x8_1:Int)=>mk [(0,ws s),(6,.sl 1 (As e8 (Iv s))),(7,.val (.int .i64 ((Iv s).length:Int))),(8,vk x8_1)] [] 0) G (Av []) ?_
 rintro x8_1 m1 o1 G hn1
 replace G:D8.l1 s x8_1=some o1:=G
 show B4 _ _ _ _ (mk _ _ _)
 unfold D8.l1 at G
 refine Bk 0 8 Ay fun B=>?_
 refine Ak <| Cr rfl G (fun h4 G=>?_) fun h4 G=>?_
 refine C9 ?_
 refine Ak <| Aq <| Ca 8 32 B ?_
 obtain⟨e,he,G⟩:=Ab G
 refine Aw ?_
 refine Rg he ?_
 refine Bi fun B=>?_
 refine Ca 32 56 B ?_
 refine Aw ?_
 obtain⟨y,hy,G⟩:=Ab G
 refine Dl (V1 _ _ _ hy) ?_
 refine Bi fun B=>?_
 refine Cr rfl G (fun h7 G=>?_) fun h7 G=>?_
 refine Bk 56 64 B fun B=>?_
 refine Fj ?_
 replace G:=Ce G hn1
 exact Ts
 refine C9 ?_
 refine Al (Ch _ _ []) 56 72 B rfl rfl ?_
 refine Bi fun B=>?_
 obtain rfl:=oi_ G
 exact⟨(W (x8_1 + 1),m1),aBj _,hn1,Av []⟩
 refine Jl ?_
 replace G:=Ce G hn1
 refine Ca 8 80 B ?_
 refine Aw ?_
 refine C1 rfl rfl (Qa S4) rfl rfl ?_
 refine Aw ?_
 rcases Dj G with ⟨h10,G⟩ | ⟨h10,G⟩
 refine Aw ?_
 refine C1 (Dx rfl rfl h10) rfl (Qa S4) rfl rfl ?_
 exact Df
 exact Df
theorem Dk (alg:Int) (bits:Int) (r:Ar) (G:C3 alg bits=some r):Fn Tryz.prog 201 0 [vk alg,vk bits] [] (fun d' b'=>d'=.agg [vk r.Alg,vk r.Bits]/\b'=[]):=by
 unfold C3 at G
 refine Fn.of Tryz.func201 rfl rfl rfl fun w0 I ρ0=>?_
 show B4 _ ⟨w0,I,ρ0,0,0,8⟩ _ _ _
 refine Bk 0 8 Ay fun B=>?_
 refine Ca 8 40 B ?_
 refine Aw ?_
 refine Mv Kv Qd X1 ?_
 exact Df
theorem Xv  (r:(List A4)) (G:Eg=some r):Fn Tryz.prog 178 0 [] [] (fun d' b'=>d'=.sl 12 (As A4.enc r)/\b'=[]):=by
 unfold Eg at G
 refine Fn.of Tryz.func178 rfl rfl rfl fun w0 I ρ0=>?_
 show B4 _ ⟨w0,I,ρ0,0,0,125⟩ _ _ _
 refine Bk 0 8 Ay fun B=>?_
 refine Ca 8 128 B ?_
 obtain⟨y,hy,G⟩:=Ab G
 refine Dl (Dk _ _ _ hy) ?_
 obtain⟨y_2,hy_2,G⟩:=Ab G
 refine Dl (Dk _ _ _ hy_2) ?_
 obtain⟨y_3,hy_3,G⟩:=Ab G
 refine Dl (Dk _ _ _ hy_3) ?_
 obtain⟨y_4,hy_4,G⟩:=Ab G
 refine Dl (Dk _ _ _ hy_4) ?_
 refine C1 rfl rfl (.build (r:=[.val (.int .i64 0),.val (.int .i64 0)]) Kv Qd X1 (by kernel_rfl) rfl) rfl rfl ?_
 refine Bi fun B=>?_
 refine Ca 128 248 B ?_
 obtain⟨y_5,hy_5,G⟩:=Ab G
 refine Dl (Dk _ _ _ hy_5) ?_
 obtain⟨y_6,hy_6,G⟩:=Ab G
 refine Dl (Dk _ _ _ hy_6) ?_
 obtain⟨y_7,hy_7,G⟩:=Ab G
 refine Dl (Dk _ _ _ hy_7) ?_
 obtain⟨y_8,hy_8,G⟩:=Ab G
 refine Dl (Dk _ _ _ hy_8) ?_
 obtain⟨y_9,hy_9,G⟩:=Ab G
 refine Dl (Dk _ _ _ hy_9) ?_
 refine Bi fun B=>?_
 refine Ca 248 344 B ?_
 obtain⟨y_10,hy_10,G⟩:=Ab G
 refine Dl (Dk _ _ _ hy_10) ?_
 obtain⟨y_11,hy_11,G⟩:=Ab G
 refine Dl (Dk _ _ _ hy_11) ?_
 obtain⟨y_12,hy_12,G⟩:=Ab G
 refine Dl (Dk _ _ _ hy_12) ?_
 obtain⟨y_13,hy_13,G⟩:=Ab G
 refine Dl (Dk _ _ _ hy_13) ?_
 refine Bi fun B=>?_
 refine Ak <| Bu (Ch _ _ []) (by kernel_rfl) [0,0,0,0,15,0,0,4,0,484,0,0,0,0,15360,132,0,0,0,491652,32900,0,0,0,15761540,0,0,0,0,503316480,1081476,0,0,0,16107208836,0,0,0,0,515396075520,0,0,1074823300,4399121334404,16493749239940,0,0,0,0,527765581332480,13195214356612,0,0,0,16901693816995972,0,0,0,0,540431955284459520,0,0,0,0,17293822569102704640,0,0,0,0,553402322211286548480,0,0,0,0,17708874310761169551360,1139095121199236,0,0,0,566683979083452546842756,1208925819614629174706175,2417851639229258349412351] 344 1000 B rfl rfl (by kernel_rfl) ?_
 refine Aw ?_
 obtain⟨y_14,hy_14,G⟩:=Ab G
 refine Dl (Dk _ _ _ hy_14) ?_
 refine Aw ?_
 refine C1 rfl rfl (.build (r:=[.val (.int .i64 0),.val (.string (⟨#[114,115,97,45,114,99,52,45,109,100,53]⟩:ByteArray)),vk y.Alg,vk y.Bits,vk y_2.Alg,vk y_2.Bits,vk y_14.Alg,vk y_14.Bits,vk y_10.Alg,vk y_10.Bits,.val (.int .i64 1),.val (.int .i64 2)]) Jh Lt Pv (by kernel_rfl) rfl) rfl rfl ?_
 refine Aw ?_
 obtain⟨y_15,hy_15,G⟩:=Ab G
 refine Dl (Dk _ _ _ hy_15) ?_
 refine Aw ?_
 refine C1 rfl rfl (.build (r:=[.val (.int .i64 0),.val (.string (⟨#[114,115,97,45,114,99,52,45,115,104,97]⟩:ByteArray)),vk y.Alg,vk y.Bits,vk y_2.Alg,vk y_2.Bits,vk y_15.Alg,vk y_15.Bits,vk y_11.Alg,vk y_11.Bits,.val (.int .i64 1),.val (.int .i64 3)]) Jh Lt Pv (by kernel_rfl) rfl) rfl rfl ?_
 refine Aw ?_
 refine C1 rfl rfl (.build (r:=[.val (.int .i64 0),.val (.string (⟨#[114,115,97,45,100,101,115,51,45,115,104,97]⟩:ByteArray)),vk y.Alg,vk y.Bits,vk y_2.Alg,vk y_2.Bits,vk y_5.Alg,vk y_5.Bits,vk y_11.Alg,vk y_11.Bits,.val (.int .i64 1),.val (.int .i64 3)]) Jh Lt Pv (by kernel_rfl) rfl) rfl rfl ?_
 obtain⟨y_16,hy_16,G⟩:=Ab G
 refine Dl (Dk _ _ _ hy_16) ?_
 refine Aw ?_
 refine C1 rfl rfl (.build (r:=[.val (.int .i64 0),.val (.string (⟨#[100,104,101,45,100,115,97,45,100,101,115,51,45,115,104,97]⟩:ByteArray)),vk y_16.Alg,vk y_16.Bits,vk y_3.Alg,vk y_3.Bits,vk y_5.Alg,vk y_5.Bits,vk y_11.Alg,vk y_11.Bits,.val (.int .i64 1),.val (.int .i64 3)]) Jh Lt Pv (by kernel_rfl) rfl) rfl rfl ?_
 obtain⟨y_17,hy_17,G⟩:=Ab G
 refine Dl (Dk _ _ _ hy_17) ?_
 refine Aw ?_
 refine C1 rfl rfl (.build (r:=[.val (.int .i64 0),.val (.string (⟨#[100,104,101,45,114,115,97,45,100,101,115,51,45,115,104,97]⟩:ByteArray)),vk y_17.Alg,vk y_17.Bits,vk y_2.Alg,vk y_2.Bits,vk y_5.Alg,vk y_5.Bits,vk y_11.Alg,vk y_11.Bits,.val (.int .i64 1),.val (.int .i64 3)]) Jh Lt Pv (by kernel_rfl) rfl) rfl rfl ?_
 refine Aw ?_
 refine C1 rfl rfl (.build (r:=[.val (.int .i64 0),.val (.string (⟨#[114,115,97,45,97,101,115,49,50,56,45,115,104,97]⟩:ByteArray)),vk y.Alg,vk y.Bits,vk y_2.Alg,vk y_2.Bits,vk y_6.Alg,vk y_6.Bits,vk y_11.Alg,vk y_11.Bits,.val (.int .i64 1),.val (.int .i64 3)]) Jh Lt Pv (by kernel_rfl) rfl) rfl rfl ?_
 obtain⟨y_18,hy_18,G⟩:=Ab G
 refine Dl (Dk _ _ _ hy_18) ?_
 refine Aw ?_
 refine C1 rfl rfl (.build (r:=[.val (.int .i64 0),.val (.string (⟨#[100,104,101,45,114,115,97,45,97,101,115,49,50,56,45,115,104,97]⟩:ByteArray)),vk y_18.Alg,vk y_18.Bits,vk y_2.Alg,vk y_2.Bits,vk y_6.Alg,vk y_6.Bits,vk y_11.Alg,vk y_11.Bits,.val (.int .i64 1),.val (.int .i64 3)]) Jh Lt Pv (by kernel_rfl) rfl) rfl rfl ?_
 refine Aw ?_
 refine C1 rfl rfl (.build (r:=[.val (.int .i64 0),.val (.string (⟨#[101,99,100,104,101,45,114,115,97,45,97,101,115,49,50,56,45,115,104,97]⟩:ByteArray)),vk y_13.Alg,vk y_13.Bits,vk y_2.Alg,vk y_2.Bits,vk y_6.Alg,vk y_6.Bits,vk y_11.Alg,vk y_11.Bits,.val (.int .i64 1),.val (.int .i64 3)]) Jh Lt Pv (by kernel_rfl) rfl) rfl rfl ?_
 refine Aw ?_
 obtain⟨y_19,hy_19,G⟩:=Ab G
 refine Dl (Dk _ _ _ hy_19) ?_
 obtain⟨y_20,hy_20,G⟩:=Ab G
 refine Dl (Dk _ _ _ hy_20) ?_
 refine C1 rfl rfl (.build (r:=[.val (.int .i64 0),.val (.string (⟨#[101,99,100,104,101,45,101,99,100,115,97,45,97,101,115,50,53,54,45,115,104,97,50,53,54]⟩:ByteArray)),vk y_13.Alg,vk y_13.Bits,vk y_4.Alg,vk y_4.Bits,vk y_19.Alg,vk y_19.Bits,vk y_20.Alg,vk y_20.Bits,.val (.int .i64 3),.val (.int .i64 3)]) Jh Lt Pv (by kernel_rfl) rfl) rfl rfl ?_
 refine Aw ?_
 refine C1 rfl rfl (.build (r:=[.val (.int .i64 0),.val (.string (⟨#[101,99,100,104,101,45,114,115,97,45,97,101,115,49,50,56,45,103,99,109]⟩:ByteArray)),vk y_13.Alg,vk y_13.Bits,vk y_2.Alg,vk y_2.Bits,vk y_7.Alg,vk y_7.Bits,vk y_12.Alg,vk y_12.Bits,.val (.int .i64 3),.val (.int .i64 3)]) Jh Lt Pv (by kernel_rfl) rfl) rfl rfl ?_
 obtain⟨y_21,hy_21,G⟩:=Ab G
 refine Dl (Dk _ _ _ hy_21) ?_
 refine Aw ?_
 refine C1 rfl rfl (.build (r:=[.val (.int .i64 0),.val (.string (⟨#[101,99,100,104,101,45,101,99,100,115,97,45,97,101,115,50,53,54,45,103,99,109]⟩:ByteArray)),vk y_21.Alg,vk y_21.Bits,vk y_4.Alg,vk y_4.Bits,vk y_8.Alg,vk y_8.Bits,vk y_12.Alg,vk y_12.Bits,.val (.int .i64 3),.val (.int .i64 3)]) Jh Lt Pv (by kernel_rfl) rfl) rfl rfl ?_
 refine Aw ?_
 refine C1 rfl rfl (.build (r:=[.val (.int .i64 0),.val (.string (⟨#[101,99,100,104,101,45,114,115,97,45,99,104,97,99,104,97]⟩:ByteArray)),vk y_13.Alg,vk y_13.Bits,vk y_2.Alg,vk y_2.Bits,vk y_9.Alg,vk y_9.Bits,vk y_12.Alg,vk y_12.Bits,.val (.int .i64 3),.val (.int .i64 3)]) Jh Lt Pv (by kernel_rfl) rfl) rfl rfl ?_
 refine Aw ?_
 refine C1 rfl rfl (.build (r:=[.val (.int .i64 0),.val (.string (⟨#[114,115,97,45,97,101,115,50,53,54,45,103,99,109]⟩:ByteArray)),vk y.Alg,vk y.Bits,vk y_2.Alg,vk y_2.Bits,vk y_8.Alg,vk y_8.Bits,vk y_12.Alg,vk y_12.Bits,.val (.int .i64 3),.val (.int .i64 3)]) Jh Lt Pv (by kernel_rfl) rfl) rfl rfl ?_
 refine Aw ?_
 refine C1 rfl rfl (.build (r:=[.val (.int .i64 0),.val (.string (⟨#[97,101,115,49,50,56,45,103,99,109]⟩:ByteArray)),vk y_13.Alg,vk y_13.Bits,.val (.int .i64 0),.val (.int .i64 0),vk y_7.Alg,vk y_7.Bits,vk y_12.Alg,vk y_12.Bits,.val (.int .i64 4),.val (.int .i64 4)]) Jh Lt Pv (by kernel_rfl) rfl) rfl rfl ?_
 refine Aw ?_
 refine C1 rfl rfl (.build (r:=[.val (.int .i64 0),.val (.string (⟨#[99,104,97,99,104,97]⟩:ByteArray)),vk y_13.Alg,vk y_13.Bits,.val (.int .i64 0),.val (.int .i64 0),vk y_9.Alg,vk y_9.Bits,vk y_12.Alg,vk y_12.Bits,.val (.int .i64 4),.val (.int .i64 4)]) Jh Lt Pv (by kernel_rfl) rfl) rfl rfl ?_
 obtain⟨y_22,hy_22,G⟩:=Ab G
 refine Dl (Dk _ _ _ hy_22) ?_
 refine Aw ?_
 refine C1 rfl rfl (.build (r:=[.val (.int .i64 0),.val (.string (⟨#[109,108,107,101,109,45,97,101,115,50,53,54,45,103,99,109]⟩:ByteArray)),vk y_22.Alg,vk y_22.Bits,.val (.int .i64 0),.val (.int .i64 0),vk y_8.Alg,vk y_8.Bits,vk y_12.Alg,vk y_12.Bits,.val (.int .i64 4),.val (.int .i64 4)]) Jh Lt Pv (by kernel_rfl) rfl) rfl rfl ?_
 refine Kx sJ Pv zY ([(A4.mk 0 (⟨#[114,115,97,45,114,99,52,45,109,100,53]⟩:ByteArray) y y_2 y_14 y_10 1 2),(A4.mk 0 (⟨#[114,115,97,45,114,99,52,45,115,104,97]⟩:ByteArray) y y_2 y_15 y_11 1 3),(A4.mk 0 (⟨#[114,115,97,45,100,101,115,51,45,115,104,97]⟩:ByteArray) y y_2 y_5 y_11 1 3),(A4.mk 0 (⟨#[100,104,101,45,100,115,97,45,100,101,115,51,45,115,104,97]⟩:ByteArray) y_16 y_3 y_5 y_11 1 3),(A4.mk 0 (⟨#[100,104,101,45,114,115,97,45,100,101,115,51,45,115,104,97]⟩:ByteArray) y_17 y_2 y_5 y_11 1 3),(A4.mk 0 (⟨#[114,115,97,45,97,101,115,49,50,56,45,115,104,97]⟩:ByteArray) y y_2 y_6 y_11 1 3),(A4.mk 0 (⟨#[100,104,101,45,114,115,97,45,97,101,115,49,50,56,45,115,104,97]⟩:ByteArray) y_18 y_2 y_6 y_11 1 3),(A4.mk 0 (⟨#[101,99,100,104,101,45,114,115,97,45,97,101,115,49,50,56,45,115,104,97]⟩:ByteArray) y_13 y_2 y_6 y_11 1 3),(A4.mk 0 (⟨#[101,99,100,104,101,45,101,99,100,115,97,45,97,101,115,50,53,54,45,115,104,97,50,53,54]⟩:ByteArray) y_13 y_4 y_19 y_20 3 3),(A4.mk 0 (⟨#[101,99,100,104,101,45,114,115,97,45,97,101,115,49,50,56,45,103,99,109]⟩:ByteArray) y_13 y_2 y_7 y_12 3 3),(A4.mk 0 (⟨#[101,99,100,104,101,45,101,99,100,115,97,45,97,101,115,50,53,54,45,103,99,109]⟩:ByteArray) y_21 y_4 y_8 y_12 3 3),(A4.mk 0 (⟨#[101,99,100,104,101,45,114,115,97,45,99,104,97,99,104,97]⟩:ByteArray) y_13 y_2 y_9 y_12 3 3),(A4.mk 0 (⟨#[114,115,97,45,97,101,115,50,53,54,45,103,99,109]⟩:ByteArray) y y_2 y_8 y_12 3 3),(A4.mk 0 (⟨#[97,101,115,49,50,56,45,103,99,109]⟩:ByteArray) y_13 (Ar.mk 0 0) y_7 y_12 4 4),(A4.mk 0 (⟨#[99,104,97,99,104,97]⟩:ByteArray) y_13 (Ar.mk 0 0) y_9 y_12 4 4),(A4.mk 0 (⟨#[109,108,107,101,109,45,97,101,115,50,53,54,45,103,99,109]⟩:ByteArray) y_22 (Ar.mk 0 0) y_8 y_12 4 4)]:List A4) A4.enc ?_
 refine Bi fun B=>?_
 refine Ak <| Bk 1000 1024 B fun B=>?_
 refine Aq <| Jp (fun ((x114_1,l_1):Int×List A4)=>mk [(15,.row 0),(113,.val (.int .i64 (([(A4.mk 0 (⟨#[114,115,97,45,114,99,52,45,109,100,53]⟩:ByteArray) y y_2 y_14 y_10 1 2),(A4.mk 0 (⟨#[114,115,97,45,114,99,52,45,115,104,97]⟩:ByteArray) y y_2 y_15 y_11 1 3),(A4.mk 0 (⟨#[114,115,97,45,100,101,115,51,45,115,104,97]⟩:ByteArray) y y_2 y_5 y_11 1 3),(A4.mk 0 (⟨#[100,104,101,45,100,115,97,45,100,101,115,51,45,115,104,97]⟩:ByteArray) y_16 y_3 y_5 y_11 1 3),(A4.mk 0 (⟨#[100,104,101,45,114,115,97,45,100,101,115,51,45,115,104,97]⟩:ByteArray) y_17 y_2 y_5 y_11 1 3),(A4.mk 0 (⟨#[114,115,97,45,97,101,115,49,50,56,45,115,104,97]⟩:ByteArray) y y_2 y_6 y_11 1 3),(A4.mk 0 (⟨#[100,104,101,45,114,115,97,45,97,101,115,49,50,56,45,115,104,97]⟩:ByteArray) y_18 y_2 y_6 y_11 1 3),(A4.mk 0 (⟨#[101,99,100,104,101,45,114,115,97,45,97,101,115,49,50,56,45,115,104,97]⟩:ByteArray) y_13 y_2 y_6 y_11 1 3),(A4.mk 0 (⟨#[101,99,100,104,101,45,101,99,100,115,97,45,97,101,115,50,53,54,45,115,104,97,50,53,54]⟩:ByteArray) y_13 y_4 y_19 y_20 3 3),(A4.mk 0 (⟨#[101,99,100,104,101,45,114,115,97,45,97,101,115,49,50,56,45,103,99,109]⟩:ByteArray) y_13 y_2 y_7 y_12 3 3),(A4.mk 0 (⟨#[101,99,100,104,101,45,101,99,100,115,97,45,97,101,115,50,53,54,45,103,99,109]⟩:ByteArray) y_21 y_4 y_8 y_12 3 3),(A4.mk 0 (⟨#[101,99,100,104,101,45,114,115,97,45,99,104,97,99,104,97]⟩:ByteArray) y_13 y_2 y_9 y_12 3 3),(A4.mk 0 (⟨#[114,115,97,45,97,101,115,50,53,54,45,103,99,109]⟩:ByteArray) y y_2 y_8 y_12 3 3),(A4.mk 0 (⟨#[97,101,115,49,50,56,45,103,99,109]⟩:ByteArray) y_13 (Ar.mk 0 0) y_7 y_12 4 4),(A4.mk 0 (⟨#[99,104,97,99,104,97]⟩:ByteArray) y_13 (Ar.mk 0 0) y_9 y_12 4 4),(A4.mk 0 (⟨#[109,108,107,101,109,45,97,101,115,50,53,54,45,103,99,109]⟩:ByteArray) y_22 (Ar.mk 0 0) y_8 y_12 4 4)]:List A4).length:Int))),(114,vk x114_1)] [(0,.row 152 12 (As A4.enc l_1))] 1) G (Av [(0,984)]) ?_
 rintro⟨x114_1,l_1⟩ m1 o1 G hn1
 replace G:Eg.l1 y y_2 y_3 y_4 y_5 y_6 y_7 y_8 y_9 y_10 y_11 y_12 y_13 y_14 y_15 y_16 y_17 y_18 y_19 y_20 y_21 y_22 x114_1 l_1=some o1:=G
 show B4 _ _ _ _ (mk _ _ _)
 unfold Eg.l1 at G
 refine Bk 1 9 Ay fun B=>?_
 refine Ak <| Cr rfl G (fun h8 G=>?_) fun h8 G=>?_
 refine C9 ?_
 refine Ak <| Aq <| Bk 9 25 B fun B=>?_
 refine Al (Ch _ _ []) 25 81 B rfl rfl ?_
 refine Aw ?_
 obtain⟨e,he,G⟩:=Ab G
 refine Aw ?_
 refine Gs (rd:=[0]) rfl rfl (iF Sq rfl (E1 A4.enc_len (B3 he) (o:=0) (m:=1) (by decide) rfl) Oq (cs':=[.int .i64 (W (x114_1 + 1))]) (.cons .int .nil) (aD A4.enc_len (B3 he) (o:=0) (x':=(A4.mk (W (x114_1 + 1)) e.Name e.Exchange e.Sign e.Cipher e.Mac e.Least e.Most)) (aBe rfl) rfl rfl)) rfl rfl ?_
 refine G9 fun B=>?_
 refine Al (Ch _ _ []) 81 97 B rfl rfl ?_
 refine Bi fun B=>?_
 obtain rfl:=oi_ G
 exact⟨((W (x114_1 + 1),C2 l_1 ((x114_1).toNat) (A4.mk (W (x114_1 + 1)) e.Name e.Exchange e.Sign e.Cipher e.Mac e.Least e.Most)),m1),aBj _,hn1,Av [(0,0)]⟩
 refine Jl ?_
 replace G:=Ce G hn1
 refine Bk 9 25 B fun B=>?_
 exact K0
theorem Ym (code:Int) (r:A4×Int) (G:E2 code=some r):Fn Tryz.prog 136 0 [vk code] [] (fun d' b'=>d'=.tup [.agg (A4.dv r.1),vk r.2]/\b'=[]):=by
 unfold E2 at G
 refine Fn.of Tryz.func136 rfl rfl rfl fun w0 I ρ0=>?_
 show B4 _ ⟨w0,I,ρ0,0,0,20⟩ _ _ _
 refine Bk 0 16 Ay fun B=>?_
 refine Ca 16 32 B ?_
 obtain⟨y,hy,G⟩:=Ab G
 refine Dl (Xv _ hy) ?_
 refine Bi fun B=>?_
 refine Ak <| Bs (ι:=Bool) (fun (x13_1:Bool)=>mk [(0,vk code),(2,.ptr 0 0),(4,.sl 12 (As A4.enc y)),(13,.val (.bool x13_1))] [(0,.box [.val (.int .i64 0),.val (.string (⟨#[]⟩:ByteArray)),.val (.int .i64 0),.val (.int .i64 0),.val (.int .i64 0),.val (.int .i64 0),.val (.int .i64 0),.val (.int .i64 0),.val (.int .i64 0),.val (.int .i64 0),.val (.int .i64 0),.val (.int .i64 0)] 152)] 1) (fun (x13_1:Bool)=>E2.j1 code y x13_1=some r) ?_ ?_
 refine Al (Ch _ _ []) 32 96 B rfl rfl ?_
 refine Aw ?_
 rcases Dj G with ⟨h3,G⟩ | ⟨h3,G⟩
 refine Bi fun B=>?_
 exact⟨true,G,Av [(0,0)]⟩
 refine Bi fun B=>?_
 exact⟨decide ((y.length:Int) < code),G,Av [(0,0)]⟩
 rintro x13_1 G
 replace G:E2.j1 code y x13_1=some r:=G
 show B4 _ _ _ _ (mk _ _ _)
 unfold E2.j1 at G
 refine Cr rfl G (fun h6 G=>?_) fun h6 G=>?_
 refine Ca 1 25 Ay ?_
 refine Mv Jh Lt Pv ?_
 exact Df
 refine C9 ?_
 refine Ca 1 57 Ay ?_
 refine Aw ?_
 obtain⟨e,he,G⟩:=Ab G
 refine Aw ?_
 refine Wv he ?_
 exact Df
theorem Vr (l:(List Int)) (r:Bool) (G:Cz l=some r):Fn Tryz.prog 102 0 [.sl 1 (As eI l)] [] (fun d' b'=>d'=.val (.bool r)/\b'=[]):=by
 unfold Cz at G
 refine Fn.of Tryz.func102 rfl rfl rfl fun w0 I ρ0=>?_
 show B4 _ ⟨w0,I,ρ0,0,0,29⟩ _ _ _
 refine Bk 0 8 Ay fun B=>?_
 refine Ak <| Bk 8 32 B fun B=>?_
 refine Aq <| Jp (fun (x9_1:Int)=>mk [(0,.sl 1 (As eI l)),(7,.sl 1 (As eI l)),(8,.val (.int .i64 (l.length:Int))),(9,vk x9_1)] [] 0) G (Av []) ?_
 rintro x9_1 m1 o1 G hn1
 replace G:Cz.l1 l x9_1=some o1:=G
 show B4 _ _ _ _ (mk _ _ _)
 unfold Cz.l1 at G
 refine Bk 0 8 Ay fun B=>?_
 refine Ak <| Cr rfl G (fun h4 G=>?_) fun h4 G=>?_
 refine C9 ?_
 refine Ak <| Aq <| Ca 8 48 B ?_
 refine Aw ?_
 obtain⟨e,he,G⟩:=Ab G
 refine Aw ?_
 refine Rg he ?_
 refine Bi fun B=>?_
 refine Ca 48 112 B ?_
 refine Aw ?_
 obtain⟨y,hy,G⟩:=Ab G
 refine Dl (Ym _ _ hy) ?_
 refine Bi fun B=>?_
 refine Bs (ι:=Bool) (fun (x27_2:Bool)=>mk [(0,.sl 1 (As eI l)),(7,.sl 1 (As eI l)),(8,.val (.int .i64 (l.length:Int))),(9,vk x9_1),(27,.val (.bool x27_2))] [] 0) (fun (x27_2:Bool)=>Cz.j2 x9_1 x27_2=some o1) ?_ ?_
 refine Al (Ch _ _ []) 112 184 B rfl rfl ?_
 refine Aw ?_
 rcases Dj G with ⟨h7,G⟩ | ⟨h7,G⟩
 refine Bi fun B=>?_
 exact⟨true,G,Av []⟩
 refine Aw ?_
 obtain⟨l_2,hl_2,G⟩:=Ab G
 refine C1 (Dx rfl rfl h7) rfl (Mf F0 Ka hl_2) rfl rfl ?_
 refine Aw ?_
 obtain⟨y_2,hy_2,G⟩:=Ab G
 refine Dl (It _ _ _ hy_2) ?_
 refine Bi fun B=>?_
 exact⟨y_2,G,Av []⟩
 rintro x27_2 G
 replace G:Cz.j2 x9_1 x27_2=some o1:=G
 show B4 _ _ _ _ (mk _ _ _)
 unfold Cz.j2 at G
 refine Cr rfl G (fun h10 G=>?_) fun h10 G=>?_
 refine Bk 0 8 Ay fun B=>?_
 refine Fj ?_
 replace G:=Ce G hn1
 exact Ts
 refine C9 ?_
 refine Al (Ch _ _ []) 0 16 Ay rfl rfl ?_
 refine Bi fun B=>?_
 obtain rfl:=oi_ G
 exact⟨(W (x9_1 + 1),m1),aBj _,hn1,Av []⟩
 refine Jl ?_
 replace G:=Ce G hn1
 refine Bk 8 16 B fun B=>?_
 exact K0
theorem N8 (l:(List Int)) (r:Bool) (G:Cm l=some r):Fn Tryz.prog 103 0 [.sl 1 (As eI l)] [] (fun d' b'=>d'=.val (.bool r)/\b'=[]):=by
 unfold Cm at G
 refine Fn.of Tryz.func103 rfl rfl rfl fun w0 I ρ0=>?_
 show B4 _ ⟨w0,I,ρ0,0,0,24⟩ _ _ _
 refine Bk 0 8 Ay fun B=>?_
 refine Ak <| Bk 8 32 B fun B=>?_
 refine Aq <| Jp (fun (x6_1:Int)=>mk [(0,.sl 1 (As eI l)),(5,.val (.int .i64 (l.length:Int))),(6,vk x6_1)] [] 0) G (Av []) ?_
 rintro x6_1 m1 o1 G hn1
 replace G:Cm.l1 l x6_1=some o1:=G
 show B4 _ _ _ _ (mk _ _ _)
 unfold Cm.l1 at G
 refine Bk 0 8 Ay fun B=>?_
 refine Ak <| Cr rfl G (fun h4 G=>?_) fun h4 G=>?_
 refine C9 ?_
 refine Ak <| Aq <| Bk 8 24 B fun B=>?_
 refine Bs (ι:=Bool) (fun (x22_2:Bool)=>mk [(0,.sl 1 (As eI l)),(5,.val (.int .i64 (l.length:Int))),(6,vk x6_1),(22,.val (.bool x22_2))] [] 0) (fun (x22_2:Bool)=>Cm.j2 x6_1 x22_2=some o1) ?_ ?_
 refine Bu (Ch _ _ []) (by kernel_rfl) [0,1,3,7,7,23,63,127,7,7,775,1799,4095,8191] 24 136 B rfl rfl (by kernel_rfl) ?_
 refine Aw ?_
 rcases Dj G with ⟨h6,G⟩ | ⟨h6,G⟩
 refine Aw ?_
 obtain⟨e,he,G⟩:=Ab G
 refine Aw ?_
 refine Rg he ?_
 refine Aw ?_
 obtain⟨e_2,he_2,G⟩:=Ab G
 refine Aw ?_
 refine Rg he_2 ?_
 refine Bi fun B=>?_
 exact⟨decide (e_2<=e),G,Av []⟩
 refine Bi fun B=>?_
 exact⟨false,G,Av []⟩
 rintro x22_2 G
 replace G:Cm.j2 x6_1 x22_2=some o1:=G
 show B4 _ _ _ _ (mk _ _ _)
 unfold Cm.j2 at G
 refine Cr rfl G (fun h9 G=>?_) fun h9 G=>?_
 refine Bk 0 8 Ay fun B=>?_
 refine Fj ?_
 replace G:=Ce G hn1
 exact Ts
 refine C9 ?_
 refine Al (Ch _ _ []) 0 16 Ay rfl rfl ?_
 refine Bi fun B=>?_
 obtain rfl:=oi_ G
 exact⟨(W (x6_1 + 1),m1),aBj _,hn1,Av []⟩
 refine Jl ?_
 replace G:=Ce G hn1
 refine Bk 8 16 B fun B=>?_
 exact K0
theorem Ke (n:Int) (r:Bool) (G:E9 n=some r):Fn Tryz.prog 108 0 [vk n] [] (fun d' b'=>d'=.val (.bool r)/\b'=[]):=by
 unfold E9 at G
 refine Fn.of Tryz.func108 rfl rfl rfl fun w0 I ρ0=>?_
 show B4 _ ⟨w0,I,ρ0,0,0,9⟩ _ _ _
 refine Bk 0 8 Ay fun B=>?_
 refine Ca 8 64 B ?_
 refine Aw ?_
 rcases Dj G with ⟨h2,G⟩ | ⟨h2,G⟩
 exact Df
 exact Df
theorem Ug (l:(List ByteArray)) (r:Bool) (G:Cb l=some r):Fn Tryz.prog 203 0 [.sl 1 (As eS l)] [] (fun d' b'=>d'=.val (.bool r)/\b'=[]):=by
 unfold Cb at G
 refine Fn.of Tryz.func203 rfl rfl rfl fun w0 I ρ0=>?_
 show B4 _ ⟨w0,I,ρ0,0,0,32⟩ _ _ _
 refine Bk 0 8 Ay fun B=>?_
 refine Ak <| Bk 8 32 B fun B=>?_
 refine Aq <| Jp (fun (x7_1:Int)=>mk [(0,.sl 1 (As eS l)),(5,.sl 1 (As eS l)),(6,.val (.int .i64 (l.length:Int))),(7,vk x7_1)] [] 0) G (Av []) ?_
 rintro x7_1 m1 o1 G hn1
 replace G:Cb.l1 l x7_1=some o1:=G
 show B4 _ _ _ _ (mk _ _ _)
 unfold Cb.l1 at G
 refine Bk 0 8 Ay fun B=>?_
 refine Ak <| Cr rfl G (fun h4 G=>?_) fun h4 G=>?_
 refine C9 ?_
 refine Ak <| Aq <| Ca 8 48 B ?_
 refine Aw ?_
 obtain⟨e,he,G⟩:=Ab G
 refine Aw ?_
 refine Rg he ?_
 refine Bi fun B=>?_
 refine Bs (ι:=Bool) (fun (x27_2:Bool)=>mk [(0,.sl 1 (As eS l)),(5,.sl 1 (As eS l)),(6,.val (.int .i64 (l.length:Int))),(7,vk x7_1),(27,.val (.bool x27_2))] [] 0) (fun (x27_2:Bool)=>Cb.j2 x7_1 x27_2=some o1) ?_ ?_
 refine Al (Ch _ _ []) 48 176 B rfl rfl ?_
 refine Aw ?_
 obtain⟨y,hy,G⟩:=Ab G
 refine Dl (I0 _ _ hy) ?_
 refine Aw ?_
 rcases Dj G with ⟨h6,G⟩ | ⟨h6,G⟩
 refine Bi fun B=>?_
 exact⟨true,G,Av []⟩
 refine Aw ?_
 rcases Dj G with ⟨h8,G⟩ | ⟨h8,G⟩
 refine Aw ?_
 obtain⟨e_2,he_2,G⟩:=Ab G
 refine Aw ?_
 refine Rg he_2 ?_
 refine Aw ?_
 refine C1 (Dx rfl rfl h8) rfl lF rfl rfl ?_
 refine Bi fun B=>?_
 exact⟨!L4 (Iv e_2) (Iv e),G,Av []⟩
 refine Bi fun B=>?_
 exact⟨false,G,Av []⟩
 rintro x27_2 G
 replace G:Cb.j2 x7_1 x27_2=some o1:=G
 show B4 _ _ _ _ (mk _ _ _)
 unfold Cb.j2 at G
 refine Cr rfl G (fun h11 G=>?_) fun h11 G=>?_
 refine Bk 0 8 Ay fun B=>?_
 refine Fj ?_
 replace G:=Ce G hn1
 exact Ts
 refine C9 ?_
 refine Al (Ch _ _ []) 0 16 Ay rfl rfl ?_
 refine Bi fun B=>?_
 obtain rfl:=oi_ G
 exact⟨(W (x7_1 + 1),m1),aBj _,hn1,Av []⟩
 refine Jl ?_
 replace G:=Ce G hn1
 refine Bk 8 40 B fun B=>?_
 exact K0
end Go.Proofs.YtkoflhimdenjaaaGreat
