import Derived.Test.YtkoflhimdenjaaaGreatT1
import Derived.Test.YtkoflhimdenjaaaGreatA1
import Derived.Test.YtkoflhimdenjaaaGreatA2
set_option linter.unusedVariables false
set_option linter.unusedSimpArgs false
set_option maxRecDepth 100000
set_option maxHeartbeats 1600000
namespace Go.Proofs.YtkoflhimdenjaaaGreat
open Go.RowKit
theorem fB (s:ByteArray) (r:Bool) (G:Bn s=some r):Fn Tryz.prog 91 0 [ws s] [] (fun d' b'=>d'=.val (.bool r)/\b'=[]):=by
 unfold Bn at G
 refine Fn.of Tryz.func91 rfl rfl rfl fun w0 I ρ0=>?_
 show B4 _ ⟨w0,I,ρ0,0,0,56⟩ _ _ _
 refine Bk 0 8 Ay fun B=>?_
 refine Ak <| Bs (ι:=Bool) (fun (x12_1:Bool)=>mk [(0,ws s),(12,.val (.bool x12_1))] [] 0) (fun (x12_1:Bool)=>Bn.j1 s x12_1=some r) ?_ ?_
 refine Al (Ch _ _ []) 8 72 B rfl rfl ?_
 refine Aw ?_
 refine C1 rfl rfl (Qa S4) rfl rfl ?_
 refine Aw ?_
 rcases Dj G with ⟨h2,G⟩ | ⟨h2,G⟩
 refine Bi fun B=>?_
 exact⟨true,G,Av []⟩
 refine Aw ?_
 refine C1 (Dx rfl rfl h2) rfl (Qa S4) rfl rfl ?_
 refine Bi fun B=>?_
 exact⟨decide (32 < (s.size:Int)),G,Av []⟩
 rintro x12_1 G
 replace G:Bn.j1 s x12_1=some r:=G
 show B4 _ _ _ _ (mk _ _ _)
 unfold Bn.j1 at G
 refine Cr rfl G (fun h5 G=>?_) fun h5 G=>?_
 refine Ca 0 8 Ay ?_
 exact Df
 refine C9 ?_
 refine Ak <| Bk 0 8 Ay fun B=>?_
 refine Aq <| Jp (fun (i_2:Int)=>mk [(0,ws s),(3,vk i_2)] [] 0) G (Av []) ?_
 rintro i_2 m2 o2 G hn2
 replace G:Bn.l2 s i_2=some o2:=G
 show B4 _ _ _ _ (mk _ _ _)
 unfold Bn.l2 at G
 refine Ak <| Ca 0 32 Ay ?_
 refine Aw ?_
 refine C1 rfl rfl (Qa S4) rfl rfl ?_
 refine Bi fun B=>?_
 refine Cr rfl G (fun h9 G=>?_) fun h9 G=>?_
 refine C9 ?_
 refine Ak <| Aq <| Ca 32 64 B ?_
 refine Aw ?_
 obtain⟨c,hc,G⟩:=Ab G
 refine C1 rfl rfl (fU S4 hc) rfl rfl ?_
 refine Bi fun B=>?_
 refine Bs (ι:=Bool) (fun (x55_3:Bool)=>mk [(0,ws s),(3,vk i_2),(55,.val (.bool x55_3))] [] 0) (fun (x55_3:Bool)=>Bn.j3 i_2 x55_3=some o2) ?_ ?_
 refine Al (Ch _ _ []) 64 336 B rfl rfl ?_
 refine Aw ?_
 rcases Dj G with ⟨h11,G⟩ | ⟨h11,G⟩
 refine Aw ?_
 rcases Dj G with ⟨h12,G⟩ | ⟨h12,G⟩
 refine Aw ?_
 rcases Dj G with ⟨h13,G⟩ | ⟨h13,G⟩
 refine Aw ?_
 rcases Dj G with ⟨h14,G⟩ | ⟨h14,G⟩
 refine Aw ?_
 rcases Dj G with ⟨h15,G⟩ | ⟨h15,G⟩
 refine Bi fun B=>?_
 exact⟨!decide ((c.toNat:Int)=46),G,Av []⟩
 refine Bi fun B=>?_
 exact⟨false,G,Av []⟩
 refine Bi fun B=>?_
 exact⟨false,G,Av []⟩
 refine Aw ?_
 rcases Dj G with ⟨h19,G⟩ | ⟨h19,G⟩
 refine Aw ?_
 rcases Dj G with ⟨h20,G⟩ | ⟨h20,G⟩
 refine Aw ?_
 rcases Dj G with ⟨h21,G⟩ | ⟨h21,G⟩
 refine Bi fun B=>?_
 exact⟨!decide ((c.toNat:Int)=46),G,Av []⟩
 refine Bi fun B=>?_
 exact⟨false,G,Av []⟩
 refine Bi fun B=>?_
 exact⟨false,G,Av []⟩
 refine Bi fun B=>?_
 exact⟨false,G,Av []⟩
 refine Aw ?_
 rcases Dj G with ⟨h26,G⟩ | ⟨h26,G⟩
 refine Aw ?_
 rcases Dj G with ⟨h27,G⟩ | ⟨h27,G⟩
 refine Aw ?_
 rcases Dj G with ⟨h28,G⟩ | ⟨h28,G⟩
 refine Aw ?_
 rcases Dj G with ⟨h29,G⟩ | ⟨h29,G⟩
 refine Bi fun B=>?_
 exact⟨!decide ((c.toNat:Int)=46),G,Av []⟩
 refine Bi fun B=>?_
 exact⟨false,G,Av []⟩
 refine Bi fun B=>?_
 exact⟨false,G,Av []⟩
 refine Aw ?_
 rcases Dj G with ⟨h33,G⟩ | ⟨h33,G⟩
 refine Aw ?_
 rcases Dj G with ⟨h34,G⟩ | ⟨h34,G⟩
 refine Aw ?_
 rcases Dj G with ⟨h35,G⟩ | ⟨h35,G⟩
 refine Bi fun B=>?_
 exact⟨!decide ((c.toNat:Int)=46),G,Av []⟩
 refine Bi fun B=>?_
 exact⟨false,G,Av []⟩
 refine Bi fun B=>?_
 exact⟨false,G,Av []⟩
 refine Bi fun B=>?_
 exact⟨false,G,Av []⟩
 refine Bi fun B=>?_
 exact⟨false,G,Av []⟩
 refine Aw ?_
 rcases Dj G with ⟨h41,G⟩ | ⟨h41,G⟩
 refine Aw ?_
 rcases Dj G with ⟨h42,G⟩ | ⟨h42,G⟩
 refine Aw ?_
 rcases Dj G with ⟨h43,G⟩ | ⟨h43,G⟩
 refine Aw ?_
 rcases Dj G with ⟨h44,G⟩ | ⟨h44,G⟩
 refine Aw ?_
 rcases Dj G with ⟨h45,G⟩ | ⟨h45,G⟩
 refine Bi fun B=>?_
 exact⟨!decide ((c.toNat:Int)=46),G,Av []⟩
 refine Bi fun B=>?_
 exact⟨false,G,Av []⟩
 refine Bi fun B=>?_
 exact⟨false,G,Av []⟩
 refine Aw ?_
 rcases Dj G with ⟨h49,G⟩ | ⟨h49,G⟩
 refine Aw ?_
 rcases Dj G with ⟨h50,G⟩ | ⟨h50,G⟩
 refine Aw ?_
 rcases Dj G with ⟨h51,G⟩ | ⟨h51,G⟩
 refine Bi fun B=>?_
 exact⟨!decide ((c.toNat:Int)=46),G,Av []⟩
 refine Bi fun B=>?_
 exact⟨false,G,Av []⟩
 refine Bi fun B=>?_
 exact⟨false,G,Av []⟩
 refine Bi fun B=>?_
 exact⟨false,G,Av []⟩
 refine Aw ?_
 rcases Dj G with ⟨h56,G⟩ | ⟨h56,G⟩
 refine Aw ?_
 rcases Dj G with ⟨h57,G⟩ | ⟨h57,G⟩
 refine Aw ?_
 rcases Dj G with ⟨h58,G⟩ | ⟨h58,G⟩
 refine Aw ?_
 rcases Dj G with ⟨h59,G⟩ | ⟨h59,G⟩
 refine Bi fun B=>?_
 exact⟨!decide ((c.toNat:Int)=46),G,Av []⟩
 refine Bi fun B=>?_
 exact⟨false,G,Av []⟩
 refine Bi fun B=>?_
 exact⟨false,G,Av []⟩
 refine Aw ?_
 rcases Dj G with ⟨h63,G⟩ | ⟨h63,G⟩
 refine Aw ?_
 rcases Dj G with ⟨h64,G⟩ | ⟨h64,G⟩
 refine Aw ?_
 rcases Dj G with ⟨h65,G⟩ | ⟨h65,G⟩
 refine Bi fun B=>?_
 exact⟨!decide ((c.toNat:Int)=46),G,Av []⟩
 refine Bi fun B=>?_
 exact⟨false,G,Av []⟩
 refine Bi fun B=>?_
 exact⟨false,G,Av []⟩
 refine Bi fun B=>?_
 exact⟨false,G,Av []⟩
 refine Bi fun B=>?_
 exact⟨false,G,Av []⟩
 refine Bi fun B=>?_
 exact⟨false,G,Av []⟩
 rintro x55_3 G
 replace G:Bn.j3 i_2 x55_3=some o2:=G
 show B4 _ _ _ _ (mk _ _ _)
 unfold Bn.j3 at G
 refine Cr rfl G (fun h72 G=>?_) fun h72 G=>?_
 refine Bk 0 8 Ay fun B=>?_
 refine Fj ?_
 replace G:=Ce G hn2
 exact Ts
 refine C9 ?_
 refine Al (Ch _ _ []) 0 24 Ay rfl rfl ?_
 refine Bi fun B=>?_
 obtain rfl:=oi_ G
 exact⟨(W (i_2 + 1),m2),aBj _,hn2,Av []⟩
 refine Jl ?_
 replace G:=Ce G hn2
 refine Bk 32 40 B fun B=>?_
 exact K0
theorem D2 (alg:Int) (bits:Int) (r:Ar) (G:Ds alg bits=some r):Fn Tryz.prog 170 0 [vk alg,vk bits] [] (fun d' b'=>d'=.agg [vk r.Alg,vk r.Bits]/\b'=[]):=by
 unfold Ds at G
 refine Fn.of Tryz.func170 rfl rfl rfl fun w0 I ρ0=>?_
 show B4 _ ⟨w0,I,ρ0,0,0,8⟩ _ _ _
 refine Bk 0 8 Ay fun B=>?_
 refine Ca 8 40 B ?_
 refine Aw ?_
 refine Mv Kv Qd X1 ?_
 exact Df
theorem Ee (code:Int) (name:ByteArray) (exchange:Ar) (sign:Ar) (cipher:Ar) (mac:Ar) (least:Int) (most:Int) (r:A4) (G:Dy code name exchange sign cipher mac least most=some r):Fn Tryz.prog 171 0 [vk code,ws name,.agg [vk exchange.Alg,vk exchange.Bits],.agg [vk sign.Alg,vk sign.Bits],.agg [vk cipher.Alg,vk cipher.Bits],.agg [vk mac.Alg,vk mac.Bits],vk least,vk most] [] (fun d' b'=>d'=.agg (A4.dv r)/\b'=[]):=by
 unfold Dy at G
 refine Fn.of Tryz.func171 rfl rfl rfl fun w0 I ρ0=>?_
 show B4 _ ⟨w0,I,ρ0,0,0,26⟩ _ _ _
 refine Bk 0 40 Ay fun B=>?_
 refine Ca 40 120 B ?_
 refine Aw ?_
 refine Mv Jh Lt Pv ?_
 exact Df
theorem Z0  (r:(List A4)) (G:Kq=some r):Fn Tryz.prog 123 0 [] [] (fun d' b'=>d'=.sl 12 (As A4.enc r)/\b'=[]):=by
 unfold Kq at G
 refine Fn.of Tryz.func123 rfl rfl rfl fun w0 I ρ0=>?_
 show B4 _ ⟨w0,I,ρ0,0,0,110⟩ _ _ _
 refine Bk 0 8 Ay fun B=>?_
 refine Ca 8 80 B ?_
 obtain⟨y,hy,G⟩:=Ab G
 refine Dl (D2 _ _ _ hy) ?_
 obtain⟨y_2,hy_2,G⟩:=Ab G
 refine Dl (D2 _ _ _ hy_2) ?_
 refine Mv Kv Qd X1 ?_
 refine Bi fun B=>?_
 refine Ca 80 128 B ?_
 obtain⟨y_3,hy_3,G⟩:=Ab G
 refine Dl (D2 _ _ _ hy_3) ?_
 obtain⟨y_4,hy_4,G⟩:=Ab G
 refine Dl (D2 _ _ _ hy_4) ?_
 refine Bi fun B=>?_
 refine Ca 128 200 B ?_
 obtain⟨y_5,hy_5,G⟩:=Ab G
 refine Dl (D2 _ _ _ hy_5) ?_
 obtain⟨y_6,hy_6,G⟩:=Ab G
 refine Dl (D2 _ _ _ hy_6) ?_
 obtain⟨y_7,hy_7,G⟩:=Ab G
 refine Dl (D2 _ _ _ hy_7) ?_
 refine Bi fun B=>?_
 refine Ca 200 296 B ?_
 obtain⟨y_8,hy_8,G⟩:=Ab G
 refine Dl (D2 _ _ _ hy_8) ?_
 obtain⟨y_9,hy_9,G⟩:=Ab G
 refine Dl (D2 _ _ _ hy_9) ?_
 obtain⟨y_10,hy_10,G⟩:=Ab G
 refine Dl (D2 _ _ _ hy_10) ?_
 obtain⟨y_11,hy_11,G⟩:=Ab G
 refine Dl (D2 _ _ _ hy_11) ?_
 refine Bi fun B=>?_
 refine Ca 296 344 B ?_
 obtain⟨y_12,hy_12,G⟩:=Ab G
 refine Dl (D2 _ _ _ hy_12) ?_
 obtain⟨y_13,hy_13,G⟩:=Ab G
 refine Dl (D2 _ _ _ hy_13) ?_
 refine Bi fun B=>?_
 refine Ak <| Bu (Ch _ _ []) (by kernel_rfl) [0,0,0,0,15,0,0,0,0,511,0,0,0,0,16383,32767,65535,0,0,524287,1048575,0,0,0,16777215,0,0,0,0,536870911,1073741823,0,0,0,17179869183,0,0,0,0,549755813887,0,1099511627775,3298534883327,0,17592186044415,0,0,0,0,562949953421311,1125899906842623,2251799813685247,0,0,18014398509481983,0,0,0,0,576460752303423487,0,0,0,0,18446744073709551615,0,0,0,0,590295810358705651711,0,0,0,0,18889465931478580854783,37778931862957161709567,0,0,0,604462909807314587353087,1208925819614629174706175,2417851639229258349412351] 344 1000 B rfl rfl (by kernel_rfl) ?_
 refine Aw ?_
 obtain⟨y_14,hy_14,G⟩:=Ab G
 refine Dl (Ee _ _ _ _ _ _ _ _ _ hy_14) ?_
 refine Aw ?_
 obtain⟨y_15,hy_15,G⟩:=Ab G
 refine Dl (Ee _ _ _ _ _ _ _ _ _ hy_15) ?_
 refine Aw ?_
 obtain⟨y_16,hy_16,G⟩:=Ab G
 refine Dl (Ee _ _ _ _ _ _ _ _ _ hy_16) ?_
 obtain⟨y_17,hy_17,G⟩:=Ab G
 refine Dl (D2 _ _ _ hy_17) ?_
 obtain⟨y_18,hy_18,G⟩:=Ab G
 refine Dl (D2 _ _ _ hy_18) ?_
 refine Aw ?_
 obtain⟨y_19,hy_19,G⟩:=Ab G
 refine Dl (Ee _ _ _ _ _ _ _ _ _ hy_19) ?_
 obtain⟨y_20,hy_20,G⟩:=Ab G
 refine Dl (D2 _ _ _ hy_20) ?_
 refine Aw ?_
 obtain⟨y_21,hy_21,G⟩:=Ab G
 refine Dl (Ee _ _ _ _ _ _ _ _ _ hy_21) ?_
 refine Aw ?_
 obtain⟨y_22,hy_22,G⟩:=Ab G
 refine Dl (Ee _ _ _ _ _ _ _ _ _ hy_22) ?_
 obtain⟨y_23,hy_23,G⟩:=Ab G
 refine Dl (D2 _ _ _ hy_23) ?_
 refine Aw ?_
 obtain⟨y_24,hy_24,G⟩:=Ab G
 refine Dl (Ee _ _ _ _ _ _ _ _ _ hy_24) ?_
 refine Aw ?_
 obtain⟨y_25,hy_25,G⟩:=Ab G
 refine Dl (Ee _ _ _ _ _ _ _ _ _ hy_25) ?_
 refine Aw ?_
 obtain⟨y_26,hy_26,G⟩:=Ab G
 refine Dl (D2 _ _ _ hy_26) ?_
 obtain⟨y_27,hy_27,G⟩:=Ab G
 refine Dl (D2 _ _ _ hy_27) ?_
 refine Aw ?_
 obtain⟨y_28,hy_28,G⟩:=Ab G
 refine Dl (Ee _ _ _ _ _ _ _ _ _ hy_28) ?_
 refine Aw ?_
 obtain⟨y_29,hy_29,G⟩:=Ab G
 refine Dl (Ee _ _ _ _ _ _ _ _ _ hy_29) ?_
 obtain⟨y_30,hy_30,G⟩:=Ab G
 refine Dl (D2 _ _ _ hy_30) ?_
 obtain⟨y_31,hy_31,G⟩:=Ab G
 refine Dl (D2 _ _ _ hy_31) ?_
 refine Aw ?_
 obtain⟨y_32,hy_32,G⟩:=Ab G
 refine Dl (Ee _ _ _ _ _ _ _ _ _ hy_32) ?_
 refine Aw ?_
 obtain⟨y_33,hy_33,G⟩:=Ab G
 refine Dl (Ee _ _ _ _ _ _ _ _ _ hy_33) ?_
 refine Aw ?_
 obtain⟨y_34,hy_34,G⟩:=Ab G
 refine Dl (Ee _ _ _ _ _ _ _ _ _ hy_34) ?_
 refine Aw ?_
 obtain⟨y_35,hy_35,G⟩:=Ab G
 refine Dl (Ee _ _ _ _ _ _ _ _ _ hy_35) ?_
 refine Aw ?_
 obtain⟨y_36,hy_36,G⟩:=Ab G
 refine Dl (Ee _ _ _ _ _ _ _ _ _ hy_36) ?_
 obtain⟨y_37,hy_37,G⟩:=Ab G
 refine Dl (D2 _ _ _ hy_37) ?_
 refine Aw ?_
 obtain⟨y_38,hy_38,G⟩:=Ab G
 refine Dl (Ee _ _ _ _ _ _ _ _ _ hy_38) ?_
 refine Kx sJ Pv zY ([y_14,y_15,y_16,y_19,y_21,y_22,y_24,y_25,y_28,y_29,y_32,y_33,y_34,y_35,y_36,y_38]:List A4) A4.enc ?_
 exact Df
theorem cB (code:Int) (r:A4×Int) (G:Fs code=some r):Fn Tryz.prog 92 0 [vk code] [] (fun d' b'=>d'=.tup [.agg (A4.dv r.1),vk r.2]/\b'=[]):=by
 unfold Fs at G
 refine Fn.of Tryz.func92 rfl rfl rfl fun w0 I ρ0=>?_
 show B4 _ ⟨w0,I,ρ0,0,0,16⟩ _ _ _
 refine Bk 0 16 Ay fun B=>?_
 refine Ak <| Bs (ι:=Bool) (fun (x9_1:Bool)=>mk [(0,vk code),(2,.ptr 0 0),(9,.val (.bool x9_1))] [(0,.box [.val (.int .i64 0),.val (.string (⟨#[]⟩:ByteArray)),.val (.int .i64 0),.val (.int .i64 0),.val (.int .i64 0),.val (.int .i64 0),.val (.int .i64 0),.val (.int .i64 0),.val (.int .i64 0),.val (.int .i64 0),.val (.int .i64 0),.val (.int .i64 0)] 152)] 1) (fun (x9_1:Bool)=>Fs.j1 code x9_1=some r) ?_ ?_
 refine Al (Ch _ _ []) 16 64 B rfl rfl ?_
 refine Aw ?_
 rcases Dj G with ⟨h2,G⟩ | ⟨h2,G⟩
 refine Bi fun B=>?_
 exact⟨true,G,Av [(0,0)]⟩
 refine Bi fun B=>?_
 exact⟨decide (16 < code),G,Av [(0,0)]⟩
 rintro x9_1 G
 replace G:Fs.j1 code x9_1=some r:=G
 show B4 _ _ _ _ (mk _ _ _)
 unfold Fs.j1 at G
 refine Cr rfl G (fun h5 G=>?_) fun h5 G=>?_
 refine Ca 1 25 Ay ?_
 refine Mv Jh Lt Pv ?_
 exact Df
 refine C9 ?_
 refine Ca 1 57 Ay ?_
 obtain⟨y,hy,G⟩:=Ab G
 refine Dl (Z0 _ hy) ?_
 refine Aw ?_
 obtain⟨e,he,G⟩:=Ab G
 refine Aw ?_
 refine Wv he ?_
 exact Df
theorem jM (l:(List Int)) (n:Int) (r:Bool) (G:F1 l n=some r):Fn Tryz.prog 93 0 [.sl 1 (As eI l),vk n] [] (fun d' b'=>d'=.val (.bool r)/\b'=[]):=by
 unfold F1 at G
 refine Fn.of Tryz.func93 rfl rfl rfl fun w0 I ρ0=>?_
 show B4 _ ⟨w0,I,ρ0,0,0,18⟩ _ _ _
 refine Bk 0 8 Ay fun B=>?_
 refine Ak <| Bk 8 16 B fun B=>?_
 refine Aq <| Jp (fun (i_1:Int)=>mk [(0,.sl 1 (As eI l)),(1,vk n),(5,vk i_1)] [] 0) G (Av []) ?_
 rintro i_1 m1 o1 G hn1
 replace G:F1.l1 l n i_1=some o1:=G
 show B4 _ _ _ _ (mk _ _ _)
 unfold F1.l1 at G
 refine Ak <| Bk 0 32 Ay fun B=>?_
 refine Cr rfl G (fun h4 G=>?_) fun h4 G=>?_
 refine C9 ?_
 refine Ak <| Aq <| Ca 32 80 B ?_
 refine Aw ?_
 obtain⟨e,he,G⟩:=Ab G
 refine Aw ?_
 refine Rg he ?_
 refine Bi fun B=>?_
 refine Cr rfl G (fun h6 G=>?_) fun h6 G=>?_
 refine Bk 80 88 B fun B=>?_
 refine Fj ?_
 replace G:=Ce G hn1
 exact Ts
 refine C9 ?_
 refine Al (Ch _ _ []) 80 104 B rfl rfl ?_
 refine Bi fun B=>?_
 obtain rfl:=oi_ G
 exact⟨(W (i_1 + 1),m1),aBj _,hn1,Av []⟩
 refine Jl ?_
 replace G:=Ce G hn1
 refine Bk 32 40 B fun B=>?_
 exact K0
theorem bW (key:Ar) (id:Int) (chain:(List Ae)) (r:Bool) (G:Dd key id chain=some r):Fn Tryz.prog 94 0 [.agg [vk key.Alg,vk key.Bits],vk id,.sl 15 (As Ae.enc chain)] [] (fun d' b'=>d'=.val (.bool r)/\b'=[]):=by
 unfold Dd at G
 refine Fn.of Tryz.func94 rfl rfl rfl fun w0 I ρ0=>?_
 show B4 _ ⟨w0,I,ρ0,0,0,55⟩ _ _ _
 refine Bk 0 16 Ay fun B=>?_
 refine Ak <| Bs (ι:=Bool) (fun (x23_1:Bool)=>mk [(1,vk id),(2,.sl 15 (As Ae.enc chain)),(3,.ptr 0 0),(23,.val (.bool x23_1))] [(0,.box [vk key.Alg,vk key.Bits] 34)] 1) (fun (x23_1:Bool)=>Dd.j1 key id chain x23_1=some r) ?_ ?_
 refine Al (Ch _ _ []) 16 144 B rfl rfl ?_
 refine Aw ?_
 obtain⟨y,hy,G⟩:=Ab G
 refine Dl (Py _ _ hy) ?_
 refine Aw ?_
 rcases Dj G with ⟨h2,G⟩ | ⟨h2,G⟩
 refine Bi fun B=>?_
 exact⟨true,G,Av [(0,0)]⟩
 refine Aw ?_
 rcases Dj G with ⟨h4,G⟩ | ⟨h4,G⟩
 refine Bi fun B=>?_
 exact⟨true,G,Av [(0,0)]⟩
 refine Aw ?_
 rcases Dj G with ⟨h6,G⟩ | ⟨h6,G⟩
 refine Bi fun B=>?_
 exact⟨true,G,Av [(0,0)]⟩
 refine Bi fun B=>?_
 exact⟨decide (8 < (chain.length:Int)),G,Av [(0,0)]⟩
 rintro x23_1 G
 replace G:Dd.j1 key id chain x23_1=some r:=G
 show B4 _ _ _ _ (mk _ _ _)
 unfold Dd.j1 at G
 refine Cr rfl G (fun h9 G=>?_) fun h9 G=>?_
 refine Ca 1 9 Ay ?_
 exact Df
 refine C9 ?_
 refine Ak <| Bk 1 9 Ay fun B=>?_
 refine Aq <| Jp (fun (i_2:Int)=>mk [(1,vk id),(2,.sl 15 (As Ae.enc chain)),(3,.ptr 0 0),(7,vk i_2)] [(0,.box [vk key.Alg,vk key.Bits] 34)] 1) G (Av [(0,0)]) ?_
 rintro i_2 m2 o2 G hn2
 replace G:Dd.l2 key id chain i_2=some o2:=G
 show B4 _ _ _ _ (mk _ _ _)
 unfold Dd.l2 at G
 refine Ak <| Bk 1 33 Ay fun B=>?_
 refine Cr rfl G (fun h13 G=>?_) fun h13 G=>?_
 refine C9 ?_
 refine Ak <| Aq <| Ca 33 81 B ?_
 refine Aw ?_
 obtain⟨e,he,G⟩:=Ab G
 refine Aw ?_
 refine Wv he ?_
 obtain⟨y_2,hy_2,G⟩:=Ab G
 refine Dl (Qc _ _ hy_2) ?_
 refine Bi fun B=>?_
 refine Cr rfl G (fun h15 G=>?_) fun h15 G=>?_
 refine Bk 81 89 B fun B=>?_
 refine Fj ?_
 replace G:=Ce G hn2
 exact Ts
 refine C9 ?_
 refine Al (Ch _ _ []) 81 105 B rfl rfl ?_
 refine Bi fun B=>?_
 obtain rfl:=oi_ G
 exact⟨(W (i_2 + 1),m2),aBj _,hn2,Av [(0,0)]⟩
 refine Jl ?_
 replace G:=Ce G hn2
 refine Ak <| Bu (Ch _ _ []) (by kernel_rfl) [0,1,3,7,15,31,63,127,15,511,1023,2047,4095,8191,16383,2047,65535,131071,262143,524287] 33 193 B rfl rfl (by kernel_rfl) ?_
 refine Aw ?_
 rcases Dj G with ⟨h18,G⟩ | ⟨h18,G⟩
 exact Df
 refine Aw ?_
 obtain⟨e_2,he_2,G⟩:=Ab G
 refine Aw ?_
 refine C1 (Dx rfl rfl h18) rfl (Fa eQ Zy (by decide) (Jb Ae.enc_len (B3 he_2) (o:=3) (by decide) rfl)) rfl rfl ?_
 refine C1 (Dx rfl rfl h18) rfl (D4 Zy (Hi Ae.enc_len (B3 he_2) (o:=3) (m:=2) (cs:=[.int .i64 e_2.Key.Alg,.int .i64 e_2.Key.Bits]) rfl (by decide) rfl) (E1 Ae.enc_len (B3 he_2) (o:=3) (m:=2) (by decide) rfl)) rfl rfl ?_
 refine Aw ?_
 refine C1 (Dx rfl rfl h18) rfl (Pl e_2.Key key) rfl rfl ?_
 refine Aw ?_
 rcases Dj G with ⟨h20,G⟩ | ⟨h20,G⟩
 refine Aw ?_
 refine C1 (Dx rfl rfl h20) rfl (Fa dP Sq (by decide) (Jb Ae.enc_len (B3 he_2) (o:=5) (by decide) rfl)) rfl rfl ?_
 refine C1 (Dx rfl rfl h20) rfl (Da Sq (Eo Ae.enc_len (B3 he_2) (o:=5) (c:=.int .i64 e_2.KeyId) rfl rfl)) rfl rfl ?_
 exact Df
 exact Df
theorem Qb (e:Af) (r:Int) (G:A5 e=some r):Fn Tryz.prog 62 0 [.agg (Af.dv e)] [] (fun d' b'=>d'=vk r/\b'=[]):=by
 unfold A5 at G
 refine Fn.of Tryz.func62 rfl rfl rfl fun w0 I ρ0=>?_
 show B4 _ ⟨w0,I,ρ0,0,0,176⟩ _ _ _
 refine Bk 0 16 Ay fun B=>?_
 refine Ak <| Bs (ι:=Bool) (fun (x47_1:Bool)=>mk [(1,.ptr 0 0),(47,.val (.bool x47_1))] [(0,.box (Af.dv e) 43)] 1) (fun (x47_1:Bool)=>A5.j1 e x47_1=some r) ?_ ?_
 refine Al (Ch _ _ []) 16 328 B rfl rfl ?_
 refine Aw ?_
 obtain⟨y,hy,G⟩:=Ab G
 refine Dl (fB _ _ hy) ?_
 refine Aw ?_
 rcases Dj G with ⟨h2,G⟩ | ⟨h2,G⟩
 refine Bi fun B=>?_
 exact⟨true,G,Av [(0,0)]⟩
 refine Aw ?_
 rcases Dj G with ⟨h4,G⟩ | ⟨h4,G⟩
 refine Bi fun B=>?_
 exact⟨true,G,Av [(0,0)]⟩
 refine Aw ?_
 rcases Dj G with ⟨h6,G⟩ | ⟨h6,G⟩
 refine Bi fun B=>?_
 exact⟨true,G,Av [(0,0)]⟩
 refine Aw ?_
 rcases Dj G with ⟨h8,G⟩ | ⟨h8,G⟩
 refine Bi fun B=>?_
 exact⟨true,G,Av [(0,0)]⟩
 refine Aw ?_
 rcases Dj G with ⟨h10,G⟩ | ⟨h10,G⟩
 refine Bi fun B=>?_
 exact⟨true,G,Av [(0,0)]⟩
 refine Aw ?_
 rcases Dj G with ⟨h12,G⟩ | ⟨h12,G⟩
 refine Bi fun B=>?_
 exact⟨true,G,Av [(0,0)]⟩
 refine Bi fun B=>?_
 exact⟨decide (16 < (e.Anchors.length:Int)),G,Av [(0,0)]⟩
 rintro x47_1 G
 replace G:A5.j1 e x47_1=some r:=G
 show B4 _ _ _ _ (mk _ _ _)
 unfold A5.j1 at G
 refine Cr rfl G (fun h15 G=>?_) fun h15 G=>?_
 refine Ca 1 9 Ay ?_
 exact Df
 refine C9 ?_
 refine Ak <| Bk 1 9 Ay fun B=>?_
 refine Aq <| Jp (fun (i_2:Int)=>mk [(1,.ptr 0 0),(3,vk i_2)] [(0,.box (Af.dv e) 43)] 1) G (Av [(0,0)]) ?_
 rintro i_2 m2 o2 G hn2
 replace G:A5.l2 e i_2=some o2:=G
 show B4 _ _ _ _ (mk _ _ _)
 unfold A5.l2 at G
 refine Ak <| Bk 1 41 Ay fun B=>?_
 refine Cr rfl G (fun h19 G=>?_) fun h19 G=>?_
 refine C9 ?_
 refine Ak <| Aq <| Ca 41 137 B ?_
 refine Aw ?_
 obtain⟨e_2,he_2,G⟩:=Ab G
 refine Aw ?_
 refine Rg he_2 ?_
 obtain⟨y_2,hy_2,G⟩:=Ab G
 refine Dl (cB _ _ hy_2) ?_
 refine Bi fun B=>?_
 refine Bs (ι:=Bool) (fun (x77_3:Bool)=>mk [(1,.ptr 0 0),(3,vk i_2),(77,.val (.bool x77_3))] [(0,.box (Af.dv e) 43)] 1) (fun (x77_3:Bool)=>A5.j3 i_2 x77_3=some o2) ?_ ?_
 refine Bu (Ch _ _ []) (by kernel_rfl) [0,1,3,7,15,7,63,7,135,7,903,1927,4095,8191] 137 249 B rfl rfl (by kernel_rfl) ?_
 refine Aw ?_
 rcases Dj G with ⟨h21,G⟩ | ⟨h21,G⟩
 refine Bi fun B=>?_
 exact⟨true,G,Av [(0,0)]⟩
 refine Aw ?_
 obtain⟨l,hl,G⟩:=Ab G
 refine C1 (Dx rfl rfl h21) rfl (Mf F0 Ka hl) rfl rfl ?_
 refine Aw ?_
 refine Rg he_2 ?_
 obtain⟨y_3,hy_3,G⟩:=Ab G
 refine Dl (jM _ _ _ hy_3) ?_
 refine Bi fun B=>?_
 exact⟨y_3,G,Av [(0,0)]⟩
 rintro x77_3 G
 replace G:A5.j3 i_2 x77_3=some o2:=G
 show B4 _ _ _ _ (mk _ _ _)
 unfold A5.j3 at G
 refine Cr rfl G (fun h24 G=>?_) fun h24 G=>?_
 refine Bk 1 9 Ay fun B=>?_
 refine Fj ?_
 replace G:=Ce G hn2
 exact Ts
 refine C9 ?_
 refine Al (Ch _ _ []) 1 25 Ay rfl rfl ?_
 refine Bi fun B=>?_
 obtain rfl:=oi_ G
 exact⟨(W (i_2 + 1),m2),aBj _,hn2,Av [(0,0)]⟩
 refine Jl ?_
 replace G:=Ce G hn2
 refine Ak <| Bk 41 49 B fun B=>?_
 refine Aq <| Jp (fun (i_4:Int)=>mk [(1,.ptr 0 0),(6,vk i_4)] [(0,.box (Af.dv e) 43)] 1) G (Av [(0,0)]) ?_
 rintro i_4 m4 o4 G hn4
 replace G:A5.l4 e i_4=some o4:=G
 show B4 _ _ _ _ (mk _ _ _)
 unfold A5.l4 at G
 refine Ak <| Bk 1 41 Ay fun B=>?_
 refine Cr rfl G (fun h29 G=>?_) fun h29 G=>?_
 refine C9 ?_
 refine Ak <| Aq <| Ak <| Bu (Ch _ _ []) (by kernel_rfl) [0,1,0,7,15,31,0,64,0,448,960,1984,0,4096,0,28672,61440,126976,262143,524287] 41 201 B rfl rfl (by kernel_rfl) ?_
 refine Aw ?_
 obtain⟨e_3,he_3,G⟩:=Ab G
 refine Aw ?_
 refine C1 rfl rfl (Fa rZ Zy (by decide) (Jb Am.enc_len (B3 he_3) (o:=0) (by decide) rfl)) rfl rfl ?_
 refine C1 rfl rfl (D4 Zy (Hi Am.enc_len (B3 he_3) (o:=0) (m:=2) (cs:=[.int .i64 e_3.Key.Alg,.int .i64 e_3.Key.Bits]) rfl (by decide) rfl) (E1 Am.enc_len (B3 he_3) (o:=0) (m:=2) (by decide) rfl)) rfl rfl ?_
 refine Aw ?_
 refine C1 rfl rfl (Fa lX Sq (by decide) (Jb Am.enc_len (B3 he_3) (o:=2) (by decide) rfl)) rfl rfl ?_
 refine C1 rfl rfl (Da Sq (Eo Am.enc_len (B3 he_3) (o:=2) (c:=.int .i64 e_3.KeyId) rfl rfl)) rfl rfl ?_
 refine Aw ?_
 refine C1 rfl rfl (Fa qU aDp (by decide) (Jb Am.enc_len (B3 he_3) (o:=3) (by decide) rfl)) rfl rfl ?_
 refine C1 rfl rfl (Da aDp (Eo Am.enc_len (B3 he_3) (o:=3) (c:=.sl 15 (As Ae.enc e_3.Chain)) rfl rfl)) rfl rfl ?_
 obtain⟨y_4,hy_4,G⟩:=Ab G
 refine Dl (bW _ _ _ _ hy_4) ?_
 refine Bi fun B=>?_
 refine Cr rfl G (fun h31 G=>?_) fun h31 G=>?_
 refine Bk 201 209 B fun B=>?_
 refine Fj ?_
 replace G:=Ce G hn4
 exact Ts
 refine C9 ?_
 refine Al (Ch _ _ []) 201 225 B rfl rfl ?_
 refine Bi fun B=>?_
 obtain rfl:=oi_ G
 exact⟨(W (i_4 + 1),m4),aBj _,hn4,Av [(0,0)]⟩
 refine Jl ?_
 replace G:=Ce G hn4
 refine Ak <| Bk 41 49 B fun B=>?_
 refine Aq <| Jp (fun (i_5:Int)=>mk [(1,.ptr 0 0),(7,vk i_5)] [(0,.box (Af.dv e) 43)] 1) G (Av [(0,0)]) ?_
 rintro i_5 m5 o5 G hn5
 replace G:A5.l5 e i_5=some o5:=G
 show B4 _ _ _ _ (mk _ _ _)
 unfold A5.l5 at G
 refine Ak <| Bk 1 41 Ay fun B=>?_
 refine Cr rfl G (fun h36 G=>?_) fun h36 G=>?_
 refine C9 ?_
 refine Ak <| Aq <| Bs (ι:=Bool) (fun (x143_6:Bool)=>mk [(1,.ptr 0 0),(7,vk i_5),(143,.val (.bool x143_6))] [(0,.box (Af.dv e) 43)] 1) (fun (x143_6:Bool)=>A5.j6 i_5 x143_6=some o5) ?_ ?_
 refine Bu (Ch _ _ []) (by kernel_rfl) [0,1,0,7,15,31,63,127,255,127,1023,2047,4095,8191,16383,32767,65535,131071,262143,524287,262143,1310719,4194303,8388607,262143,17039359,262143,117702655,251920383,536870911,1073741823,2147483647] 41 297 B rfl rfl (by kernel_rfl) ?_
 refine Aw ?_
 obtain⟨e_4,he_4,G⟩:=Ab G
 refine Aw ?_
 refine Rg he_4 ?_
 refine Aw ?_
 rcases Dj G with ⟨h37,G⟩ | ⟨h37,G⟩
 refine Bi fun B=>?_
 exact⟨true,G,Av [(0,0)]⟩
 refine Aw ?_
 refine Rg he_4 ?_
 refine Aw ?_
 rcases Dj G with ⟨h39,G⟩ | ⟨h39,G⟩
 refine Bi fun B=>?_
 exact⟨true,G,Av [(0,0)]⟩
 refine Aw ?_
 rcases Dj G with ⟨h41,G⟩ | ⟨h41,G⟩
 refine Aw ?_
 obtain⟨e_5,he_5,G⟩:=Ab G
 refine Aw ?_
 refine Rg he_5 ?_
 refine Aw ?_
 refine Rg he_4 ?_
 refine Bi fun B=>?_
 exact⟨decide (e_4<=e_5),G,Av [(0,0)]⟩
 refine Bi fun B=>?_
 exact⟨false,G,Av [(0,0)]⟩
 rintro x143_6 G
 replace G:A5.j6 i_5 x143_6=some o5:=G
 show B4 _ _ _ _ (mk _ _ _)
 unfold A5.j6 at G
 refine Cr rfl G (fun h44 G=>?_) fun h44 G=>?_
 refine Bk 1 9 Ay fun B=>?_
 refine Fj ?_
 replace G:=Ce G hn5
 exact Ts
 refine C9 ?_
 refine Al (Ch _ _ []) 1 25 Ay rfl rfl ?_
 refine Bi fun B=>?_
 obtain rfl:=oi_ G
 exact⟨(W (i_5 + 1),m5),aBj _,hn5,Av [(0,0)]⟩
 refine Jl ?_
 replace G:=Ce G hn5
 refine Ak <| Bk 41 49 B fun B=>?_
 refine Aq <| Jp (fun (i_7:Int)=>mk [(1,.ptr 0 0),(8,vk i_7)] [(0,.box (Af.dv e) 43)] 1) G (Av [(0,0)]) ?_
 rintro i_7 m7 o7 G hn7
 replace G:A5.l7 e i_7=some o7:=G
 show B4 _ _ _ _ (mk _ _ _)
 unfold A5.l7 at G
 refine Ak <| Bk 1 41 Ay fun B=>?_
 refine Cr rfl G (fun h49 G=>?_) fun h49 G=>?_
 refine C9 ?_
 refine Ak <| Aq <| Bs (ι:=Bool) (fun (x175_8:Bool)=>mk [(1,.ptr 0 0),(8,vk i_7),(175,.val (.bool x175_8))] [(0,.box (Af.dv e) 43)] 1) (fun (x175_8:Bool)=>A5.j8 i_7 x175_8=some o7) ?_ ?_
 refine Bu (Ch _ _ []) (by kernel_rfl) [0,1,0,7,15,31,63,127,255,511,1023,2047,4095,2047,10239,32767,65535,2047,133119,2047,919551,1968127,4194303,8388607,16777215] 41 241 B rfl rfl (by kernel_rfl) ?_
 refine Aw ?_
 obtain⟨e_6,he_6,G⟩:=Ab G
 refine Aw ?_
 refine Rg he_6 ?_
 obtain⟨y_5,hy_5,G⟩:=Ab G
 refine Dl (Rx _ _ hy_5) ?_
 refine Aw ?_
 rcases Dj G with ⟨h50,G⟩ | ⟨h50,G⟩
 refine Bi fun B=>?_
 exact⟨true,G,Av [(0,0)]⟩
 refine Aw ?_
 rcases Dj G with ⟨h52,G⟩ | ⟨h52,G⟩
 refine Aw ?_
 obtain⟨e_7,he_7,G⟩:=Ab G
 refine Aw ?_
 refine Rg he_7 ?_
 refine Aw ?_
 refine Rg he_6 ?_
 refine Bi fun B=>?_
 exact⟨decide (e_6<=e_7),G,Av [(0,0)]⟩
 refine Bi fun B=>?_
 exact⟨false,G,Av [(0,0)]⟩
 rintro x175_8 G
 replace G:A5.j8 i_7 x175_8=some o7:=G
 show B4 _ _ _ _ (mk _ _ _)
 unfold A5.j8 at G
 refine Cr rfl G (fun h55 G=>?_) fun h55 G=>?_
 refine Bk 1 9 Ay fun B=>?_
 refine Fj ?_
 replace G:=Ce G hn7
 exact Ts
 refine C9 ?_
 refine Al (Ch _ _ []) 1 25 Ay rfl rfl ?_
 refine Bi fun B=>?_
 obtain rfl:=oi_ G
 exact⟨(W (i_7 + 1),m7),aBj _,hn7,Av [(0,0)]⟩
 refine Jl ?_
 replace G:=Ce G hn7
 refine Bk 41 49 B fun B=>?_
 exact K0
end Go.Proofs.YtkoflhimdenjaaaGreat
