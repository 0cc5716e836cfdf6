import Derived.Test.YtbpchmikjiinpaaGreatT1
import Derived.Test.YtbpchmikjiinpaaGreatEU
import Derived.Test.YtbpchmikjiinpaaGreatA1
import Derived.Test.YtbpchmikjiinpaaGreatA2
import Derived.Test.YtbpchmikjiinpaaGreatA3
import Derived.Test.YtbpchmikjiinpaaGreatA4
set_option linter.unusedVariables false
set_option linter.unusedSimpArgs false
set_option maxRecDepth 100000
set_option maxHeartbeats 40000000
namespace Go.Proofs.YtbpchmikjiinpaaGreat
open Go.RowKit
theorem eR {f r} (G:Ax f=some r):Fn Tryz.prog 86 0 [.agg (Aa.dv f)] [] (fun d' b'=>d'=vk r/\b'=[]):=by
 unfold Ax at G
 refine Dx 0 161 Tryz.func86 fun _ _ _=>?_
 refine Bt 1 fun B G=>?_
 refine Au <| Ba (ι:=Bool) (fun (x56_1:Bool)=>mk [(1,.ptr 0 0),(56,.val (.bool x56_1))] [(0,.box (Aa.dv f) 26)] 1) (fun (x56_1:Bool)=>Ax.j1 f x56_1=some r) ?_ ?_
 exact Cf
 rintro x56_1 G
 unfold Ax.j1 at G
 refine D4 (.l 0 (.e 1)) fun _ B G=>?_
 refine Au <| Bb (Df _ _ []) (by kernel_rfl) [0,1,0,7,0,16,48,0,128,384,15,1151,4095] 1 105 Ji rfl rfl (by kernel_rfl) ?_
 refine Bt 0 fun B G=>?_
 refine L1 Hh Lt S8 ?_
 refine Et rfl rfl (Lg f.Use (Aq.mk 0 0)) rfl rfl ?_
 refine Bt 1 fun B G=>?_
 refine Ba (ι:=Bool) (fun (ok_4:Bool)=>mk [(6,.val (.bool ok_4))] [] 0) (fun (ok_4:Bool)=>Ax.j4 ok_4=some r) ?_ ?_
 refine Bt 2 fun B G=>?_
 refine Ba (ι:=Bool) (fun (x69_2:Bool)=>mk [(1,.ptr 0 0),(3,.val (.bool (decide (f.Use=(Aq.mk 0 0))))),(4,.val (.bool (decide (f.Number=0)))),(5,.val (.bool (decide (f.Text=(⟨#[]⟩:ByteArray))))),(6,.val (.bool false)),(68,vk f.Kind),(69,.val (.bool x69_2))] [(0,.box (Aa.dv f) 26)] 1) (fun (x69_2:Bool)=>Ax.j2 f x69_2=some r) ?_ ?_
 exact Cf
 rintro x69_2 G
 unfold Ax.j2 at G
 refine D4 (.l 0 (.l 1 (.l 1 (.e 0)))) fun _ _ _ B G=>?_
 refine Ba (ι:=Bool) (fun (x115_3:Bool)=>mk [(1,.ptr 0 0),(3,.val (.bool (decide (f.Use=(Aq.mk 0 0))))),(4,.val (.bool (decide (f.Number=0)))),(5,.val (.bool (decide (f.Text=(⟨#[]⟩:ByteArray))))),(6,.val (.bool false)),(68,vk f.Kind),(115,.val (.bool x115_3))] [(0,.box (Aa.dv f) 26)] 1) (fun (x115_3:Bool)=>Ax.j3 f x115_3=some r) ?_ ?_
 exact Cf
 rintro x115_3 G
 unfold Ax.j3 at G
 exact Hf
 rintro ok_4 G
 unfold Ax.j4 at G
 exact Hf
instance aRu:Wk 86:=⟨_,@eR⟩
theorem iM {at' r} (G:Nf at'=some r):Fn Tryz.prog 59 0 [.agg (Aa.dv at')] [] (fun d' b'=>d'=.tup [.agg (Aa.dv r.1),vk r.2]/\b'=[]):=by
 unfold Nf at G
 refine Dx 0 28 Tryz.func59 fun _ _ _=>?_
 refine Bt 2 fun B G=>?_
 refine L1 Qt zK eH ?_
 refine Md (.r 4 (.e 1)) fun _ _ _ B G=>?_
 refine L1 Qt zK eH ?_
 exact Cf
instance aRb:Wk 59:=⟨_,@iM⟩
theorem iO {s r} (G:Bn s=some r):Fn Tryz.prog 87 0 [ws s] [] (fun d' b'=>d'=.val (.bool r)/\b'=[]):=by
 unfold Bn at G
 refine Dx 0 56 Tryz.func87 fun _ _ _=>?_
 refine Bt 1 fun B G=>?_
 refine Au <| Ba (ι:=Bool) (fun (x12_1:Bool)=>mk [(0,ws s),(12,.val (.bool x12_1))] [] 0) (fun (x12_1:Bool)=>Bn.j1 s x12_1=some r) ?_ ?_
 exact Cf
 rintro x12_1 G
 unfold Bn.j1 at G
 refine D4 (.l 0 (.e 4)) fun _ B G=>?_
 refine G7 (fun (i_2:Int)=>mk [(0,ws s),(3,vk i_2)] [] 0) G (B9 []) ?_
 rintro i_2 m2 o2 G hn2
 unfold Bn.l2 at G
 refine D4 (.r 3 (.e 5)) fun _ c _ B G=>?_
 refine Ba (ι:=Bool) (fun (x55_3:Bool)=>mk [(0,ws s),(3,vk i_2),(55,.val (.bool x55_3))] [] 0) (fun (x55_3:Bool)=>Bn.j3 i_2 x55_3=some o2) ?_ ?_
 exact Cf
 rintro x55_3 G
 unfold Bn.j3 at G
 exact Hf
instance aR5:Wk 87:=⟨_,@iO⟩
theorem dR {key id chain r} (G:Da key id chain=some r):Fn Tryz.prog 89 0 [.agg [vk key.Alg,vk key.Bits],vk id,.sl 15 (Aj Ah.enc chain)] [] (fun d' b'=>d'=.val (.bool r)/\b'=[]):=by
 unfold Da at G
 refine Dx 0 55 Tryz.func89 fun _ _ _=>?_
 refine Bt 1 fun B G=>?_
 refine Au <| Ba (ι:=Bool) (fun (x23_1:Bool)=>mk [(1,vk id),(2,.sl 15 (Aj Ah.enc chain)),(3,.ptr 0 0),(23,.val (.bool x23_1))] [(0,.box [vk key.Alg,vk key.Bits] 24)] 1) (fun (x23_1:Bool)=>Da.j1 key id chain x23_1=some r) ?_ ?_
 exact Cf
 rintro x23_1 G
 unfold Da.j1 at G
 refine D4 (.l 0 (.e 4)) fun _ B G=>?_
 refine G7 (fun (i_2:Int)=>mk [(1,vk id),(2,.sl 15 (Aj Ah.enc chain)),(3,.ptr 0 0),(7,vk i_2)] [(0,.box [vk key.Alg,vk key.Bits] 24)] 1) G (B9 [(0,0)]) ?_
 rintro i_2 m2 o2 G hn2
 unfold Da.l2 at G
 refine D4 (.l 2 (.e 1)) fun _ B G=>?_
 refine Au <| Bb (Df _ _ []) (by kernel_rfl) [0,1,3,7,15,31,63,127,15,511,1023,2047,4095,8191,16383,2047,65535,131071,262143,524287] 33 193 B rfl rfl (by kernel_rfl) ?_
 refine Md (.l 0 (.e 3)) fun h18 e_2 he_2 B G=>?_
 refine Et (Nn rfl rfl h18) rfl (Lg e_2.Key key) rfl rfl ?_
 exact Cf
instance aQy:Wk 89:=⟨_,@dR⟩
theorem dY {e r} (G:A7 e=some r):Fn Tryz.prog 60 0 [.agg (Ad.dv e)] [] (fun d' b'=>d'=vk r/\b'=[]):=by
 unfold A7 at G
 refine Dx 0 176 Tryz.func60 fun _ _ _=>?_
 refine Bt 1 fun B G=>?_
 refine Au <| Ba (ι:=Bool) (fun (x47_1:Bool)=>mk [(1,.ptr 0 0),(47,.val (.bool x47_1))] [(0,.box (Ad.dv e) 43)] 1) (fun (x47_1:Bool)=>A7.j1 e x47_1=some r) ?_ ?_
 exact Cf
 rintro x47_1 G
 unfold A7.j1 at G
 refine D4 (.l 0 (.e 4)) fun _ B G=>?_
 refine G7 (fun (i_2:Int)=>mk [(1,.ptr 0 0),(3,vk i_2)] [(0,.box (Ad.dv e) 43)] 1) G (B9 [(0,0)]) ?_
 rintro i_2 m2 o2 G hn2
 unfold A7.l2 at G
 refine I9 2 fun B G=>?_
 refine Jf rfl G (fun _ G=>?_) fun _ G=>?_
 refine Bt 7 fun _ he_2 _ _ B G=>?_
 refine Ba (ι:=Bool) (fun (x77_3:Bool)=>mk [(1,.ptr 0 0),(3,vk i_2),(77,.val (.bool x77_3))] [(0,.box (Ad.dv e) 43)] 1) (fun (x77_3:Bool)=>A7.j3 i_2 x77_3=some o2) ?_ ?_
 refine Bb (Df _ _ []) (by kernel_rfl) [0,1,3,7,15,7,63,7,135,7,903,1927,4095,8191] 137 249 B rfl rfl (by kernel_rfl) ?_
 exact Cf
 rintro x77_3 G
 unfold A7.j3 at G
 exact Hf
 refine Bt 4 fun B G=>?_
 refine G7 (fun (i_4:Int)=>mk [(1,.ptr 0 0),(6,vk i_4)] [(0,.box (Ad.dv e) 43)] 1) G (B9 [(0,0)]) ?_
 rintro i_4 m4 o4 G hn4
 unfold A7.l4 at G
 refine I9 2 fun B G=>?_
 refine Jf rfl G (fun _ G=>?_) fun _ G=>?_
 refine Bt 3 fun B G=>?_
 refine Au <| Bb (Df _ _ []) (by kernel_rfl) [0,1,0,7,15,31,0,64,0,448,960,1984,0,4096,0,28672,61440,126976,262143,524287] 41 201 B rfl rfl (by kernel_rfl) ?_
 exact Cf
 refine Bt 4 fun B G=>?_
 refine G7 (fun (i_5:Int)=>mk [(1,.ptr 0 0),(7,vk i_5)] [(0,.box (Ad.dv e) 43)] 1) G (B9 [(0,0)]) ?_
 rintro i_5 m5 o5 G hn5
 unfold A7.l5 at G
 refine I9 2 fun B G=>?_
 refine Jf rfl G (fun _ G=>?_) fun _ G=>?_
 refine Bt 3 fun B G=>?_
 refine Ba (ι:=Bool) (fun (x143_6:Bool)=>mk [(1,.ptr 0 0),(7,vk i_5),(143,.val (.bool x143_6))] [(0,.box (Ad.dv e) 43)] 1) (fun (x143_6:Bool)=>A7.j6 i_5 x143_6=some o5) ?_ ?_
 refine Bb (Df _ _ []) (by kernel_rfl) [0,1,0,7,15,31,63,127,255,127,1023,2047,4095,8191,16383,32767,65535,131071,262143,524287,262143,1310719,4194303,8388607,262143,17039359,262143,117702655,251920383,536870911,1073741823,2147483647] 41 297 B rfl rfl (by kernel_rfl) ?_
 exact Cf
 rintro x143_6 G
 unfold A7.j6 at G
 exact Hf
 refine Bt 4 fun B G=>?_
 refine G7 (fun (i_7:Int)=>mk [(1,.ptr 0 0),(8,vk i_7)] [(0,.box (Ad.dv e) 43)] 1) G (B9 [(0,0)]) ?_
 rintro i_7 m7 o7 G hn7
 unfold A7.l7 at G
 refine D4 (.r 2 (.e 3)) fun _ B G=>?_
 refine Ba (ι:=Bool) (fun (x175_8:Bool)=>mk [(1,.ptr 0 0),(8,vk i_7),(175,.val (.bool x175_8))] [(0,.box (Ad.dv e) 43)] 1) (fun (x175_8:Bool)=>A7.j8 i_7 x175_8=some o7) ?_ ?_
 refine Bb (Df _ _ []) (by kernel_rfl) [0,1,0,7,15,31,63,127,255,511,1023,2047,4095,2047,10239,32767,65535,2047,133119,2047,919551,1968127,4194303,8388607,16777215] 41 241 B rfl rfl (by kernel_rfl) ?_
 exact Cf
 rintro x175_8 G
 unfold A7.j8 at G
 exact Hf
instance aPx:Wk 60:=⟨_,@dY⟩
end Go.Proofs.YtbpchmikjiinpaaGreat
