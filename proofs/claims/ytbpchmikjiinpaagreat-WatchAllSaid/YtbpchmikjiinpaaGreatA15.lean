import Derived.Test.YtbpchmikjiinpaaGreatT1
import Derived.Test.YtbpchmikjiinpaaGreatEU
import Derived.Test.YtbpchmikjiinpaaGreatA1
import Derived.Test.YtbpchmikjiinpaaGreatA5
import Derived.Test.YtbpchmikjiinpaaGreatA9
import Derived.Test.YtbpchmikjiinpaaGreatA14
set_option linter.unusedVariables false
set_option linter.unusedSimpArgs false
set_option maxRecDepth 100000
set_option maxHeartbeats 40000000
namespace Go.Proofs.YtbpchmikjiinpaaGreat
open Go.RowKit
theorem Yt {e r} (G:Ca e=some r):Fn Tryz.prog 50 0 [.agg (Ap.dv e)] [] (fun d' b'=>d'=vk r/\b'=[]):=by
 unfold Ca at G
 refine Dx 0 59 Tryz.func50 fun _ _ _=>?_
 refine Bt 4 fun B G=>?_
 refine G7 (fun (x9_1:Int)=>mk [(1,.ptr 0 0),(7,.sl 9 (Aj Ad.enc e.Endpoints)),(8,.val (.int .i64 (e.Endpoints.length:Int))),(9,vk x9_1)] [(0,.box (Ap.dv e) 36)] 1) G (B9 [(0,0)]) ?_
 rintro x9_1 m1 o1 G hn1
 unfold Ca.l1 at G
 refine I9 2 fun B G=>?_
 refine Jf rfl G (fun _ G=>?_) fun _ G=>?_
 refine Bt 6 fun e_2 _ B G=>?_
 refine Ba (ι:=Bool) (fun (x32_2:Bool)=>mk [(1,.ptr 0 0),(7,.sl 9 (Aj Ad.enc e.Endpoints)),(8,.val (.int .i64 (e.Endpoints.length:Int))),(9,vk x9_1),(32,.val (.bool x32_2))] [(0,.box (Ap.dv e) 36)] 1) (fun (x32_2:Bool)=>Ca.j2 x9_1 x32_2=some o1) ?_ ?_
 refine Bb (Df _ _ []) (by kernel_rfl) [0,1,3,7,15,31,63,127,255,127,639,2047,4095,8191,127,16511,65535,131071,262143] 57 209 B rfl rfl (by kernel_rfl) ?_
 exact Cf
 rintro x32_2 G
 unfold Ca.j2 at G
 exact Hf
 refine Bt 2 fun B G=>?_
 obtain⟨y_2,hy_2,G⟩:=Ak G
 refine Ni (@K2 e.Items (fun x0=>F4 x0) (fun x0 y h=>@Oz x0 y h) _ hy_2) ?_
 refine Bt 0 fun B G=>?_
 refine Au <| Ba (ι:=Bool) (fun (x58_3:Bool)=>mk [(58,.val (.bool x58_3))] [] 0) (fun (x58_3:Bool)=>Ca.j3 x58_3=some r) ?_ ?_
 exact Cf
 rintro x58_3 G
 unfold Ca.j3 at G
 exact Hf
instance aPn:Wk 50:=⟨_,@Yt⟩
theorem Ua {x' c0 r} (G:Lb x' c0=some r):Fn Tryz.prog 51 0 [.agg (Ad.dv x'),.elt (((Aa.ec c0):List C).drop 0)] [] (fun d' b'=>d'=.val (.bool r)/\b'=[]):=by
 unfold Lb at G
 refine Dx 0 7 Tryz.func51 fun _ _ _=>?_
 refine Bt 2 fun B G=>?_
 refine Et rfl rfl (Ef Nz (cs2:=(Aa.ec c0)) rfl (aCt rfl)) rfl rfl ?_
 exact Cf
instance aRq:Wk 51:=⟨_,@Ua⟩
theorem Jj {s:(List Ad)} {f:Ad->Option (Bool)} {f_c0:Aa} (hf_f:∀ (x0:Ad) (y:Bool),f x0=some y->Fn Tryz.prog 51 0 [.agg (Ad.dv x0),.elt (((Aa.ec f_c0):List C).drop 0)] [] (fun d' b'=>d'=.val (.bool y)/\b'=[])) {r:Int} (G:Bp s f=some r):Fn Tryz.prog 78 0 [.sl 9 (Aj Ad.enc s),.clo 51 0 [.elt (((Aa.ec f_c0):List C).drop 0)]] [] (fun d' b'=>d'=vk r/\b'=[]):=by
 unfold Bp at G
 refine Dx 0 19 Tryz.func78 fun _ _ _=>?_
 refine Bt 4 fun B G=>?_
 refine G7 (fun (x8_1:Int)=>mk [(0,.sl 9 (Aj Ad.enc s)),(1,.clo 51 0 [.elt (((Aa.ec f_c0):List C).drop 0)]),(7,.val (.int .i64 (s.length:Int))),(8,vk x8_1)] [] 0) G (B9 []) ?_
 rintro x8_1 m1 o1 G hn1
 unfold Bp.l1 at G
 refine D4 (.r 2 (.e 7)) fun _ e _ B G=>?_
 obtain⟨y,hy,G⟩:=Ak G
 refine Cm (rd:=[]) (ps:=[]) (gs:=[]) false rfl rfl (hf_f e _ hy) rfl rfl (.cons (.agg (.cons .val (.cons .val (.cons .val (.cons .sl (.cons .val (.cons .sl (.cons .sl (.cons .sl (.cons .val .nil)))))))))) (.cons .elt .nil)) rfl rfl (by intro h; cases h) rfl rfl rfl rfl ?_
 exact Cf
theorem I2 {s:(List Ad)} {f:Ad->Option (Bool)} {f_c0:Aa} (hf_f:∀ (x0:Ad) (y:Bool),f x0=some y->Fn Tryz.prog 51 0 [.agg (Ad.dv x0),.elt (((Aa.ec f_c0):List C).drop 0)] [] (fun d' b'=>d'=.val (.bool y)/\b'=[])) {r:Bool} (G:Eg s f=some r):Fn Tryz.prog 52 0 [.sl 9 (Aj Ad.enc s),.clo 51 0 [.elt (((Aa.ec f_c0):List C).drop 0)]] [] (fun d' b'=>d'=.val (.bool r)/\b'=[]):=by
 unfold Eg at G
 refine Dx 0 9 Tryz.func52 fun _ _ _=>?_
 refine Bt 2 fun B G=>?_
 obtain⟨y,hy,G⟩:=Ak G
 refine Ni (@Jj s f f_c0 hf_f _ hy) ?_
 exact Cf
theorem kB {e l day r} (G:Cp e l day=some r):Fn Tryz.prog 24 0 [.agg (Ap.dv e),.sl 11 (Aj Aa.enc l),vk day] [] (fun d' b'=>d'=.tup [.sl 1 (Aj eI r.1),vk r.2]/\b'=[]):=by
 unfold Cp at G
 refine Dx 0 47 Tryz.func24 fun _ _ _=>?_
 refine Md (.l 5 (.e 0)) fun y _ _ B G=>?_
 refine Ba (ι:=Bool) (fun (x16_1:Bool)=>mk [(1,.sl 11 (Aj Aa.enc l)),(2,vk day),(3,.ptr 0 0),(16,.val (.bool x16_1))] [(0,.box (Ap.dv e) 36)] 1) (fun (x16_1:Bool)=>Cp.j1 e l day x16_1=some r) ?_ ?_
 exact Cf
 rintro x16_1 G
 unfold Cp.j1 at G
 refine D4 (.l 0 (.e 5)) fun _ B G=>?_
 refine G7 (fun ((x25_2,out_2):Int×List Int)=>mk [(2,vk day),(3,.ptr 0 0),(8,.row 1),(23,.sl 11 (Aj Aa.enc l)),(24,.val (.int .i64 (l.length:Int))),(25,vk x25_2)] [(0,.box (Ap.dv e) 36),(1,.row 3 1 (Aj eI out_2))] 2) G (B9 [(0,0)]) ?_
 rintro⟨x25_2,out_2⟩ m2 o2 G hn2
 unfold Cp.l2 at G
 refine D4 (.r 2 (.e 1)) fun _ B G=>?_
 refine Ba (ι:=List Int) (fun (out_5:List Int)=>mk [(2,vk day),(3,.ptr 0 0),(8,.row 1),(23,.sl 11 (Aj Aa.enc l)),(24,.val (.int .i64 (l.length:Int))),(25,vk x25_2)] [(0,.box (Ap.dv e) 36),(1,.row 3 1 (Aj eI out_5))] 2) (fun (out_5:List Int)=>Cp.j5 x25_2 out_5=some o2) ?_ ?_
 refine Bt 4 fun e_2 _ B G=>?_
 refine Au <| Ew (σ':=mk [(2,vk day),(3,.ptr 0 0),(8,.row 1),(9,vk x25_2),(10,.elt (((Aa.ec e_2):List C).drop 0)),(23,.sl 11 (Aj Aa.enc l)),(24,.val (.int .i64 (l.length:Int))),(25,vk x25_2)] [(0,.box (Ap.dv e) 36),(1,.row 3 1 (Aj eI out_2))] 2) ((by exact O5.lists [(0,0),(1,1)] rfl rfl ⟨⟨_,rfl,.val _⟩,⟨_,rfl,.ptr rfl⟩,⟨_,rfl,.row rfl⟩,⟨_,rfl,.val _⟩,⟨_,rfl,.frzb (ks:=[none,none,none,none,none,none,none,none,none,none,none]) rfl (.cons .int (.cons .str (.cons .int (.cons .int (.cons .int (.cons .int (.cons .str (.cons .int (.cons .int (.cons .int (.cons .str .nil))))))))))) (Fr rfl)⟩,⟨_,rfl,.sl _ _⟩,⟨_,rfl,.val _⟩,⟨_,rfl,.val _⟩,trivial⟩ ⟨.inl ⟨0,_,rfl,rfl,⟨rfl,.cons (.sl _ _) (.cons (.sl _ _) (.cons (.sl _ _) .nil))⟩⟩,.inl ⟨1,_,rfl,rfl,⟨rfl,rfl,rfl⟩⟩,trivial⟩)) ?_
 refine Bt 1 fun B G=>?_
 refine Ba (ι:=Bool) (fun (x40_4:Bool)=>mk [(2,vk day),(3,.ptr 0 0),(8,.row 1),(9,vk x25_2),(23,.sl 11 (Aj Aa.enc l)),(24,.val (.int .i64 (l.length:Int))),(25,vk x25_2),(40,.val (.bool x40_4))] [(0,.box (Ap.dv e) 36),(1,.row 3 1 (Aj eI out_2))] 2) (fun (x40_4:Bool)=>Cp.j4 x25_2 out_2 x40_4=some o2) ?_ ?_
 refine Bt 1 fun B G=>?_
 refine Et rfl rfl (Se nG yW (by decide) (aCt rfl)) rfl rfl ?_
 refine Et rfl rfl (En yW (c:=.int .i64 e_2.Day) rfl) rfl rfl ?_
 refine Md (.r 0 (.e 0)) fun _ B G=>?_
 obtain⟨y_2,hy_2,G⟩:=Ak G
 refine Ni (@I2 e.Endpoints (fun x0=>Lb x0 e_2) e_2 (fun x0 y h=>@Ua x0 e_2 y h) _ hy_2) ?_
 exact Cf
 rintro x40_4 G
 unfold Cp.j4 at G
 refine D4 (.r 0 (.e 1)) fun _ B G=>?_
 refine Hj Eb z3 I7 ([x25_2]:List Int) eI ?_
 exact Cf
 rintro out_5 G
 unfold Cp.j5 at G
 exact Hf
instance aQd:Wk 24:=⟨_,@kB⟩
theorem dS {x' r} (G:Bs x'=some r):Fn Tryz.prog 79 0 [.agg (Bf.dv x')] [] (fun d' b'=>d'=vk r/\b'=[]):=by
 unfold Bs at G
 refine Dx 0 108 Tryz.func79 fun _ _ _=>?_
 refine Bt 1 fun B G=>?_
 refine Au <| Ba (ι:=Bool) (fun (x54_1:Bool)=>mk [(1,.ptr 0 0),(54,.val (.bool x54_1))] [(0,.box (Bf.dv x') 74)] 1) (fun (x54_1:Bool)=>Bs.j1 x' x54_1=some r) ?_ ?_
 refine Bb (Df _ _ []) (by kernel_rfl) [0,1,3,7,15,31,63,127,255,511,1023,2047,4095,8191,16383,32767,65535,131071,262143,524287,1048575,2097151,4194303,8388607,16777215,33554431,67108863,134217727,268435455,536870911,1073741823,2147483647,4294967295,8589934591,17179869183,34359738367,68719476735,137438953471,274877906943,549755813887,1099511627775,2199023255551,4398046511103,8796093022207,4398046511103,21990232555519,57174604644351,127543348822015,268280837177343,562949953421311,1125899906842623] 16 424 B rfl rfl (by kernel_rfl) ?_
 exact Cf
 rintro x54_1 G
 unfold Bs.j1 at G
 refine D4 (.l 0 (.e 4)) fun _ B G=>?_
 refine G7 (fun (i_2:Int)=>mk [(1,.ptr 0 0),(3,vk i_2)] [(0,.box (Bf.dv x') 74)] 1) G (B9 [(0,0)]) ?_
 rintro i_2 m2 o2 G hn2
 unfold Bs.l2 at G
 refine D4 (.r 2 (.e 3)) fun _ B G=>?_
 refine Ba (ι:=Bool) (fun (x107_3:Bool)=>mk [(1,.ptr 0 0),(3,vk i_2),(107,.val (.bool x107_3))] [(0,.box (Bf.dv x') 74)] 1) (fun (x107_3:Bool)=>Bs.j3 i_2 x107_3=some o2) ?_ ?_
 refine Bb (Df _ _ []) (by kernel_rfl) [0,1,0,7,15,31,63,127,255,511,1023,511,4095,8191,16383,32767,65535,131071,262143,524287,262143,2097151,4194303,8388607,16777215,33554431,67108863,134217727,268435455,536870911,1073741823,2147483647,1073741823,5368709119,17179869183,34359738367,68719476735,1073741823,138512695295,1073741823,963146416127,2062658043903,4261681299455,8796093022207,17592186044415,35184372088831] 41 409 B rfl rfl (by kernel_rfl) ?_
 exact Cf
 rintro x107_3 G
 unfold Bs.j3 at G
 exact Hf
instance aP0:Wk 79:=⟨_,@dS⟩
theorem dL {e r} (G:Bd e=some r):Fn Tryz.prog 53 0 [.agg (Ap.dv e)] [] (fun d' b'=>d'=vk r/\b'=[]):=by
 unfold Bd at G
 refine Dx 0 152 Tryz.func53 fun _ _ _=>?_
 refine Bt 1 fun B G=>?_
 refine Au <| Ba (ι:=Bool) (fun (x22_1:Bool)=>mk [(1,.ptr 0 0),(22,.val (.bool x22_1))] [(0,.box (Ap.dv e) 36)] 1) (fun (x22_1:Bool)=>Bd.j1 e x22_1=some r) ?_ ?_
 exact Cf
 rintro x22_1 G
 unfold Bd.j1 at G
 refine D4 (.l 0 (.e 4)) fun _ B G=>?_
 refine G7 (fun (i_2:Int)=>mk [(1,.ptr 0 0),(3,vk i_2)] [(0,.box (Ap.dv e) 36)] 1) G (B9 [(0,0)]) ?_
 rintro i_2 m2 o2 G hn2
 unfold Bd.l2 at G
 refine I9 2 fun B G=>?_
 refine Jf rfl G (fun _ G=>?_) fun _ G=>?_
 refine Bt 3 fun B G=>?_
 refine Ba (ι:=Bool) (fun (x56_3:Bool)=>mk [(1,.ptr 0 0),(3,vk i_2),(56,.val (.bool x56_3))] [(0,.box (Ap.dv e) 36)] 1) (fun (x56_3:Bool)=>Bd.j3 i_2 x56_3=some o2) ?_ ?_
 refine Bb (Df _ _ []) (by kernel_rfl) [0,1,0,7,15,31,63,127,255,511,1023,2047,4095,2047,10239,32767,65535,131071,2047,264191,2047,1837055,3934207,8128511,16777215,33554431,67108863] 41 257 B rfl rfl (by kernel_rfl) ?_
 exact Cf
 rintro x56_3 G
 unfold Bd.j3 at G
 exact Hf
 refine Bt 4 fun B G=>?_
 refine G7 (fun (i_4:Int)=>mk [(1,.ptr 0 0),(4,vk i_4)] [(0,.box (Ap.dv e) 36)] 1) G (B9 [(0,0)]) ?_
 rintro i_4 m4 o4 G hn4
 unfold Bd.l4 at G
 refine I9 2 fun B G=>?_
 refine Jf rfl G (fun _ G=>?_) fun _ G=>?_
 refine Bt 6 fun e_4 _ B G=>?_
 refine Au <| Ba (ι:=Bool) (fun (x99_5:Bool)=>mk [(1,.ptr 0 0),(4,vk i_4),(5,.ptr 1 0),(99,.val (.bool x99_5))] [(0,.box (Ap.dv e) 36),(1,.box [vk e_4.Client,vk e_4.Server] 71)] 2) (fun (x99_5:Bool)=>Bd.j5 e i_4 e_4 x99_5=some o4) ?_ ?_
 exact Cf
 rintro x99_5 G
 unfold Bd.j5 at G
 refine D4 (.l 0 (.e 1)) fun _ B G=>?_
 refine Ba (ι:=Bool) (fun (x137_6:Bool)=>mk [(1,.ptr 0 0),(4,vk i_4),(137,.val (.bool x137_6))] [(0,.box (Ap.dv e) 36)] 1) (fun (x137_6:Bool)=>Bd.j6 i_4 x137_6=some o4) ?_ ?_
 refine Bb (Df _ _ []) (by kernel_rfl) [0,1,3,7,15,7,39,127,255,511,7,1031,4095,8191,16383,32767,16383,81919,262143,524287,1048575,16383,2113535,8388607,16777215,33554431,67108863,33554431,167772159,536870911,1073741823,2147483647,33554431,4328521727,17179869183,34359738367,68719476735,137438953471] 2 306 Ji rfl rfl (by kernel_rfl) ?_
 exact Cf
 rintro x137_6 G
 unfold Bd.j6 at G
 exact Hf
 refine Bt 4 fun B G=>?_
 refine G7 (fun (i_7:Int)=>mk [(1,.ptr 0 0),(6,vk i_7)] [(0,.box (Ap.dv e) 36)] 1) G (B9 [(0,0)]) ?_
 rintro i_7 m7 o7 G hn7
 unfold Bd.l7 at G
 exact Hf
instance aP5:Wk 53:=⟨_,@dL⟩
end Go.Proofs.YtbpchmikjiinpaaGreat
