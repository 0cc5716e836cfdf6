import Derived.Test.YtidpkjdkfkkgiaaGreatPC
import Derived.Test.YtidpkjdkfkkgiaaGreatP1
set_option linter.unusedVariables false
set_option linter.unusedSimpArgs false
namespace Go.Proofs.YtidpkjdkfkkgiaaGreat
theorem Jt {cmp : Aa -> Aa -> Option (Int)} : Te (fun rec (x : List Aa × Int × Int × Int) => Ai.F (fun data a b limit => rec (data, a, b, limit)) x.1 x.2.1 x.2.2.1 x.2.2.2 cmp) := fun p q h a => by
 show Gn (Ai.F _ _ _ _ _ _) (Ai.F _ _ _ _ _ _)
 unfold Ai.F
 refine Gn.lp (fun _ => ?_) _
 unfold Ai.l1 Ai.j2 Ai.j3 Ai.j4 Ai.j5 Ai.j6
 repeat' (with_reducible first | exact Gn.refl | apply Gn.cond_ | apply Gn.bind_ | apply Gn.up_ | apply h | intro _)
theorem m_ref01_copies.l1 {rec : (List Ah) -> Option ((List Ah))} {l : (List Ah)} {i_1 : Int} {out_1 : List Ah} {rec_p : (List Ah) -> Option ((List Ah))} (h_rec : ∀ (x0 : (List Ah)), Gn (rec x0) (rec_p x0)) : Gn (Cj.l1 rec l i_1 out_1) (Cj.l1 rec_p l i_1 out_1) := by
 unfold Cj.l1
 repeat' (with_reducible first | assumption | apply Gn.bind_ | apply Gn.cond_ | apply Gn.up_ | apply h_rec | exact Gn.refl | intro _)
theorem m_ref01_copies.F {rec : (List Ah) -> Option ((List Ah))} {l : (List Ah)} {rec_p : (List Ah) -> Option ((List Ah))} (h_rec : ∀ (x0 : (List Ah)), Gn (rec x0) (rec_p x0)) : Gn (Cj.F rec l) (Cj.F rec_p l) := by
 unfold Cj.F
 repeat' (with_reducible first | assumption | apply Gn.bind_ | apply Gn.cond_ | apply Gn.up_ | apply h_rec | apply m_ref01_copies.l1 | (refine Gn.lp (fun _ => ?_) _) | exact Gn.refl | intro _)
theorem U1 : Te (fun rec (x : (List Ah)) => Cj.F (fun l => rec l) x) := fun p q h a => by
 apply m_ref01_copies.F
 intros
 apply h
theorem m_ref01_formed.l2 {rec : Ah -> Option (Bool)} {v : Ah} {i_2 : Int} {rec_p : Ah -> Option (Bool)} (h_rec : ∀ (x0 : Ah), Gn (rec x0) (rec_p x0)) : Gn (Bl.l2 rec v i_2) (Bl.l2 rec_p v i_2) := by
 unfold Bl.l2
 repeat' (with_reducible first | assumption | apply Gn.bind_ | apply Gn.cond_ | apply Gn.up_ | apply h_rec | exact Gn.refl | intro _)
theorem m_ref01_formed.j1 {rec : Ah -> Option (Bool)} {v : Ah} {x38_1 : Bool} {rec_p : Ah -> Option (Bool)} (h_rec : ∀ (x0 : Ah), Gn (rec x0) (rec_p x0)) : Gn (Bl.j1 rec v x38_1) (Bl.j1 rec_p v x38_1) := by
 unfold Bl.j1
 repeat' (with_reducible first | assumption | apply Gn.bind_ | apply Gn.cond_ | apply Gn.up_ | apply h_rec | apply m_ref01_formed.l2 | (refine Gn.lp (fun _ => ?_) _) | exact Gn.refl | intro _)
theorem m_ref01_formed.F {rec : Ah -> Option (Bool)} {v : Ah} {rec_p : Ah -> Option (Bool)} (h_rec : ∀ (x0 : Ah), Gn (rec x0) (rec_p x0)) : Gn (Bl.F rec v) (Bl.F rec_p v) := by
 unfold Bl.F
 repeat' (with_reducible first | assumption | apply Gn.bind_ | apply Gn.cond_ | apply Gn.up_ | apply h_rec | apply m_ref01_formed.j1 | exact Gn.refl | intro _)
theorem Ul : Te (fun rec (x : Ah) => Bl.F (fun v => rec v) x) := fun p q h a => by
 apply m_ref01_formed.F
 intros
 apply h
theorem m_ref01_depth.l1 {rec : Ah -> Option (Int)} {v : Ah} {d_1 : Int} {i_1 : Int} {rec_p : Ah -> Option (Int)} (h_rec : ∀ (x0 : Ah), Gn (rec x0) (rec_p x0)) : Gn (Cu.l1 rec v d_1 i_1) (Cu.l1 rec_p v d_1 i_1) := by
 unfold Cu.l1
 repeat' (with_reducible first | assumption | apply Gn.bind_ | apply Gn.cond_ | apply Gn.up_ | apply h_rec | exact Gn.refl | intro _)
theorem m_ref01_depth.F {rec : Ah -> Option (Int)} {v : Ah} {rec_p : Ah -> Option (Int)} (h_rec : ∀ (x0 : Ah), Gn (rec x0) (rec_p x0)) : Gn (Cu.F rec v) (Cu.F rec_p v) := by
 unfold Cu.F
 repeat' (with_reducible first | assumption | apply Gn.bind_ | apply Gn.cond_ | apply Gn.up_ | apply h_rec | apply m_ref01_depth.l1 | (refine Gn.lp (fun _ => ?_) _) | exact Gn.refl | intro _)
theorem U6 : Te (fun rec (x : Ah) => Cu.F (fun v => rec v) x) := fun p q h a => by
 apply m_ref01_depth.F
 intros
 apply h
theorem m_ref01_put.l1 {rec : Ah -> Option ((List UInt8))} {v : Ah} {i_1 : Int} {b_1 : List UInt8} {rec_p : Ah -> Option ((List UInt8))} (h_rec : ∀ (x0 : Ah), Gn (rec x0) (rec_p x0)) : Gn (Dj.l1 rec v i_1 b_1) (Dj.l1 rec_p v i_1 b_1) := by
 unfold Dj.l1
 repeat' (with_reducible first | assumption | apply Gn.bind_ | apply Gn.cond_ | apply Gn.up_ | apply h_rec | exact Gn.refl | intro _)
theorem m_ref01_put.F {rec : Ah -> Option ((List UInt8))} {v : Ah} {rec_p : Ah -> Option ((List UInt8))} (h_rec : ∀ (x0 : Ah), Gn (rec x0) (rec_p x0)) : Gn (Dj.F rec v) (Dj.F rec_p v) := by
 unfold Dj.F
 repeat' (with_reducible first | assumption | apply Gn.bind_ | apply Gn.cond_ | apply Gn.up_ | apply h_rec | apply m_ref01_put.l1 | (refine Gn.lp (fun _ => ?_) _) | exact Gn.refl | intro _)
theorem Zf : Te (fun rec (x : Ah) => Dj.F (fun v => rec v) x) := fun p q h a => by
 apply m_ref01_put.F
 intros
 apply h
theorem Ku.l1 {s : (List Int)} {f : Int -> Option (Bool)} {x8_1 : Int} {f_p : Int -> Option (Bool)} (h_f : ∀ (x0 : Int), Gn (f x0) (f_p x0)) : Gn (Bk.l1 s f x8_1) (Bk.l1 s f_p x8_1) := by
 unfold Bk.l1
 repeat' (with_reducible first | assumption | apply Gn.bind_ | apply Gn.cond_ | apply Gn.up_ | apply h_f | exact Gn.refl | intro _)
theorem Ku {s : (List Int)} {f : Int -> Option (Bool)} {f_p : Int -> Option (Bool)} (h_f : ∀ (x0 : Int), Gn (f x0) (f_p x0)) : Gn (Bk s f) (Bk s f_p) := by
 unfold Bk
 repeat' (with_reducible first | assumption | apply Gn.bind_ | apply Gn.cond_ | apply Gn.up_ | apply h_f | apply Ku.l1 | (refine Gn.lp (fun _ => ?_) _) | exact Gn.refl | intro _)
end Go.Proofs.YtidpkjdkfkkgiaaGreat
