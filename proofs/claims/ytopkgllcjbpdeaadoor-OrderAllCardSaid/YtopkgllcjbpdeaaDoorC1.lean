import Derived.Test.YtopkgllcjbpdeaaDoorPC
import Derived.Test.YtopkgllcjbpdeaaDoorP1
set_option linter.unusedVariables false
set_option linter.unusedSimpArgs false
namespace Go.Proofs.YtopkgllcjbpdeaaDoor
theorem Hv {cmp : Int -> Int -> Option (Int)} : Yc (fun rec (x : List Int × Int × Int × Int) => Ae.F (fun data a b limit => rec (data, a, b, limit)) x.1 x.2.1 x.2.2.1 x.2.2.2 cmp) := fun p q h a => by
 show M8 (Ae.F _ _ _ _ _ _) (Ae.F _ _ _ _ _ _)
 unfold Ae.F
 refine M8.lp (fun _ => ?_) _
 unfold Ae.l1 Ae.j2 Ae.j3 Ae.j4 Ae.j5 Ae.j6
 repeat' (with_reducible first | exact M8.refl | apply M8.cond_ | apply M8.bind_ | apply M8.up_ | apply h | intro _)
end Go.Proofs.YtopkgllcjbpdeaaDoor
