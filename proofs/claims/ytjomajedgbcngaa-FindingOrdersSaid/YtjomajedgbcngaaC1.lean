import Derived.Test.YtjomajedgbcngaaPC
import Derived.Test.YtjomajedgbcngaaP1
set_option linter.unusedVariables false
set_option linter.unusedSimpArgs false
namespace Go.Proofs.Ytjomajedgbcngaa
theorem Hn {cmp : Aa -> Aa -> Option (Int)} : Ut (fun rec (x : List Aa × Int × Int × Int) => Af.F (fun data a b limit => rec (data, a, b, limit)) x.1 x.2.1 x.2.2.1 x.2.2.2 cmp) := fun p q h a => by
 show L1 (Af.F _ _ _ _ _ _) (Af.F _ _ _ _ _ _)
 unfold Af.F
 refine L1.lp (fun _ => ?_) _
 unfold Af.l1 Af.j2 Af.j3 Af.j4 Af.j5 Af.j6
 repeat' (with_reducible first | exact L1.refl | apply L1.cond_ | apply L1.bind_ | apply L1.up_ | apply h | intro _)
end Go.Proofs.Ytjomajedgbcngaa
