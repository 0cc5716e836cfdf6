/- Plain texts, joined. No program is in sight here. -/
import Derived.Test.YtfanepojdefdpaaGreatM2
import Derived.Test.YtfanepojdefdpaaGreatT1
import Derived.KernelRfl
set_option linter.unusedVariables false
set_option linter.unusedSimpArgs false
namespace Go.Proofs.YtfanepojdefdpaaGreat
section
open Go
end
section
open Go
def mP (l:List Ab):Prop:=∀ c∈l,Lr c
theorem mP.set {l:List Ab} (h:mP l) (j:Nat) {x:Ab} (hx:Lr x):mP (Jy l j x):=by
 intro c hc
 rcases List.mem_or_eq_of_mem_set hc with hc | rfl
 ·exact h c hc
 ·exact hx
theorem mP.part {l:List Ab} (h:mP l) (a n:Nat):mP ((l.drop a).take n):=fun c hc=>h c (aGi (aGs hc))
theorem tK {l:List Int} (h:l.length<=400):Ok (Nk l) Sx:=Ok.ret ⟨Lt (by show l.length<=_; omega),aHu _,by show (0:Int)<=(l.length:Int); omega⟩
end
end Go.Proofs.YtfanepojdefdpaaGreat
