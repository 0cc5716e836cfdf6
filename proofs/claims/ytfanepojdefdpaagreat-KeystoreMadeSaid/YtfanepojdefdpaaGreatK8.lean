/- Plain texts, joined. No program is in sight here. -/
import Derived.Test.YtfanepojdefdpaaGreatM2
import Derived.Test.YtfanepojdefdpaaGreatT1
import Derived.KernelRfl
set_option linter.unusedVariables false
set_option linter.unusedSimpArgs false
namespace Go.Proofs.YtfanepojdefdpaaGreat
section
open Go
end
section
open Go
def cQ (l:List Ab):Prop:=∀ c∈l,Kz c
theorem cQ.set {l:List Ab} (h:cQ l) (j:Nat) {x:Ab} (hx:Kz x):cQ (Hf l j x):=by
 intro c hc
 rcases yS hc with hc | rfl
 ·exact h c hc
 ·exact hx
theorem cQ.part {l:List Ab} (h:cQ l) (a n:Nat):cQ ((l.drop a).take n):=fun c hc=>h c (xV (yD hc))
theorem lR {l:List Int} (h:l.length<=400):Ok (K1 l) Mo:=Ok.ret ⟨Gj (by show l.length<=_; omega),Int.le_refl _,by show (0:Int)<=(l.length:Int); omega⟩
end
end Go.Proofs.YtfanepojdefdpaaGreat
