import Derived.Test.YtobamahlipiakaaGreatBase
import Derived.WalkKit
import Derived.WalkLawsBesides
set_option linter.unusedSimpArgs false
set_option linter.unusedVariables false
namespace Go.Proofs.YtobamahlipiakaaGreat
open Go.RowKit
def Lc (l:List UInt8):List C:=l.map fun x=>.int .u8 x.toNat
def yI:C->Bool
 | .sl _ _=>false
 | .mp _=>false
 | _=>true
theorem F1.flat_any {w w':World} {S S':Nat->Prop} {c:C} {v:Value} (hf:yI c=true) (h:F1 w S c v):F1 w' S' c v:=by
 cases c with
 | int k n=>unfold F1 at *; exact h
 | bool b=>unfold F1 at *; exact h
 | str s=>unfold F1 at *; exact h
 | raw u=>unfold F1 at *; exact h
 | sl sz cs=>cases hf
 | mp l=>cases hf
theorem G0.flat_any {w w':World} {S S':Nat->Prop} {cs:List C} {us:List Value} (hf:∀ c∈cs,yI c=true) (h:G0 w S cs us):G0 w' S' cs us:=
 ⟨h.1,fun j c u h1 h2=>(h.2 j c u h1 h2).flat_any (hf c (aJz h1))⟩
theorem Pi (l:List UInt8):(Lc l).length=l.length:=by simp [Lc]
end Go.Proofs.YtobamahlipiakaaGreat
