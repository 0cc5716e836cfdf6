import Derived.Test.YtboglmbblmakjaaGreatDoorBase
import Derived.WalkKit
import Derived.WalkLawsBesides
set_option linter.unusedSimpArgs false
set_option linter.unusedVariables false
namespace Go.Proofs.YtboglmbblmakjaaGreatDoor
open Go.RowKit
def Zp (l:List UInt8):List C:=l.map fun x=>.int .u8 x.toNat
def xN:C->Bool
 | .sl _ _=>false
 | .mp _=>false
 | .ifc _ _=>false
 | .ref _ _=>false
 | _=>true
theorem Ga.flat_any {w w':World} {S S':Nat->Prop} {c:C} {v:Value} (hf:xN c=true) (h:Ga w S c v):Ga w' S' c v:=by
 cases c with
 | int k n=>unfold Ga at *; exact h
 | bool b=>unfold Ga at *; exact h
 | str s=>unfold Ga at *; exact h
 | raw u=>unfold Ga at *; exact h
 | sl sz cs=>cases hf
 | mp l=>cases hf
 | ifc t c=>cases hf
 | ref f cs=>cases hf
theorem I1.flat_any {w w':World} {S S':Nat->Prop} {cs:List C} {us:List Value} (hf:∀ c∈cs,xN c=true) (h:I1 w S cs us):I1 w' S' cs us:=
 ⟨h.1,fun j c u h1 h2=>(h.2 j c u h1 h2).flat_any (hf c (aIm h1))⟩
theorem Y9 (l:List UInt8):(Zp l).length=l.length:=by simp [Zp]
end Go.Proofs.YtboglmbblmakjaaGreatDoor
