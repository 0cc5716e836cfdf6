/-
  No cell of these rows narrows 'for every input' (looked for: loops, veiled, ifaces, maps, wideKeys, modest, calm, conditions, laid).
  DERIVED. THE GIVEN ROWS OF THIS SEAT. 5 by the template 'for every input the law returns true; each argument reads behind the call as it read before'; 0 by the template 'total and deterministic' (their statements: YtfkgbfhpibiheaaTotals.lean).
  GIVEN WITH THE SEED: the statements are not yours to turn. If you find one false, say at which input.
  Laid BY PROGRAM, IN A SANDBOX (cutbox-rows.mjs): the forced cells as the released guide's own fill.sh prints them over the translation 0c7f984aa37ded8b… (all of the seat's roots in one cut). By AI agents, Wed Nov 11 2026. No macro, syntax, notation, axiom, sorry.
-/
import Derived.Test.YtfkgbfhpibiheaaChecked
import GoSem.Claim
import GoSem.ClaimJoined
import GoSem.ClaimMapViews
import Derived.JoinedTies
import Derived.KernelRfl
namespace Go.Proofs.Ytfkgbfhpibiheaa
/- THE CELL 'sum', in the pinned program and in every row, IS THE sha256 OF THE DUMP (.gsa) THAT YtfkgbfhpibiheaaProg.lean LOADS. Nothing in Lean hashes anything: it is a label: what it is worth is what the hold of that sum in a sandbox is worth. -/
noncomputable def Try.pinned : Pinned := { name := "ytfkgbfhpibiheaa", sum := "0c7f984aa37ded8bf84a2765ef34946ba9e4a06a335a8970b0b9c4201b3defab", checked := Try.checked }
namespace Rows
def none {H : Type} : Left H := { results := [], args := [] }

/-- 'cipherplanlaw11.PatternPrefix': WHATEVER THE INPUT: true; the input reads as it did. -/
def patternPrefixSpec : ChangeSpec := { name := "patternPrefix", fn := fun _ => fun
  | [d] => { results := [.lit (.bool true)], args := [d] }
  | _ => none }
def patternPrefixRow : OpenClaim := { program := "ytfkgbfhpibiheaa", sum := "0c7f984aa37ded8bf84a2765ef34946ba9e4a06a335a8970b0b9c4201b3defab", func := "cipherplan/cipherplanlaw11.PatternPrefix", spec := "patternPrefix", unfollowed := true, recurses := true, apart := false }
def PatternPrefixSaid : Prop := patternPrefixRow.holds Try.pinned (OpenSpec.ofChange patternPrefixSpec)

/-- ITS FALSE NEIGHBOUR: 'it returns false'. Refute it at one input. -/
def patternPrefixWrong : ChangeSpec := { name := "patternPrefix", fn := fun _ => fun
  | [d] => { results := [.lit (.bool false)], args := [d] }
  | _ => none }
def PatternPrefixWrongFalsely : Prop := patternPrefixRow.holds Try.pinned (OpenSpec.ofChange patternPrefixWrong)

/-- 'cipherplanlaw11.PatternRaw': WHATEVER THE INPUT: true; the input reads as it did. -/
def patternRawSpec : ChangeSpec := { name := "patternRaw", fn := fun _ => fun
  | [d1, d2] => { results := [.lit (.bool true)], args := [d1, d2] }
  | _ => none }
def patternRawRow : OpenClaim := { program := "ytfkgbfhpibiheaa", sum := "0c7f984aa37ded8bf84a2765ef34946ba9e4a06a335a8970b0b9c4201b3defab", func := "cipherplan/cipherplanlaw11.PatternRaw", spec := "patternRaw", unfollowed := true, recurses := true, apart := false }
def PatternRawSaid : Prop := patternRawRow.holds Try.pinned (OpenSpec.ofChange patternRawSpec)

/-- ITS FALSE NEIGHBOUR: 'it returns false'. Refute it at one input. -/
def patternRawWrong : ChangeSpec := { name := "patternRaw", fn := fun _ => fun
  | [d1, d2] => { results := [.lit (.bool false)], args := [d1, d2] }
  | _ => none }
def PatternRawWrongFalsely : Prop := patternRawRow.holds Try.pinned (OpenSpec.ofChange patternRawWrong)

/-- 'cipherplanlaw11.PatternPlaces': WHATEVER THE INPUT: true; the input reads as it did. -/
def patternPlacesSpec : ChangeSpec := { name := "patternPlaces", fn := fun _ => fun
  | [d] => { results := [.lit (.bool true)], args := [d] }
  | _ => none }
def patternPlacesRow : OpenClaim := { program := "ytfkgbfhpibiheaa", sum := "0c7f984aa37ded8bf84a2765ef34946ba9e4a06a335a8970b0b9c4201b3defab", func := "cipherplan/cipherplanlaw11.PatternPlaces", spec := "patternPlaces", unfollowed := true, recurses := true, apart := false }
def PatternPlacesSaid : Prop := patternPlacesRow.holds Try.pinned (OpenSpec.ofChange patternPlacesSpec)

/-- ITS FALSE NEIGHBOUR: 'it returns false'. Refute it at one input. -/
def patternPlacesWrong : ChangeSpec := { name := "patternPlaces", fn := fun _ => fun
  | [d] => { results := [.lit (.bool false)], args := [d] }
  | _ => none }
def PatternPlacesWrongFalsely : Prop := patternPlacesRow.holds Try.pinned (OpenSpec.ofChange patternPlacesWrong)

/-- 'cipherplanlaw11.PatternWithin': WHATEVER THE INPUT: true; the input reads as it did. -/
def patternWithinSpec : ChangeSpec := { name := "patternWithin", fn := fun _ => fun
  | [d] => { results := [.lit (.bool true)], args := [d] }
  | _ => none }
def patternWithinRow : OpenClaim := { program := "ytfkgbfhpibiheaa", sum := "0c7f984aa37ded8bf84a2765ef34946ba9e4a06a335a8970b0b9c4201b3defab", func := "cipherplan/cipherplanlaw11.PatternWithin", spec := "patternWithin", unfollowed := true, recurses := true, apart := false }
def PatternWithinSaid : Prop := patternWithinRow.holds Try.pinned (OpenSpec.ofChange patternWithinSpec)

/-- ITS FALSE NEIGHBOUR: 'it returns false'. Refute it at one input. -/
def patternWithinWrong : ChangeSpec := { name := "patternWithin", fn := fun _ => fun
  | [d] => { results := [.lit (.bool false)], args := [d] }
  | _ => none }
def PatternWithinWrongFalsely : Prop := patternWithinRow.holds Try.pinned (OpenSpec.ofChange patternWithinWrong)

/-- 'cipherplanlaw11.PatternMade': WHATEVER THE INPUT: true; the input reads as it did. -/
def patternMadeSpec : ChangeSpec := { name := "patternMade", fn := fun _ => fun
  | [d1, d2] => { results := [.lit (.bool true)], args := [d1, d2] }
  | _ => none }
def patternMadeRow : OpenClaim := { program := "ytfkgbfhpibiheaa", sum := "0c7f984aa37ded8bf84a2765ef34946ba9e4a06a335a8970b0b9c4201b3defab", func := "cipherplan/cipherplanlaw11.PatternMade", spec := "patternMade", unfollowed := true, recurses := true, apart := false }
def PatternMadeSaid : Prop := patternMadeRow.holds Try.pinned (OpenSpec.ofChange patternMadeSpec)

/-- ITS FALSE NEIGHBOUR: 'it returns false'. Refute it at one input. -/
def patternMadeWrong : ChangeSpec := { name := "patternMade", fn := fun _ => fun
  | [d1, d2] => { results := [.lit (.bool false)], args := [d1, d2] }
  | _ => none }
def PatternMadeWrongFalsely : Prop := patternMadeRow.holds Try.pinned (OpenSpec.ofChange patternMadeWrong)

/- THE SECOND FORM. 'bulk': how many values and letters a reading holds, each counted each time it is reached (what is shared counts as often as it is met; a slice's spare places count too). A statement '..UptoSaid' is the law's where the arguments, and the package variables that the reading takes, are together of bulk at most 1048576: NARROWER than '..Said'. Prove '..Said' where nothing that the law and all that it calls make is longer than what came in: it says more and counts as full. Else prove '..UptoSaid'. A law counts once. -/
mutual
def uptoBulk {H : Type} : DataW H → Nat
  | .lit (.string bytes) => bytes.length + 1
  | .lit _ => 1
  | .nil => 1
  | .ptr d => uptoBulk d + 1
  | .slice elems spare => uptoBulkAll elems + uptoBulkAll spare + 1
  | .agg parts => uptoBulkAll parts + 1
  | .iface _ d => uptoBulk d + 1
  | .map entries => uptoBulkEntries entries + 1
  | .held _ => 1
def uptoBulkAll {H : Type} : List (DataW H) → Nat
  | [] => 0
  | d :: r => uptoBulk d + uptoBulkAll r
def uptoBulkEntries {H : Type} : List (Lit × DataW H) → Nat
  | [] => 0
  | x :: r => uptoBulkEntry x + uptoBulkEntries r
def uptoBulkEntry {H : Type} : Lit × DataW H → Nat
  | (.string bytes, d) => bytes.length + uptoBulk d + 1
  | (_, d) => uptoBulk d + 1
 end
def uptoSmall : (H : Type) → List (DataW H) → Bool := fun _ ds => decide (uptoBulkAll ds ≤ 1048576)
def OpenSpec.upto (s : _root_.Go.ChangeSpec) : _root_.Go.OpenSpec := { _root_.Go.OpenSpec.ofChange s with cond := some uptoSmall }

/-- 'cipherplanlaw11.PatternPrefix', WHERE WHAT IT READS IS OF BULK AT MOST 1048576: true; the input reads as it did. -/
def patternPrefixUptoRow : OpenClaim := { program := "ytfkgbfhpibiheaa", sum := "0c7f984aa37ded8bf84a2765ef34946ba9e4a06a335a8970b0b9c4201b3defab", func := "cipherplan/cipherplanlaw11.PatternPrefix", spec := "patternPrefix", unfollowed := true, recurses := true, apart := false, narrowed := true }
def PatternPrefixUptoSaid : Prop := patternPrefixUptoRow.holds Try.pinned (OpenSpec.upto patternPrefixSpec)

/-- 'cipherplanlaw11.PatternRaw', WHERE WHAT IT READS IS OF BULK AT MOST 1048576: true; the input reads as it did. -/
def patternRawUptoRow : OpenClaim := { program := "ytfkgbfhpibiheaa", sum := "0c7f984aa37ded8bf84a2765ef34946ba9e4a06a335a8970b0b9c4201b3defab", func := "cipherplan/cipherplanlaw11.PatternRaw", spec := "patternRaw", unfollowed := true, recurses := true, apart := false, narrowed := true }
def PatternRawUptoSaid : Prop := patternRawUptoRow.holds Try.pinned (OpenSpec.upto patternRawSpec)

/-- 'cipherplanlaw11.PatternPlaces', WHERE WHAT IT READS IS OF BULK AT MOST 1048576: true; the input reads as it did. -/
def patternPlacesUptoRow : OpenClaim := { program := "ytfkgbfhpibiheaa", sum := "0c7f984aa37ded8bf84a2765ef34946ba9e4a06a335a8970b0b9c4201b3defab", func := "cipherplan/cipherplanlaw11.PatternPlaces", spec := "patternPlaces", unfollowed := true, recurses := true, apart := false, narrowed := true }
def PatternPlacesUptoSaid : Prop := patternPlacesUptoRow.holds Try.pinned (OpenSpec.upto patternPlacesSpec)

/-- 'cipherplanlaw11.PatternWithin', WHERE WHAT IT READS IS OF BULK AT MOST 1048576: true; the input reads as it did. -/
def patternWithinUptoRow : OpenClaim := { program := "ytfkgbfhpibiheaa", sum := "0c7f984aa37ded8bf84a2765ef34946ba9e4a06a335a8970b0b9c4201b3defab", func := "cipherplan/cipherplanlaw11.PatternWithin", spec := "patternWithin", unfollowed := true, recurses := true, apart := false, narrowed := true }
def PatternWithinUptoSaid : Prop := patternWithinUptoRow.holds Try.pinned (OpenSpec.upto patternWithinSpec)

/-- 'cipherplanlaw11.PatternMade', WHERE WHAT IT READS IS OF BULK AT MOST 1048576: true; the input reads as it did. -/
def patternMadeUptoRow : OpenClaim := { program := "ytfkgbfhpibiheaa", sum := "0c7f984aa37ded8bf84a2765ef34946ba9e4a06a335a8970b0b9c4201b3defab", func := "cipherplan/cipherplanlaw11.PatternMade", spec := "patternMade", unfollowed := true, recurses := true, apart := false, narrowed := true }
def PatternMadeUptoSaid : Prop := patternMadeUptoRow.holds Try.pinned (OpenSpec.upto patternMadeSpec)

end Rows
end Go.Proofs.Ytfkgbfhpibiheaa
