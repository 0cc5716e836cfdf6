/-
  No cell of these rows narrows 'for every input' (looked for: loops, veiled, ifaces, maps, wideKeys, modest, calm, conditions, laid).
  DERIVED. THE GIVEN ROWS OF THIS SEAT. 3 by the template 'for every input the law returns true; each argument reads behind the call as it read before'; 0 by the template 'total and deterministic' (their statements: YtmihjbejflcgkaaTotals.lean).
  GIVEN WITH THE SEED: the statements are not yours to turn. If you find one false, say at which input.
  Laid BY PROGRAM, IN A SANDBOX (cutbox-rows.mjs): the forced cells as the released guide's own fill.sh prints them over the translation e6f5385b8fc0bba6… (all of the seat's roots in one cut). By AI agents, Wed Nov 11 2026. No macro, syntax, notation, axiom, sorry.
-/
import Derived.Test.YtmihjbejflcgkaaChecked
import GoSem.Claim
import GoSem.ClaimJoined
import GoSem.ClaimMapViews
import Derived.JoinedTies
import Derived.KernelRfl
namespace Go.Proofs.Ytmihjbejflcgkaa
/- THE CELL 'sum', in the pinned program and in every row, IS THE sha256 OF THE DUMP (.gsa) THAT YtmihjbejflcgkaaProg.lean LOADS. Nothing in Lean hashes anything: it is a label: what it is worth is what the hold of that sum in a sandbox is worth. -/
noncomputable def Try.pinned : Pinned := { name := "ytmihjbejflcgkaa", sum := "e6f5385b8fc0bba6febe47d4e8d9149aa8b2bfc7a3db059873c5d9dd0e921f1d", checked := Try.checked }
namespace Rows
def none {H : Type} : Left H := { results := [], args := [] }

/-- 'cipherplanlaw19.ExceptionMade': WHATEVER THE INPUT: true; the input reads as it did. -/
def exceptionMadeSpec : ChangeSpec := { name := "exceptionMade", fn := fun _ => fun
  | [d1, d2, d3] => { results := [.lit (.bool true)], args := [d1, d2, d3] }
  | _ => none }
def exceptionMadeRow : OpenClaim := { program := "ytmihjbejflcgkaa", sum := "e6f5385b8fc0bba6febe47d4e8d9149aa8b2bfc7a3db059873c5d9dd0e921f1d", func := "cipherplan/cipherplanlaw19.ExceptionMade", spec := "exceptionMade", unfollowed := true, recurses := true, apart := false }
def ExceptionMadeSaid : Prop := exceptionMadeRow.holds Try.pinned (OpenSpec.ofChange exceptionMadeSpec)

/-- ITS FALSE NEIGHBOUR: 'it returns false'. Refute it at one input. -/
def exceptionMadeWrong : ChangeSpec := { name := "exceptionMade", fn := fun _ => fun
  | [d1, d2, d3] => { results := [.lit (.bool false)], args := [d1, d2, d3] }
  | _ => none }
def ExceptionMadeWrongFalsely : Prop := exceptionMadeRow.holds Try.pinned (OpenSpec.ofChange exceptionMadeWrong)

/-- 'cipherplanlaw19.ExceptionSeals': WHATEVER THE INPUT: true; the input reads as it did. -/
def exceptionSealsSpec : ChangeSpec := { name := "exceptionSeals", fn := fun _ => fun
  | [d1, d2] => { results := [.lit (.bool true)], args := [d1, d2] }
  | _ => none }
def exceptionSealsRow : OpenClaim := { program := "ytmihjbejflcgkaa", sum := "e6f5385b8fc0bba6febe47d4e8d9149aa8b2bfc7a3db059873c5d9dd0e921f1d", func := "cipherplan/cipherplanlaw19.ExceptionSeals", spec := "exceptionSeals", unfollowed := true, recurses := true, apart := false }
def ExceptionSealsSaid : Prop := exceptionSealsRow.holds Try.pinned (OpenSpec.ofChange exceptionSealsSpec)

/-- ITS FALSE NEIGHBOUR: 'it returns false'. Refute it at one input. -/
def exceptionSealsWrong : ChangeSpec := { name := "exceptionSeals", fn := fun _ => fun
  | [d1, d2] => { results := [.lit (.bool false)], args := [d1, d2] }
  | _ => none }
def ExceptionSealsWrongFalsely : Prop := exceptionSealsRow.holds Try.pinned (OpenSpec.ofChange exceptionSealsWrong)

/-- 'cipherplanlaw19.ExceptionEnds': WHATEVER THE INPUT: true; the input reads as it did. -/
def exceptionEndsSpec : ChangeSpec := { name := "exceptionEnds", fn := fun _ => fun
  | [d1, d2] => { results := [.lit (.bool true)], args := [d1, d2] }
  | _ => none }
def exceptionEndsRow : OpenClaim := { program := "ytmihjbejflcgkaa", sum := "e6f5385b8fc0bba6febe47d4e8d9149aa8b2bfc7a3db059873c5d9dd0e921f1d", func := "cipherplan/cipherplanlaw19.ExceptionEnds", spec := "exceptionEnds", unfollowed := true, recurses := true, apart := false }
def ExceptionEndsSaid : Prop := exceptionEndsRow.holds Try.pinned (OpenSpec.ofChange exceptionEndsSpec)

/-- ITS FALSE NEIGHBOUR: 'it returns false'. Refute it at one input. -/
def exceptionEndsWrong : ChangeSpec := { name := "exceptionEnds", fn := fun _ => fun
  | [d1, d2] => { results := [.lit (.bool false)], args := [d1, d2] }
  | _ => none }
def ExceptionEndsWrongFalsely : Prop := exceptionEndsRow.holds Try.pinned (OpenSpec.ofChange exceptionEndsWrong)

/- THE SECOND FORM. 'bulk': how many values and letters a reading holds, each counted each time it is reached (what is shared counts as often as it is met; a slice's spare places count too). A statement '..UptoSaid' is the law's where the arguments, and the package variables that the reading takes, are together of bulk at most 1048576: NARROWER than '..Said'. Prove '..Said' where nothing that the law and all that it calls make is longer than what came in: it says more and counts as full. Else prove '..UptoSaid'. A law counts once. -/
mutual
def uptoBulk {H : Type} : DataW H → Nat
  | .lit (.string bytes) => bytes.length + 1
  | .lit _ => 1
  | .nil => 1
  | .ptr d => uptoBulk d + 1
  | .slice elems spare => uptoBulkAll elems + uptoBulkAll spare + 1
  | .agg parts => uptoBulkAll parts + 1
  | .iface _ d => uptoBulk d + 1
  | .map entries => uptoBulkEntries entries + 1
  | .held _ => 1
def uptoBulkAll {H : Type} : List (DataW H) → Nat
  | [] => 0
  | d :: r => uptoBulk d + uptoBulkAll r
def uptoBulkEntries {H : Type} : List (Lit × DataW H) → Nat
  | [] => 0
  | x :: r => uptoBulkEntry x + uptoBulkEntries r
def uptoBulkEntry {H : Type} : Lit × DataW H → Nat
  | (.string bytes, d) => bytes.length + uptoBulk d + 1
  | (_, d) => uptoBulk d + 1
 end
def uptoSmall : (H : Type) → List (DataW H) → Bool := fun _ ds => decide (uptoBulkAll ds ≤ 1048576)
def OpenSpec.upto (s : _root_.Go.ChangeSpec) : _root_.Go.OpenSpec := { _root_.Go.OpenSpec.ofChange s with cond := some uptoSmall }

/-- 'cipherplanlaw19.ExceptionMade', WHERE WHAT IT READS IS OF BULK AT MOST 1048576: true; the input reads as it did. -/
def exceptionMadeUptoRow : OpenClaim := { program := "ytmihjbejflcgkaa", sum := "e6f5385b8fc0bba6febe47d4e8d9149aa8b2bfc7a3db059873c5d9dd0e921f1d", func := "cipherplan/cipherplanlaw19.ExceptionMade", spec := "exceptionMade", unfollowed := true, recurses := true, apart := false, narrowed := true }
def ExceptionMadeUptoSaid : Prop := exceptionMadeUptoRow.holds Try.pinned (OpenSpec.upto exceptionMadeSpec)

/-- 'cipherplanlaw19.ExceptionSeals', WHERE WHAT IT READS IS OF BULK AT MOST 1048576: true; the input reads as it did. -/
def exceptionSealsUptoRow : OpenClaim := { program := "ytmihjbejflcgkaa", sum := "e6f5385b8fc0bba6febe47d4e8d9149aa8b2bfc7a3db059873c5d9dd0e921f1d", func := "cipherplan/cipherplanlaw19.ExceptionSeals", spec := "exceptionSeals", unfollowed := true, recurses := true, apart := false, narrowed := true }
def ExceptionSealsUptoSaid : Prop := exceptionSealsUptoRow.holds Try.pinned (OpenSpec.upto exceptionSealsSpec)

/-- 'cipherplanlaw19.ExceptionEnds', WHERE WHAT IT READS IS OF BULK AT MOST 1048576: true; the input reads as it did. -/
def exceptionEndsUptoRow : OpenClaim := { program := "ytmihjbejflcgkaa", sum := "e6f5385b8fc0bba6febe47d4e8d9149aa8b2bfc7a3db059873c5d9dd0e921f1d", func := "cipherplan/cipherplanlaw19.ExceptionEnds", spec := "exceptionEnds", unfollowed := true, recurses := true, apart := false, narrowed := true }
def ExceptionEndsUptoSaid : Prop := exceptionEndsUptoRow.holds Try.pinned (OpenSpec.upto exceptionEndsSpec)

end Rows
end Go.Proofs.Ytmihjbejflcgkaa
