/-
  No cell of these rows narrows 'for every input' (looked for: loops, veiled, ifaces, maps, wideKeys, modest, calm, conditions, laid).
  DERIVED. THE GIVEN ROWS OF THIS SEAT. 3 by the template 'for every input the law returns true; each argument reads behind the call as it read before'; 0 by the template 'total and deterministic' (their statements: YtjomajedgbcngaaTotals.lean).
  GIVEN WITH THE SEED: the statements are not yours to turn. If you find one false, say at which input.
  Laid BY PROGRAM, IN A SANDBOX (cutbox-rows.mjs): the forced cells as the released guide's own fill.sh prints them over the translation 69e41548ba78e8a5… (all of the seat's roots in one cut). By AI agents, Wed Nov 11 2026. No macro, syntax, notation, axiom, sorry.
-/
import Derived.Test.YtjomajedgbcngaaChecked
import GoSem.Claim
import GoSem.ClaimJoined
import GoSem.ClaimMapViews
import Derived.JoinedTies
import Derived.KernelRfl
namespace Go.Proofs.Ytjomajedgbcngaa
/- THE CELL 'sum', in the pinned program and in every row, IS THE sha256 OF THE DUMP (.gsa) THAT YtjomajedgbcngaaProg.lean LOADS. Nothing in Lean hashes anything: it is a label: what it is worth is what the hold of that sum in a sandbox is worth. -/
noncomputable def Try.pinned : Pinned := { name := "ytjomajedgbcngaa", sum := "69e41548ba78e8a53b5d72361cbd123f9b01716ce1b4745a0b1e938c89fc6fda", checked := Try.checked }
namespace Rows
def none {H : Type} : Left H := { results := [], args := [] }

/-- 'cipherplanlaw14.FindingOrders': WHATEVER THE INPUT: true; the input reads as it did. -/
def findingOrdersSpec : ChangeSpec := { name := "findingOrders", fn := fun _ => fun
  | [d] => { results := [.lit (.bool true)], args := [d] }
  | _ => none }
def findingOrdersRow : OpenClaim := { program := "ytjomajedgbcngaa", sum := "69e41548ba78e8a53b5d72361cbd123f9b01716ce1b4745a0b1e938c89fc6fda", func := "cipherplan/cipherplanlaw14.FindingOrders", spec := "findingOrders", inPlace := ["internal/bytealg.abigen_runtime_cmpstring"], unfollowed := true, recurses := true, apart := false }
def FindingOrdersSaid : Prop := findingOrdersRow.holds Try.pinned (OpenSpec.ofChange findingOrdersSpec)

/-- ITS FALSE NEIGHBOUR: 'it returns false'. Refute it at one input. -/
def findingOrdersWrong : ChangeSpec := { name := "findingOrders", fn := fun _ => fun
  | [d] => { results := [.lit (.bool false)], args := [d] }
  | _ => none }
def FindingOrdersWrongFalsely : Prop := findingOrdersRow.holds Try.pinned (OpenSpec.ofChange findingOrdersWrong)

/-- 'cipherplanlaw14.FindingMade': WHATEVER THE INPUT: true; the input reads as it did. -/
def findingMadeSpec : ChangeSpec := { name := "findingMade", fn := fun _ => fun
  | [d1, d2] => { results := [.lit (.bool true)], args := [d1, d2] }
  | _ => none }
def findingMadeRow : OpenClaim := { program := "ytjomajedgbcngaa", sum := "69e41548ba78e8a53b5d72361cbd123f9b01716ce1b4745a0b1e938c89fc6fda", func := "cipherplan/cipherplanlaw14.FindingMade", spec := "findingMade", inPlace := ["internal/bytealg.abigen_runtime_cmpstring"], unfollowed := true, recurses := true, apart := false }
def FindingMadeSaid : Prop := findingMadeRow.holds Try.pinned (OpenSpec.ofChange findingMadeSpec)

/-- ITS FALSE NEIGHBOUR: 'it returns false'. Refute it at one input. -/
def findingMadeWrong : ChangeSpec := { name := "findingMade", fn := fun _ => fun
  | [d1, d2] => { results := [.lit (.bool false)], args := [d1, d2] }
  | _ => none }
def FindingMadeWrongFalsely : Prop := findingMadeRow.holds Try.pinned (OpenSpec.ofChange findingMadeWrong)

/-- 'cipherplanlaw14.FindingMerges': WHATEVER THE INPUT: true; the input reads as it did. -/
def findingMergesSpec : ChangeSpec := { name := "findingMerges", fn := fun _ => fun
  | [d] => { results := [.lit (.bool true)], args := [d] }
  | _ => none }
def findingMergesRow : OpenClaim := { program := "ytjomajedgbcngaa", sum := "69e41548ba78e8a53b5d72361cbd123f9b01716ce1b4745a0b1e938c89fc6fda", func := "cipherplan/cipherplanlaw14.FindingMerges", spec := "findingMerges", inPlace := ["internal/bytealg.abigen_runtime_cmpstring"], unfollowed := true, recurses := true, apart := false }
def FindingMergesSaid : Prop := findingMergesRow.holds Try.pinned (OpenSpec.ofChange findingMergesSpec)

/-- ITS FALSE NEIGHBOUR: 'it returns false'. Refute it at one input. -/
def findingMergesWrong : ChangeSpec := { name := "findingMerges", fn := fun _ => fun
  | [d] => { results := [.lit (.bool false)], args := [d] }
  | _ => none }
def FindingMergesWrongFalsely : Prop := findingMergesRow.holds Try.pinned (OpenSpec.ofChange findingMergesWrong)

/- THE SECOND FORM. 'bulk': how many values and letters a reading holds, each counted each time it is reached (what is shared counts as often as it is met; a slice's spare places count too). A statement '..UptoSaid' is the law's where the arguments, and the package variables that the reading takes, are together of bulk at most 1048576: NARROWER than '..Said'. Prove '..Said' where nothing that the law and all that it calls make is longer than what came in: it says more and counts as full. Else prove '..UptoSaid'. A law counts once. -/
mutual
def uptoBulk {H : Type} : DataW H → Nat
  | .lit (.string bytes) => bytes.length + 1
  | .lit _ => 1
  | .nil => 1
  | .ptr d => uptoBulk d + 1
  | .slice elems spare => uptoBulkAll elems + uptoBulkAll spare + 1
  | .agg parts => uptoBulkAll parts + 1
  | .iface _ d => uptoBulk d + 1
  | .map entries => uptoBulkEntries entries + 1
  | .held _ => 1
def uptoBulkAll {H : Type} : List (DataW H) → Nat
  | [] => 0
  | d :: r => uptoBulk d + uptoBulkAll r
def uptoBulkEntries {H : Type} : List (Lit × DataW H) → Nat
  | [] => 0
  | x :: r => uptoBulkEntry x + uptoBulkEntries r
def uptoBulkEntry {H : Type} : Lit × DataW H → Nat
  | (.string bytes, d) => bytes.length + uptoBulk d + 1
  | (_, d) => uptoBulk d + 1
 end
def uptoSmall : (H : Type) → List (DataW H) → Bool := fun _ ds => decide (uptoBulkAll ds ≤ 1048576)
def OpenSpec.upto (s : _root_.Go.ChangeSpec) : _root_.Go.OpenSpec := { _root_.Go.OpenSpec.ofChange s with cond := some uptoSmall }

/-- 'cipherplanlaw14.FindingOrders', WHERE WHAT IT READS IS OF BULK AT MOST 1048576: true; the input reads as it did. -/
def findingOrdersUptoRow : OpenClaim := { program := "ytjomajedgbcngaa", sum := "69e41548ba78e8a53b5d72361cbd123f9b01716ce1b4745a0b1e938c89fc6fda", func := "cipherplan/cipherplanlaw14.FindingOrders", spec := "findingOrders", inPlace := ["internal/bytealg.abigen_runtime_cmpstring"], unfollowed := true, recurses := true, apart := false, narrowed := true }
def FindingOrdersUptoSaid : Prop := findingOrdersUptoRow.holds Try.pinned (OpenSpec.upto findingOrdersSpec)

/-- 'cipherplanlaw14.FindingMade', WHERE WHAT IT READS IS OF BULK AT MOST 1048576: true; the input reads as it did. -/
def findingMadeUptoRow : OpenClaim := { program := "ytjomajedgbcngaa", sum := "69e41548ba78e8a53b5d72361cbd123f9b01716ce1b4745a0b1e938c89fc6fda", func := "cipherplan/cipherplanlaw14.FindingMade", spec := "findingMade", inPlace := ["internal/bytealg.abigen_runtime_cmpstring"], unfollowed := true, recurses := true, apart := false, narrowed := true }
def FindingMadeUptoSaid : Prop := findingMadeUptoRow.holds Try.pinned (OpenSpec.upto findingMadeSpec)

/-- 'cipherplanlaw14.FindingMerges', WHERE WHAT IT READS IS OF BULK AT MOST 1048576: true; the input reads as it did. -/
def findingMergesUptoRow : OpenClaim := { program := "ytjomajedgbcngaa", sum := "69e41548ba78e8a53b5d72361cbd123f9b01716ce1b4745a0b1e938c89fc6fda", func := "cipherplan/cipherplanlaw14.FindingMerges", spec := "findingMerges", inPlace := ["internal/bytealg.abigen_runtime_cmpstring"], unfollowed := true, recurses := true, apart := false, narrowed := true }
def FindingMergesUptoSaid : Prop := findingMergesUptoRow.holds Try.pinned (OpenSpec.upto findingMergesSpec)

end Rows
end Go.Proofs.Ytjomajedgbcngaa
