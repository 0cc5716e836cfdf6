/-
  NARROWER THAN 'FOR EVERY INPUT', by the rows' own cells (each row's printed sentence says how): OrderLoops: laid · OrderParts: laid · OrderFirst: laid · OrderSets: laid · OrderAll: laid.
  DERIVED. THE GIVEN ROWS OF THIS SEAT. 5 by the template 'for every input the law returns true; each argument reads behind the call as it read before'; 0 by the template 'total and deterministic' (their statements: YtopkgllcjbpdeaaDoorTotals.lean).
  GIVEN WITH THE SEED: the statements are not yours to turn. If you find one false, say at which input.
  Laid BY PROGRAM, IN A SANDBOX (cutbox-rows.mjs): the forced cells as the released guide's own fill.sh prints them over the translation d5a2c01e2627e0fe… (all of the seat's roots in one cut). By AI agents, Wed Nov 11 2026. No macro, syntax, notation, axiom, sorry.
-/
import Derived.Test.YtopkgllcjbpdeaaDoorChecked
import GoSem.Claim
import GoSem.ClaimJoined
import GoSem.ClaimMapViews
import Derived.JoinedTies
import Derived.KernelRfl
namespace Go.Proofs.YtopkgllcjbpdeaaDoor
/- THE CELL 'sum', in the pinned program and in every row, IS THE sha256 OF THE DUMP (.gsa) THAT YtopkgllcjbpdeaaDoorProg.lean LOADS. Nothing in Lean hashes anything: it is a label: what it is worth is what the hold of that sum in a sandbox is worth. -/
noncomputable def Tryd.pinned : Pinned := { name := "ytopkgllcjbpdeaadoor", sum := "d5a2c01e2627e0feabd113e23d8bf6609f4a2f971b19ab6afe6adbe6dc6401d6", checked := Tryd.checked }
namespace Rows
def none {H : Type} : Left H := { results := [], args := [] }

/- WHAT THE LISTED PACKAGE-LEVEL VARIABLES READ AS WHEN THE CALL BEGINS. Each datum BY PROGRAM (the guide's laid-datum.mjs) off the statement by which the dump's own 'gosem.cut.vars' lays the variable. In a bare row this is a premise. The card (YtopkgllcjbpdeaaDoorCards.lean) ties it to the program's text. -/
def laid_math_bits_deBruijn32tab {H : Type} : DataW H := .agg [.lit (.int .u8 0), .lit (.int .u8 1), .lit (.int .u8 28), .lit (.int .u8 2), .lit (.int .u8 29), .lit (.int .u8 14), .lit (.int .u8 24), .lit (.int .u8 3), .lit (.int .u8 30), .lit (.int .u8 22), .lit (.int .u8 20), .lit (.int .u8 15), .lit (.int .u8 25), .lit (.int .u8 17), .lit (.int .u8 4), .lit (.int .u8 8), .lit (.int .u8 31), .lit (.int .u8 27), .lit (.int .u8 13), .lit (.int .u8 23), .lit (.int .u8 21), .lit (.int .u8 19), .lit (.int .u8 16), .lit (.int .u8 7), .lit (.int .u8 26), .lit (.int .u8 12), .lit (.int .u8 18), .lit (.int .u8 6), .lit (.int .u8 11), .lit (.int .u8 5), .lit (.int .u8 10), .lit (.int .u8 9)]

/-- 'cipherplanlaw29.OrderLoops': WHATEVER THE INPUT: true; the input reads as it did. -/
def orderLoopsSpec : ChangeSpec := { name := "orderLoops", fn := fun _ => fun
  | [d1, d2, d3] => { results := [.lit (.bool true)], args := [d1, d2, d3] }
  | _ => none }
def orderLoopsRow : OpenClaim := { program := "ytopkgllcjbpdeaadoor", sum := "d5a2c01e2627e0feabd113e23d8bf6609f4a2f971b19ab6afe6adbe6dc6401d6", func := "cipherplan/cipherplanlaw29.OrderLoops", spec := "orderLoops", unfollowed := true, recurses := true, named := ["math/bits.deBruijn32tab"], apart := false, laid := [("math/bits.deBruijn32tab", laid_math_bits_deBruijn32tab)] }
def OrderLoopsSaid : Prop := orderLoopsRow.holds Tryd.pinned (OpenSpec.ofChange orderLoopsSpec)

/-- ITS FALSE NEIGHBOUR: 'it returns false'. Refute it at one input. -/
def orderLoopsWrong : ChangeSpec := { name := "orderLoops", fn := fun _ => fun
  | [d1, d2, d3] => { results := [.lit (.bool false)], args := [d1, d2, d3] }
  | _ => none }
def OrderLoopsWrongFalsely : Prop := orderLoopsRow.holds Tryd.pinned (OpenSpec.ofChange orderLoopsWrong)

/-- 'cipherplanlaw29.OrderParts': WHATEVER THE INPUT: true; the input reads as it did. -/
def orderPartsSpec : ChangeSpec := { name := "orderParts", fn := fun _ => fun
  | [d] => { results := [.lit (.bool true)], args := [d] }
  | _ => none }
def orderPartsRow : OpenClaim := { program := "ytopkgllcjbpdeaadoor", sum := "d5a2c01e2627e0feabd113e23d8bf6609f4a2f971b19ab6afe6adbe6dc6401d6", func := "cipherplan/cipherplanlaw29.OrderParts", spec := "orderParts", unfollowed := true, recurses := true, named := ["math/bits.deBruijn32tab"], apart := false, laid := [("math/bits.deBruijn32tab", laid_math_bits_deBruijn32tab)] }
def OrderPartsSaid : Prop := orderPartsRow.holds Tryd.pinned (OpenSpec.ofChange orderPartsSpec)

/-- ITS FALSE NEIGHBOUR: 'it returns false'. Refute it at one input. -/
def orderPartsWrong : ChangeSpec := { name := "orderParts", fn := fun _ => fun
  | [d] => { results := [.lit (.bool false)], args := [d] }
  | _ => none }
def OrderPartsWrongFalsely : Prop := orderPartsRow.holds Tryd.pinned (OpenSpec.ofChange orderPartsWrong)

/-- 'cipherplanlaw29.OrderFirst': WHATEVER THE INPUT: true; the input reads as it did. -/
def orderFirstSpec : ChangeSpec := { name := "orderFirst", fn := fun _ => fun
  | [d1, d2, d3] => { results := [.lit (.bool true)], args := [d1, d2, d3] }
  | _ => none }
def orderFirstRow : OpenClaim := { program := "ytopkgllcjbpdeaadoor", sum := "d5a2c01e2627e0feabd113e23d8bf6609f4a2f971b19ab6afe6adbe6dc6401d6", func := "cipherplan/cipherplanlaw29.OrderFirst", spec := "orderFirst", unfollowed := true, recurses := true, named := ["math/bits.deBruijn32tab"], apart := false, laid := [("math/bits.deBruijn32tab", laid_math_bits_deBruijn32tab)] }
def OrderFirstSaid : Prop := orderFirstRow.holds Tryd.pinned (OpenSpec.ofChange orderFirstSpec)

/-- ITS FALSE NEIGHBOUR: 'it returns false'. Refute it at one input. -/
def orderFirstWrong : ChangeSpec := { name := "orderFirst", fn := fun _ => fun
  | [d1, d2, d3] => { results := [.lit (.bool false)], args := [d1, d2, d3] }
  | _ => none }
def OrderFirstWrongFalsely : Prop := orderFirstRow.holds Tryd.pinned (OpenSpec.ofChange orderFirstWrong)

/-- 'cipherplanlaw29.OrderSets': WHATEVER THE INPUT: true; the input reads as it did. -/
def orderSetsSpec : ChangeSpec := { name := "orderSets", fn := fun _ => fun
  | [d] => { results := [.lit (.bool true)], args := [d] }
  | _ => none }
def orderSetsRow : OpenClaim := { program := "ytopkgllcjbpdeaadoor", sum := "d5a2c01e2627e0feabd113e23d8bf6609f4a2f971b19ab6afe6adbe6dc6401d6", func := "cipherplan/cipherplanlaw29.OrderSets", spec := "orderSets", unfollowed := true, recurses := true, named := ["math/bits.deBruijn32tab"], apart := false, laid := [("math/bits.deBruijn32tab", laid_math_bits_deBruijn32tab)] }
def OrderSetsSaid : Prop := orderSetsRow.holds Tryd.pinned (OpenSpec.ofChange orderSetsSpec)

/-- ITS FALSE NEIGHBOUR: 'it returns false'. Refute it at one input. -/
def orderSetsWrong : ChangeSpec := { name := "orderSets", fn := fun _ => fun
  | [d] => { results := [.lit (.bool false)], args := [d] }
  | _ => none }
def OrderSetsWrongFalsely : Prop := orderSetsRow.holds Tryd.pinned (OpenSpec.ofChange orderSetsWrong)

/-- 'cipherplanlaw29.OrderAll': WHATEVER THE INPUT: true; the input reads as it did. -/
def orderAllSpec : ChangeSpec := { name := "orderAll", fn := fun _ => fun
  | [d1, d2, d3, d4] => { results := [.lit (.bool true)], args := [d1, d2, d3, d4] }
  | _ => none }
def orderAllRow : OpenClaim := { program := "ytopkgllcjbpdeaadoor", sum := "d5a2c01e2627e0feabd113e23d8bf6609f4a2f971b19ab6afe6adbe6dc6401d6", func := "cipherplan/cipherplanlaw29.OrderAll", spec := "orderAll", unfollowed := true, recurses := true, named := ["math/bits.deBruijn32tab"], apart := false, laid := [("math/bits.deBruijn32tab", laid_math_bits_deBruijn32tab)] }
def OrderAllSaid : Prop := orderAllRow.holds Tryd.pinned (OpenSpec.ofChange orderAllSpec)

/-- ITS FALSE NEIGHBOUR: 'it returns false'. Refute it at one input. -/
def orderAllWrong : ChangeSpec := { name := "orderAll", fn := fun _ => fun
  | [d1, d2, d3, d4] => { results := [.lit (.bool false)], args := [d1, d2, d3, d4] }
  | _ => none }
def OrderAllWrongFalsely : Prop := orderAllRow.holds Tryd.pinned (OpenSpec.ofChange orderAllWrong)

/- THE SECOND FORM. 'bulk': how many values and letters a reading holds, each counted each time it is reached (what is shared counts as often as it is met; a slice's spare places count too). A statement '..UptoSaid' is the law's where the arguments, and the package variables that the reading takes, are together of bulk at most 1048576: NARROWER than '..Said'. Prove '..Said' where nothing that the law and all that it calls make is longer than what came in: it says more and counts as full. Else prove '..UptoSaid'. A law counts once. -/
mutual
def uptoBulk {H : Type} : DataW H → Nat
  | .lit (.string bytes) => bytes.length + 1
  | .lit _ => 1
  | .nil => 1
  | .ptr d => uptoBulk d + 1
  | .slice elems spare => uptoBulkAll elems + uptoBulkAll spare + 1
  | .agg parts => uptoBulkAll parts + 1
  | .iface _ d => uptoBulk d + 1
  | .map entries => uptoBulkEntries entries + 1
  | .held _ => 1
def uptoBulkAll {H : Type} : List (DataW H) → Nat
  | [] => 0
  | d :: r => uptoBulk d + uptoBulkAll r
def uptoBulkEntries {H : Type} : List (Lit × DataW H) → Nat
  | [] => 0
  | x :: r => uptoBulkEntry x + uptoBulkEntries r
def uptoBulkEntry {H : Type} : Lit × DataW H → Nat
  | (.string bytes, d) => bytes.length + uptoBulk d + 1
  | (_, d) => uptoBulk d + 1
 end
def uptoSmall : (H : Type) → List (DataW H) → Bool := fun _ ds => decide (uptoBulkAll ds ≤ 1048576)
def OpenSpec.upto (s : _root_.Go.ChangeSpec) : _root_.Go.OpenSpec := { _root_.Go.OpenSpec.ofChange s with cond := some uptoSmall }

/-- 'cipherplanlaw29.OrderLoops', WHERE WHAT IT READS IS OF BULK AT MOST 1048576: true; the input reads as it did. -/
def orderLoopsUptoRow : OpenClaim := { program := "ytopkgllcjbpdeaadoor", sum := "d5a2c01e2627e0feabd113e23d8bf6609f4a2f971b19ab6afe6adbe6dc6401d6", func := "cipherplan/cipherplanlaw29.OrderLoops", spec := "orderLoops", unfollowed := true, recurses := true, named := ["math/bits.deBruijn32tab"], apart := false, laid := [("math/bits.deBruijn32tab", laid_math_bits_deBruijn32tab)], narrowed := true }
def OrderLoopsUptoSaid : Prop := orderLoopsUptoRow.holds Tryd.pinned (OpenSpec.upto orderLoopsSpec)

/-- 'cipherplanlaw29.OrderParts', WHERE WHAT IT READS IS OF BULK AT MOST 1048576: true; the input reads as it did. -/
def orderPartsUptoRow : OpenClaim := { program := "ytopkgllcjbpdeaadoor", sum := "d5a2c01e2627e0feabd113e23d8bf6609f4a2f971b19ab6afe6adbe6dc6401d6", func := "cipherplan/cipherplanlaw29.OrderParts", spec := "orderParts", unfollowed := true, recurses := true, named := ["math/bits.deBruijn32tab"], apart := false, laid := [("math/bits.deBruijn32tab", laid_math_bits_deBruijn32tab)], narrowed := true }
def OrderPartsUptoSaid : Prop := orderPartsUptoRow.holds Tryd.pinned (OpenSpec.upto orderPartsSpec)

/-- 'cipherplanlaw29.OrderFirst', WHERE WHAT IT READS IS OF BULK AT MOST 1048576: true; the input reads as it did. -/
def orderFirstUptoRow : OpenClaim := { program := "ytopkgllcjbpdeaadoor", sum := "d5a2c01e2627e0feabd113e23d8bf6609f4a2f971b19ab6afe6adbe6dc6401d6", func := "cipherplan/cipherplanlaw29.OrderFirst", spec := "orderFirst", unfollowed := true, recurses := true, named := ["math/bits.deBruijn32tab"], apart := false, laid := [("math/bits.deBruijn32tab", laid_math_bits_deBruijn32tab)], narrowed := true }
def OrderFirstUptoSaid : Prop := orderFirstUptoRow.holds Tryd.pinned (OpenSpec.upto orderFirstSpec)

/-- 'cipherplanlaw29.OrderSets', WHERE WHAT IT READS IS OF BULK AT MOST 1048576: true; the input reads as it did. -/
def orderSetsUptoRow : OpenClaim := { program := "ytopkgllcjbpdeaadoor", sum := "d5a2c01e2627e0feabd113e23d8bf6609f4a2f971b19ab6afe6adbe6dc6401d6", func := "cipherplan/cipherplanlaw29.OrderSets", spec := "orderSets", unfollowed := true, recurses := true, named := ["math/bits.deBruijn32tab"], apart := false, laid := [("math/bits.deBruijn32tab", laid_math_bits_deBruijn32tab)], narrowed := true }
def OrderSetsUptoSaid : Prop := orderSetsUptoRow.holds Tryd.pinned (OpenSpec.upto orderSetsSpec)

/-- 'cipherplanlaw29.OrderAll', WHERE WHAT IT READS IS OF BULK AT MOST 1048576: true; the input reads as it did. -/
def orderAllUptoRow : OpenClaim := { program := "ytopkgllcjbpdeaadoor", sum := "d5a2c01e2627e0feabd113e23d8bf6609f4a2f971b19ab6afe6adbe6dc6401d6", func := "cipherplan/cipherplanlaw29.OrderAll", spec := "orderAll", unfollowed := true, recurses := true, named := ["math/bits.deBruijn32tab"], apart := false, laid := [("math/bits.deBruijn32tab", laid_math_bits_deBruijn32tab)], narrowed := true }
def OrderAllUptoSaid : Prop := orderAllUptoRow.holds Tryd.pinned (OpenSpec.upto orderAllSpec)

end Rows
end Go.Proofs.YtopkgllcjbpdeaaDoor
