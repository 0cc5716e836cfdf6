/-
  No cell of these rows narrows 'for every input' (looked for: loops, veiled, ifaces, maps, wideKeys, modest, calm, conditions, laid).
  DERIVED. THE GIVEN ROWS OF THIS SEAT. 5 by the template 'for every input the law returns true; each argument reads behind the call as it read before'; 0 by the template 'total and deterministic' (their statements: YtobamahlipiakaaGreatTotals.lean).
  GIVEN WITH THE SEED: the statements are not yours to turn. If you find one false, say at which input.
  Laid BY PROGRAM, IN A SANDBOX (cutbox-rows.mjs): the forced cells as the released guide's own fill.sh prints them over the translation f5861b866baf5e08… (all of the seat's roots in one cut). By AI agents, Wed Nov 11 2026. No macro, syntax, notation, axiom, sorry.
-/
import Derived.Test.YtobamahlipiakaaGreatChecked
import GoSem.Claim
import GoSem.ClaimJoined
import GoSem.ClaimMapViews
import Derived.JoinedTies
import Derived.KernelRfl
namespace Go.Proofs.YtobamahlipiakaaGreat
/- THE CELL 'sum', in the pinned program and in every row, IS THE sha256 OF THE DUMP (.gsa) THAT YtobamahlipiakaaGreatProg.lean LOADS. Nothing in Lean hashes anything: it is a label: what it is worth is what the hold of that sum in a sandbox is worth. -/
noncomputable def Tryz.pinned : Pinned := { name := "ytobamahlipiakaagreat", sum := "f5861b866baf5e082d428dc2b17333791387244591c5d396fa7152eb213332ea", checked := Tryz.checked }
namespace Rows
def none {H : Type} : Left H := { results := [], args := [] }

/-- 'cipherplanlaw21.DowngradeShown': WHATEVER THE INPUT: true; the input reads as it did. -/
def downgradeShownSpec : ChangeSpec := { name := "downgradeShown", fn := fun _ => fun
  | [d1, d2] => { results := [.lit (.bool true)], args := [d1, d2] }
  | _ => none }
def downgradeShownRow : OpenClaim := { program := "ytobamahlipiakaagreat", sum := "f5861b866baf5e082d428dc2b17333791387244591c5d396fa7152eb213332ea", func := "cipherplan/cipherplanlaw21.DowngradeShown", spec := "downgradeShown", inPlace := ["internal/bytealg.IndexByteString"], unfollowed := true, recurses := true, apart := false }
def DowngradeShownSaid : Prop := downgradeShownRow.holds Tryz.pinned (OpenSpec.ofChange downgradeShownSpec)

/-- ITS FALSE NEIGHBOUR: 'it returns false'. Refute it at one input. -/
def downgradeShownWrong : ChangeSpec := { name := "downgradeShown", fn := fun _ => fun
  | [d1, d2] => { results := [.lit (.bool false)], args := [d1, d2] }
  | _ => none }
def DowngradeShownWrongFalsely : Prop := downgradeShownRow.holds Tryz.pinned (OpenSpec.ofChange downgradeShownWrong)

/-- 'cipherplanlaw21.DowngradeNone': WHATEVER THE INPUT: true; the input reads as it did. -/
def downgradeNoneSpec : ChangeSpec := { name := "downgradeNone", fn := fun _ => fun
  | [d1, d2, d3] => { results := [.lit (.bool true)], args := [d1, d2, d3] }
  | _ => none }
def downgradeNoneRow : OpenClaim := { program := "ytobamahlipiakaagreat", sum := "f5861b866baf5e082d428dc2b17333791387244591c5d396fa7152eb213332ea", func := "cipherplan/cipherplanlaw21.DowngradeNone", spec := "downgradeNone", inPlace := ["internal/bytealg.IndexByteString"], unfollowed := true, recurses := true, apart := false }
def DowngradeNoneSaid : Prop := downgradeNoneRow.holds Tryz.pinned (OpenSpec.ofChange downgradeNoneSpec)

/-- ITS FALSE NEIGHBOUR: 'it returns false'. Refute it at one input. -/
def downgradeNoneWrong : ChangeSpec := { name := "downgradeNone", fn := fun _ => fun
  | [d1, d2, d3] => { results := [.lit (.bool false)], args := [d1, d2, d3] }
  | _ => none }
def DowngradeNoneWrongFalsely : Prop := downgradeNoneRow.holds Tryz.pinned (OpenSpec.ofChange downgradeNoneWrong)

/-- 'cipherplanlaw21.DowngradeAll': WHATEVER THE INPUT: true; the input reads as it did. -/
def downgradeAllSpec : ChangeSpec := { name := "downgradeAll", fn := fun _ => fun
  | [d1, d2] => { results := [.lit (.bool true)], args := [d1, d2] }
  | _ => none }
def downgradeAllRow : OpenClaim := { program := "ytobamahlipiakaagreat", sum := "f5861b866baf5e082d428dc2b17333791387244591c5d396fa7152eb213332ea", func := "cipherplan/cipherplanlaw21.DowngradeAll", spec := "downgradeAll", inPlace := ["internal/bytealg.IndexByteString"], unfollowed := true, recurses := true, apart := false }
def DowngradeAllSaid : Prop := downgradeAllRow.holds Tryz.pinned (OpenSpec.ofChange downgradeAllSpec)

/-- ITS FALSE NEIGHBOUR: 'it returns false'. Refute it at one input. -/
def downgradeAllWrong : ChangeSpec := { name := "downgradeAll", fn := fun _ => fun
  | [d1, d2] => { results := [.lit (.bool false)], args := [d1, d2] }
  | _ => none }
def DowngradeAllWrongFalsely : Prop := downgradeAllRow.holds Tryz.pinned (OpenSpec.ofChange downgradeAllWrong)

/-- 'cipherplanlaw21.DowngradeMends': WHATEVER THE INPUT: true; the input reads as it did. -/
def downgradeMendsSpec : ChangeSpec := { name := "downgradeMends", fn := fun _ => fun
  | [d] => { results := [.lit (.bool true)], args := [d] }
  | _ => none }
def downgradeMendsRow : OpenClaim := { program := "ytobamahlipiakaagreat", sum := "f5861b866baf5e082d428dc2b17333791387244591c5d396fa7152eb213332ea", func := "cipherplan/cipherplanlaw21.DowngradeMends", spec := "downgradeMends", inPlace := ["internal/bytealg.IndexByteString"], unfollowed := true, recurses := true, apart := false }
def DowngradeMendsSaid : Prop := downgradeMendsRow.holds Tryz.pinned (OpenSpec.ofChange downgradeMendsSpec)

/-- ITS FALSE NEIGHBOUR: 'it returns false'. Refute it at one input. -/
def downgradeMendsWrong : ChangeSpec := { name := "downgradeMends", fn := fun _ => fun
  | [d] => { results := [.lit (.bool false)], args := [d] }
  | _ => none }
def DowngradeMendsWrongFalsely : Prop := downgradeMendsRow.holds Tryz.pinned (OpenSpec.ofChange downgradeMendsWrong)

/-- 'cipherplanlaw21.DowngradeMade': WHATEVER THE INPUT: true; the input reads as it did. -/
def downgradeMadeSpec : ChangeSpec := { name := "downgradeMade", fn := fun _ => fun
  | [d1, d2, d3] => { results := [.lit (.bool true)], args := [d1, d2, d3] }
  | _ => none }
def downgradeMadeRow : OpenClaim := { program := "ytobamahlipiakaagreat", sum := "f5861b866baf5e082d428dc2b17333791387244591c5d396fa7152eb213332ea", func := "cipherplan/cipherplanlaw21.DowngradeMade", spec := "downgradeMade", inPlace := ["internal/bytealg.IndexByteString"], unfollowed := true, recurses := true, apart := false }
def DowngradeMadeSaid : Prop := downgradeMadeRow.holds Tryz.pinned (OpenSpec.ofChange downgradeMadeSpec)

/-- ITS FALSE NEIGHBOUR: 'it returns false'. Refute it at one input. -/
def downgradeMadeWrong : ChangeSpec := { name := "downgradeMade", fn := fun _ => fun
  | [d1, d2, d3] => { results := [.lit (.bool false)], args := [d1, d2, d3] }
  | _ => none }
def DowngradeMadeWrongFalsely : Prop := downgradeMadeRow.holds Tryz.pinned (OpenSpec.ofChange downgradeMadeWrong)

/- THE SECOND FORM. 'bulk': how many values and letters a reading holds, each counted each time it is reached (what is shared counts as often as it is met; a slice's spare places count too). A statement '..UptoSaid' is the law's where the arguments, and the package variables that the reading takes, are together of bulk at most 1048576: NARROWER than '..Said'. Prove '..Said' where nothing that the law and all that it calls make is longer than what came in: it says more and counts as full. Else prove '..UptoSaid'. A law counts once. -/
mutual
def uptoBulk {H : Type} : DataW H → Nat
  | .lit (.string bytes) => bytes.length + 1
  | .lit _ => 1
  | .nil => 1
  | .ptr d => uptoBulk d + 1
  | .slice elems spare => uptoBulkAll elems + uptoBulkAll spare + 1
  | .agg parts => uptoBulkAll parts + 1
  | .iface _ d => uptoBulk d + 1
  | .map entries => uptoBulkEntries entries + 1
  | .held _ => 1
def uptoBulkAll {H : Type} : List (DataW H) → Nat
  | [] => 0
  | d :: r => uptoBulk d + uptoBulkAll r
def uptoBulkEntries {H : Type} : List (Lit × DataW H) → Nat
  | [] => 0
  | x :: r => uptoBulkEntry x + uptoBulkEntries r
def uptoBulkEntry {H : Type} : Lit × DataW H → Nat
  | (.string bytes, d) => bytes.length + uptoBulk d + 1
  | (_, d) => uptoBulk d + 1
 end
def uptoSmall : (H : Type) → List (DataW H) → Bool := fun _ ds => decide (uptoBulkAll ds ≤ 1048576)
def OpenSpec.upto (s : _root_.Go.ChangeSpec) : _root_.Go.OpenSpec := { _root_.Go.OpenSpec.ofChange s with cond := some uptoSmall }

/-- 'cipherplanlaw21.DowngradeShown', WHERE WHAT IT READS IS OF BULK AT MOST 1048576: true; the input reads as it did. -/
def downgradeShownUptoRow : OpenClaim := { program := "ytobamahlipiakaagreat", sum := "f5861b866baf5e082d428dc2b17333791387244591c5d396fa7152eb213332ea", func := "cipherplan/cipherplanlaw21.DowngradeShown", spec := "downgradeShown", inPlace := ["internal/bytealg.IndexByteString"], unfollowed := true, recurses := true, apart := false, narrowed := true }
def DowngradeShownUptoSaid : Prop := downgradeShownUptoRow.holds Tryz.pinned (OpenSpec.upto downgradeShownSpec)

/-- 'cipherplanlaw21.DowngradeNone', WHERE WHAT IT READS IS OF BULK AT MOST 1048576: true; the input reads as it did. -/
def downgradeNoneUptoRow : OpenClaim := { program := "ytobamahlipiakaagreat", sum := "f5861b866baf5e082d428dc2b17333791387244591c5d396fa7152eb213332ea", func := "cipherplan/cipherplanlaw21.DowngradeNone", spec := "downgradeNone", inPlace := ["internal/bytealg.IndexByteString"], unfollowed := true, recurses := true, apart := false, narrowed := true }
def DowngradeNoneUptoSaid : Prop := downgradeNoneUptoRow.holds Tryz.pinned (OpenSpec.upto downgradeNoneSpec)

/-- 'cipherplanlaw21.DowngradeAll', WHERE WHAT IT READS IS OF BULK AT MOST 1048576: true; the input reads as it did. -/
def downgradeAllUptoRow : OpenClaim := { program := "ytobamahlipiakaagreat", sum := "f5861b866baf5e082d428dc2b17333791387244591c5d396fa7152eb213332ea", func := "cipherplan/cipherplanlaw21.DowngradeAll", spec := "downgradeAll", inPlace := ["internal/bytealg.IndexByteString"], unfollowed := true, recurses := true, apart := false, narrowed := true }
def DowngradeAllUptoSaid : Prop := downgradeAllUptoRow.holds Tryz.pinned (OpenSpec.upto downgradeAllSpec)

/-- 'cipherplanlaw21.DowngradeMends', WHERE WHAT IT READS IS OF BULK AT MOST 1048576: true; the input reads as it did. -/
def downgradeMendsUptoRow : OpenClaim := { program := "ytobamahlipiakaagreat", sum := "f5861b866baf5e082d428dc2b17333791387244591c5d396fa7152eb213332ea", func := "cipherplan/cipherplanlaw21.DowngradeMends", spec := "downgradeMends", inPlace := ["internal/bytealg.IndexByteString"], unfollowed := true, recurses := true, apart := false, narrowed := true }
def DowngradeMendsUptoSaid : Prop := downgradeMendsUptoRow.holds Tryz.pinned (OpenSpec.upto downgradeMendsSpec)

/-- 'cipherplanlaw21.DowngradeMade', WHERE WHAT IT READS IS OF BULK AT MOST 1048576: true; the input reads as it did. -/
def downgradeMadeUptoRow : OpenClaim := { program := "ytobamahlipiakaagreat", sum := "f5861b866baf5e082d428dc2b17333791387244591c5d396fa7152eb213332ea", func := "cipherplan/cipherplanlaw21.DowngradeMade", spec := "downgradeMade", inPlace := ["internal/bytealg.IndexByteString"], unfollowed := true, recurses := true, apart := false, narrowed := true }
def DowngradeMadeUptoSaid : Prop := downgradeMadeUptoRow.holds Tryz.pinned (OpenSpec.upto downgradeMadeSpec)

end Rows
end Go.Proofs.YtobamahlipiakaaGreat
