/-
  No cell of these rows narrows 'for every input' (looked for: loops, veiled, ifaces, maps, wideKeys, modest, calm, conditions, laid).
  DERIVED. THE GIVEN ROWS OF THIS SEAT. 5 by the template 'for every input the law returns true; each argument reads behind the call as it read before'; 0 by the template 'total and deterministic' (their statements: YthjgcmifggdepaaTotals.lean).
  GIVEN WITH THE SEED: the statements are not yours to turn. If you find one false, say at which input.
  Laid BY PROGRAM, IN A SANDBOX (cutbox-rows.mjs): the forced cells as the released guide's own fill.sh prints them over the translation 2b6b45cd4b0315fd… (all of the seat's roots in one cut). By AI agents, Wed Nov 11 2026. No macro, syntax, notation, axiom, sorry.
-/
import Derived.Test.YthjgcmifggdepaaChecked
import GoSem.Claim
import GoSem.ClaimJoined
import GoSem.ClaimMapViews
import Derived.JoinedTies
import Derived.KernelRfl
namespace Go.Proofs.Ythjgcmifggdepaa
/- THE CELL 'sum', in the pinned program and in every row, IS THE sha256 OF THE DUMP (.gsa) THAT YthjgcmifggdepaaProg.lean LOADS. Nothing in Lean hashes anything: it is a label: what it is worth is what the hold of that sum in a sandbox is worth. -/
noncomputable def Try.pinned : Pinned := { name := "ythjgcmifggdepaa", sum := "2b6b45cd4b0315fd7398df10ab5b43464ecd74a92d3c57124de45a237b80cc45", checked := Try.checked }
namespace Rows
def none {H : Type} : Left H := { results := [], args := [] }

/-- 'cipherplanlaw13.HandshakeMade': WHATEVER THE INPUT: true; the input reads as it did. -/
def handshakeMadeSpec : ChangeSpec := { name := "handshakeMade", fn := fun _ => fun
  | [d1, d2, d3] => { results := [.lit (.bool true)], args := [d1, d2, d3] }
  | _ => none }
def handshakeMadeRow : OpenClaim := { program := "ythjgcmifggdepaa", sum := "2b6b45cd4b0315fd7398df10ab5b43464ecd74a92d3c57124de45a237b80cc45", func := "cipherplan/cipherplanlaw13.HandshakeMade", spec := "handshakeMade", unfollowed := true, recurses := true, apart := false }
def HandshakeMadeSaid : Prop := handshakeMadeRow.holds Try.pinned (OpenSpec.ofChange handshakeMadeSpec)

/-- ITS FALSE NEIGHBOUR: 'it returns false'. Refute it at one input. -/
def handshakeMadeWrong : ChangeSpec := { name := "handshakeMade", fn := fun _ => fun
  | [d1, d2, d3] => { results := [.lit (.bool false)], args := [d1, d2, d3] }
  | _ => none }
def HandshakeMadeWrongFalsely : Prop := handshakeMadeRow.holds Try.pinned (OpenSpec.ofChange handshakeMadeWrong)

/-- 'cipherplanlaw13.HandshakeBytes': WHATEVER THE INPUT: true; the input reads as it did. -/
def handshakeBytesSpec : ChangeSpec := { name := "handshakeBytes", fn := fun _ => fun
  | [d1, d2, d3] => { results := [.lit (.bool true)], args := [d1, d2, d3] }
  | _ => none }
def handshakeBytesRow : OpenClaim := { program := "ythjgcmifggdepaa", sum := "2b6b45cd4b0315fd7398df10ab5b43464ecd74a92d3c57124de45a237b80cc45", func := "cipherplan/cipherplanlaw13.HandshakeBytes", spec := "handshakeBytes", unfollowed := true, recurses := true, apart := false }
def HandshakeBytesSaid : Prop := handshakeBytesRow.holds Try.pinned (OpenSpec.ofChange handshakeBytesSpec)

/-- ITS FALSE NEIGHBOUR: 'it returns false'. Refute it at one input. -/
def handshakeBytesWrong : ChangeSpec := { name := "handshakeBytes", fn := fun _ => fun
  | [d1, d2, d3] => { results := [.lit (.bool false)], args := [d1, d2, d3] }
  | _ => none }
def HandshakeBytesWrongFalsely : Prop := handshakeBytesRow.holds Try.pinned (OpenSpec.ofChange handshakeBytesWrong)

/-- 'cipherplanlaw13.HandshakeRecords': WHATEVER THE INPUT: true; the input reads as it did. -/
def handshakeRecordsSpec : ChangeSpec := { name := "handshakeRecords", fn := fun _ => fun
  | [d1, d2] => { results := [.lit (.bool true)], args := [d1, d2] }
  | _ => none }
def handshakeRecordsRow : OpenClaim := { program := "ythjgcmifggdepaa", sum := "2b6b45cd4b0315fd7398df10ab5b43464ecd74a92d3c57124de45a237b80cc45", func := "cipherplan/cipherplanlaw13.HandshakeRecords", spec := "handshakeRecords", unfollowed := true, recurses := true, apart := false }
def HandshakeRecordsSaid : Prop := handshakeRecordsRow.holds Try.pinned (OpenSpec.ofChange handshakeRecordsSpec)

/-- ITS FALSE NEIGHBOUR: 'it returns false'. Refute it at one input. -/
def handshakeRecordsWrong : ChangeSpec := { name := "handshakeRecords", fn := fun _ => fun
  | [d1, d2] => { results := [.lit (.bool false)], args := [d1, d2] }
  | _ => none }
def HandshakeRecordsWrongFalsely : Prop := handshakeRecordsRow.holds Try.pinned (OpenSpec.ofChange handshakeRecordsWrong)

/-- 'cipherplanlaw13.HandshakeCut': WHATEVER THE INPUT: true; the input reads as it did. -/
def handshakeCutSpec : ChangeSpec := { name := "handshakeCut", fn := fun _ => fun
  | [d1, d2, d3] => { results := [.lit (.bool true)], args := [d1, d2, d3] }
  | _ => none }
def handshakeCutRow : OpenClaim := { program := "ythjgcmifggdepaa", sum := "2b6b45cd4b0315fd7398df10ab5b43464ecd74a92d3c57124de45a237b80cc45", func := "cipherplan/cipherplanlaw13.HandshakeCut", spec := "handshakeCut", unfollowed := true, recurses := true, apart := false }
def HandshakeCutSaid : Prop := handshakeCutRow.holds Try.pinned (OpenSpec.ofChange handshakeCutSpec)

/-- ITS FALSE NEIGHBOUR: 'it returns false'. Refute it at one input. -/
def handshakeCutWrong : ChangeSpec := { name := "handshakeCut", fn := fun _ => fun
  | [d1, d2, d3] => { results := [.lit (.bool false)], args := [d1, d2, d3] }
  | _ => none }
def HandshakeCutWrongFalsely : Prop := handshakeCutRow.holds Try.pinned (OpenSpec.ofChange handshakeCutWrong)

/-- 'cipherplanlaw13.HandshakeBack': WHATEVER THE INPUT: true; the input reads as it did. -/
def handshakeBackSpec : ChangeSpec := { name := "handshakeBack", fn := fun _ => fun
  | [d1, d2] => { results := [.lit (.bool true)], args := [d1, d2] }
  | _ => none }
def handshakeBackRow : OpenClaim := { program := "ythjgcmifggdepaa", sum := "2b6b45cd4b0315fd7398df10ab5b43464ecd74a92d3c57124de45a237b80cc45", func := "cipherplan/cipherplanlaw13.HandshakeBack", spec := "handshakeBack", unfollowed := true, recurses := true, apart := false }
def HandshakeBackSaid : Prop := handshakeBackRow.holds Try.pinned (OpenSpec.ofChange handshakeBackSpec)

/-- ITS FALSE NEIGHBOUR: 'it returns false'. Refute it at one input. -/
def handshakeBackWrong : ChangeSpec := { name := "handshakeBack", fn := fun _ => fun
  | [d1, d2] => { results := [.lit (.bool false)], args := [d1, d2] }
  | _ => none }
def HandshakeBackWrongFalsely : Prop := handshakeBackRow.holds Try.pinned (OpenSpec.ofChange handshakeBackWrong)

/- THE SECOND FORM. 'bulk': how many values and letters a reading holds, each counted each time it is reached (what is shared counts as often as it is met; a slice's spare places count too). A statement '..UptoSaid' is the law's where the arguments, and the package variables that the reading takes, are together of bulk at most 1048576: NARROWER than '..Said'. Prove '..Said' where nothing that the law and all that it calls make is longer than what came in: it says more and counts as full. Else prove '..UptoSaid'. A law counts once. -/
mutual
def uptoBulk {H : Type} : DataW H → Nat
  | .lit (.string bytes) => bytes.length + 1
  | .lit _ => 1
  | .nil => 1
  | .ptr d => uptoBulk d + 1
  | .slice elems spare => uptoBulkAll elems + uptoBulkAll spare + 1
  | .agg parts => uptoBulkAll parts + 1
  | .iface _ d => uptoBulk d + 1
  | .map entries => uptoBulkEntries entries + 1
  | .held _ => 1
def uptoBulkAll {H : Type} : List (DataW H) → Nat
  | [] => 0
  | d :: r => uptoBulk d + uptoBulkAll r
def uptoBulkEntries {H : Type} : List (Lit × DataW H) → Nat
  | [] => 0
  | x :: r => uptoBulkEntry x + uptoBulkEntries r
def uptoBulkEntry {H : Type} : Lit × DataW H → Nat
  | (.string bytes, d) => bytes.length + uptoBulk d + 1
  | (_, d) => uptoBulk d + 1
 end
def uptoSmall : (H : Type) → List (DataW H) → Bool := fun _ ds => decide (uptoBulkAll ds ≤ 1048576)
def OpenSpec.upto (s : _root_.Go.ChangeSpec) : _root_.Go.OpenSpec := { _root_.Go.OpenSpec.ofChange s with cond := some uptoSmall }

/-- 'cipherplanlaw13.HandshakeMade', WHERE WHAT IT READS IS OF BULK AT MOST 1048576: true; the input reads as it did. -/
def handshakeMadeUptoRow : OpenClaim := { program := "ythjgcmifggdepaa", sum := "2b6b45cd4b0315fd7398df10ab5b43464ecd74a92d3c57124de45a237b80cc45", func := "cipherplan/cipherplanlaw13.HandshakeMade", spec := "handshakeMade", unfollowed := true, recurses := true, apart := false, narrowed := true }
def HandshakeMadeUptoSaid : Prop := handshakeMadeUptoRow.holds Try.pinned (OpenSpec.upto handshakeMadeSpec)

/-- 'cipherplanlaw13.HandshakeBytes', WHERE WHAT IT READS IS OF BULK AT MOST 1048576: true; the input reads as it did. -/
def handshakeBytesUptoRow : OpenClaim := { program := "ythjgcmifggdepaa", sum := "2b6b45cd4b0315fd7398df10ab5b43464ecd74a92d3c57124de45a237b80cc45", func := "cipherplan/cipherplanlaw13.HandshakeBytes", spec := "handshakeBytes", unfollowed := true, recurses := true, apart := false, narrowed := true }
def HandshakeBytesUptoSaid : Prop := handshakeBytesUptoRow.holds Try.pinned (OpenSpec.upto handshakeBytesSpec)

/-- 'cipherplanlaw13.HandshakeRecords', WHERE WHAT IT READS IS OF BULK AT MOST 1048576: true; the input reads as it did. -/
def handshakeRecordsUptoRow : OpenClaim := { program := "ythjgcmifggdepaa", sum := "2b6b45cd4b0315fd7398df10ab5b43464ecd74a92d3c57124de45a237b80cc45", func := "cipherplan/cipherplanlaw13.HandshakeRecords", spec := "handshakeRecords", unfollowed := true, recurses := true, apart := false, narrowed := true }
def HandshakeRecordsUptoSaid : Prop := handshakeRecordsUptoRow.holds Try.pinned (OpenSpec.upto handshakeRecordsSpec)

/-- 'cipherplanlaw13.HandshakeCut', WHERE WHAT IT READS IS OF BULK AT MOST 1048576: true; the input reads as it did. -/
def handshakeCutUptoRow : OpenClaim := { program := "ythjgcmifggdepaa", sum := "2b6b45cd4b0315fd7398df10ab5b43464ecd74a92d3c57124de45a237b80cc45", func := "cipherplan/cipherplanlaw13.HandshakeCut", spec := "handshakeCut", unfollowed := true, recurses := true, apart := false, narrowed := true }
def HandshakeCutUptoSaid : Prop := handshakeCutUptoRow.holds Try.pinned (OpenSpec.upto handshakeCutSpec)

/-- 'cipherplanlaw13.HandshakeBack', WHERE WHAT IT READS IS OF BULK AT MOST 1048576: true; the input reads as it did. -/
def handshakeBackUptoRow : OpenClaim := { program := "ythjgcmifggdepaa", sum := "2b6b45cd4b0315fd7398df10ab5b43464ecd74a92d3c57124de45a237b80cc45", func := "cipherplan/cipherplanlaw13.HandshakeBack", spec := "handshakeBack", unfollowed := true, recurses := true, apart := false, narrowed := true }
def HandshakeBackUptoSaid : Prop := handshakeBackUptoRow.holds Try.pinned (OpenSpec.upto handshakeBackSpec)

end Rows
end Go.Proofs.Ythjgcmifggdepaa
