/-
  No cell of these rows narrows 'for every input' (looked for: loops, veiled, ifaces, maps, wideKeys, modest, calm, conditions, laid).
  DERIVED. THE GIVEN ROWS OF THIS SEAT. 4 by the template 'for every input the law returns true; each argument reads behind the call as it read before'; 0 by the template 'total and deterministic' (their statements: YtadjcdhcdmiifaaTotals.lean).
  GIVEN WITH THE SEED: the statements are not yours to turn. If you find one false, say at which input.
  Laid BY PROGRAM, IN A SANDBOX (cutbox-rows.mjs): the forced cells as the released guide's own fill.sh prints them over the translation 61f6bb319a52188e… (all of the seat's roots in one cut). By AI agents, Wed Nov 11 2026. No macro, syntax, notation, axiom, sorry.
-/
import Derived.Test.YtadjcdhcdmiifaaChecked
import GoSem.Claim
import GoSem.ClaimJoined
import GoSem.ClaimMapViews
import Derived.JoinedTies
import Derived.KernelRfl
namespace Go.Proofs.Ytadjcdhcdmiifaa
/- THE CELL 'sum', in the pinned program and in every row, IS THE sha256 OF THE DUMP (.gsa) THAT YtadjcdhcdmiifaaProg.lean LOADS. Nothing in Lean hashes anything: it is a label: what it is worth is what the hold of that sum in a sandbox is worth. -/
noncomputable def Try.pinned : Pinned := { name := "ytadjcdhcdmiifaa", sum := "61f6bb319a52188ed6a03422af9840b0301ae145f7b0634a4af0cb045146ed0a", checked := Try.checked }
namespace Rows
def none {H : Type} : Left H := { results := [], args := [] }

/-- 'cipherplanlaw04.ChainMade': WHATEVER THE INPUT: true; the input reads as it did. -/
def chainMadeSpec : ChangeSpec := { name := "chainMade", fn := fun _ => fun
  | [d1, d2, d3] => { results := [.lit (.bool true)], args := [d1, d2, d3] }
  | _ => none }
def chainMadeRow : OpenClaim := { program := "ytadjcdhcdmiifaa", sum := "61f6bb319a52188ed6a03422af9840b0301ae145f7b0634a4af0cb045146ed0a", func := "cipherplan/cipherplanlaw04.ChainMade", spec := "chainMade", unfollowed := true, recurses := true, apart := false }
def ChainMadeSaid : Prop := chainMadeRow.holds Try.pinned (OpenSpec.ofChange chainMadeSpec)

/-- ITS FALSE NEIGHBOUR: 'it returns false'. Refute it at one input. -/
def chainMadeWrong : ChangeSpec := { name := "chainMade", fn := fun _ => fun
  | [d1, d2, d3] => { results := [.lit (.bool false)], args := [d1, d2, d3] }
  | _ => none }
def ChainMadeWrongFalsely : Prop := chainMadeRow.holds Try.pinned (OpenSpec.ofChange chainMadeWrong)

/-- 'cipherplanlaw04.ChainRaw': WHATEVER THE INPUT: true; the input reads as it did. -/
def chainRawSpec : ChangeSpec := { name := "chainRaw", fn := fun _ => fun
  | [d1, d2, d3] => { results := [.lit (.bool true)], args := [d1, d2, d3] }
  | _ => none }
def chainRawRow : OpenClaim := { program := "ytadjcdhcdmiifaa", sum := "61f6bb319a52188ed6a03422af9840b0301ae145f7b0634a4af0cb045146ed0a", func := "cipherplan/cipherplanlaw04.ChainRaw", spec := "chainRaw", unfollowed := true, recurses := true, apart := false }
def ChainRawSaid : Prop := chainRawRow.holds Try.pinned (OpenSpec.ofChange chainRawSpec)

/-- ITS FALSE NEIGHBOUR: 'it returns false'. Refute it at one input. -/
def chainRawWrong : ChangeSpec := { name := "chainRaw", fn := fun _ => fun
  | [d1, d2, d3] => { results := [.lit (.bool false)], args := [d1, d2, d3] }
  | _ => none }
def ChainRawWrongFalsely : Prop := chainRawRow.holds Try.pinned (OpenSpec.ofChange chainRawWrong)

/-- 'cipherplanlaw04.ChainMore': WHATEVER THE INPUT: true; the input reads as it did. -/
def chainMoreSpec : ChangeSpec := { name := "chainMore", fn := fun _ => fun
  | [d1, d2, d3, d4] => { results := [.lit (.bool true)], args := [d1, d2, d3, d4] }
  | _ => none }
def chainMoreRow : OpenClaim := { program := "ytadjcdhcdmiifaa", sum := "61f6bb319a52188ed6a03422af9840b0301ae145f7b0634a4af0cb045146ed0a", func := "cipherplan/cipherplanlaw04.ChainMore", spec := "chainMore", unfollowed := true, recurses := true, apart := false }
def ChainMoreSaid : Prop := chainMoreRow.holds Try.pinned (OpenSpec.ofChange chainMoreSpec)

/-- ITS FALSE NEIGHBOUR: 'it returns false'. Refute it at one input. -/
def chainMoreWrong : ChangeSpec := { name := "chainMore", fn := fun _ => fun
  | [d1, d2, d3, d4] => { results := [.lit (.bool false)], args := [d1, d2, d3, d4] }
  | _ => none }
def ChainMoreWrongFalsely : Prop := chainMoreRow.holds Try.pinned (OpenSpec.ofChange chainMoreWrong)

/-- 'cipherplanlaw04.ChainFound': WHATEVER THE INPUT: true; the input reads as it did. -/
def chainFoundSpec : ChangeSpec := { name := "chainFound", fn := fun _ => fun
  | [d] => { results := [.lit (.bool true)], args := [d] }
  | _ => none }
def chainFoundRow : OpenClaim := { program := "ytadjcdhcdmiifaa", sum := "61f6bb319a52188ed6a03422af9840b0301ae145f7b0634a4af0cb045146ed0a", func := "cipherplan/cipherplanlaw04.ChainFound", spec := "chainFound", unfollowed := true, recurses := true, apart := false }
def ChainFoundSaid : Prop := chainFoundRow.holds Try.pinned (OpenSpec.ofChange chainFoundSpec)

/-- ITS FALSE NEIGHBOUR: 'it returns false'. Refute it at one input. -/
def chainFoundWrong : ChangeSpec := { name := "chainFound", fn := fun _ => fun
  | [d] => { results := [.lit (.bool false)], args := [d] }
  | _ => none }
def ChainFoundWrongFalsely : Prop := chainFoundRow.holds Try.pinned (OpenSpec.ofChange chainFoundWrong)

/- THE SECOND FORM. 'bulk': how many values and letters a reading holds, each counted each time it is reached (what is shared counts as often as it is met; a slice's spare places count too). A statement '..UptoSaid' is the law's where the arguments, and the package variables that the reading takes, are together of bulk at most 1048576: NARROWER than '..Said'. Prove '..Said' where nothing that the law and all that it calls make is longer than what came in: it says more and counts as full. Else prove '..UptoSaid'. A law counts once. -/
mutual
def uptoBulk {H : Type} : DataW H → Nat
  | .lit (.string bytes) => bytes.length + 1
  | .lit _ => 1
  | .nil => 1
  | .ptr d => uptoBulk d + 1
  | .slice elems spare => uptoBulkAll elems + uptoBulkAll spare + 1
  | .agg parts => uptoBulkAll parts + 1
  | .iface _ d => uptoBulk d + 1
  | .map entries => uptoBulkEntries entries + 1
  | .held _ => 1
def uptoBulkAll {H : Type} : List (DataW H) → Nat
  | [] => 0
  | d :: r => uptoBulk d + uptoBulkAll r
def uptoBulkEntries {H : Type} : List (Lit × DataW H) → Nat
  | [] => 0
  | x :: r => uptoBulkEntry x + uptoBulkEntries r
def uptoBulkEntry {H : Type} : Lit × DataW H → Nat
  | (.string bytes, d) => bytes.length + uptoBulk d + 1
  | (_, d) => uptoBulk d + 1
 end
def uptoSmall : (H : Type) → List (DataW H) → Bool := fun _ ds => decide (uptoBulkAll ds ≤ 1048576)
def OpenSpec.upto (s : _root_.Go.ChangeSpec) : _root_.Go.OpenSpec := { _root_.Go.OpenSpec.ofChange s with cond := some uptoSmall }

/-- 'cipherplanlaw04.ChainMade', WHERE WHAT IT READS IS OF BULK AT MOST 1048576: true; the input reads as it did. -/
def chainMadeUptoRow : OpenClaim := { program := "ytadjcdhcdmiifaa", sum := "61f6bb319a52188ed6a03422af9840b0301ae145f7b0634a4af0cb045146ed0a", func := "cipherplan/cipherplanlaw04.ChainMade", spec := "chainMade", unfollowed := true, recurses := true, apart := false, narrowed := true }
def ChainMadeUptoSaid : Prop := chainMadeUptoRow.holds Try.pinned (OpenSpec.upto chainMadeSpec)

/-- 'cipherplanlaw04.ChainRaw', WHERE WHAT IT READS IS OF BULK AT MOST 1048576: true; the input reads as it did. -/
def chainRawUptoRow : OpenClaim := { program := "ytadjcdhcdmiifaa", sum := "61f6bb319a52188ed6a03422af9840b0301ae145f7b0634a4af0cb045146ed0a", func := "cipherplan/cipherplanlaw04.ChainRaw", spec := "chainRaw", unfollowed := true, recurses := true, apart := false, narrowed := true }
def ChainRawUptoSaid : Prop := chainRawUptoRow.holds Try.pinned (OpenSpec.upto chainRawSpec)

/-- 'cipherplanlaw04.ChainMore', WHERE WHAT IT READS IS OF BULK AT MOST 1048576: true; the input reads as it did. -/
def chainMoreUptoRow : OpenClaim := { program := "ytadjcdhcdmiifaa", sum := "61f6bb319a52188ed6a03422af9840b0301ae145f7b0634a4af0cb045146ed0a", func := "cipherplan/cipherplanlaw04.ChainMore", spec := "chainMore", unfollowed := true, recurses := true, apart := false, narrowed := true }
def ChainMoreUptoSaid : Prop := chainMoreUptoRow.holds Try.pinned (OpenSpec.upto chainMoreSpec)

/-- 'cipherplanlaw04.ChainFound', WHERE WHAT IT READS IS OF BULK AT MOST 1048576: true; the input reads as it did. -/
def chainFoundUptoRow : OpenClaim := { program := "ytadjcdhcdmiifaa", sum := "61f6bb319a52188ed6a03422af9840b0301ae145f7b0634a4af0cb045146ed0a", func := "cipherplan/cipherplanlaw04.ChainFound", spec := "chainFound", unfollowed := true, recurses := true, apart := false, narrowed := true }
def ChainFoundUptoSaid : Prop := chainFoundUptoRow.holds Try.pinned (OpenSpec.upto chainFoundSpec)

end Rows
end Go.Proofs.Ytadjcdhcdmiifaa
