/-
  NARROWER THAN 'FOR EVERY INPUT', by the rows' own cells (each row's printed sentence says how): DerRaw: loops.
  DERIVED. THE GIVEN ROWS OF THIS SEAT. 5 by the template 'for every input the law returns true; each argument reads behind the call as it read before'; 0 by the template 'total and deterministic' (their statements: YthohienbmhohjaaTotals.lean).
  GIVEN WITH THE SEED: the statements are not yours to turn. If you find one false, say at which input.
  Laid BY PROGRAM, IN A SANDBOX (cutbox-rows.mjs): the forced cells as the released guide's own fill.sh prints them over the translation 65434cb95999ce04… (all of the seat's roots in one cut). By AI agents, Wed Nov 11 2026. No macro, syntax, notation, axiom, sorry.
-/
import Derived.Test.YthohienbmhohjaaChecked
import GoSem.Claim
import GoSem.ClaimJoined
import GoSem.ClaimMapViews
import Derived.JoinedTies
import Derived.KernelRfl
namespace Go.Proofs.Ythohienbmhohjaa
/- THE CELL 'sum', in the pinned program and in every row, IS THE sha256 OF THE DUMP (.gsa) THAT YthohienbmhohjaaProg.lean LOADS. Nothing in Lean hashes anything: it is a label: what it is worth is what the hold of that sum in a sandbox is worth. -/
noncomputable def Try.pinned : Pinned := { name := "ythohienbmhohjaa", sum := "65434cb95999ce04cdbfb26fe2d0fcbb22cdc9faa9d322d2b600712b8bf9da92", checked := Try.checked }
namespace Rows
def none {H : Type} : Left H := { results := [], args := [] }

/-- 'cipherplanlaw01.DerNumbers': WHATEVER THE INPUT: true; the input reads as it did. -/
def derNumbersSpec : ChangeSpec := { name := "derNumbers", fn := fun _ => fun
  | [d1, d2, d3, d4] => { results := [.lit (.bool true)], args := [d1, d2, d3, d4] }
  | _ => none }
def derNumbersRow : OpenClaim := { program := "ythohienbmhohjaa", sum := "65434cb95999ce04cdbfb26fe2d0fcbb22cdc9faa9d322d2b600712b8bf9da92", func := "cipherplan/cipherplanlaw01.DerNumbers", spec := "derNumbers", unfollowed := true, recurses := true, apart := false }
def DerNumbersSaid : Prop := derNumbersRow.holds Try.pinned (OpenSpec.ofChange derNumbersSpec)

/-- ITS FALSE NEIGHBOUR: 'it returns false'. Refute it at one input. -/
def derNumbersWrong : ChangeSpec := { name := "derNumbers", fn := fun _ => fun
  | [d1, d2, d3, d4] => { results := [.lit (.bool false)], args := [d1, d2, d3, d4] }
  | _ => none }
def DerNumbersWrongFalsely : Prop := derNumbersRow.holds Try.pinned (OpenSpec.ofChange derNumbersWrong)

/-- 'cipherplanlaw01.DerDeep': WHATEVER THE INPUT: true; the input reads as it did. -/
def derDeepSpec : ChangeSpec := { name := "derDeep", fn := fun _ => fun
  | [d1, d2, d3] => { results := [.lit (.bool true)], args := [d1, d2, d3] }
  | _ => none }
def derDeepRow : OpenClaim := { program := "ythohienbmhohjaa", sum := "65434cb95999ce04cdbfb26fe2d0fcbb22cdc9faa9d322d2b600712b8bf9da92", func := "cipherplan/cipherplanlaw01.DerDeep", spec := "derDeep", unfollowed := true, recurses := true, apart := false }
def DerDeepSaid : Prop := derDeepRow.holds Try.pinned (OpenSpec.ofChange derDeepSpec)

/-- ITS FALSE NEIGHBOUR: 'it returns false'. Refute it at one input. -/
def derDeepWrong : ChangeSpec := { name := "derDeep", fn := fun _ => fun
  | [d1, d2, d3] => { results := [.lit (.bool false)], args := [d1, d2, d3] }
  | _ => none }
def DerDeepWrongFalsely : Prop := derDeepRow.holds Try.pinned (OpenSpec.ofChange derDeepWrong)

/-- 'cipherplanlaw01.DerMade': WHATEVER THE INPUT: true; the input reads as it did. -/
def derMadeSpec : ChangeSpec := { name := "derMade", fn := fun _ => fun
  | [d1, d2, d3, d4] => { results := [.lit (.bool true)], args := [d1, d2, d3, d4] }
  | _ => none }
def derMadeRow : OpenClaim := { program := "ythohienbmhohjaa", sum := "65434cb95999ce04cdbfb26fe2d0fcbb22cdc9faa9d322d2b600712b8bf9da92", func := "cipherplan/cipherplanlaw01.DerMade", spec := "derMade", unfollowed := true, recurses := true, apart := false }
def DerMadeSaid : Prop := derMadeRow.holds Try.pinned (OpenSpec.ofChange derMadeSpec)

/-- ITS FALSE NEIGHBOUR: 'it returns false'. Refute it at one input. -/
def derMadeWrong : ChangeSpec := { name := "derMade", fn := fun _ => fun
  | [d1, d2, d3, d4] => { results := [.lit (.bool false)], args := [d1, d2, d3, d4] }
  | _ => none }
def DerMadeWrongFalsely : Prop := derMadeRow.holds Try.pinned (OpenSpec.ofChange derMadeWrong)

/-- 'cipherplanlaw01.DerBack': WHATEVER THE INPUT: true; the input reads as it did. -/
def derBackSpec : ChangeSpec := { name := "derBack", fn := fun _ => fun
  | [d1, d2] => { results := [.lit (.bool true)], args := [d1, d2] }
  | _ => none }
def derBackRow : OpenClaim := { program := "ythohienbmhohjaa", sum := "65434cb95999ce04cdbfb26fe2d0fcbb22cdc9faa9d322d2b600712b8bf9da92", func := "cipherplan/cipherplanlaw01.DerBack", spec := "derBack", unfollowed := true, recurses := true, apart := false }
def DerBackSaid : Prop := derBackRow.holds Try.pinned (OpenSpec.ofChange derBackSpec)

/-- ITS FALSE NEIGHBOUR: 'it returns false'. Refute it at one input. -/
def derBackWrong : ChangeSpec := { name := "derBack", fn := fun _ => fun
  | [d1, d2] => { results := [.lit (.bool false)], args := [d1, d2] }
  | _ => none }
def DerBackWrongFalsely : Prop := derBackRow.holds Try.pinned (OpenSpec.ofChange derBackWrong)

/-- 'cipherplanlaw01.DerRaw': WHATEVER THE INPUT: true; the input reads as it did. -/
def derRawSpec : ChangeSpec := { name := "derRaw", fn := fun _ => fun
  | [d1, d2] => { results := [.lit (.bool true)], args := [d1, d2] }
  | _ => none }
def derRawRow : OpenClaim := { program := "ythohienbmhohjaa", sum := "65434cb95999ce04cdbfb26fe2d0fcbb22cdc9faa9d322d2b600712b8bf9da92", func := "cipherplan/cipherplanlaw01.DerRaw", spec := "derRaw", unfollowed := true, recurses := true, loops := true, apart := false }
def DerRawSaid : Prop := derRawRow.holds Try.pinned (OpenSpec.ofChange derRawSpec)

/-- ITS FALSE NEIGHBOUR: 'it returns false'. Refute it at one input. -/
def derRawWrong : ChangeSpec := { name := "derRaw", fn := fun _ => fun
  | [d1, d2] => { results := [.lit (.bool false)], args := [d1, d2] }
  | _ => none }
def DerRawWrongFalsely : Prop := derRawRow.holds Try.pinned (OpenSpec.ofChange derRawWrong)

/- THE SECOND FORM. 'bulk': how many values and letters a reading holds, each counted each time it is reached (what is shared counts as often as it is met; a slice's spare places count too). A statement '..UptoSaid' is the law's where the arguments, and the package variables that the reading takes, are together of bulk at most 1048576: NARROWER than '..Said'. Prove '..Said' where nothing that the law and all that it calls make is longer than what came in: it says more and counts as full. Else prove '..UptoSaid'. A law counts once. -/
mutual
def uptoBulk {H : Type} : DataW H → Nat
  | .lit (.string bytes) => bytes.length + 1
  | .lit _ => 1
  | .nil => 1
  | .ptr d => uptoBulk d + 1
  | .slice elems spare => uptoBulkAll elems + uptoBulkAll spare + 1
  | .agg parts => uptoBulkAll parts + 1
  | .iface _ d => uptoBulk d + 1
  | .map entries => uptoBulkEntries entries + 1
  | .held _ => 1
def uptoBulkAll {H : Type} : List (DataW H) → Nat
  | [] => 0
  | d :: r => uptoBulk d + uptoBulkAll r
def uptoBulkEntries {H : Type} : List (Lit × DataW H) → Nat
  | [] => 0
  | x :: r => uptoBulkEntry x + uptoBulkEntries r
def uptoBulkEntry {H : Type} : Lit × DataW H → Nat
  | (.string bytes, d) => bytes.length + uptoBulk d + 1
  | (_, d) => uptoBulk d + 1
 end
def uptoSmall : (H : Type) → List (DataW H) → Bool := fun _ ds => decide (uptoBulkAll ds ≤ 1048576)
def OpenSpec.upto (s : _root_.Go.ChangeSpec) : _root_.Go.OpenSpec := { _root_.Go.OpenSpec.ofChange s with cond := some uptoSmall }

/-- 'cipherplanlaw01.DerNumbers', WHERE WHAT IT READS IS OF BULK AT MOST 1048576: true; the input reads as it did. -/
def derNumbersUptoRow : OpenClaim := { program := "ythohienbmhohjaa", sum := "65434cb95999ce04cdbfb26fe2d0fcbb22cdc9faa9d322d2b600712b8bf9da92", func := "cipherplan/cipherplanlaw01.DerNumbers", spec := "derNumbers", unfollowed := true, recurses := true, apart := false, narrowed := true }
def DerNumbersUptoSaid : Prop := derNumbersUptoRow.holds Try.pinned (OpenSpec.upto derNumbersSpec)

/-- 'cipherplanlaw01.DerDeep', WHERE WHAT IT READS IS OF BULK AT MOST 1048576: true; the input reads as it did. -/
def derDeepUptoRow : OpenClaim := { program := "ythohienbmhohjaa", sum := "65434cb95999ce04cdbfb26fe2d0fcbb22cdc9faa9d322d2b600712b8bf9da92", func := "cipherplan/cipherplanlaw01.DerDeep", spec := "derDeep", unfollowed := true, recurses := true, apart := false, narrowed := true }
def DerDeepUptoSaid : Prop := derDeepUptoRow.holds Try.pinned (OpenSpec.upto derDeepSpec)

/-- 'cipherplanlaw01.DerMade', WHERE WHAT IT READS IS OF BULK AT MOST 1048576: true; the input reads as it did. -/
def derMadeUptoRow : OpenClaim := { program := "ythohienbmhohjaa", sum := "65434cb95999ce04cdbfb26fe2d0fcbb22cdc9faa9d322d2b600712b8bf9da92", func := "cipherplan/cipherplanlaw01.DerMade", spec := "derMade", unfollowed := true, recurses := true, apart := false, narrowed := true }
def DerMadeUptoSaid : Prop := derMadeUptoRow.holds Try.pinned (OpenSpec.upto derMadeSpec)

/-- 'cipherplanlaw01.DerBack', WHERE WHAT IT READS IS OF BULK AT MOST 1048576: true; the input reads as it did. -/
def derBackUptoRow : OpenClaim := { program := "ythohienbmhohjaa", sum := "65434cb95999ce04cdbfb26fe2d0fcbb22cdc9faa9d322d2b600712b8bf9da92", func := "cipherplan/cipherplanlaw01.DerBack", spec := "derBack", unfollowed := true, recurses := true, apart := false, narrowed := true }
def DerBackUptoSaid : Prop := derBackUptoRow.holds Try.pinned (OpenSpec.upto derBackSpec)

/-- 'cipherplanlaw01.DerRaw', WHERE WHAT IT READS IS OF BULK AT MOST 1048576: true; the input reads as it did. -/
def derRawUptoRow : OpenClaim := { program := "ythohienbmhohjaa", sum := "65434cb95999ce04cdbfb26fe2d0fcbb22cdc9faa9d322d2b600712b8bf9da92", func := "cipherplan/cipherplanlaw01.DerRaw", spec := "derRaw", unfollowed := true, recurses := true, loops := true, apart := false, narrowed := true }
def DerRawUptoSaid : Prop := derRawUptoRow.holds Try.pinned (OpenSpec.upto derRawSpec)

end Rows
end Go.Proofs.Ythohienbmhohjaa
