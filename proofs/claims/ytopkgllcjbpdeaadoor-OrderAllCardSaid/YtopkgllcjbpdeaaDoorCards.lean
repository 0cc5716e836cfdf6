/-
  DERIVED. GIVEN WITH THE SEED: THE CARDS: each row of YtopkgllcjbpdeaaDoorRows.lean that lists a variable, with what it lists TIED to the program's text (the seventh form; the later family's looks); each row that meets fmt, with fmt's text TOLD by the authors' own Lean function (tested against real Go, not proved from fmt's source: count such statements apart). THE CARD IS WHAT COUNTS. Prove the row's statement (the work); the ties are given (YtopkgllcjbpdeaaDoorTie.lean); close each card by the builder's one call (the guide's Derived/Test/ToyasCard.lean, 'card_holds'). Laid BY PROGRAM, IN A SANDBOX (cutbox-door.mjs). By AI agents, Wed Nov 11 2026. No macro, syntax, notation, axiom, sorry.
-/
import Derived.Test.YtopkgllcjbpdeaaDoorRows
import GoSem.ClaimSeven
namespace Go.Proofs.YtopkgllcjbpdeaaDoor
namespace Rows

/-- THE TIED CARD OF 'cipherplanlaw29.OrderLoops'. -/
def orderLoopsCard : Claim7 := { stood := { row := orderLoopsRow, standIns := [], harness := (true, "4a3022157eadb13fc182e540e8306916fb276db756ab08209bd1a01965935642"), looks := false }, kinds := [], alts := [], laidByText := true, laidKinds := [.data], laidTests := true, laidLooks := .later }
def OrderLoopsCardSaid : Prop := Claim7.holds Tryd.pinned (.plain (OpenSpec.ofChange orderLoopsSpec)) orderLoopsCard

/-- THE TIED CARD OF 'cipherplanlaw29.OrderParts'. -/
def orderPartsCard : Claim7 := { stood := { row := orderPartsRow, standIns := [], harness := (true, "4a3022157eadb13fc182e540e8306916fb276db756ab08209bd1a01965935642"), looks := false }, kinds := [], alts := [], laidByText := true, laidKinds := [.data], laidTests := true, laidLooks := .later }
def OrderPartsCardSaid : Prop := Claim7.holds Tryd.pinned (.plain (OpenSpec.ofChange orderPartsSpec)) orderPartsCard

/-- THE TIED CARD OF 'cipherplanlaw29.OrderFirst'. -/
def orderFirstCard : Claim7 := { stood := { row := orderFirstRow, standIns := [], harness := (true, "4a3022157eadb13fc182e540e8306916fb276db756ab08209bd1a01965935642"), looks := false }, kinds := [], alts := [], laidByText := true, laidKinds := [.data], laidTests := true, laidLooks := .later }
def OrderFirstCardSaid : Prop := Claim7.holds Tryd.pinned (.plain (OpenSpec.ofChange orderFirstSpec)) orderFirstCard

/-- THE TIED CARD OF 'cipherplanlaw29.OrderSets'. -/
def orderSetsCard : Claim7 := { stood := { row := orderSetsRow, standIns := [], harness := (true, "4a3022157eadb13fc182e540e8306916fb276db756ab08209bd1a01965935642"), looks := false }, kinds := [], alts := [], laidByText := true, laidKinds := [.data], laidTests := true, laidLooks := .later }
def OrderSetsCardSaid : Prop := Claim7.holds Tryd.pinned (.plain (OpenSpec.ofChange orderSetsSpec)) orderSetsCard

/-- THE TIED CARD OF 'cipherplanlaw29.OrderAll'. -/
def orderAllCard : Claim7 := { stood := { row := orderAllRow, standIns := [], harness := (true, "4a3022157eadb13fc182e540e8306916fb276db756ab08209bd1a01965935642"), looks := false }, kinds := [], alts := [], laidByText := true, laidKinds := [.data], laidTests := true, laidLooks := .later }
def OrderAllCardSaid : Prop := Claim7.holds Tryd.pinned (.plain (OpenSpec.ofChange orderAllSpec)) orderAllCard

/-- THE SECOND FORM's CARD OF 'cipherplanlaw29.OrderLoops'. -/
def orderLoopsUptoCard : Claim7 := { stood := { row := orderLoopsUptoRow, standIns := [], harness := (true, "4a3022157eadb13fc182e540e8306916fb276db756ab08209bd1a01965935642"), looks := false }, kinds := [], alts := [], laidByText := true, laidKinds := [.data], laidTests := true, laidLooks := .later }
def OrderLoopsUptoCardSaid : Prop := Claim7.holds Tryd.pinned (.plain (OpenSpec.upto orderLoopsSpec)) orderLoopsUptoCard

/-- THE SECOND FORM's CARD OF 'cipherplanlaw29.OrderParts'. -/
def orderPartsUptoCard : Claim7 := { stood := { row := orderPartsUptoRow, standIns := [], harness := (true, "4a3022157eadb13fc182e540e8306916fb276db756ab08209bd1a01965935642"), looks := false }, kinds := [], alts := [], laidByText := true, laidKinds := [.data], laidTests := true, laidLooks := .later }
def OrderPartsUptoCardSaid : Prop := Claim7.holds Tryd.pinned (.plain (OpenSpec.upto orderPartsSpec)) orderPartsUptoCard

/-- THE SECOND FORM's CARD OF 'cipherplanlaw29.OrderFirst'. -/
def orderFirstUptoCard : Claim7 := { stood := { row := orderFirstUptoRow, standIns := [], harness := (true, "4a3022157eadb13fc182e540e8306916fb276db756ab08209bd1a01965935642"), looks := false }, kinds := [], alts := [], laidByText := true, laidKinds := [.data], laidTests := true, laidLooks := .later }
def OrderFirstUptoCardSaid : Prop := Claim7.holds Tryd.pinned (.plain (OpenSpec.upto orderFirstSpec)) orderFirstUptoCard

/-- THE SECOND FORM's CARD OF 'cipherplanlaw29.OrderSets'. -/
def orderSetsUptoCard : Claim7 := { stood := { row := orderSetsUptoRow, standIns := [], harness := (true, "4a3022157eadb13fc182e540e8306916fb276db756ab08209bd1a01965935642"), looks := false }, kinds := [], alts := [], laidByText := true, laidKinds := [.data], laidTests := true, laidLooks := .later }
def OrderSetsUptoCardSaid : Prop := Claim7.holds Tryd.pinned (.plain (OpenSpec.upto orderSetsSpec)) orderSetsUptoCard

/-- THE SECOND FORM's CARD OF 'cipherplanlaw29.OrderAll'. -/
def orderAllUptoCard : Claim7 := { stood := { row := orderAllUptoRow, standIns := [], harness := (true, "4a3022157eadb13fc182e540e8306916fb276db756ab08209bd1a01965935642"), looks := false }, kinds := [], alts := [], laidByText := true, laidKinds := [.data], laidTests := true, laidLooks := .later }
def OrderAllUptoCardSaid : Prop := Claim7.holds Tryd.pinned (.plain (OpenSpec.upto orderAllSpec)) orderAllUptoCard
end Rows
end Go.Proofs.YtopkgllcjbpdeaaDoor
