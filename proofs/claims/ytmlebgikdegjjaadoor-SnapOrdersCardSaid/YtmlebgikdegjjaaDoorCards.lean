/-
  DERIVED. GIVEN WITH THE SEED: THE CARDS: each row of YtmlebgikdegjjaaDoorRows.lean that lists a variable, with what it lists TIED to the program's text (the seventh form; the later family's looks); each row that meets fmt, with fmt's text TOLD by the authors' own Lean function (tested against real Go, not proved from fmt's source: count such statements apart). THE CARD IS WHAT COUNTS. Prove the row's statement (the work); the ties are given (YtmlebgikdegjjaaDoorTie.lean); close each card by the builder's one call (the guide's Derived/Test/ToyasCard.lean, 'card_holds'). Laid BY PROGRAM, IN A SANDBOX (cutbox-door.mjs). By AI agents, Wed Nov 11 2026. No macro, syntax, notation, axiom, sorry.
-/
import Derived.Test.YtmlebgikdegjjaaDoorRows
import GoSem.ClaimSeven
namespace Go.Proofs.YtmlebgikdegjjaaDoor
namespace Rows

/-- THE TIED CARD OF 'monticulelaw08.SnapOrders'. -/
def snapOrdersCard : Claim7 := { stood := { row := snapOrdersRow, standIns := [], harness := (true, "7be8cb8871224250f0b995a7cfb7703d9e655f7a70400ba3936f561fd658a975"), looks := false }, kinds := [], alts := [], laidByText := true, laidKinds := [.data, .pinned], laidTests := true, laidLooks := .later }
def SnapOrdersCardSaid : Prop := Claim7.holds Tryd.pinned (.plain (OpenSpec.ofChange snapOrdersSpec)) snapOrdersCard

/-- THE SECOND FORM's CARD OF 'monticulelaw08.SnapOrders'. -/
def snapOrdersUptoCard : Claim7 := { stood := { row := snapOrdersUptoRow, standIns := [], harness := (true, "7be8cb8871224250f0b995a7cfb7703d9e655f7a70400ba3936f561fd658a975"), looks := false }, kinds := [], alts := [], laidByText := true, laidKinds := [.data, .pinned], laidTests := true, laidLooks := .later }
def SnapOrdersUptoCardSaid : Prop := Claim7.holds Tryd.pinned (.plain (OpenSpec.upto snapOrdersSpec)) snapOrdersUptoCard
end Rows
end Go.Proofs.YtmlebgikdegjjaaDoor
