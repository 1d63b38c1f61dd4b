/-
  DERIVED. GIVEN WITH THE SEED: THE CARDS: each row of YtmlebgikdegjjaaGreatDoorRows.lean that lists a variable, with what it lists TIED to the program's text (the seventh form; the later family's looks); each row that meets fmt, with fmt's text TOLD by the authors' own Lean function (tested against real Go, not proved from fmt's source: count such statements apart). THE CARD IS WHAT COUNTS. Prove the row's statement (the work); the ties are given (YtmlebgikdegjjaaGreatDoorTie.lean); close each card by the builder's one call (the guide's Derived/Test/ToyasCard.lean, 'card_holds'). Laid BY PROGRAM, IN A SANDBOX (cutbox-door.mjs). By AI agents, Wed Nov 11 2026. No macro, syntax, notation, axiom, sorry.
-/
import Derived.Test.YtmlebgikdegjjaaGreatDoorRows
import GoSem.ClaimSeven
namespace Go.Proofs.YtmlebgikdegjjaaGreatDoor
namespace Rows

/-- THE TIED CARD OF 'monticulelaw08.SnapChanges'. -/
def snapChangesCard : Claim7 := { stood := { row := snapChangesRow, standIns := [], harness := (true, "ecb3f4ba5ead400fcde4c6c9883a5d031d1d560189c301d00c86e215309236fa"), looks := false }, kinds := [], alts := [], laidByText := true, laidKinds := [.data, .pinned], laidTests := true, laidLooks := .later }
def SnapChangesCardSaid : Prop := Claim7.holds Tryz.pinned (.plain (OpenSpec.ofChange snapChangesSpec)) snapChangesCard

/-- THE TIED CARD OF 'monticulelaw09.DiffTurns'. -/
def diffTurnsCard : Claim7 := { stood := { row := diffTurnsRow, standIns := [], harness := (true, "ecb3f4ba5ead400fcde4c6c9883a5d031d1d560189c301d00c86e215309236fa"), looks := false }, kinds := [], alts := [], laidByText := true, laidKinds := [.data, .pinned], laidTests := true, laidLooks := .later }
def DiffTurnsCardSaid : Prop := Claim7.holds Tryz.pinned (.plain (OpenSpec.ofChange diffTurnsSpec)) diffTurnsCard

/-- THE TIED CARD OF 'monticulelaw08.SnapNews'. -/
def snapNewsCard : Claim7 := { stood := { row := snapNewsRow, standIns := [], harness := (true, "ecb3f4ba5ead400fcde4c6c9883a5d031d1d560189c301d00c86e215309236fa"), looks := false }, kinds := [], alts := [], laidByText := true, laidKinds := [.data, .pinned], laidTests := true, laidLooks := .later }
def SnapNewsCardSaid : Prop := Claim7.holds Tryz.pinned (.plain (OpenSpec.ofChange snapNewsSpec)) snapNewsCard

/-- THE TIED CARD OF 'monticulelaw10.MergeMerges'. -/
def mergeMergesCard : Claim7 := { stood := { row := mergeMergesRow, standIns := [], harness := (true, "ecb3f4ba5ead400fcde4c6c9883a5d031d1d560189c301d00c86e215309236fa"), looks := false }, kinds := [], alts := [], laidByText := true, laidKinds := [.data, .pinned], laidTests := true, laidLooks := .later }
def MergeMergesCardSaid : Prop := Claim7.holds Tryz.pinned (.plain (OpenSpec.ofChange mergeMergesSpec)) mergeMergesCard

/-- THE TIED CARD OF 'monticulelaw10.MergeSides'. -/
def mergeSidesCard : Claim7 := { stood := { row := mergeSidesRow, standIns := [], harness := (true, "ecb3f4ba5ead400fcde4c6c9883a5d031d1d560189c301d00c86e215309236fa"), looks := false }, kinds := [], alts := [], laidByText := true, laidKinds := [.data, .pinned], laidTests := true, laidLooks := .later }
def MergeSidesCardSaid : Prop := Claim7.holds Tryz.pinned (.plain (OpenSpec.ofChange mergeSidesSpec)) mergeSidesCard

/-- THE TIED CARD OF 'monticulelaw10.MergeChooses'. -/
def mergeChoosesCard : Claim7 := { stood := { row := mergeChoosesRow, standIns := [], harness := (true, "ecb3f4ba5ead400fcde4c6c9883a5d031d1d560189c301d00c86e215309236fa"), looks := false }, kinds := [], alts := [], laidByText := true, laidKinds := [.data, .pinned], laidTests := true, laidLooks := .later }
def MergeChoosesCardSaid : Prop := Claim7.holds Tryz.pinned (.plain (OpenSpec.ofChange mergeChoosesSpec)) mergeChoosesCard

/-- THE TIED CARD OF 'monticulelaw10.MergeOnes'. -/
def mergeOnesCard : Claim7 := { stood := { row := mergeOnesRow, standIns := [], harness := (true, "ecb3f4ba5ead400fcde4c6c9883a5d031d1d560189c301d00c86e215309236fa"), looks := false }, kinds := [], alts := [], laidByText := true, laidKinds := [.data, .pinned], laidTests := true, laidLooks := .later }
def MergeOnesCardSaid : Prop := Claim7.holds Tryz.pinned (.plain (OpenSpec.ofChange mergeOnesSpec)) mergeOnesCard

/-- THE TIED CARD OF 'monticulelaw09.DiffApplies'. -/
def diffAppliesCard : Claim7 := { stood := { row := diffAppliesRow, standIns := [], harness := (true, "ecb3f4ba5ead400fcde4c6c9883a5d031d1d560189c301d00c86e215309236fa"), looks := false }, kinds := [], alts := [], laidByText := true, laidKinds := [.data, .pinned], laidTests := true, laidLooks := .later }
def DiffAppliesCardSaid : Prop := Claim7.holds Tryz.pinned (.plain (OpenSpec.ofChange diffAppliesSpec)) diffAppliesCard

/-- THE TIED CARD OF 'monticulelaw09.DiffChains'. -/
def diffChainsCard : Claim7 := { stood := { row := diffChainsRow, standIns := [], harness := (true, "ecb3f4ba5ead400fcde4c6c9883a5d031d1d560189c301d00c86e215309236fa"), looks := false }, kinds := [], alts := [], laidByText := true, laidKinds := [.data, .pinned], laidTests := true, laidLooks := .later }
def DiffChainsCardSaid : Prop := Claim7.holds Tryz.pinned (.plain (OpenSpec.ofChange diffChainsSpec)) diffChainsCard

/-- THE TIED CARD OF 'monticulelaw09.DiffOfs'. -/
def diffOfsCard : Claim7 := { stood := { row := diffOfsRow, standIns := [], harness := (true, "ecb3f4ba5ead400fcde4c6c9883a5d031d1d560189c301d00c86e215309236fa"), looks := false }, kinds := [], alts := [], laidByText := true, laidKinds := [.data, .pinned], laidTests := true, laidLooks := .later }
def DiffOfsCardSaid : Prop := Claim7.holds Tryz.pinned (.plain (OpenSpec.ofChange diffOfsSpec)) diffOfsCard

/-- THE TIED CARD OF 'monticulelaw08.SnapParses'. -/
def snapParsesCard : Claim7 := { stood := { row := snapParsesRow, standIns := [], harness := (true, "ecb3f4ba5ead400fcde4c6c9883a5d031d1d560189c301d00c86e215309236fa"), looks := false }, kinds := [], alts := [], laidByText := true, laidKinds := [.data, .pinned], laidTests := true, laidLooks := .later }
def SnapParsesCardSaid : Prop := Claim7.holds Tryz.pinned (.plain (OpenSpec.ofChange snapParsesSpec)) snapParsesCard

/-- THE TIED CARD OF 'monticulelaw08.SnapBack'. -/
def snapBackCard : Claim7 := { stood := { row := snapBackRow, standIns := [], harness := (true, "ecb3f4ba5ead400fcde4c6c9883a5d031d1d560189c301d00c86e215309236fa"), looks := false }, kinds := [], alts := [], laidByText := true, laidKinds := [.data, .pinned], laidTests := true, laidLooks := .later }
def SnapBackCardSaid : Prop := Claim7.holds Tryz.pinned (.plain (OpenSpec.ofChange snapBackSpec)) snapBackCard

/-- THE SECOND FORM's CARD OF 'monticulelaw08.SnapChanges'. -/
def snapChangesUptoCard : Claim7 := { stood := { row := snapChangesUptoRow, standIns := [], harness := (true, "ecb3f4ba5ead400fcde4c6c9883a5d031d1d560189c301d00c86e215309236fa"), looks := false }, kinds := [], alts := [], laidByText := true, laidKinds := [.data, .pinned], laidTests := true, laidLooks := .later }
def SnapChangesUptoCardSaid : Prop := Claim7.holds Tryz.pinned (.plain (OpenSpec.upto snapChangesSpec)) snapChangesUptoCard

/-- THE SECOND FORM's CARD OF 'monticulelaw09.DiffTurns'. -/
def diffTurnsUptoCard : Claim7 := { stood := { row := diffTurnsUptoRow, standIns := [], harness := (true, "ecb3f4ba5ead400fcde4c6c9883a5d031d1d560189c301d00c86e215309236fa"), looks := false }, kinds := [], alts := [], laidByText := true, laidKinds := [.data, .pinned], laidTests := true, laidLooks := .later }
def DiffTurnsUptoCardSaid : Prop := Claim7.holds Tryz.pinned (.plain (OpenSpec.upto diffTurnsSpec)) diffTurnsUptoCard

/-- THE SECOND FORM's CARD OF 'monticulelaw08.SnapNews'. -/
def snapNewsUptoCard : Claim7 := { stood := { row := snapNewsUptoRow, standIns := [], harness := (true, "ecb3f4ba5ead400fcde4c6c9883a5d031d1d560189c301d00c86e215309236fa"), looks := false }, kinds := [], alts := [], laidByText := true, laidKinds := [.data, .pinned], laidTests := true, laidLooks := .later }
def SnapNewsUptoCardSaid : Prop := Claim7.holds Tryz.pinned (.plain (OpenSpec.upto snapNewsSpec)) snapNewsUptoCard

/-- THE SECOND FORM's CARD OF 'monticulelaw10.MergeMerges'. -/
def mergeMergesUptoCard : Claim7 := { stood := { row := mergeMergesUptoRow, standIns := [], harness := (true, "ecb3f4ba5ead400fcde4c6c9883a5d031d1d560189c301d00c86e215309236fa"), looks := false }, kinds := [], alts := [], laidByText := true, laidKinds := [.data, .pinned], laidTests := true, laidLooks := .later }
def MergeMergesUptoCardSaid : Prop := Claim7.holds Tryz.pinned (.plain (OpenSpec.upto mergeMergesSpec)) mergeMergesUptoCard

/-- THE SECOND FORM's CARD OF 'monticulelaw10.MergeSides'. -/
def mergeSidesUptoCard : Claim7 := { stood := { row := mergeSidesUptoRow, standIns := [], harness := (true, "ecb3f4ba5ead400fcde4c6c9883a5d031d1d560189c301d00c86e215309236fa"), looks := false }, kinds := [], alts := [], laidByText := true, laidKinds := [.data, .pinned], laidTests := true, laidLooks := .later }
def MergeSidesUptoCardSaid : Prop := Claim7.holds Tryz.pinned (.plain (OpenSpec.upto mergeSidesSpec)) mergeSidesUptoCard

/-- THE SECOND FORM's CARD OF 'monticulelaw10.MergeChooses'. -/
def mergeChoosesUptoCard : Claim7 := { stood := { row := mergeChoosesUptoRow, standIns := [], harness := (true, "ecb3f4ba5ead400fcde4c6c9883a5d031d1d560189c301d00c86e215309236fa"), looks := false }, kinds := [], alts := [], laidByText := true, laidKinds := [.data, .pinned], laidTests := true, laidLooks := .later }
def MergeChoosesUptoCardSaid : Prop := Claim7.holds Tryz.pinned (.plain (OpenSpec.upto mergeChoosesSpec)) mergeChoosesUptoCard

/-- THE SECOND FORM's CARD OF 'monticulelaw10.MergeOnes'. -/
def mergeOnesUptoCard : Claim7 := { stood := { row := mergeOnesUptoRow, standIns := [], harness := (true, "ecb3f4ba5ead400fcde4c6c9883a5d031d1d560189c301d00c86e215309236fa"), looks := false }, kinds := [], alts := [], laidByText := true, laidKinds := [.data, .pinned], laidTests := true, laidLooks := .later }
def MergeOnesUptoCardSaid : Prop := Claim7.holds Tryz.pinned (.plain (OpenSpec.upto mergeOnesSpec)) mergeOnesUptoCard

/-- THE SECOND FORM's CARD OF 'monticulelaw09.DiffApplies'. -/
def diffAppliesUptoCard : Claim7 := { stood := { row := diffAppliesUptoRow, standIns := [], harness := (true, "ecb3f4ba5ead400fcde4c6c9883a5d031d1d560189c301d00c86e215309236fa"), looks := false }, kinds := [], alts := [], laidByText := true, laidKinds := [.data, .pinned], laidTests := true, laidLooks := .later }
def DiffAppliesUptoCardSaid : Prop := Claim7.holds Tryz.pinned (.plain (OpenSpec.upto diffAppliesSpec)) diffAppliesUptoCard

/-- THE SECOND FORM's CARD OF 'monticulelaw09.DiffChains'. -/
def diffChainsUptoCard : Claim7 := { stood := { row := diffChainsUptoRow, standIns := [], harness := (true, "ecb3f4ba5ead400fcde4c6c9883a5d031d1d560189c301d00c86e215309236fa"), looks := false }, kinds := [], alts := [], laidByText := true, laidKinds := [.data, .pinned], laidTests := true, laidLooks := .later }
def DiffChainsUptoCardSaid : Prop := Claim7.holds Tryz.pinned (.plain (OpenSpec.upto diffChainsSpec)) diffChainsUptoCard

/-- THE SECOND FORM's CARD OF 'monticulelaw09.DiffOfs'. -/
def diffOfsUptoCard : Claim7 := { stood := { row := diffOfsUptoRow, standIns := [], harness := (true, "ecb3f4ba5ead400fcde4c6c9883a5d031d1d560189c301d00c86e215309236fa"), looks := false }, kinds := [], alts := [], laidByText := true, laidKinds := [.data, .pinned], laidTests := true, laidLooks := .later }
def DiffOfsUptoCardSaid : Prop := Claim7.holds Tryz.pinned (.plain (OpenSpec.upto diffOfsSpec)) diffOfsUptoCard

/-- THE SECOND FORM's CARD OF 'monticulelaw08.SnapParses'. -/
def snapParsesUptoCard : Claim7 := { stood := { row := snapParsesUptoRow, standIns := [], harness := (true, "ecb3f4ba5ead400fcde4c6c9883a5d031d1d560189c301d00c86e215309236fa"), looks := false }, kinds := [], alts := [], laidByText := true, laidKinds := [.data, .pinned], laidTests := true, laidLooks := .later }
def SnapParsesUptoCardSaid : Prop := Claim7.holds Tryz.pinned (.plain (OpenSpec.upto snapParsesSpec)) snapParsesUptoCard

/-- THE SECOND FORM's CARD OF 'monticulelaw08.SnapBack'. -/
def snapBackUptoCard : Claim7 := { stood := { row := snapBackUptoRow, standIns := [], harness := (true, "ecb3f4ba5ead400fcde4c6c9883a5d031d1d560189c301d00c86e215309236fa"), looks := false }, kinds := [], alts := [], laidByText := true, laidKinds := [.data, .pinned], laidTests := true, laidLooks := .later }
def SnapBackUptoCardSaid : Prop := Claim7.holds Tryz.pinned (.plain (OpenSpec.upto snapBackSpec)) snapBackUptoCard
end Rows
end Go.Proofs.YtmlebgikdegjjaaGreatDoor
