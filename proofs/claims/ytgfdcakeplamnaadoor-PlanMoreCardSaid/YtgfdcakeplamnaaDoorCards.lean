/-
  DERIVED. GIVEN WITH THE SEED: THE CARDS: each row of YtgfdcakeplamnaaDoorRows.lean that lists a variable, with what it lists TIED to the program's text (the seventh form; the later family's looks); each row that meets fmt, with fmt's text TOLD by the authors' own Lean function (tested against real Go, not proved from fmt's source: count such statements apart). THE CARD IS WHAT COUNTS. Prove the row's statement (the work); the ties are given (YtgfdcakeplamnaaDoorTie.lean); close each card by the builder's one call (the guide's Derived/Test/ToyasCard.lean, 'card_holds'). Laid BY PROGRAM, IN A SANDBOX (cutbox-door.mjs). By AI agents, Wed Nov 11 2026. No macro, syntax, notation, axiom, sorry.
-/
import Derived.Test.YtgfdcakeplamnaaDoorRows
import GoSem.ClaimSeven
namespace Go.Proofs.YtgfdcakeplamnaaDoor
namespace Rows

/-- THE TIED CARD OF 'monticulelaw28.PlanSound'. -/
def planSoundCard : Claim7 := { stood := { row := planSoundRow, standIns := [], harness := (true, "e14f49634ccab886c6180108b20c3ae44c337f88d2333446fc3aa724eddc045a"), looks := false }, kinds := [], alts := [], laidByText := true, laidKinds := [.data, .pinned], laidTests := true, laidLooks := .later }
def PlanSoundCardSaid : Prop := Claim7.holds Tryd.pinned (.plain (OpenSpec.ofChange planSoundSpec)) planSoundCard

/-- THE TIED CARD OF 'monticulelaw28.PlanTurned'. -/
def planTurnedCard : Claim7 := { stood := { row := planTurnedRow, standIns := [], harness := (true, "e14f49634ccab886c6180108b20c3ae44c337f88d2333446fc3aa724eddc045a"), looks := false }, kinds := [], alts := [], laidByText := true, laidKinds := [.data, .pinned], laidTests := true, laidLooks := .later }
def PlanTurnedCardSaid : Prop := Claim7.holds Tryd.pinned (.plain (OpenSpec.ofChange planTurnedSpec)) planTurnedCard

/-- THE TIED CARD OF 'monticulelaw28.PlanMore'. -/
def planMoreCard : Claim7 := { stood := { row := planMoreRow, standIns := [], harness := (true, "e14f49634ccab886c6180108b20c3ae44c337f88d2333446fc3aa724eddc045a"), looks := false }, kinds := [], alts := [], laidByText := true, laidKinds := [.data, .pinned], laidTests := true, laidLooks := .later }
def PlanMoreCardSaid : Prop := Claim7.holds Tryd.pinned (.plain (OpenSpec.ofChange planMoreSpec)) planMoreCard

/-- THE TIED CARD OF 'monticulelaw28.PlanNeeded'. -/
def planNeededCard : Claim7 := { stood := { row := planNeededRow, standIns := [], harness := (true, "e14f49634ccab886c6180108b20c3ae44c337f88d2333446fc3aa724eddc045a"), looks := false }, kinds := [], alts := [], laidByText := true, laidKinds := [.data, .pinned], laidTests := true, laidLooks := .later }
def PlanNeededCardSaid : Prop := Claim7.holds Tryd.pinned (.plain (OpenSpec.ofChange planNeededSpec)) planNeededCard

/-- THE SECOND FORM's CARD OF 'monticulelaw28.PlanSound'. -/
def planSoundUptoCard : Claim7 := { stood := { row := planSoundUptoRow, standIns := [], harness := (true, "e14f49634ccab886c6180108b20c3ae44c337f88d2333446fc3aa724eddc045a"), looks := false }, kinds := [], alts := [], laidByText := true, laidKinds := [.data, .pinned], laidTests := true, laidLooks := .later }
def PlanSoundUptoCardSaid : Prop := Claim7.holds Tryd.pinned (.plain (OpenSpec.upto planSoundSpec)) planSoundUptoCard

/-- THE SECOND FORM's CARD OF 'monticulelaw28.PlanTurned'. -/
def planTurnedUptoCard : Claim7 := { stood := { row := planTurnedUptoRow, standIns := [], harness := (true, "e14f49634ccab886c6180108b20c3ae44c337f88d2333446fc3aa724eddc045a"), looks := false }, kinds := [], alts := [], laidByText := true, laidKinds := [.data, .pinned], laidTests := true, laidLooks := .later }
def PlanTurnedUptoCardSaid : Prop := Claim7.holds Tryd.pinned (.plain (OpenSpec.upto planTurnedSpec)) planTurnedUptoCard

/-- THE SECOND FORM's CARD OF 'monticulelaw28.PlanMore'. -/
def planMoreUptoCard : Claim7 := { stood := { row := planMoreUptoRow, standIns := [], harness := (true, "e14f49634ccab886c6180108b20c3ae44c337f88d2333446fc3aa724eddc045a"), looks := false }, kinds := [], alts := [], laidByText := true, laidKinds := [.data, .pinned], laidTests := true, laidLooks := .later }
def PlanMoreUptoCardSaid : Prop := Claim7.holds Tryd.pinned (.plain (OpenSpec.upto planMoreSpec)) planMoreUptoCard

/-- THE SECOND FORM's CARD OF 'monticulelaw28.PlanNeeded'. -/
def planNeededUptoCard : Claim7 := { stood := { row := planNeededUptoRow, standIns := [], harness := (true, "e14f49634ccab886c6180108b20c3ae44c337f88d2333446fc3aa724eddc045a"), looks := false }, kinds := [], alts := [], laidByText := true, laidKinds := [.data, .pinned], laidTests := true, laidLooks := .later }
def PlanNeededUptoCardSaid : Prop := Claim7.holds Tryd.pinned (.plain (OpenSpec.upto planNeededSpec)) planNeededUptoCard
end Rows
end Go.Proofs.YtgfdcakeplamnaaDoor
