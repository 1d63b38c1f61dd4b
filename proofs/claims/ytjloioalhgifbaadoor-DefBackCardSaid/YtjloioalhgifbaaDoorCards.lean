/-
  DERIVED. GIVEN WITH THE SEED: THE CARDS: each row of YtjloioalhgifbaaDoorRows.lean that lists a variable, with what it lists TIED to the program's text (the seventh form; the later family's looks); each row that meets fmt, with fmt's text TOLD by the authors' own Lean function (tested against real Go, not proved from fmt's source: count such statements apart). THE CARD IS WHAT COUNTS. Prove the row's statement (the work); the ties are given (YtjloioalhgifbaaDoorTie.lean); close each card by the builder's one call (the guide's Derived/Test/ToyasCard.lean, 'card_holds'). Laid BY PROGRAM, IN A SANDBOX (cutbox-door.mjs). By AI agents, Wed Nov 11 2026. No macro, syntax, notation, axiom, sorry.
-/
import Derived.Test.YtjloioalhgifbaaDoorRows
import GoSem.ClaimSeven
namespace Go.Proofs.YtjloioalhgifbaaDoor
namespace Rows

/-- THE TIED CARD OF 'monticulelaw06.NameSelectors'. -/
def nameSelectorsCard : Claim7 := { stood := { row := nameSelectorsRow, standIns := [], harness := (true, "283b9a2fc4d07e29c6026dee4f6f0864983083194784b3e8bdd064e0a61ca34d"), looks := false }, kinds := [], alts := [], laidByText := true, laidKinds := [.data, .pinned], laidTests := true, laidLooks := .later }
def NameSelectorsCardSaid : Prop := Claim7.holds Tryd.pinned (.plain (OpenSpec.ofChange nameSelectorsSpec)) nameSelectorsCard

/-- THE TIED CARD OF 'monticulelaw06.NameKinds'. -/
def nameKindsCard : Claim7 := { stood := { row := nameKindsRow, standIns := [], harness := (true, "283b9a2fc4d07e29c6026dee4f6f0864983083194784b3e8bdd064e0a61ca34d"), looks := false }, kinds := [], alts := [], laidByText := true, laidKinds := [.data, .pinned], laidTests := true, laidLooks := .later }
def NameKindsCardSaid : Prop := Claim7.holds Tryd.pinned (.plain (OpenSpec.ofChange nameKindsSpec)) nameKindsCard

/-- THE TIED CARD OF 'monticulelaw07.DefSplits'. -/
def defSplitsCard : Claim7 := { stood := { row := defSplitsRow, standIns := [], harness := (true, "283b9a2fc4d07e29c6026dee4f6f0864983083194784b3e8bdd064e0a61ca34d"), looks := false }, kinds := [], alts := [], laidByText := true, laidKinds := [.data, .pinned], laidTests := true, laidLooks := .later }
def DefSplitsCardSaid : Prop := Claim7.holds Tryd.pinned (.plain (OpenSpec.ofChange defSplitsSpec)) defSplitsCard

/-- THE TIED CARD OF 'monticulelaw07.DefOrders'. -/
def defOrdersCard : Claim7 := { stood := { row := defOrdersRow, standIns := [], harness := (true, "283b9a2fc4d07e29c6026dee4f6f0864983083194784b3e8bdd064e0a61ca34d"), looks := false }, kinds := [], alts := [], laidByText := true, laidKinds := [.data, .pinned], laidTests := true, laidLooks := .later }
def DefOrdersCardSaid : Prop := Claim7.holds Tryd.pinned (.plain (OpenSpec.ofChange defOrdersSpec)) defOrdersCard

/-- THE TIED CARD OF 'monticulelaw07.DefRights'. -/
def defRightsCard : Claim7 := { stood := { row := defRightsRow, standIns := [], harness := (true, "283b9a2fc4d07e29c6026dee4f6f0864983083194784b3e8bdd064e0a61ca34d"), looks := false }, kinds := [], alts := [], laidByText := true, laidKinds := [.data, .pinned], laidTests := true, laidLooks := .later }
def DefRightsCardSaid : Prop := Claim7.holds Tryd.pinned (.plain (OpenSpec.ofChange defRightsSpec)) defRightsCard

/-- THE TIED CARD OF 'monticulelaw06.NameJoins'. -/
def nameJoinsCard : Claim7 := { stood := { row := nameJoinsRow, standIns := [], harness := (true, "283b9a2fc4d07e29c6026dee4f6f0864983083194784b3e8bdd064e0a61ca34d"), looks := false }, kinds := [], alts := [], laidByText := true, laidKinds := [.data, .pinned], laidTests := true, laidLooks := .later }
def NameJoinsCardSaid : Prop := Claim7.holds Tryd.pinned (.plain (OpenSpec.ofChange nameJoinsSpec)) nameJoinsCard

/-- THE TIED CARD OF 'monticulelaw07.DefReads'. -/
def defReadsCard : Claim7 := { stood := { row := defReadsRow, standIns := [], harness := (true, "283b9a2fc4d07e29c6026dee4f6f0864983083194784b3e8bdd064e0a61ca34d"), looks := false }, kinds := [], alts := [], laidByText := true, laidKinds := [.data, .pinned], laidTests := true, laidLooks := .later }
def DefReadsCardSaid : Prop := Claim7.holds Tryd.pinned (.plain (OpenSpec.ofChange defReadsSpec)) defReadsCard

/-- THE TIED CARD OF 'monticulelaw07.DefBack'. -/
def defBackCard : Claim7 := { stood := { row := defBackRow, standIns := [], harness := (true, "283b9a2fc4d07e29c6026dee4f6f0864983083194784b3e8bdd064e0a61ca34d"), looks := false }, kinds := [], alts := [], laidByText := true, laidKinds := [.data, .pinned], laidTests := true, laidLooks := .later }
def DefBackCardSaid : Prop := Claim7.holds Tryd.pinned (.plain (OpenSpec.ofChange defBackSpec)) defBackCard

/-- THE SECOND FORM's CARD OF 'monticulelaw06.NameSelectors'. -/
def nameSelectorsUptoCard : Claim7 := { stood := { row := nameSelectorsUptoRow, standIns := [], harness := (true, "283b9a2fc4d07e29c6026dee4f6f0864983083194784b3e8bdd064e0a61ca34d"), looks := false }, kinds := [], alts := [], laidByText := true, laidKinds := [.data, .pinned], laidTests := true, laidLooks := .later }
def NameSelectorsUptoCardSaid : Prop := Claim7.holds Tryd.pinned (.plain (OpenSpec.upto nameSelectorsSpec)) nameSelectorsUptoCard

/-- THE SECOND FORM's CARD OF 'monticulelaw06.NameKinds'. -/
def nameKindsUptoCard : Claim7 := { stood := { row := nameKindsUptoRow, standIns := [], harness := (true, "283b9a2fc4d07e29c6026dee4f6f0864983083194784b3e8bdd064e0a61ca34d"), looks := false }, kinds := [], alts := [], laidByText := true, laidKinds := [.data, .pinned], laidTests := true, laidLooks := .later }
def NameKindsUptoCardSaid : Prop := Claim7.holds Tryd.pinned (.plain (OpenSpec.upto nameKindsSpec)) nameKindsUptoCard

/-- THE SECOND FORM's CARD OF 'monticulelaw07.DefSplits'. -/
def defSplitsUptoCard : Claim7 := { stood := { row := defSplitsUptoRow, standIns := [], harness := (true, "283b9a2fc4d07e29c6026dee4f6f0864983083194784b3e8bdd064e0a61ca34d"), looks := false }, kinds := [], alts := [], laidByText := true, laidKinds := [.data, .pinned], laidTests := true, laidLooks := .later }
def DefSplitsUptoCardSaid : Prop := Claim7.holds Tryd.pinned (.plain (OpenSpec.upto defSplitsSpec)) defSplitsUptoCard

/-- THE SECOND FORM's CARD OF 'monticulelaw07.DefOrders'. -/
def defOrdersUptoCard : Claim7 := { stood := { row := defOrdersUptoRow, standIns := [], harness := (true, "283b9a2fc4d07e29c6026dee4f6f0864983083194784b3e8bdd064e0a61ca34d"), looks := false }, kinds := [], alts := [], laidByText := true, laidKinds := [.data, .pinned], laidTests := true, laidLooks := .later }
def DefOrdersUptoCardSaid : Prop := Claim7.holds Tryd.pinned (.plain (OpenSpec.upto defOrdersSpec)) defOrdersUptoCard

/-- THE SECOND FORM's CARD OF 'monticulelaw07.DefRights'. -/
def defRightsUptoCard : Claim7 := { stood := { row := defRightsUptoRow, standIns := [], harness := (true, "283b9a2fc4d07e29c6026dee4f6f0864983083194784b3e8bdd064e0a61ca34d"), looks := false }, kinds := [], alts := [], laidByText := true, laidKinds := [.data, .pinned], laidTests := true, laidLooks := .later }
def DefRightsUptoCardSaid : Prop := Claim7.holds Tryd.pinned (.plain (OpenSpec.upto defRightsSpec)) defRightsUptoCard

/-- THE SECOND FORM's CARD OF 'monticulelaw06.NameJoins'. -/
def nameJoinsUptoCard : Claim7 := { stood := { row := nameJoinsUptoRow, standIns := [], harness := (true, "283b9a2fc4d07e29c6026dee4f6f0864983083194784b3e8bdd064e0a61ca34d"), looks := false }, kinds := [], alts := [], laidByText := true, laidKinds := [.data, .pinned], laidTests := true, laidLooks := .later }
def NameJoinsUptoCardSaid : Prop := Claim7.holds Tryd.pinned (.plain (OpenSpec.upto nameJoinsSpec)) nameJoinsUptoCard

/-- THE SECOND FORM's CARD OF 'monticulelaw07.DefReads'. -/
def defReadsUptoCard : Claim7 := { stood := { row := defReadsUptoRow, standIns := [], harness := (true, "283b9a2fc4d07e29c6026dee4f6f0864983083194784b3e8bdd064e0a61ca34d"), looks := false }, kinds := [], alts := [], laidByText := true, laidKinds := [.data, .pinned], laidTests := true, laidLooks := .later }
def DefReadsUptoCardSaid : Prop := Claim7.holds Tryd.pinned (.plain (OpenSpec.upto defReadsSpec)) defReadsUptoCard

/-- THE SECOND FORM's CARD OF 'monticulelaw07.DefBack'. -/
def defBackUptoCard : Claim7 := { stood := { row := defBackUptoRow, standIns := [], harness := (true, "283b9a2fc4d07e29c6026dee4f6f0864983083194784b3e8bdd064e0a61ca34d"), looks := false }, kinds := [], alts := [], laidByText := true, laidKinds := [.data, .pinned], laidTests := true, laidLooks := .later }
def DefBackUptoCardSaid : Prop := Claim7.holds Tryd.pinned (.plain (OpenSpec.upto defBackSpec)) defBackUptoCard
end Rows
end Go.Proofs.YtjloioalhgifbaaDoor
