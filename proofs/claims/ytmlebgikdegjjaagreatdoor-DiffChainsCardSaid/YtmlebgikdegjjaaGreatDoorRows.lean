/-
  NARROWER THAN 'FOR EVERY INPUT', by the rows' own cells (each row's printed sentence says how): SnapChanges: laid · DiffTurns: laid · SnapNews: laid · MergeMerges: laid · MergeSides: laid · MergeChooses: laid · MergeOnes: laid · DiffApplies: laid · DiffChains: laid · DiffOfs: laid · SnapParses: laid · SnapBack: laid.
  DERIVED. THE GIVEN ROWS OF THIS SEAT. 12 by the template 'for every input the law returns true; each argument reads behind the call as it read before'; 0 by the template 'total and deterministic' (their statements: YtmlebgikdegjjaaGreatDoorTotals.lean).
  GIVEN WITH THE SEED: the statements are not yours to turn. If you find one false, say at which input.
  Laid BY PROGRAM, IN A SANDBOX (cutbox-rows.mjs): the forced cells as the released guide's own fill.sh prints them over the translation a11c294cdae3dae3… (all of the seat's roots in one cut). By AI agents, Wed Nov 11 2026. No macro, syntax, notation, axiom, sorry.
-/
import Derived.Test.YtmlebgikdegjjaaGreatDoorChecked
import GoSem.PinnedTables
import GoSem.Claim
import GoSem.ClaimJoined
import GoSem.ClaimMapViews
import Derived.JoinedTies
import Derived.KernelRfl
namespace Go.Proofs.YtmlebgikdegjjaaGreatDoor
/- THE CELL 'sum', in the pinned program and in every row, IS THE sha256 OF THE DUMP (.gsa) THAT YtmlebgikdegjjaaGreatDoorProg.lean LOADS. Nothing in Lean hashes anything: it is a label: what it is worth is what the hold of that sum in a sandbox is worth. -/
noncomputable def Tryz.pinned : Pinned := { name := "ytmlebgikdegjjaagreatdoor", sum := "a11c294cdae3dae3ca4a71a329c03956e4c22f9a89ea7111a0d5eee8cc20106a", checked := Tryz.checked }
namespace Rows
def none {H : Type} : Left H := { results := [], args := [] }

/- WHAT THE LISTED PACKAGE-LEVEL VARIABLES READ AS WHEN THE CALL BEGINS. Each datum BY PROGRAM (the guide's laid-datum.mjs) off the statement by which the dump's own 'gosem.cut.vars' lays the variable. In a bare row this is a premise. The card (YtmlebgikdegjjaaGreatDoorCards.lean) ties it to the program's text. -/
def laid_unicode_utf8_acceptRanges {H : Type} : DataW H := .agg [.agg [.lit (.int .u8 128), .lit (.int .u8 191)], .agg [.lit (.int .u8 160), .lit (.int .u8 191)], .agg [.lit (.int .u8 128), .lit (.int .u8 159)], .agg [.lit (.int .u8 144), .lit (.int .u8 191)], .agg [.lit (.int .u8 128), .lit (.int .u8 143)], .agg [.lit (.int .u8 0), .lit (.int .u8 0)], .agg [.lit (.int .u8 0), .lit (.int .u8 0)], .agg [.lit (.int .u8 0), .lit (.int .u8 0)], .agg [.lit (.int .u8 0), .lit (.int .u8 0)], .agg [.lit (.int .u8 0), .lit (.int .u8 0)], .agg [.lit (.int .u8 0), .lit (.int .u8 0)], .agg [.lit (.int .u8 0), .lit (.int .u8 0)], .agg [.lit (.int .u8 0), .lit (.int .u8 0)], .agg [.lit (.int .u8 0), .lit (.int .u8 0)], .agg [.lit (.int .u8 0), .lit (.int .u8 0)], .agg [.lit (.int .u8 0), .lit (.int .u8 0)]]
/-- One of Go's own tables, pinned by name: the form's constant. -/
def laid_unicode_utf8_first : DataW Unit := Go.Pinned.utf8First

/-- 'monticulelaw08.SnapChanges': WHATEVER THE INPUT: true; the input reads as it did. -/
def snapChangesSpec : ChangeSpec := { name := "snapChanges", fn := fun _ => fun
  | [d1, d2] => { results := [.lit (.bool true)], args := [d1, d2] }
  | _ => none }
def snapChangesRow : OpenClaim := { program := "ytmlebgikdegjjaagreatdoor", sum := "a11c294cdae3dae3ca4a71a329c03956e4c22f9a89ea7111a0d5eee8cc20106a", func := "monticule/monticulelaw08.SnapChanges", spec := "snapChanges", inPlace := ["internal/bytealg.IndexByteString", "internal/bytealg.IndexString", "internal/bytealg.CountString"], unfollowed := true, recurses := true, named := ["unicode/utf8.first", "unicode/utf8.acceptRanges", "internal/bytealg.MaxLen"], apart := false, laid := [("unicode/utf8.acceptRanges", laid_unicode_utf8_acceptRanges), ("unicode/utf8.first", laid_unicode_utf8_first)] }
def SnapChangesSaid : Prop := snapChangesRow.holds Tryz.pinned (OpenSpec.ofChange snapChangesSpec)

/-- ITS FALSE NEIGHBOUR: 'it returns false'. Refute it at one input. -/
def snapChangesWrong : ChangeSpec := { name := "snapChanges", fn := fun _ => fun
  | [d1, d2] => { results := [.lit (.bool false)], args := [d1, d2] }
  | _ => none }
def SnapChangesWrongFalsely : Prop := snapChangesRow.holds Tryz.pinned (OpenSpec.ofChange snapChangesWrong)

/-- 'monticulelaw09.DiffTurns': WHATEVER THE INPUT: true; the input reads as it did. -/
def diffTurnsSpec : ChangeSpec := { name := "diffTurns", fn := fun _ => fun
  | [d] => { results := [.lit (.bool true)], args := [d] }
  | _ => none }
def diffTurnsRow : OpenClaim := { program := "ytmlebgikdegjjaagreatdoor", sum := "a11c294cdae3dae3ca4a71a329c03956e4c22f9a89ea7111a0d5eee8cc20106a", func := "monticule/monticulelaw09.DiffTurns", spec := "diffTurns", inPlace := ["internal/bytealg.IndexByteString", "internal/bytealg.IndexString", "internal/bytealg.CountString"], unfollowed := true, recurses := true, named := ["unicode/utf8.first", "unicode/utf8.acceptRanges", "internal/bytealg.MaxLen"], apart := false, laid := [("unicode/utf8.acceptRanges", laid_unicode_utf8_acceptRanges), ("unicode/utf8.first", laid_unicode_utf8_first)] }
def DiffTurnsSaid : Prop := diffTurnsRow.holds Tryz.pinned (OpenSpec.ofChange diffTurnsSpec)

/-- ITS FALSE NEIGHBOUR: 'it returns false'. Refute it at one input. -/
def diffTurnsWrong : ChangeSpec := { name := "diffTurns", fn := fun _ => fun
  | [d] => { results := [.lit (.bool false)], args := [d] }
  | _ => none }
def DiffTurnsWrongFalsely : Prop := diffTurnsRow.holds Tryz.pinned (OpenSpec.ofChange diffTurnsWrong)

/-- 'monticulelaw08.SnapNews': WHATEVER THE INPUT: true; the input reads as it did. -/
def snapNewsSpec : ChangeSpec := { name := "snapNews", fn := fun _ => fun
  | [d1, d2, d3] => { results := [.lit (.bool true)], args := [d1, d2, d3] }
  | _ => none }
def snapNewsRow : OpenClaim := { program := "ytmlebgikdegjjaagreatdoor", sum := "a11c294cdae3dae3ca4a71a329c03956e4c22f9a89ea7111a0d5eee8cc20106a", func := "monticule/monticulelaw08.SnapNews", spec := "snapNews", inPlace := ["internal/bytealg.IndexByteString", "internal/bytealg.IndexString", "internal/bytealg.CountString"], unfollowed := true, recurses := true, named := ["unicode/utf8.first", "unicode/utf8.acceptRanges", "internal/bytealg.MaxLen"], apart := false, laid := [("unicode/utf8.acceptRanges", laid_unicode_utf8_acceptRanges), ("unicode/utf8.first", laid_unicode_utf8_first)] }
def SnapNewsSaid : Prop := snapNewsRow.holds Tryz.pinned (OpenSpec.ofChange snapNewsSpec)

/-- ITS FALSE NEIGHBOUR: 'it returns false'. Refute it at one input. -/
def snapNewsWrong : ChangeSpec := { name := "snapNews", fn := fun _ => fun
  | [d1, d2, d3] => { results := [.lit (.bool false)], args := [d1, d2, d3] }
  | _ => none }
def SnapNewsWrongFalsely : Prop := snapNewsRow.holds Tryz.pinned (OpenSpec.ofChange snapNewsWrong)

/-- 'monticulelaw10.MergeMerges': WHATEVER THE INPUT: true; the input reads as it did. -/
def mergeMergesSpec : ChangeSpec := { name := "mergeMerges", fn := fun _ => fun
  | [d] => { results := [.lit (.bool true)], args := [d] }
  | _ => none }
def mergeMergesRow : OpenClaim := { program := "ytmlebgikdegjjaagreatdoor", sum := "a11c294cdae3dae3ca4a71a329c03956e4c22f9a89ea7111a0d5eee8cc20106a", func := "monticule/monticulelaw10.MergeMerges", spec := "mergeMerges", inPlace := ["internal/bytealg.IndexByteString", "internal/bytealg.IndexString", "internal/bytealg.CountString"], unfollowed := true, recurses := true, named := ["unicode/utf8.first", "unicode/utf8.acceptRanges", "internal/bytealg.MaxLen"], apart := false, laid := [("unicode/utf8.acceptRanges", laid_unicode_utf8_acceptRanges), ("unicode/utf8.first", laid_unicode_utf8_first)] }
def MergeMergesSaid : Prop := mergeMergesRow.holds Tryz.pinned (OpenSpec.ofChange mergeMergesSpec)

/-- ITS FALSE NEIGHBOUR: 'it returns false'. Refute it at one input. -/
def mergeMergesWrong : ChangeSpec := { name := "mergeMerges", fn := fun _ => fun
  | [d] => { results := [.lit (.bool false)], args := [d] }
  | _ => none }
def MergeMergesWrongFalsely : Prop := mergeMergesRow.holds Tryz.pinned (OpenSpec.ofChange mergeMergesWrong)

/-- 'monticulelaw10.MergeSides': WHATEVER THE INPUT: true; the input reads as it did. -/
def mergeSidesSpec : ChangeSpec := { name := "mergeSides", fn := fun _ => fun
  | [d] => { results := [.lit (.bool true)], args := [d] }
  | _ => none }
def mergeSidesRow : OpenClaim := { program := "ytmlebgikdegjjaagreatdoor", sum := "a11c294cdae3dae3ca4a71a329c03956e4c22f9a89ea7111a0d5eee8cc20106a", func := "monticule/monticulelaw10.MergeSides", spec := "mergeSides", inPlace := ["internal/bytealg.IndexByteString", "internal/bytealg.IndexString", "internal/bytealg.CountString"], unfollowed := true, recurses := true, named := ["unicode/utf8.first", "unicode/utf8.acceptRanges", "internal/bytealg.MaxLen"], apart := false, laid := [("unicode/utf8.acceptRanges", laid_unicode_utf8_acceptRanges), ("unicode/utf8.first", laid_unicode_utf8_first)] }
def MergeSidesSaid : Prop := mergeSidesRow.holds Tryz.pinned (OpenSpec.ofChange mergeSidesSpec)

/-- ITS FALSE NEIGHBOUR: 'it returns false'. Refute it at one input. -/
def mergeSidesWrong : ChangeSpec := { name := "mergeSides", fn := fun _ => fun
  | [d] => { results := [.lit (.bool false)], args := [d] }
  | _ => none }
def MergeSidesWrongFalsely : Prop := mergeSidesRow.holds Tryz.pinned (OpenSpec.ofChange mergeSidesWrong)

/-- 'monticulelaw10.MergeChooses': WHATEVER THE INPUT: true; the input reads as it did. -/
def mergeChoosesSpec : ChangeSpec := { name := "mergeChooses", fn := fun _ => fun
  | [d] => { results := [.lit (.bool true)], args := [d] }
  | _ => none }
def mergeChoosesRow : OpenClaim := { program := "ytmlebgikdegjjaagreatdoor", sum := "a11c294cdae3dae3ca4a71a329c03956e4c22f9a89ea7111a0d5eee8cc20106a", func := "monticule/monticulelaw10.MergeChooses", spec := "mergeChooses", inPlace := ["internal/bytealg.IndexByteString", "internal/bytealg.IndexString", "internal/bytealg.CountString"], unfollowed := true, recurses := true, named := ["unicode/utf8.first", "unicode/utf8.acceptRanges", "internal/bytealg.MaxLen"], apart := false, laid := [("unicode/utf8.acceptRanges", laid_unicode_utf8_acceptRanges), ("unicode/utf8.first", laid_unicode_utf8_first)] }
def MergeChoosesSaid : Prop := mergeChoosesRow.holds Tryz.pinned (OpenSpec.ofChange mergeChoosesSpec)

/-- ITS FALSE NEIGHBOUR: 'it returns false'. Refute it at one input. -/
def mergeChoosesWrong : ChangeSpec := { name := "mergeChooses", fn := fun _ => fun
  | [d] => { results := [.lit (.bool false)], args := [d] }
  | _ => none }
def MergeChoosesWrongFalsely : Prop := mergeChoosesRow.holds Tryz.pinned (OpenSpec.ofChange mergeChoosesWrong)

/-- 'monticulelaw10.MergeOnes': WHATEVER THE INPUT: true; the input reads as it did. -/
def mergeOnesSpec : ChangeSpec := { name := "mergeOnes", fn := fun _ => fun
  | [d] => { results := [.lit (.bool true)], args := [d] }
  | _ => none }
def mergeOnesRow : OpenClaim := { program := "ytmlebgikdegjjaagreatdoor", sum := "a11c294cdae3dae3ca4a71a329c03956e4c22f9a89ea7111a0d5eee8cc20106a", func := "monticule/monticulelaw10.MergeOnes", spec := "mergeOnes", inPlace := ["internal/bytealg.IndexByteString", "internal/bytealg.IndexString", "internal/bytealg.CountString"], unfollowed := true, recurses := true, named := ["unicode/utf8.first", "unicode/utf8.acceptRanges", "internal/bytealg.MaxLen"], apart := false, laid := [("unicode/utf8.acceptRanges", laid_unicode_utf8_acceptRanges), ("unicode/utf8.first", laid_unicode_utf8_first)] }
def MergeOnesSaid : Prop := mergeOnesRow.holds Tryz.pinned (OpenSpec.ofChange mergeOnesSpec)

/-- ITS FALSE NEIGHBOUR: 'it returns false'. Refute it at one input. -/
def mergeOnesWrong : ChangeSpec := { name := "mergeOnes", fn := fun _ => fun
  | [d] => { results := [.lit (.bool false)], args := [d] }
  | _ => none }
def MergeOnesWrongFalsely : Prop := mergeOnesRow.holds Tryz.pinned (OpenSpec.ofChange mergeOnesWrong)

/-- 'monticulelaw09.DiffApplies': WHATEVER THE INPUT: true; the input reads as it did. -/
def diffAppliesSpec : ChangeSpec := { name := "diffApplies", fn := fun _ => fun
  | [d1, d2] => { results := [.lit (.bool true)], args := [d1, d2] }
  | _ => none }
def diffAppliesRow : OpenClaim := { program := "ytmlebgikdegjjaagreatdoor", sum := "a11c294cdae3dae3ca4a71a329c03956e4c22f9a89ea7111a0d5eee8cc20106a", func := "monticule/monticulelaw09.DiffApplies", spec := "diffApplies", inPlace := ["internal/bytealg.IndexByteString", "internal/bytealg.IndexString", "internal/bytealg.CountString"], unfollowed := true, recurses := true, named := ["unicode/utf8.first", "unicode/utf8.acceptRanges", "internal/bytealg.MaxLen"], apart := false, laid := [("unicode/utf8.acceptRanges", laid_unicode_utf8_acceptRanges), ("unicode/utf8.first", laid_unicode_utf8_first)] }
def DiffAppliesSaid : Prop := diffAppliesRow.holds Tryz.pinned (OpenSpec.ofChange diffAppliesSpec)

/-- ITS FALSE NEIGHBOUR: 'it returns false'. Refute it at one input. -/
def diffAppliesWrong : ChangeSpec := { name := "diffApplies", fn := fun _ => fun
  | [d1, d2] => { results := [.lit (.bool false)], args := [d1, d2] }
  | _ => none }
def DiffAppliesWrongFalsely : Prop := diffAppliesRow.holds Tryz.pinned (OpenSpec.ofChange diffAppliesWrong)

/-- 'monticulelaw09.DiffChains': WHATEVER THE INPUT: true; the input reads as it did. -/
def diffChainsSpec : ChangeSpec := { name := "diffChains", fn := fun _ => fun
  | [d] => { results := [.lit (.bool true)], args := [d] }
  | _ => none }
def diffChainsRow : OpenClaim := { program := "ytmlebgikdegjjaagreatdoor", sum := "a11c294cdae3dae3ca4a71a329c03956e4c22f9a89ea7111a0d5eee8cc20106a", func := "monticule/monticulelaw09.DiffChains", spec := "diffChains", inPlace := ["internal/bytealg.IndexByteString", "internal/bytealg.IndexString", "internal/bytealg.CountString"], unfollowed := true, recurses := true, named := ["unicode/utf8.first", "unicode/utf8.acceptRanges", "internal/bytealg.MaxLen"], apart := false, laid := [("unicode/utf8.acceptRanges", laid_unicode_utf8_acceptRanges), ("unicode/utf8.first", laid_unicode_utf8_first)] }
def DiffChainsSaid : Prop := diffChainsRow.holds Tryz.pinned (OpenSpec.ofChange diffChainsSpec)

/-- ITS FALSE NEIGHBOUR: 'it returns false'. Refute it at one input. -/
def diffChainsWrong : ChangeSpec := { name := "diffChains", fn := fun _ => fun
  | [d] => { results := [.lit (.bool false)], args := [d] }
  | _ => none }
def DiffChainsWrongFalsely : Prop := diffChainsRow.holds Tryz.pinned (OpenSpec.ofChange diffChainsWrong)

/-- 'monticulelaw09.DiffOfs': WHATEVER THE INPUT: true; the input reads as it did. -/
def diffOfsSpec : ChangeSpec := { name := "diffOfs", fn := fun _ => fun
  | [d1, d2] => { results := [.lit (.bool true)], args := [d1, d2] }
  | _ => none }
def diffOfsRow : OpenClaim := { program := "ytmlebgikdegjjaagreatdoor", sum := "a11c294cdae3dae3ca4a71a329c03956e4c22f9a89ea7111a0d5eee8cc20106a", func := "monticule/monticulelaw09.DiffOfs", spec := "diffOfs", inPlace := ["internal/bytealg.IndexByteString", "internal/bytealg.IndexString", "internal/bytealg.CountString"], unfollowed := true, recurses := true, named := ["unicode/utf8.first", "unicode/utf8.acceptRanges", "internal/bytealg.MaxLen"], apart := false, laid := [("unicode/utf8.acceptRanges", laid_unicode_utf8_acceptRanges), ("unicode/utf8.first", laid_unicode_utf8_first)] }
def DiffOfsSaid : Prop := diffOfsRow.holds Tryz.pinned (OpenSpec.ofChange diffOfsSpec)

/-- ITS FALSE NEIGHBOUR: 'it returns false'. Refute it at one input. -/
def diffOfsWrong : ChangeSpec := { name := "diffOfs", fn := fun _ => fun
  | [d1, d2] => { results := [.lit (.bool false)], args := [d1, d2] }
  | _ => none }
def DiffOfsWrongFalsely : Prop := diffOfsRow.holds Tryz.pinned (OpenSpec.ofChange diffOfsWrong)

/-- 'monticulelaw08.SnapParses': WHATEVER THE INPUT: true; the input reads as it did. -/
def snapParsesSpec : ChangeSpec := { name := "snapParses", fn := fun _ => fun
  | [d] => { results := [.lit (.bool true)], args := [d] }
  | _ => none }
def snapParsesRow : OpenClaim := { program := "ytmlebgikdegjjaagreatdoor", sum := "a11c294cdae3dae3ca4a71a329c03956e4c22f9a89ea7111a0d5eee8cc20106a", func := "monticule/monticulelaw08.SnapParses", spec := "snapParses", inPlace := ["internal/bytealg.IndexByteString", "internal/bytealg.IndexString", "internal/bytealg.CountString"], unfollowed := true, recurses := true, named := ["unicode/utf8.first", "unicode/utf8.acceptRanges", "internal/bytealg.MaxLen"], apart := false, laid := [("unicode/utf8.acceptRanges", laid_unicode_utf8_acceptRanges), ("unicode/utf8.first", laid_unicode_utf8_first)] }
def SnapParsesSaid : Prop := snapParsesRow.holds Tryz.pinned (OpenSpec.ofChange snapParsesSpec)

/-- ITS FALSE NEIGHBOUR: 'it returns false'. Refute it at one input. -/
def snapParsesWrong : ChangeSpec := { name := "snapParses", fn := fun _ => fun
  | [d] => { results := [.lit (.bool false)], args := [d] }
  | _ => none }
def SnapParsesWrongFalsely : Prop := snapParsesRow.holds Tryz.pinned (OpenSpec.ofChange snapParsesWrong)

/-- 'monticulelaw08.SnapBack': WHATEVER THE INPUT: true; the input reads as it did. -/
def snapBackSpec : ChangeSpec := { name := "snapBack", fn := fun _ => fun
  | [d1, d2] => { results := [.lit (.bool true)], args := [d1, d2] }
  | _ => none }
def snapBackRow : OpenClaim := { program := "ytmlebgikdegjjaagreatdoor", sum := "a11c294cdae3dae3ca4a71a329c03956e4c22f9a89ea7111a0d5eee8cc20106a", func := "monticule/monticulelaw08.SnapBack", spec := "snapBack", inPlace := ["internal/bytealg.IndexByteString", "internal/bytealg.IndexString", "internal/bytealg.CountString"], unfollowed := true, recurses := true, named := ["unicode/utf8.first", "unicode/utf8.acceptRanges", "internal/bytealg.MaxLen"], apart := false, laid := [("unicode/utf8.acceptRanges", laid_unicode_utf8_acceptRanges), ("unicode/utf8.first", laid_unicode_utf8_first)] }
def SnapBackSaid : Prop := snapBackRow.holds Tryz.pinned (OpenSpec.ofChange snapBackSpec)

/-- ITS FALSE NEIGHBOUR: 'it returns false'. Refute it at one input. -/
def snapBackWrong : ChangeSpec := { name := "snapBack", fn := fun _ => fun
  | [d1, d2] => { results := [.lit (.bool false)], args := [d1, d2] }
  | _ => none }
def SnapBackWrongFalsely : Prop := snapBackRow.holds Tryz.pinned (OpenSpec.ofChange snapBackWrong)

/- THE SECOND FORM. 'bulk': how many values and letters a reading holds, each counted each time it is reached (what is shared counts as often as it is met; a slice's spare places count too). A statement '..UptoSaid' is the law's where the arguments, and the package variables that the reading takes, are together of bulk at most 1048576: NARROWER than '..Said'. Prove '..Said' where nothing that the law and all that it calls make is longer than what came in: it says more and counts as full. Else prove '..UptoSaid'. A law counts once. -/
mutual
def uptoBulk {H : Type} : DataW H → Nat
  | .lit (.string bytes) => bytes.length + 1
  | .lit _ => 1
  | .nil => 1
  | .ptr d => uptoBulk d + 1
  | .slice elems spare => uptoBulkAll elems + uptoBulkAll spare + 1
  | .agg parts => uptoBulkAll parts + 1
  | .iface _ d => uptoBulk d + 1
  | .map entries => uptoBulkEntries entries + 1
  | .held _ => 1
def uptoBulkAll {H : Type} : List (DataW H) → Nat
  | [] => 0
  | d :: r => uptoBulk d + uptoBulkAll r
def uptoBulkEntries {H : Type} : List (Lit × DataW H) → Nat
  | [] => 0
  | x :: r => uptoBulkEntry x + uptoBulkEntries r
def uptoBulkEntry {H : Type} : Lit × DataW H → Nat
  | (.string bytes, d) => bytes.length + uptoBulk d + 1
  | (_, d) => uptoBulk d + 1
 end
def uptoSmall : (H : Type) → List (DataW H) → Bool := fun _ ds => decide (uptoBulkAll ds ≤ 1048576)
def OpenSpec.upto (s : _root_.Go.ChangeSpec) : _root_.Go.OpenSpec := { _root_.Go.OpenSpec.ofChange s with cond := some uptoSmall }

/-- 'monticulelaw08.SnapChanges', WHERE WHAT IT READS IS OF BULK AT MOST 1048576: true; the input reads as it did. -/
def snapChangesUptoRow : OpenClaim := { program := "ytmlebgikdegjjaagreatdoor", sum := "a11c294cdae3dae3ca4a71a329c03956e4c22f9a89ea7111a0d5eee8cc20106a", func := "monticule/monticulelaw08.SnapChanges", spec := "snapChanges", inPlace := ["internal/bytealg.IndexByteString", "internal/bytealg.IndexString", "internal/bytealg.CountString"], unfollowed := true, recurses := true, named := ["unicode/utf8.first", "unicode/utf8.acceptRanges", "internal/bytealg.MaxLen"], apart := false, laid := [("unicode/utf8.acceptRanges", laid_unicode_utf8_acceptRanges), ("unicode/utf8.first", laid_unicode_utf8_first)], narrowed := true }
def SnapChangesUptoSaid : Prop := snapChangesUptoRow.holds Tryz.pinned (OpenSpec.upto snapChangesSpec)

/-- 'monticulelaw09.DiffTurns', WHERE WHAT IT READS IS OF BULK AT MOST 1048576: true; the input reads as it did. -/
def diffTurnsUptoRow : OpenClaim := { program := "ytmlebgikdegjjaagreatdoor", sum := "a11c294cdae3dae3ca4a71a329c03956e4c22f9a89ea7111a0d5eee8cc20106a", func := "monticule/monticulelaw09.DiffTurns", spec := "diffTurns", inPlace := ["internal/bytealg.IndexByteString", "internal/bytealg.IndexString", "internal/bytealg.CountString"], unfollowed := true, recurses := true, named := ["unicode/utf8.first", "unicode/utf8.acceptRanges", "internal/bytealg.MaxLen"], apart := false, laid := [("unicode/utf8.acceptRanges", laid_unicode_utf8_acceptRanges), ("unicode/utf8.first", laid_unicode_utf8_first)], narrowed := true }
def DiffTurnsUptoSaid : Prop := diffTurnsUptoRow.holds Tryz.pinned (OpenSpec.upto diffTurnsSpec)

/-- 'monticulelaw08.SnapNews', WHERE WHAT IT READS IS OF BULK AT MOST 1048576: true; the input reads as it did. -/
def snapNewsUptoRow : OpenClaim := { program := "ytmlebgikdegjjaagreatdoor", sum := "a11c294cdae3dae3ca4a71a329c03956e4c22f9a89ea7111a0d5eee8cc20106a", func := "monticule/monticulelaw08.SnapNews", spec := "snapNews", inPlace := ["internal/bytealg.IndexByteString", "internal/bytealg.IndexString", "internal/bytealg.CountString"], unfollowed := true, recurses := true, named := ["unicode/utf8.first", "unicode/utf8.acceptRanges", "internal/bytealg.MaxLen"], apart := false, laid := [("unicode/utf8.acceptRanges", laid_unicode_utf8_acceptRanges), ("unicode/utf8.first", laid_unicode_utf8_first)], narrowed := true }
def SnapNewsUptoSaid : Prop := snapNewsUptoRow.holds Tryz.pinned (OpenSpec.upto snapNewsSpec)

/-- 'monticulelaw10.MergeMerges', WHERE WHAT IT READS IS OF BULK AT MOST 1048576: true; the input reads as it did. -/
def mergeMergesUptoRow : OpenClaim := { program := "ytmlebgikdegjjaagreatdoor", sum := "a11c294cdae3dae3ca4a71a329c03956e4c22f9a89ea7111a0d5eee8cc20106a", func := "monticule/monticulelaw10.MergeMerges", spec := "mergeMerges", inPlace := ["internal/bytealg.IndexByteString", "internal/bytealg.IndexString", "internal/bytealg.CountString"], unfollowed := true, recurses := true, named := ["unicode/utf8.first", "unicode/utf8.acceptRanges", "internal/bytealg.MaxLen"], apart := false, laid := [("unicode/utf8.acceptRanges", laid_unicode_utf8_acceptRanges), ("unicode/utf8.first", laid_unicode_utf8_first)], narrowed := true }
def MergeMergesUptoSaid : Prop := mergeMergesUptoRow.holds Tryz.pinned (OpenSpec.upto mergeMergesSpec)

/-- 'monticulelaw10.MergeSides', WHERE WHAT IT READS IS OF BULK AT MOST 1048576: true; the input reads as it did. -/
def mergeSidesUptoRow : OpenClaim := { program := "ytmlebgikdegjjaagreatdoor", sum := "a11c294cdae3dae3ca4a71a329c03956e4c22f9a89ea7111a0d5eee8cc20106a", func := "monticule/monticulelaw10.MergeSides", spec := "mergeSides", inPlace := ["internal/bytealg.IndexByteString", "internal/bytealg.IndexString", "internal/bytealg.CountString"], unfollowed := true, recurses := true, named := ["unicode/utf8.first", "unicode/utf8.acceptRanges", "internal/bytealg.MaxLen"], apart := false, laid := [("unicode/utf8.acceptRanges", laid_unicode_utf8_acceptRanges), ("unicode/utf8.first", laid_unicode_utf8_first)], narrowed := true }
def MergeSidesUptoSaid : Prop := mergeSidesUptoRow.holds Tryz.pinned (OpenSpec.upto mergeSidesSpec)

/-- 'monticulelaw10.MergeChooses', WHERE WHAT IT READS IS OF BULK AT MOST 1048576: true; the input reads as it did. -/
def mergeChoosesUptoRow : OpenClaim := { program := "ytmlebgikdegjjaagreatdoor", sum := "a11c294cdae3dae3ca4a71a329c03956e4c22f9a89ea7111a0d5eee8cc20106a", func := "monticule/monticulelaw10.MergeChooses", spec := "mergeChooses", inPlace := ["internal/bytealg.IndexByteString", "internal/bytealg.IndexString", "internal/bytealg.CountString"], unfollowed := true, recurses := true, named := ["unicode/utf8.first", "unicode/utf8.acceptRanges", "internal/bytealg.MaxLen"], apart := false, laid := [("unicode/utf8.acceptRanges", laid_unicode_utf8_acceptRanges), ("unicode/utf8.first", laid_unicode_utf8_first)], narrowed := true }
def MergeChoosesUptoSaid : Prop := mergeChoosesUptoRow.holds Tryz.pinned (OpenSpec.upto mergeChoosesSpec)

/-- 'monticulelaw10.MergeOnes', WHERE WHAT IT READS IS OF BULK AT MOST 1048576: true; the input reads as it did. -/
def mergeOnesUptoRow : OpenClaim := { program := "ytmlebgikdegjjaagreatdoor", sum := "a11c294cdae3dae3ca4a71a329c03956e4c22f9a89ea7111a0d5eee8cc20106a", func := "monticule/monticulelaw10.MergeOnes", spec := "mergeOnes", inPlace := ["internal/bytealg.IndexByteString", "internal/bytealg.IndexString", "internal/bytealg.CountString"], unfollowed := true, recurses := true, named := ["unicode/utf8.first", "unicode/utf8.acceptRanges", "internal/bytealg.MaxLen"], apart := false, laid := [("unicode/utf8.acceptRanges", laid_unicode_utf8_acceptRanges), ("unicode/utf8.first", laid_unicode_utf8_first)], narrowed := true }
def MergeOnesUptoSaid : Prop := mergeOnesUptoRow.holds Tryz.pinned (OpenSpec.upto mergeOnesSpec)

/-- 'monticulelaw09.DiffApplies', WHERE WHAT IT READS IS OF BULK AT MOST 1048576: true; the input reads as it did. -/
def diffAppliesUptoRow : OpenClaim := { program := "ytmlebgikdegjjaagreatdoor", sum := "a11c294cdae3dae3ca4a71a329c03956e4c22f9a89ea7111a0d5eee8cc20106a", func := "monticule/monticulelaw09.DiffApplies", spec := "diffApplies", inPlace := ["internal/bytealg.IndexByteString", "internal/bytealg.IndexString", "internal/bytealg.CountString"], unfollowed := true, recurses := true, named := ["unicode/utf8.first", "unicode/utf8.acceptRanges", "internal/bytealg.MaxLen"], apart := false, laid := [("unicode/utf8.acceptRanges", laid_unicode_utf8_acceptRanges), ("unicode/utf8.first", laid_unicode_utf8_first)], narrowed := true }
def DiffAppliesUptoSaid : Prop := diffAppliesUptoRow.holds Tryz.pinned (OpenSpec.upto diffAppliesSpec)

/-- 'monticulelaw09.DiffChains', WHERE WHAT IT READS IS OF BULK AT MOST 1048576: true; the input reads as it did. -/
def diffChainsUptoRow : OpenClaim := { program := "ytmlebgikdegjjaagreatdoor", sum := "a11c294cdae3dae3ca4a71a329c03956e4c22f9a89ea7111a0d5eee8cc20106a", func := "monticule/monticulelaw09.DiffChains", spec := "diffChains", inPlace := ["internal/bytealg.IndexByteString", "internal/bytealg.IndexString", "internal/bytealg.CountString"], unfollowed := true, recurses := true, named := ["unicode/utf8.first", "unicode/utf8.acceptRanges", "internal/bytealg.MaxLen"], apart := false, laid := [("unicode/utf8.acceptRanges", laid_unicode_utf8_acceptRanges), ("unicode/utf8.first", laid_unicode_utf8_first)], narrowed := true }
def DiffChainsUptoSaid : Prop := diffChainsUptoRow.holds Tryz.pinned (OpenSpec.upto diffChainsSpec)

/-- 'monticulelaw09.DiffOfs', WHERE WHAT IT READS IS OF BULK AT MOST 1048576: true; the input reads as it did. -/
def diffOfsUptoRow : OpenClaim := { program := "ytmlebgikdegjjaagreatdoor", sum := "a11c294cdae3dae3ca4a71a329c03956e4c22f9a89ea7111a0d5eee8cc20106a", func := "monticule/monticulelaw09.DiffOfs", spec := "diffOfs", inPlace := ["internal/bytealg.IndexByteString", "internal/bytealg.IndexString", "internal/bytealg.CountString"], unfollowed := true, recurses := true, named := ["unicode/utf8.first", "unicode/utf8.acceptRanges", "internal/bytealg.MaxLen"], apart := false, laid := [("unicode/utf8.acceptRanges", laid_unicode_utf8_acceptRanges), ("unicode/utf8.first", laid_unicode_utf8_first)], narrowed := true }
def DiffOfsUptoSaid : Prop := diffOfsUptoRow.holds Tryz.pinned (OpenSpec.upto diffOfsSpec)

/-- 'monticulelaw08.SnapParses', WHERE WHAT IT READS IS OF BULK AT MOST 1048576: true; the input reads as it did. -/
def snapParsesUptoRow : OpenClaim := { program := "ytmlebgikdegjjaagreatdoor", sum := "a11c294cdae3dae3ca4a71a329c03956e4c22f9a89ea7111a0d5eee8cc20106a", func := "monticule/monticulelaw08.SnapParses", spec := "snapParses", inPlace := ["internal/bytealg.IndexByteString", "internal/bytealg.IndexString", "internal/bytealg.CountString"], unfollowed := true, recurses := true, named := ["unicode/utf8.first", "unicode/utf8.acceptRanges", "internal/bytealg.MaxLen"], apart := false, laid := [("unicode/utf8.acceptRanges", laid_unicode_utf8_acceptRanges), ("unicode/utf8.first", laid_unicode_utf8_first)], narrowed := true }
def SnapParsesUptoSaid : Prop := snapParsesUptoRow.holds Tryz.pinned (OpenSpec.upto snapParsesSpec)

/-- 'monticulelaw08.SnapBack', WHERE WHAT IT READS IS OF BULK AT MOST 1048576: true; the input reads as it did. -/
def snapBackUptoRow : OpenClaim := { program := "ytmlebgikdegjjaagreatdoor", sum := "a11c294cdae3dae3ca4a71a329c03956e4c22f9a89ea7111a0d5eee8cc20106a", func := "monticule/monticulelaw08.SnapBack", spec := "snapBack", inPlace := ["internal/bytealg.IndexByteString", "internal/bytealg.IndexString", "internal/bytealg.CountString"], unfollowed := true, recurses := true, named := ["unicode/utf8.first", "unicode/utf8.acceptRanges", "internal/bytealg.MaxLen"], apart := false, laid := [("unicode/utf8.acceptRanges", laid_unicode_utf8_acceptRanges), ("unicode/utf8.first", laid_unicode_utf8_first)], narrowed := true }
def SnapBackUptoSaid : Prop := snapBackUptoRow.holds Tryz.pinned (OpenSpec.upto snapBackSpec)

end Rows
end Go.Proofs.YtmlebgikdegjjaaGreatDoor
