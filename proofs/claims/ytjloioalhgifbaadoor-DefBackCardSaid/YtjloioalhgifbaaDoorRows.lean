/-
  NARROWER THAN 'FOR EVERY INPUT', by the rows' own cells (each row's printed sentence says how): NameSelectors: laid · NameKinds: laid · DefSplits: laid · DefOrders: laid · DefRights: laid · NameJoins: laid · DefReads: laid · DefBack: laid.
  DERIVED. THE GIVEN ROWS OF THIS SEAT. 8 by the template 'for every input the law returns true; each argument reads behind the call as it read before'; 0 by the template 'total and deterministic' (their statements: YtjloioalhgifbaaDoorTotals.lean).
  GIVEN WITH THE SEED: the statements are not yours to turn. If you find one false, say at which input.
  Laid BY PROGRAM, IN A SANDBOX (cutbox-rows.mjs): the forced cells as the released guide's own fill.sh prints them over the translation fc16760a8d92cdfd… (all of the seat's roots in one cut). By AI agents, Wed Nov 11 2026. No macro, syntax, notation, axiom, sorry.
-/
import Derived.Test.YtjloioalhgifbaaDoorChecked
import GoSem.PinnedTables
import GoSem.Claim
import GoSem.ClaimJoined
import GoSem.ClaimMapViews
import Derived.JoinedTies
import Derived.KernelRfl
namespace Go.Proofs.YtjloioalhgifbaaDoor
/- THE CELL 'sum', in the pinned program and in every row, IS THE sha256 OF THE DUMP (.gsa) THAT YtjloioalhgifbaaDoorProg.lean LOADS. Nothing in Lean hashes anything: it is a label: what it is worth is what the hold of that sum in a sandbox is worth. -/
noncomputable def Tryd.pinned : Pinned := { name := "ytjloioalhgifbaadoor", sum := "fc16760a8d92cdfdd83adcbf3acb7ea5f2a2f74261f4a455ae792007c5343d54", checked := Tryd.checked }
namespace Rows
def none {H : Type} : Left H := { results := [], args := [] }

/- WHAT THE LISTED PACKAGE-LEVEL VARIABLES READ AS WHEN THE CALL BEGINS. Each datum BY PROGRAM (the guide's laid-datum.mjs) off the statement by which the dump's own 'gosem.cut.vars' lays the variable. In a bare row this is a premise. The card (YtjloioalhgifbaaDoorCards.lean) ties it to the program's text. -/
def laid_unicode_utf8_acceptRanges {H : Type} : DataW H := .agg [.agg [.lit (.int .u8 128), .lit (.int .u8 191)], .agg [.lit (.int .u8 160), .lit (.int .u8 191)], .agg [.lit (.int .u8 128), .lit (.int .u8 159)], .agg [.lit (.int .u8 144), .lit (.int .u8 191)], .agg [.lit (.int .u8 128), .lit (.int .u8 143)], .agg [.lit (.int .u8 0), .lit (.int .u8 0)], .agg [.lit (.int .u8 0), .lit (.int .u8 0)], .agg [.lit (.int .u8 0), .lit (.int .u8 0)], .agg [.lit (.int .u8 0), .lit (.int .u8 0)], .agg [.lit (.int .u8 0), .lit (.int .u8 0)], .agg [.lit (.int .u8 0), .lit (.int .u8 0)], .agg [.lit (.int .u8 0), .lit (.int .u8 0)], .agg [.lit (.int .u8 0), .lit (.int .u8 0)], .agg [.lit (.int .u8 0), .lit (.int .u8 0)], .agg [.lit (.int .u8 0), .lit (.int .u8 0)], .agg [.lit (.int .u8 0), .lit (.int .u8 0)]]
/-- One of Go's own tables, pinned by name: the form's constant. -/
def laid_unicode_utf8_first : DataW Unit := Go.Pinned.utf8First

/-- 'monticulelaw06.NameSelectors': WHATEVER THE INPUT: true; the input reads as it did. -/
def nameSelectorsSpec : ChangeSpec := { name := "nameSelectors", fn := fun _ => fun
  | [d] => { results := [.lit (.bool true)], args := [d] }
  | _ => none }
def nameSelectorsRow : OpenClaim := { program := "ytjloioalhgifbaadoor", sum := "fc16760a8d92cdfdd83adcbf3acb7ea5f2a2f74261f4a455ae792007c5343d54", func := "monticule/monticulelaw06.NameSelectors", spec := "nameSelectors", inPlace := ["internal/bytealg.IndexByteString", "internal/bytealg.IndexString", "internal/bytealg.CountString"], unfollowed := true, recurses := true, named := ["unicode/utf8.first", "unicode/utf8.acceptRanges", "internal/bytealg.MaxLen"], apart := false, laid := [("unicode/utf8.acceptRanges", laid_unicode_utf8_acceptRanges), ("unicode/utf8.first", laid_unicode_utf8_first)] }
def NameSelectorsSaid : Prop := nameSelectorsRow.holds Tryd.pinned (OpenSpec.ofChange nameSelectorsSpec)

/-- ITS FALSE NEIGHBOUR: 'it returns false'. Refute it at one input. -/
def nameSelectorsWrong : ChangeSpec := { name := "nameSelectors", fn := fun _ => fun
  | [d] => { results := [.lit (.bool false)], args := [d] }
  | _ => none }
def NameSelectorsWrongFalsely : Prop := nameSelectorsRow.holds Tryd.pinned (OpenSpec.ofChange nameSelectorsWrong)

/-- 'monticulelaw06.NameKinds': WHATEVER THE INPUT: true; the input reads as it did. -/
def nameKindsSpec : ChangeSpec := { name := "nameKinds", fn := fun _ => fun
  | [d] => { results := [.lit (.bool true)], args := [d] }
  | _ => none }
def nameKindsRow : OpenClaim := { program := "ytjloioalhgifbaadoor", sum := "fc16760a8d92cdfdd83adcbf3acb7ea5f2a2f74261f4a455ae792007c5343d54", func := "monticule/monticulelaw06.NameKinds", spec := "nameKinds", inPlace := ["internal/bytealg.IndexByteString", "internal/bytealg.IndexString", "internal/bytealg.CountString"], unfollowed := true, recurses := true, named := ["unicode/utf8.first", "unicode/utf8.acceptRanges", "internal/bytealg.MaxLen"], apart := false, laid := [("unicode/utf8.acceptRanges", laid_unicode_utf8_acceptRanges), ("unicode/utf8.first", laid_unicode_utf8_first)] }
def NameKindsSaid : Prop := nameKindsRow.holds Tryd.pinned (OpenSpec.ofChange nameKindsSpec)

/-- ITS FALSE NEIGHBOUR: 'it returns false'. Refute it at one input. -/
def nameKindsWrong : ChangeSpec := { name := "nameKinds", fn := fun _ => fun
  | [d] => { results := [.lit (.bool false)], args := [d] }
  | _ => none }
def NameKindsWrongFalsely : Prop := nameKindsRow.holds Tryd.pinned (OpenSpec.ofChange nameKindsWrong)

/-- 'monticulelaw07.DefSplits': WHATEVER THE INPUT: true; the input reads as it did. -/
def defSplitsSpec : ChangeSpec := { name := "defSplits", fn := fun _ => fun
  | [d] => { results := [.lit (.bool true)], args := [d] }
  | _ => none }
def defSplitsRow : OpenClaim := { program := "ytjloioalhgifbaadoor", sum := "fc16760a8d92cdfdd83adcbf3acb7ea5f2a2f74261f4a455ae792007c5343d54", func := "monticule/monticulelaw07.DefSplits", spec := "defSplits", inPlace := ["internal/bytealg.IndexByteString", "internal/bytealg.IndexString", "internal/bytealg.CountString"], unfollowed := true, recurses := true, named := ["unicode/utf8.first", "unicode/utf8.acceptRanges", "internal/bytealg.MaxLen"], apart := false, laid := [("unicode/utf8.acceptRanges", laid_unicode_utf8_acceptRanges), ("unicode/utf8.first", laid_unicode_utf8_first)] }
def DefSplitsSaid : Prop := defSplitsRow.holds Tryd.pinned (OpenSpec.ofChange defSplitsSpec)

/-- ITS FALSE NEIGHBOUR: 'it returns false'. Refute it at one input. -/
def defSplitsWrong : ChangeSpec := { name := "defSplits", fn := fun _ => fun
  | [d] => { results := [.lit (.bool false)], args := [d] }
  | _ => none }
def DefSplitsWrongFalsely : Prop := defSplitsRow.holds Tryd.pinned (OpenSpec.ofChange defSplitsWrong)

/-- 'monticulelaw07.DefOrders': WHATEVER THE INPUT: true; the input reads as it did. -/
def defOrdersSpec : ChangeSpec := { name := "defOrders", fn := fun _ => fun
  | [d] => { results := [.lit (.bool true)], args := [d] }
  | _ => none }
def defOrdersRow : OpenClaim := { program := "ytjloioalhgifbaadoor", sum := "fc16760a8d92cdfdd83adcbf3acb7ea5f2a2f74261f4a455ae792007c5343d54", func := "monticule/monticulelaw07.DefOrders", spec := "defOrders", inPlace := ["internal/bytealg.IndexByteString", "internal/bytealg.IndexString", "internal/bytealg.CountString"], unfollowed := true, recurses := true, named := ["unicode/utf8.first", "unicode/utf8.acceptRanges", "internal/bytealg.MaxLen"], apart := false, laid := [("unicode/utf8.acceptRanges", laid_unicode_utf8_acceptRanges), ("unicode/utf8.first", laid_unicode_utf8_first)] }
def DefOrdersSaid : Prop := defOrdersRow.holds Tryd.pinned (OpenSpec.ofChange defOrdersSpec)

/-- ITS FALSE NEIGHBOUR: 'it returns false'. Refute it at one input. -/
def defOrdersWrong : ChangeSpec := { name := "defOrders", fn := fun _ => fun
  | [d] => { results := [.lit (.bool false)], args := [d] }
  | _ => none }
def DefOrdersWrongFalsely : Prop := defOrdersRow.holds Tryd.pinned (OpenSpec.ofChange defOrdersWrong)

/-- 'monticulelaw07.DefRights': WHATEVER THE INPUT: true; the input reads as it did. -/
def defRightsSpec : ChangeSpec := { name := "defRights", fn := fun _ => fun
  | [d1, d2] => { results := [.lit (.bool true)], args := [d1, d2] }
  | _ => none }
def defRightsRow : OpenClaim := { program := "ytjloioalhgifbaadoor", sum := "fc16760a8d92cdfdd83adcbf3acb7ea5f2a2f74261f4a455ae792007c5343d54", func := "monticule/monticulelaw07.DefRights", spec := "defRights", inPlace := ["internal/bytealg.IndexByteString", "internal/bytealg.IndexString", "internal/bytealg.CountString"], unfollowed := true, recurses := true, named := ["unicode/utf8.first", "unicode/utf8.acceptRanges", "internal/bytealg.MaxLen"], apart := false, laid := [("unicode/utf8.acceptRanges", laid_unicode_utf8_acceptRanges), ("unicode/utf8.first", laid_unicode_utf8_first)] }
def DefRightsSaid : Prop := defRightsRow.holds Tryd.pinned (OpenSpec.ofChange defRightsSpec)

/-- ITS FALSE NEIGHBOUR: 'it returns false'. Refute it at one input. -/
def defRightsWrong : ChangeSpec := { name := "defRights", fn := fun _ => fun
  | [d1, d2] => { results := [.lit (.bool false)], args := [d1, d2] }
  | _ => none }
def DefRightsWrongFalsely : Prop := defRightsRow.holds Tryd.pinned (OpenSpec.ofChange defRightsWrong)

/-- 'monticulelaw06.NameJoins': WHATEVER THE INPUT: true; the input reads as it did. -/
def nameJoinsSpec : ChangeSpec := { name := "nameJoins", fn := fun _ => fun
  | [d] => { results := [.lit (.bool true)], args := [d] }
  | _ => none }
def nameJoinsRow : OpenClaim := { program := "ytjloioalhgifbaadoor", sum := "fc16760a8d92cdfdd83adcbf3acb7ea5f2a2f74261f4a455ae792007c5343d54", func := "monticule/monticulelaw06.NameJoins", spec := "nameJoins", inPlace := ["internal/bytealg.IndexByteString", "internal/bytealg.IndexString", "internal/bytealg.CountString", "internal/abi.NoEscape", "internal/bytealg.MakeNoZero"], unfollowed := true, recurses := true, named := ["unicode/utf8.first", "unicode/utf8.acceptRanges", "internal/bytealg.MaxLen"], apart := false, laid := [("unicode/utf8.acceptRanges", laid_unicode_utf8_acceptRanges), ("unicode/utf8.first", laid_unicode_utf8_first)] }
def NameJoinsSaid : Prop := nameJoinsRow.holds Tryd.pinned (OpenSpec.ofChange nameJoinsSpec)

/-- ITS FALSE NEIGHBOUR: 'it returns false'. Refute it at one input. -/
def nameJoinsWrong : ChangeSpec := { name := "nameJoins", fn := fun _ => fun
  | [d] => { results := [.lit (.bool false)], args := [d] }
  | _ => none }
def NameJoinsWrongFalsely : Prop := nameJoinsRow.holds Tryd.pinned (OpenSpec.ofChange nameJoinsWrong)

/-- 'monticulelaw07.DefReads': WHATEVER THE INPUT: true; the input reads as it did. -/
def defReadsSpec : ChangeSpec := { name := "defReads", fn := fun _ => fun
  | [d] => { results := [.lit (.bool true)], args := [d] }
  | _ => none }
def defReadsRow : OpenClaim := { program := "ytjloioalhgifbaadoor", sum := "fc16760a8d92cdfdd83adcbf3acb7ea5f2a2f74261f4a455ae792007c5343d54", func := "monticule/monticulelaw07.DefReads", spec := "defReads", inPlace := ["internal/bytealg.IndexByteString", "internal/bytealg.IndexString", "internal/bytealg.CountString"], unfollowed := true, recurses := true, named := ["unicode/utf8.first", "unicode/utf8.acceptRanges", "internal/bytealg.MaxLen"], apart := false, laid := [("unicode/utf8.acceptRanges", laid_unicode_utf8_acceptRanges), ("unicode/utf8.first", laid_unicode_utf8_first)] }
def DefReadsSaid : Prop := defReadsRow.holds Tryd.pinned (OpenSpec.ofChange defReadsSpec)

/-- ITS FALSE NEIGHBOUR: 'it returns false'. Refute it at one input. -/
def defReadsWrong : ChangeSpec := { name := "defReads", fn := fun _ => fun
  | [d] => { results := [.lit (.bool false)], args := [d] }
  | _ => none }
def DefReadsWrongFalsely : Prop := defReadsRow.holds Tryd.pinned (OpenSpec.ofChange defReadsWrong)

/-- 'monticulelaw07.DefBack': WHATEVER THE INPUT: true; the input reads as it did. -/
def defBackSpec : ChangeSpec := { name := "defBack", fn := fun _ => fun
  | [d] => { results := [.lit (.bool true)], args := [d] }
  | _ => none }
def defBackRow : OpenClaim := { program := "ytjloioalhgifbaadoor", sum := "fc16760a8d92cdfdd83adcbf3acb7ea5f2a2f74261f4a455ae792007c5343d54", func := "monticule/monticulelaw07.DefBack", spec := "defBack", inPlace := ["internal/bytealg.IndexByteString", "internal/bytealg.IndexString", "internal/bytealg.CountString"], unfollowed := true, recurses := true, named := ["unicode/utf8.first", "unicode/utf8.acceptRanges", "internal/bytealg.MaxLen"], apart := false, laid := [("unicode/utf8.acceptRanges", laid_unicode_utf8_acceptRanges), ("unicode/utf8.first", laid_unicode_utf8_first)] }
def DefBackSaid : Prop := defBackRow.holds Tryd.pinned (OpenSpec.ofChange defBackSpec)

/-- ITS FALSE NEIGHBOUR: 'it returns false'. Refute it at one input. -/
def defBackWrong : ChangeSpec := { name := "defBack", fn := fun _ => fun
  | [d] => { results := [.lit (.bool false)], args := [d] }
  | _ => none }
def DefBackWrongFalsely : Prop := defBackRow.holds Tryd.pinned (OpenSpec.ofChange defBackWrong)

/- THE SECOND FORM. 'bulk': how many values and letters a reading holds, each counted each time it is reached (what is shared counts as often as it is met; a slice's spare places count too). A statement '..UptoSaid' is the law's where the arguments, and the package variables that the reading takes, are together of bulk at most 1048576: NARROWER than '..Said'. Prove '..Said' where nothing that the law and all that it calls make is longer than what came in: it says more and counts as full. Else prove '..UptoSaid'. A law counts once. -/
mutual
def uptoBulk {H : Type} : DataW H → Nat
  | .lit (.string bytes) => bytes.length + 1
  | .lit _ => 1
  | .nil => 1
  | .ptr d => uptoBulk d + 1
  | .slice elems spare => uptoBulkAll elems + uptoBulkAll spare + 1
  | .agg parts => uptoBulkAll parts + 1
  | .iface _ d => uptoBulk d + 1
  | .map entries => uptoBulkEntries entries + 1
  | .held _ => 1
def uptoBulkAll {H : Type} : List (DataW H) → Nat
  | [] => 0
  | d :: r => uptoBulk d + uptoBulkAll r
def uptoBulkEntries {H : Type} : List (Lit × DataW H) → Nat
  | [] => 0
  | x :: r => uptoBulkEntry x + uptoBulkEntries r
def uptoBulkEntry {H : Type} : Lit × DataW H → Nat
  | (.string bytes, d) => bytes.length + uptoBulk d + 1
  | (_, d) => uptoBulk d + 1
 end
def uptoSmall : (H : Type) → List (DataW H) → Bool := fun _ ds => decide (uptoBulkAll ds ≤ 1048576)
def OpenSpec.upto (s : _root_.Go.ChangeSpec) : _root_.Go.OpenSpec := { _root_.Go.OpenSpec.ofChange s with cond := some uptoSmall }

/-- 'monticulelaw06.NameSelectors', WHERE WHAT IT READS IS OF BULK AT MOST 1048576: true; the input reads as it did. -/
def nameSelectorsUptoRow : OpenClaim := { program := "ytjloioalhgifbaadoor", sum := "fc16760a8d92cdfdd83adcbf3acb7ea5f2a2f74261f4a455ae792007c5343d54", func := "monticule/monticulelaw06.NameSelectors", spec := "nameSelectors", inPlace := ["internal/bytealg.IndexByteString", "internal/bytealg.IndexString", "internal/bytealg.CountString"], unfollowed := true, recurses := true, named := ["unicode/utf8.first", "unicode/utf8.acceptRanges", "internal/bytealg.MaxLen"], apart := false, laid := [("unicode/utf8.acceptRanges", laid_unicode_utf8_acceptRanges), ("unicode/utf8.first", laid_unicode_utf8_first)], narrowed := true }
def NameSelectorsUptoSaid : Prop := nameSelectorsUptoRow.holds Tryd.pinned (OpenSpec.upto nameSelectorsSpec)

/-- 'monticulelaw06.NameKinds', WHERE WHAT IT READS IS OF BULK AT MOST 1048576: true; the input reads as it did. -/
def nameKindsUptoRow : OpenClaim := { program := "ytjloioalhgifbaadoor", sum := "fc16760a8d92cdfdd83adcbf3acb7ea5f2a2f74261f4a455ae792007c5343d54", func := "monticule/monticulelaw06.NameKinds", spec := "nameKinds", inPlace := ["internal/bytealg.IndexByteString", "internal/bytealg.IndexString", "internal/bytealg.CountString"], unfollowed := true, recurses := true, named := ["unicode/utf8.first", "unicode/utf8.acceptRanges", "internal/bytealg.MaxLen"], apart := false, laid := [("unicode/utf8.acceptRanges", laid_unicode_utf8_acceptRanges), ("unicode/utf8.first", laid_unicode_utf8_first)], narrowed := true }
def NameKindsUptoSaid : Prop := nameKindsUptoRow.holds Tryd.pinned (OpenSpec.upto nameKindsSpec)

/-- 'monticulelaw07.DefSplits', WHERE WHAT IT READS IS OF BULK AT MOST 1048576: true; the input reads as it did. -/
def defSplitsUptoRow : OpenClaim := { program := "ytjloioalhgifbaadoor", sum := "fc16760a8d92cdfdd83adcbf3acb7ea5f2a2f74261f4a455ae792007c5343d54", func := "monticule/monticulelaw07.DefSplits", spec := "defSplits", inPlace := ["internal/bytealg.IndexByteString", "internal/bytealg.IndexString", "internal/bytealg.CountString"], unfollowed := true, recurses := true, named := ["unicode/utf8.first", "unicode/utf8.acceptRanges", "internal/bytealg.MaxLen"], apart := false, laid := [("unicode/utf8.acceptRanges", laid_unicode_utf8_acceptRanges), ("unicode/utf8.first", laid_unicode_utf8_first)], narrowed := true }
def DefSplitsUptoSaid : Prop := defSplitsUptoRow.holds Tryd.pinned (OpenSpec.upto defSplitsSpec)

/-- 'monticulelaw07.DefOrders', WHERE WHAT IT READS IS OF BULK AT MOST 1048576: true; the input reads as it did. -/
def defOrdersUptoRow : OpenClaim := { program := "ytjloioalhgifbaadoor", sum := "fc16760a8d92cdfdd83adcbf3acb7ea5f2a2f74261f4a455ae792007c5343d54", func := "monticule/monticulelaw07.DefOrders", spec := "defOrders", inPlace := ["internal/bytealg.IndexByteString", "internal/bytealg.IndexString", "internal/bytealg.CountString"], unfollowed := true, recurses := true, named := ["unicode/utf8.first", "unicode/utf8.acceptRanges", "internal/bytealg.MaxLen"], apart := false, laid := [("unicode/utf8.acceptRanges", laid_unicode_utf8_acceptRanges), ("unicode/utf8.first", laid_unicode_utf8_first)], narrowed := true }
def DefOrdersUptoSaid : Prop := defOrdersUptoRow.holds Tryd.pinned (OpenSpec.upto defOrdersSpec)

/-- 'monticulelaw07.DefRights', WHERE WHAT IT READS IS OF BULK AT MOST 1048576: true; the input reads as it did. -/
def defRightsUptoRow : OpenClaim := { program := "ytjloioalhgifbaadoor", sum := "fc16760a8d92cdfdd83adcbf3acb7ea5f2a2f74261f4a455ae792007c5343d54", func := "monticule/monticulelaw07.DefRights", spec := "defRights", inPlace := ["internal/bytealg.IndexByteString", "internal/bytealg.IndexString", "internal/bytealg.CountString"], unfollowed := true, recurses := true, named := ["unicode/utf8.first", "unicode/utf8.acceptRanges", "internal/bytealg.MaxLen"], apart := false, laid := [("unicode/utf8.acceptRanges", laid_unicode_utf8_acceptRanges), ("unicode/utf8.first", laid_unicode_utf8_first)], narrowed := true }
def DefRightsUptoSaid : Prop := defRightsUptoRow.holds Tryd.pinned (OpenSpec.upto defRightsSpec)

/-- 'monticulelaw06.NameJoins', WHERE WHAT IT READS IS OF BULK AT MOST 1048576: true; the input reads as it did. -/
def nameJoinsUptoRow : OpenClaim := { program := "ytjloioalhgifbaadoor", sum := "fc16760a8d92cdfdd83adcbf3acb7ea5f2a2f74261f4a455ae792007c5343d54", func := "monticule/monticulelaw06.NameJoins", spec := "nameJoins", inPlace := ["internal/bytealg.IndexByteString", "internal/bytealg.IndexString", "internal/bytealg.CountString", "internal/abi.NoEscape", "internal/bytealg.MakeNoZero"], unfollowed := true, recurses := true, named := ["unicode/utf8.first", "unicode/utf8.acceptRanges", "internal/bytealg.MaxLen"], apart := false, laid := [("unicode/utf8.acceptRanges", laid_unicode_utf8_acceptRanges), ("unicode/utf8.first", laid_unicode_utf8_first)], narrowed := true }
def NameJoinsUptoSaid : Prop := nameJoinsUptoRow.holds Tryd.pinned (OpenSpec.upto nameJoinsSpec)

/-- 'monticulelaw07.DefReads', WHERE WHAT IT READS IS OF BULK AT MOST 1048576: true; the input reads as it did. -/
def defReadsUptoRow : OpenClaim := { program := "ytjloioalhgifbaadoor", sum := "fc16760a8d92cdfdd83adcbf3acb7ea5f2a2f74261f4a455ae792007c5343d54", func := "monticule/monticulelaw07.DefReads", spec := "defReads", inPlace := ["internal/bytealg.IndexByteString", "internal/bytealg.IndexString", "internal/bytealg.CountString"], unfollowed := true, recurses := true, named := ["unicode/utf8.first", "unicode/utf8.acceptRanges", "internal/bytealg.MaxLen"], apart := false, laid := [("unicode/utf8.acceptRanges", laid_unicode_utf8_acceptRanges), ("unicode/utf8.first", laid_unicode_utf8_first)], narrowed := true }
def DefReadsUptoSaid : Prop := defReadsUptoRow.holds Tryd.pinned (OpenSpec.upto defReadsSpec)

/-- 'monticulelaw07.DefBack', WHERE WHAT IT READS IS OF BULK AT MOST 1048576: true; the input reads as it did. -/
def defBackUptoRow : OpenClaim := { program := "ytjloioalhgifbaadoor", sum := "fc16760a8d92cdfdd83adcbf3acb7ea5f2a2f74261f4a455ae792007c5343d54", func := "monticule/monticulelaw07.DefBack", spec := "defBack", inPlace := ["internal/bytealg.IndexByteString", "internal/bytealg.IndexString", "internal/bytealg.CountString"], unfollowed := true, recurses := true, named := ["unicode/utf8.first", "unicode/utf8.acceptRanges", "internal/bytealg.MaxLen"], apart := false, laid := [("unicode/utf8.acceptRanges", laid_unicode_utf8_acceptRanges), ("unicode/utf8.first", laid_unicode_utf8_first)], narrowed := true }
def DefBackUptoSaid : Prop := defBackUptoRow.holds Tryd.pinned (OpenSpec.upto defBackSpec)

end Rows
end Go.Proofs.YtjloioalhgifbaaDoor
