/-
  No cell of these rows narrows 'for every input' (looked for: loops, veiled, ifaces, maps, wideKeys, modest, calm, conditions, laid).
  DERIVED. THE GIVEN ROWS OF THIS SEAT. 9 by the template 'for every input the law returns true; each argument reads behind the call as it read before'; 0 by the template 'total and deterministic' (their statements: YtiokegmpooildaaTotals.lean).
  GIVEN WITH THE SEED: the statements are not yours to turn. If you find one false, say at which input.
  Laid BY PROGRAM, IN A SANDBOX (cutbox-rows.mjs): the forced cells as the released guide's own fill.sh prints them over the translation d65485e29e7515d2… (all of the seat's roots in one cut). By AI agents, Wed Nov 11 2026. No macro, syntax, notation, axiom, sorry.
-/
import Derived.Test.YtiokegmpooildaaChecked
import GoSem.Claim
import GoSem.ClaimJoined
import GoSem.ClaimMapViews
import Derived.JoinedTies
import Derived.KernelRfl
namespace Go.Proofs.Ytiokegmpooildaa
/- THE CELL 'sum', in the pinned program and in every row, IS THE sha256 OF THE DUMP (.gsa) THAT YtiokegmpooildaaProg.lean LOADS. Nothing in Lean hashes anything: it is a label: what it is worth is what the hold of that sum in a sandbox is worth. -/
noncomputable def Try.pinned : Pinned := { name := "ytiokegmpooildaa", sum := "d65485e29e7515d29a14a8b6a216a5683c8d7a11770c9215bfebdb0d154c084a", checked := Try.checked }
namespace Rows
def none {H : Type} : Left H := { results := [], args := [] }

/-- 'monticulelaw20.BecomeBoth': WHATEVER THE INPUT: true; the input reads as it did. -/
def becomeBothSpec : ChangeSpec := { name := "becomeBoth", fn := fun _ => fun
  | [d1, d2] => { results := [.lit (.bool true)], args := [d1, d2] }
  | _ => none }
def becomeBothRow : OpenClaim := { program := "ytiokegmpooildaa", sum := "d65485e29e7515d29a14a8b6a216a5683c8d7a11770c9215bfebdb0d154c084a", func := "monticule/monticulelaw20.BecomeBoth", spec := "becomeBoth", unfollowed := true, recurses := true, apart := false }
def BecomeBothSaid : Prop := becomeBothRow.holds Try.pinned (OpenSpec.ofChange becomeBothSpec)

/-- ITS FALSE NEIGHBOUR: 'it returns false'. Refute it at one input. -/
def becomeBothWrong : ChangeSpec := { name := "becomeBoth", fn := fun _ => fun
  | [d1, d2] => { results := [.lit (.bool false)], args := [d1, d2] }
  | _ => none }
def BecomeBothWrongFalsely : Prop := becomeBothRow.holds Try.pinned (OpenSpec.ofChange becomeBothWrong)

/-- 'monticulelaw18.HeapOfs': WHATEVER THE INPUT: true; the input reads as it did. -/
def heapOfsSpec : ChangeSpec := { name := "heapOfs", fn := fun _ => fun
  | [d1, d2, d3] => { results := [.lit (.bool true)], args := [d1, d2, d3] }
  | _ => none }
def heapOfsRow : OpenClaim := { program := "ytiokegmpooildaa", sum := "d65485e29e7515d29a14a8b6a216a5683c8d7a11770c9215bfebdb0d154c084a", func := "monticule/monticulelaw18.HeapOfs", spec := "heapOfs", unfollowed := true, recurses := true, apart := false }
def HeapOfsSaid : Prop := heapOfsRow.holds Try.pinned (OpenSpec.ofChange heapOfsSpec)

/-- ITS FALSE NEIGHBOUR: 'it returns false'. Refute it at one input. -/
def heapOfsWrong : ChangeSpec := { name := "heapOfs", fn := fun _ => fun
  | [d1, d2, d3] => { results := [.lit (.bool false)], args := [d1, d2, d3] }
  | _ => none }
def HeapOfsWrongFalsely : Prop := heapOfsRow.holds Try.pinned (OpenSpec.ofChange heapOfsWrong)

/-- 'monticulelaw20.BecomeOne': WHATEVER THE INPUT: true; the input reads as it did. -/
def becomeOneSpec : ChangeSpec := { name := "becomeOne", fn := fun _ => fun
  | [d1, d2] => { results := [.lit (.bool true)], args := [d1, d2] }
  | _ => none }
def becomeOneRow : OpenClaim := { program := "ytiokegmpooildaa", sum := "d65485e29e7515d29a14a8b6a216a5683c8d7a11770c9215bfebdb0d154c084a", func := "monticule/monticulelaw20.BecomeOne", spec := "becomeOne", unfollowed := true, recurses := true, apart := false }
def BecomeOneSaid : Prop := becomeOneRow.holds Try.pinned (OpenSpec.ofChange becomeOneSpec)

/-- ITS FALSE NEIGHBOUR: 'it returns false'. Refute it at one input. -/
def becomeOneWrong : ChangeSpec := { name := "becomeOne", fn := fun _ => fun
  | [d1, d2] => { results := [.lit (.bool false)], args := [d1, d2] }
  | _ => none }
def BecomeOneWrongFalsely : Prop := becomeOneRow.holds Try.pinned (OpenSpec.ofChange becomeOneWrong)

/-- 'monticulelaw18.HeapRight': WHATEVER THE INPUT: true; the input reads as it did. -/
def heapRightSpec : ChangeSpec := { name := "heapRight", fn := fun _ => fun
  | [d] => { results := [.lit (.bool true)], args := [d] }
  | _ => none }
def heapRightRow : OpenClaim := { program := "ytiokegmpooildaa", sum := "d65485e29e7515d29a14a8b6a216a5683c8d7a11770c9215bfebdb0d154c084a", func := "monticule/monticulelaw18.HeapRight", spec := "heapRight", unfollowed := true, recurses := true, apart := false }
def HeapRightSaid : Prop := heapRightRow.holds Try.pinned (OpenSpec.ofChange heapRightSpec)

/-- ITS FALSE NEIGHBOUR: 'it returns false'. Refute it at one input. -/
def heapRightWrong : ChangeSpec := { name := "heapRight", fn := fun _ => fun
  | [d] => { results := [.lit (.bool false)], args := [d] }
  | _ => none }
def HeapRightWrongFalsely : Prop := heapRightRow.holds Try.pinned (OpenSpec.ofChange heapRightWrong)

/-- 'monticulelaw19.CollectRuns': WHATEVER THE INPUT: true; the input reads as it did. -/
def collectRunsSpec : ChangeSpec := { name := "collectRuns", fn := fun _ => fun
  | [d1, d2] => { results := [.lit (.bool true)], args := [d1, d2] }
  | _ => none }
def collectRunsRow : OpenClaim := { program := "ytiokegmpooildaa", sum := "d65485e29e7515d29a14a8b6a216a5683c8d7a11770c9215bfebdb0d154c084a", func := "monticule/monticulelaw19.CollectRuns", spec := "collectRuns", unfollowed := true, recurses := true, apart := false }
def CollectRunsSaid : Prop := collectRunsRow.holds Try.pinned (OpenSpec.ofChange collectRunsSpec)

/-- ITS FALSE NEIGHBOUR: 'it returns false'. Refute it at one input. -/
def collectRunsWrong : ChangeSpec := { name := "collectRuns", fn := fun _ => fun
  | [d1, d2] => { results := [.lit (.bool false)], args := [d1, d2] }
  | _ => none }
def CollectRunsWrongFalsely : Prop := collectRunsRow.holds Try.pinned (OpenSpec.ofChange collectRunsWrong)

/-- 'monticulelaw19.CollectTwice': WHATEVER THE INPUT: true; the input reads as it did. -/
def collectTwiceSpec : ChangeSpec := { name := "collectTwice", fn := fun _ => fun
  | [d1, d2] => { results := [.lit (.bool true)], args := [d1, d2] }
  | _ => none }
def collectTwiceRow : OpenClaim := { program := "ytiokegmpooildaa", sum := "d65485e29e7515d29a14a8b6a216a5683c8d7a11770c9215bfebdb0d154c084a", func := "monticule/monticulelaw19.CollectTwice", spec := "collectTwice", unfollowed := true, recurses := true, apart := false }
def CollectTwiceSaid : Prop := collectTwiceRow.holds Try.pinned (OpenSpec.ofChange collectTwiceSpec)

/-- ITS FALSE NEIGHBOUR: 'it returns false'. Refute it at one input. -/
def collectTwiceWrong : ChangeSpec := { name := "collectTwice", fn := fun _ => fun
  | [d1, d2] => { results := [.lit (.bool false)], args := [d1, d2] }
  | _ => none }
def CollectTwiceWrongFalsely : Prop := collectTwiceRow.holds Try.pinned (OpenSpec.ofChange collectTwiceWrong)

/-- 'monticulelaw19.CollectMore': WHATEVER THE INPUT: true; the input reads as it did. -/
def collectMoreSpec : ChangeSpec := { name := "collectMore", fn := fun _ => fun
  | [d1, d2, d3] => { results := [.lit (.bool true)], args := [d1, d2, d3] }
  | _ => none }
def collectMoreRow : OpenClaim := { program := "ytiokegmpooildaa", sum := "d65485e29e7515d29a14a8b6a216a5683c8d7a11770c9215bfebdb0d154c084a", func := "monticule/monticulelaw19.CollectMore", spec := "collectMore", unfollowed := true, recurses := true, apart := false }
def CollectMoreSaid : Prop := collectMoreRow.holds Try.pinned (OpenSpec.ofChange collectMoreSpec)

/-- ITS FALSE NEIGHBOUR: 'it returns false'. Refute it at one input. -/
def collectMoreWrong : ChangeSpec := { name := "collectMore", fn := fun _ => fun
  | [d1, d2, d3] => { results := [.lit (.bool false)], args := [d1, d2, d3] }
  | _ => none }
def CollectMoreWrongFalsely : Prop := collectMoreRow.holds Try.pinned (OpenSpec.ofChange collectMoreWrong)

/-- 'monticulelaw18.HeapActs': WHATEVER THE INPUT: true; the input reads as it did. -/
def heapActsSpec : ChangeSpec := { name := "heapActs", fn := fun _ => fun
  | [d1, d2, d3] => { results := [.lit (.bool true)], args := [d1, d2, d3] }
  | _ => none }
def heapActsRow : OpenClaim := { program := "ytiokegmpooildaa", sum := "d65485e29e7515d29a14a8b6a216a5683c8d7a11770c9215bfebdb0d154c084a", func := "monticule/monticulelaw18.HeapActs", spec := "heapActs", unfollowed := true, recurses := true, apart := false }
def HeapActsSaid : Prop := heapActsRow.holds Try.pinned (OpenSpec.ofChange heapActsSpec)

/-- ITS FALSE NEIGHBOUR: 'it returns false'. Refute it at one input. -/
def heapActsWrong : ChangeSpec := { name := "heapActs", fn := fun _ => fun
  | [d1, d2, d3] => { results := [.lit (.bool false)], args := [d1, d2, d3] }
  | _ => none }
def HeapActsWrongFalsely : Prop := heapActsRow.holds Try.pinned (OpenSpec.ofChange heapActsWrong)

/-- 'monticulelaw19.CollectWays': WHATEVER THE INPUT: true; the input reads as it did. -/
def collectWaysSpec : ChangeSpec := { name := "collectWays", fn := fun _ => fun
  | [d1, d2, d3] => { results := [.lit (.bool true)], args := [d1, d2, d3] }
  | _ => none }
def collectWaysRow : OpenClaim := { program := "ytiokegmpooildaa", sum := "d65485e29e7515d29a14a8b6a216a5683c8d7a11770c9215bfebdb0d154c084a", func := "monticule/monticulelaw19.CollectWays", spec := "collectWays", unfollowed := true, recurses := true, apart := false }
def CollectWaysSaid : Prop := collectWaysRow.holds Try.pinned (OpenSpec.ofChange collectWaysSpec)

/-- ITS FALSE NEIGHBOUR: 'it returns false'. Refute it at one input. -/
def collectWaysWrong : ChangeSpec := { name := "collectWays", fn := fun _ => fun
  | [d1, d2, d3] => { results := [.lit (.bool false)], args := [d1, d2, d3] }
  | _ => none }
def CollectWaysWrongFalsely : Prop := collectWaysRow.holds Try.pinned (OpenSpec.ofChange collectWaysWrong)

/- THE SECOND FORM. 'bulk': how many values and letters a reading holds, each counted each time it is reached (what is shared counts as often as it is met; a slice's spare places count too). A statement '..UptoSaid' is the law's where the arguments, and the package variables that the reading takes, are together of bulk at most 1048576: NARROWER than '..Said'. Prove '..Said' where nothing that the law and all that it calls make is longer than what came in: it says more and counts as full. Else prove '..UptoSaid'. A law counts once. -/
mutual
def uptoBulk {H : Type} : DataW H → Nat
  | .lit (.string bytes) => bytes.length + 1
  | .lit _ => 1
  | .nil => 1
  | .ptr d => uptoBulk d + 1
  | .slice elems spare => uptoBulkAll elems + uptoBulkAll spare + 1
  | .agg parts => uptoBulkAll parts + 1
  | .iface _ d => uptoBulk d + 1
  | .map entries => uptoBulkEntries entries + 1
  | .held _ => 1
def uptoBulkAll {H : Type} : List (DataW H) → Nat
  | [] => 0
  | d :: r => uptoBulk d + uptoBulkAll r
def uptoBulkEntries {H : Type} : List (Lit × DataW H) → Nat
  | [] => 0
  | x :: r => uptoBulkEntry x + uptoBulkEntries r
def uptoBulkEntry {H : Type} : Lit × DataW H → Nat
  | (.string bytes, d) => bytes.length + uptoBulk d + 1
  | (_, d) => uptoBulk d + 1
 end
def uptoSmall : (H : Type) → List (DataW H) → Bool := fun _ ds => decide (uptoBulkAll ds ≤ 1048576)
def OpenSpec.upto (s : _root_.Go.ChangeSpec) : _root_.Go.OpenSpec := { _root_.Go.OpenSpec.ofChange s with cond := some uptoSmall }

/-- 'monticulelaw20.BecomeBoth', WHERE WHAT IT READS IS OF BULK AT MOST 1048576: true; the input reads as it did. -/
def becomeBothUptoRow : OpenClaim := { program := "ytiokegmpooildaa", sum := "d65485e29e7515d29a14a8b6a216a5683c8d7a11770c9215bfebdb0d154c084a", func := "monticule/monticulelaw20.BecomeBoth", spec := "becomeBoth", unfollowed := true, recurses := true, apart := false, narrowed := true }
def BecomeBothUptoSaid : Prop := becomeBothUptoRow.holds Try.pinned (OpenSpec.upto becomeBothSpec)

/-- 'monticulelaw18.HeapOfs', WHERE WHAT IT READS IS OF BULK AT MOST 1048576: true; the input reads as it did. -/
def heapOfsUptoRow : OpenClaim := { program := "ytiokegmpooildaa", sum := "d65485e29e7515d29a14a8b6a216a5683c8d7a11770c9215bfebdb0d154c084a", func := "monticule/monticulelaw18.HeapOfs", spec := "heapOfs", unfollowed := true, recurses := true, apart := false, narrowed := true }
def HeapOfsUptoSaid : Prop := heapOfsUptoRow.holds Try.pinned (OpenSpec.upto heapOfsSpec)

/-- 'monticulelaw20.BecomeOne', WHERE WHAT IT READS IS OF BULK AT MOST 1048576: true; the input reads as it did. -/
def becomeOneUptoRow : OpenClaim := { program := "ytiokegmpooildaa", sum := "d65485e29e7515d29a14a8b6a216a5683c8d7a11770c9215bfebdb0d154c084a", func := "monticule/monticulelaw20.BecomeOne", spec := "becomeOne", unfollowed := true, recurses := true, apart := false, narrowed := true }
def BecomeOneUptoSaid : Prop := becomeOneUptoRow.holds Try.pinned (OpenSpec.upto becomeOneSpec)

/-- 'monticulelaw18.HeapRight', WHERE WHAT IT READS IS OF BULK AT MOST 1048576: true; the input reads as it did. -/
def heapRightUptoRow : OpenClaim := { program := "ytiokegmpooildaa", sum := "d65485e29e7515d29a14a8b6a216a5683c8d7a11770c9215bfebdb0d154c084a", func := "monticule/monticulelaw18.HeapRight", spec := "heapRight", unfollowed := true, recurses := true, apart := false, narrowed := true }
def HeapRightUptoSaid : Prop := heapRightUptoRow.holds Try.pinned (OpenSpec.upto heapRightSpec)

/-- 'monticulelaw19.CollectRuns', WHERE WHAT IT READS IS OF BULK AT MOST 1048576: true; the input reads as it did. -/
def collectRunsUptoRow : OpenClaim := { program := "ytiokegmpooildaa", sum := "d65485e29e7515d29a14a8b6a216a5683c8d7a11770c9215bfebdb0d154c084a", func := "monticule/monticulelaw19.CollectRuns", spec := "collectRuns", unfollowed := true, recurses := true, apart := false, narrowed := true }
def CollectRunsUptoSaid : Prop := collectRunsUptoRow.holds Try.pinned (OpenSpec.upto collectRunsSpec)

/-- 'monticulelaw19.CollectTwice', WHERE WHAT IT READS IS OF BULK AT MOST 1048576: true; the input reads as it did. -/
def collectTwiceUptoRow : OpenClaim := { program := "ytiokegmpooildaa", sum := "d65485e29e7515d29a14a8b6a216a5683c8d7a11770c9215bfebdb0d154c084a", func := "monticule/monticulelaw19.CollectTwice", spec := "collectTwice", unfollowed := true, recurses := true, apart := false, narrowed := true }
def CollectTwiceUptoSaid : Prop := collectTwiceUptoRow.holds Try.pinned (OpenSpec.upto collectTwiceSpec)

/-- 'monticulelaw19.CollectMore', WHERE WHAT IT READS IS OF BULK AT MOST 1048576: true; the input reads as it did. -/
def collectMoreUptoRow : OpenClaim := { program := "ytiokegmpooildaa", sum := "d65485e29e7515d29a14a8b6a216a5683c8d7a11770c9215bfebdb0d154c084a", func := "monticule/monticulelaw19.CollectMore", spec := "collectMore", unfollowed := true, recurses := true, apart := false, narrowed := true }
def CollectMoreUptoSaid : Prop := collectMoreUptoRow.holds Try.pinned (OpenSpec.upto collectMoreSpec)

/-- 'monticulelaw18.HeapActs', WHERE WHAT IT READS IS OF BULK AT MOST 1048576: true; the input reads as it did. -/
def heapActsUptoRow : OpenClaim := { program := "ytiokegmpooildaa", sum := "d65485e29e7515d29a14a8b6a216a5683c8d7a11770c9215bfebdb0d154c084a", func := "monticule/monticulelaw18.HeapActs", spec := "heapActs", unfollowed := true, recurses := true, apart := false, narrowed := true }
def HeapActsUptoSaid : Prop := heapActsUptoRow.holds Try.pinned (OpenSpec.upto heapActsSpec)

/-- 'monticulelaw19.CollectWays', WHERE WHAT IT READS IS OF BULK AT MOST 1048576: true; the input reads as it did. -/
def collectWaysUptoRow : OpenClaim := { program := "ytiokegmpooildaa", sum := "d65485e29e7515d29a14a8b6a216a5683c8d7a11770c9215bfebdb0d154c084a", func := "monticule/monticulelaw19.CollectWays", spec := "collectWays", unfollowed := true, recurses := true, apart := false, narrowed := true }
def CollectWaysUptoSaid : Prop := collectWaysUptoRow.holds Try.pinned (OpenSpec.upto collectWaysSpec)

end Rows
end Go.Proofs.Ytiokegmpooildaa
