/-
  No cell of these rows narrows 'for every input' (looked for: loops, veiled, ifaces, maps, wideKeys, modest, calm, conditions, laid).
  DERIVED. THE GIVEN ROWS OF THIS SEAT. 4 by the template 'for every input the law returns true; each argument reads behind the call as it read before'; 0 by the template 'total and deterministic' (their statements: YtbmcplnkcafikaaTotals.lean).
  GIVEN WITH THE SEED: the statements are not yours to turn. If you find one false, say at which input.
  Laid BY PROGRAM, IN A SANDBOX (cutbox-rows.mjs): the forced cells as the released guide's own fill.sh prints them over the translation 503cb4ee70fe5930… (all of the seat's roots in one cut). By AI agents, Wed Nov 11 2026. No macro, syntax, notation, axiom, sorry.
-/
import Derived.Test.YtbmcplnkcafikaaChecked
import GoSem.Claim
import GoSem.ClaimJoined
import GoSem.ClaimMapViews
import Derived.JoinedTies
import Derived.KernelRfl
namespace Go.Proofs.Ytbmcplnkcafikaa
/- THE CELL 'sum', in the pinned program and in every row, IS THE sha256 OF THE DUMP (.gsa) THAT YtbmcplnkcafikaaProg.lean LOADS. Nothing in Lean hashes anything: it is a label: what it is worth is what the hold of that sum in a sandbox is worth. -/
noncomputable def Try.pinned : Pinned := { name := "ytbmcplnkcafikaa", sum := "503cb4ee70fe59301ef3b4d5b72f976e8c1c6b60bbc94d98402c794bcbb25e94", checked := Try.checked }
namespace Rows
def none {H : Type} : Left H := { results := [], args := [] }

/-- 'monticulelaw17.WordInts': WHATEVER THE INPUT: true; the input reads as it did. -/
def wordIntsSpec : ChangeSpec := { name := "wordInts", fn := fun _ => fun
  | [d] => { results := [.lit (.bool true)], args := [d] }
  | _ => none }
def wordIntsRow : OpenClaim := { program := "ytbmcplnkcafikaa", sum := "503cb4ee70fe59301ef3b4d5b72f976e8c1c6b60bbc94d98402c794bcbb25e94", func := "monticule/monticulelaw17.WordInts", spec := "wordInts", apart := false }
def WordIntsSaid : Prop := wordIntsRow.holds Try.pinned (OpenSpec.ofChange wordIntsSpec)

/-- ITS FALSE NEIGHBOUR: 'it returns false'. Refute it at one input. -/
def wordIntsWrong : ChangeSpec := { name := "wordInts", fn := fun _ => fun
  | [d] => { results := [.lit (.bool false)], args := [d] }
  | _ => none }
def WordIntsWrongFalsely : Prop := wordIntsRow.holds Try.pinned (OpenSpec.ofChange wordIntsWrong)

/-- 'monticulelaw17.WordRefs': WHATEVER THE INPUT: true; the input reads as it did. -/
def wordRefsSpec : ChangeSpec := { name := "wordRefs", fn := fun _ => fun
  | [d] => { results := [.lit (.bool true)], args := [d] }
  | _ => none }
def wordRefsRow : OpenClaim := { program := "ytbmcplnkcafikaa", sum := "503cb4ee70fe59301ef3b4d5b72f976e8c1c6b60bbc94d98402c794bcbb25e94", func := "monticule/monticulelaw17.WordRefs", spec := "wordRefs", apart := false }
def WordRefsSaid : Prop := wordRefsRow.holds Try.pinned (OpenSpec.ofChange wordRefsSpec)

/-- ITS FALSE NEIGHBOUR: 'it returns false'. Refute it at one input. -/
def wordRefsWrong : ChangeSpec := { name := "wordRefs", fn := fun _ => fun
  | [d] => { results := [.lit (.bool false)], args := [d] }
  | _ => none }
def WordRefsWrongFalsely : Prop := wordRefsRow.holds Try.pinned (OpenSpec.ofChange wordRefsWrong)

/-- 'monticulelaw17.WordTells': WHATEVER THE INPUT: true; the input reads as it did. -/
def wordTellsSpec : ChangeSpec := { name := "wordTells", fn := fun _ => fun
  | [d] => { results := [.lit (.bool true)], args := [d] }
  | _ => none }
def wordTellsRow : OpenClaim := { program := "ytbmcplnkcafikaa", sum := "503cb4ee70fe59301ef3b4d5b72f976e8c1c6b60bbc94d98402c794bcbb25e94", func := "monticule/monticulelaw17.WordTells", spec := "wordTells", apart := false }
def WordTellsSaid : Prop := wordTellsRow.holds Try.pinned (OpenSpec.ofChange wordTellsSpec)

/-- ITS FALSE NEIGHBOUR: 'it returns false'. Refute it at one input. -/
def wordTellsWrong : ChangeSpec := { name := "wordTells", fn := fun _ => fun
  | [d] => { results := [.lit (.bool false)], args := [d] }
  | _ => none }
def WordTellsWrongFalsely : Prop := wordTellsRow.holds Try.pinned (OpenSpec.ofChange wordTellsWrong)

/-- 'monticulelaw17.WordSums': WHATEVER THE INPUT: true; the input reads as it did. -/
def wordSumsSpec : ChangeSpec := { name := "wordSums", fn := fun _ => fun
  | [d1, d2, d3] => { results := [.lit (.bool true)], args := [d1, d2, d3] }
  | _ => none }
def wordSumsRow : OpenClaim := { program := "ytbmcplnkcafikaa", sum := "503cb4ee70fe59301ef3b4d5b72f976e8c1c6b60bbc94d98402c794bcbb25e94", func := "monticule/monticulelaw17.WordSums", spec := "wordSums", apart := false }
def WordSumsSaid : Prop := wordSumsRow.holds Try.pinned (OpenSpec.ofChange wordSumsSpec)

/-- ITS FALSE NEIGHBOUR: 'it returns false'. Refute it at one input. -/
def wordSumsWrong : ChangeSpec := { name := "wordSums", fn := fun _ => fun
  | [d1, d2, d3] => { results := [.lit (.bool false)], args := [d1, d2, d3] }
  | _ => none }
def WordSumsWrongFalsely : Prop := wordSumsRow.holds Try.pinned (OpenSpec.ofChange wordSumsWrong)

/- THE SECOND FORM. 'bulk': how many values and letters a reading holds, each counted each time it is reached (what is shared counts as often as it is met; a slice's spare places count too). A statement '..UptoSaid' is the law's where the arguments, and the package variables that the reading takes, are together of bulk at most 1048576: NARROWER than '..Said'. Prove '..Said' where nothing that the law and all that it calls make is longer than what came in: it says more and counts as full. Else prove '..UptoSaid'. A law counts once. -/
mutual
def uptoBulk {H : Type} : DataW H → Nat
  | .lit (.string bytes) => bytes.length + 1
  | .lit _ => 1
  | .nil => 1
  | .ptr d => uptoBulk d + 1
  | .slice elems spare => uptoBulkAll elems + uptoBulkAll spare + 1
  | .agg parts => uptoBulkAll parts + 1
  | .iface _ d => uptoBulk d + 1
  | .map entries => uptoBulkEntries entries + 1
  | .held _ => 1
def uptoBulkAll {H : Type} : List (DataW H) → Nat
  | [] => 0
  | d :: r => uptoBulk d + uptoBulkAll r
def uptoBulkEntries {H : Type} : List (Lit × DataW H) → Nat
  | [] => 0
  | x :: r => uptoBulkEntry x + uptoBulkEntries r
def uptoBulkEntry {H : Type} : Lit × DataW H → Nat
  | (.string bytes, d) => bytes.length + uptoBulk d + 1
  | (_, d) => uptoBulk d + 1
 end
def uptoSmall : (H : Type) → List (DataW H) → Bool := fun _ ds => decide (uptoBulkAll ds ≤ 1048576)
def OpenSpec.upto (s : _root_.Go.ChangeSpec) : _root_.Go.OpenSpec := { _root_.Go.OpenSpec.ofChange s with cond := some uptoSmall }

/-- 'monticulelaw17.WordInts', WHERE WHAT IT READS IS OF BULK AT MOST 1048576: true; the input reads as it did. -/
def wordIntsUptoRow : OpenClaim := { program := "ytbmcplnkcafikaa", sum := "503cb4ee70fe59301ef3b4d5b72f976e8c1c6b60bbc94d98402c794bcbb25e94", func := "monticule/monticulelaw17.WordInts", spec := "wordInts", apart := false, narrowed := true }
def WordIntsUptoSaid : Prop := wordIntsUptoRow.holds Try.pinned (OpenSpec.upto wordIntsSpec)

/-- 'monticulelaw17.WordRefs', WHERE WHAT IT READS IS OF BULK AT MOST 1048576: true; the input reads as it did. -/
def wordRefsUptoRow : OpenClaim := { program := "ytbmcplnkcafikaa", sum := "503cb4ee70fe59301ef3b4d5b72f976e8c1c6b60bbc94d98402c794bcbb25e94", func := "monticule/monticulelaw17.WordRefs", spec := "wordRefs", apart := false, narrowed := true }
def WordRefsUptoSaid : Prop := wordRefsUptoRow.holds Try.pinned (OpenSpec.upto wordRefsSpec)

/-- 'monticulelaw17.WordTells', WHERE WHAT IT READS IS OF BULK AT MOST 1048576: true; the input reads as it did. -/
def wordTellsUptoRow : OpenClaim := { program := "ytbmcplnkcafikaa", sum := "503cb4ee70fe59301ef3b4d5b72f976e8c1c6b60bbc94d98402c794bcbb25e94", func := "monticule/monticulelaw17.WordTells", spec := "wordTells", apart := false, narrowed := true }
def WordTellsUptoSaid : Prop := wordTellsUptoRow.holds Try.pinned (OpenSpec.upto wordTellsSpec)

/-- 'monticulelaw17.WordSums', WHERE WHAT IT READS IS OF BULK AT MOST 1048576: true; the input reads as it did. -/
def wordSumsUptoRow : OpenClaim := { program := "ytbmcplnkcafikaa", sum := "503cb4ee70fe59301ef3b4d5b72f976e8c1c6b60bbc94d98402c794bcbb25e94", func := "monticule/monticulelaw17.WordSums", spec := "wordSums", apart := false, narrowed := true }
def WordSumsUptoSaid : Prop := wordSumsUptoRow.holds Try.pinned (OpenSpec.upto wordSumsSpec)

end Rows
end Go.Proofs.Ytbmcplnkcafikaa
