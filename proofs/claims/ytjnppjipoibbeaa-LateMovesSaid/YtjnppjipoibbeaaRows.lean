/-
  No cell of these rows narrows 'for every input' (looked for: loops, veiled, ifaces, maps, wideKeys, modest, calm, conditions, laid).
  DERIVED. THE GIVEN ROWS OF THIS SEAT. 12 by the template 'for every input the law returns true; each argument reads behind the call as it read before'; 0 by the template 'total and deterministic' (their statements: YtjnppjipoibbeaaTotals.lean).
  GIVEN WITH THE SEED: the statements are not yours to turn. If you find one false, say at which input.
  Laid BY PROGRAM, IN A SANDBOX (cutbox-rows.mjs): the forced cells as the released guide's own fill.sh prints them over the translation c296056a10fcff9f… (all of the seat's roots in one cut). By AI agents, Wed Nov 11 2026. No macro, syntax, notation, axiom, sorry.
-/
import Derived.Test.YtjnppjipoibbeaaChecked
import GoSem.Claim
import GoSem.ClaimJoined
import GoSem.ClaimMapViews
import Derived.JoinedTies
import Derived.KernelRfl
namespace Go.Proofs.Ytjnppjipoibbeaa
/- THE CELL 'sum', in the pinned program and in every row, IS THE sha256 OF THE DUMP (.gsa) THAT YtjnppjipoibbeaaProg.lean LOADS. Nothing in Lean hashes anything: it is a label: what it is worth is what the hold of that sum in a sandbox is worth. -/
noncomputable def Try.pinned : Pinned := { name := "ytjnppjipoibbeaa", sum := "c296056a10fcff9f03e79d0c2438fb713a1fddb957b5a501e5f5b48248948bef", checked := Try.checked }
namespace Rows
def none {H : Type} : Left H := { results := [], args := [] }

/-- 'cascadelaw15.TestsRuns': WHATEVER THE INPUT: true; the input reads as it did. -/
def testsRunsSpec : ChangeSpec := { name := "testsRuns", fn := fun _ => fun
  | [] => { results := [.lit (.bool true)], args := [] }
  | _ => none }
def testsRunsRow : OpenClaim := { program := "ytjnppjipoibbeaa", sum := "c296056a10fcff9f03e79d0c2438fb713a1fddb957b5a501e5f5b48248948bef", func := "cascade/cascadelaw15.TestsRuns", spec := "testsRuns", apart := false }
def TestsRunsSaid : Prop := testsRunsRow.holds Try.pinned (OpenSpec.ofChange testsRunsSpec)

/-- ITS FALSE NEIGHBOUR: 'it returns false'. Refute it at one input. -/
def testsRunsWrong : ChangeSpec := { name := "testsRuns", fn := fun _ => fun
  | [] => { results := [.lit (.bool false)], args := [] }
  | _ => none }
def TestsRunsWrongFalsely : Prop := testsRunsRow.holds Try.pinned (OpenSpec.ofChange testsRunsWrong)

/-- 'cascadelaw15.TestsTell': WHATEVER THE INPUT: true; the input reads as it did. -/
def testsTellSpec : ChangeSpec := { name := "testsTell", fn := fun _ => fun
  | [d1, d2, d3, d4] => { results := [.lit (.bool true)], args := [d1, d2, d3, d4] }
  | _ => none }
def testsTellRow : OpenClaim := { program := "ytjnppjipoibbeaa", sum := "c296056a10fcff9f03e79d0c2438fb713a1fddb957b5a501e5f5b48248948bef", func := "cascade/cascadelaw15.TestsTell", spec := "testsTell", apart := false }
def TestsTellSaid : Prop := testsTellRow.holds Try.pinned (OpenSpec.ofChange testsTellSpec)

/-- ITS FALSE NEIGHBOUR: 'it returns false'. Refute it at one input. -/
def testsTellWrong : ChangeSpec := { name := "testsTell", fn := fun _ => fun
  | [d1, d2, d3, d4] => { results := [.lit (.bool false)], args := [d1, d2, d3, d4] }
  | _ => none }
def TestsTellWrongFalsely : Prop := testsTellRow.holds Try.pinned (OpenSpec.ofChange testsTellWrong)

/-- 'cascadelaw15.TestsMove': WHATEVER THE INPUT: true; the input reads as it did. -/
def testsMoveSpec : ChangeSpec := { name := "testsMove", fn := fun _ => fun
  | [d1, d2, d3, d4, d5, d6] => { results := [.lit (.bool true)], args := [d1, d2, d3, d4, d5, d6] }
  | _ => none }
def testsMoveRow : OpenClaim := { program := "ytjnppjipoibbeaa", sum := "c296056a10fcff9f03e79d0c2438fb713a1fddb957b5a501e5f5b48248948bef", func := "cascade/cascadelaw15.TestsMove", spec := "testsMove", apart := false }
def TestsMoveSaid : Prop := testsMoveRow.holds Try.pinned (OpenSpec.ofChange testsMoveSpec)

/-- ITS FALSE NEIGHBOUR: 'it returns false'. Refute it at one input. -/
def testsMoveWrong : ChangeSpec := { name := "testsMove", fn := fun _ => fun
  | [d1, d2, d3, d4, d5, d6] => { results := [.lit (.bool false)], args := [d1, d2, d3, d4, d5, d6] }
  | _ => none }
def TestsMoveWrongFalsely : Prop := testsMoveRow.holds Try.pinned (OpenSpec.ofChange testsMoveWrong)

/-- 'cascadelaw15.TestsZero': WHATEVER THE INPUT: true; the input reads as it did. -/
def testsZeroSpec : ChangeSpec := { name := "testsZero", fn := fun _ => fun
  | [d1, d2] => { results := [.lit (.bool true)], args := [d1, d2] }
  | _ => none }
def testsZeroRow : OpenClaim := { program := "ytjnppjipoibbeaa", sum := "c296056a10fcff9f03e79d0c2438fb713a1fddb957b5a501e5f5b48248948bef", func := "cascade/cascadelaw15.TestsZero", spec := "testsZero", apart := false }
def TestsZeroSaid : Prop := testsZeroRow.holds Try.pinned (OpenSpec.ofChange testsZeroSpec)

/-- ITS FALSE NEIGHBOUR: 'it returns false'. Refute it at one input. -/
def testsZeroWrong : ChangeSpec := { name := "testsZero", fn := fun _ => fun
  | [d1, d2] => { results := [.lit (.bool false)], args := [d1, d2] }
  | _ => none }
def TestsZeroWrongFalsely : Prop := testsZeroRow.holds Try.pinned (OpenSpec.ofChange testsZeroWrong)

/-- 'cascadelaw10.LateRuns': WHATEVER THE INPUT: true; the input reads as it did. -/
def lateRunsSpec : ChangeSpec := { name := "lateRuns", fn := fun _ => fun
  | [] => { results := [.lit (.bool true)], args := [] }
  | _ => none }
def lateRunsRow : OpenClaim := { program := "ytjnppjipoibbeaa", sum := "c296056a10fcff9f03e79d0c2438fb713a1fddb957b5a501e5f5b48248948bef", func := "cascade/cascadelaw10.LateRuns", spec := "lateRuns", apart := false }
def LateRunsSaid : Prop := lateRunsRow.holds Try.pinned (OpenSpec.ofChange lateRunsSpec)

/-- ITS FALSE NEIGHBOUR: 'it returns false'. Refute it at one input. -/
def lateRunsWrong : ChangeSpec := { name := "lateRuns", fn := fun _ => fun
  | [] => { results := [.lit (.bool false)], args := [] }
  | _ => none }
def LateRunsWrongFalsely : Prop := lateRunsRow.holds Try.pinned (OpenSpec.ofChange lateRunsWrong)

/-- 'cascadelaw10.LateRatios': WHATEVER THE INPUT: true; the input reads as it did. -/
def lateRatiosSpec : ChangeSpec := { name := "lateRatios", fn := fun _ => fun
  | [d1, d2, d3, d4] => { results := [.lit (.bool true)], args := [d1, d2, d3, d4] }
  | _ => none }
def lateRatiosRow : OpenClaim := { program := "ytjnppjipoibbeaa", sum := "c296056a10fcff9f03e79d0c2438fb713a1fddb957b5a501e5f5b48248948bef", func := "cascade/cascadelaw10.LateRatios", spec := "lateRatios", apart := false }
def LateRatiosSaid : Prop := lateRatiosRow.holds Try.pinned (OpenSpec.ofChange lateRatiosSpec)

/-- ITS FALSE NEIGHBOUR: 'it returns false'. Refute it at one input. -/
def lateRatiosWrong : ChangeSpec := { name := "lateRatios", fn := fun _ => fun
  | [d1, d2, d3, d4] => { results := [.lit (.bool false)], args := [d1, d2, d3, d4] }
  | _ => none }
def LateRatiosWrongFalsely : Prop := lateRatiosRow.holds Try.pinned (OpenSpec.ofChange lateRatiosWrong)

/-- 'cascadelaw10.LateBuckets': WHATEVER THE INPUT: true; the input reads as it did. -/
def lateBucketsSpec : ChangeSpec := { name := "lateBuckets", fn := fun _ => fun
  | [d1, d2, d3, d4] => { results := [.lit (.bool true)], args := [d1, d2, d3, d4] }
  | _ => none }
def lateBucketsRow : OpenClaim := { program := "ytjnppjipoibbeaa", sum := "c296056a10fcff9f03e79d0c2438fb713a1fddb957b5a501e5f5b48248948bef", func := "cascade/cascadelaw10.LateBuckets", spec := "lateBuckets", apart := false }
def LateBucketsSaid : Prop := lateBucketsRow.holds Try.pinned (OpenSpec.ofChange lateBucketsSpec)

/-- ITS FALSE NEIGHBOUR: 'it returns false'. Refute it at one input. -/
def lateBucketsWrong : ChangeSpec := { name := "lateBuckets", fn := fun _ => fun
  | [d1, d2, d3, d4] => { results := [.lit (.bool false)], args := [d1, d2, d3, d4] }
  | _ => none }
def LateBucketsWrongFalsely : Prop := lateBucketsRow.holds Try.pinned (OpenSpec.ofChange lateBucketsWrong)

/-- 'cascadelaw10.LateMoves': WHATEVER THE INPUT: true; the input reads as it did. -/
def lateMovesSpec : ChangeSpec := { name := "lateMoves", fn := fun _ => fun
  | [d1, d2, d3] => { results := [.lit (.bool true)], args := [d1, d2, d3] }
  | _ => none }
def lateMovesRow : OpenClaim := { program := "ytjnppjipoibbeaa", sum := "c296056a10fcff9f03e79d0c2438fb713a1fddb957b5a501e5f5b48248948bef", func := "cascade/cascadelaw10.LateMoves", spec := "lateMoves", apart := false }
def LateMovesSaid : Prop := lateMovesRow.holds Try.pinned (OpenSpec.ofChange lateMovesSpec)

/-- ITS FALSE NEIGHBOUR: 'it returns false'. Refute it at one input. -/
def lateMovesWrong : ChangeSpec := { name := "lateMoves", fn := fun _ => fun
  | [d1, d2, d3] => { results := [.lit (.bool false)], args := [d1, d2, d3] }
  | _ => none }
def LateMovesWrongFalsely : Prop := lateMovesRow.holds Try.pinned (OpenSpec.ofChange lateMovesWrong)

/-- 'cascadelaw8.TapeRuns': WHATEVER THE INPUT: true; the input reads as it did. -/
def tapeRunsSpec : ChangeSpec := { name := "tapeRuns", fn := fun _ => fun
  | [] => { results := [.lit (.bool true)], args := [] }
  | _ => none }
def tapeRunsRow : OpenClaim := { program := "ytjnppjipoibbeaa", sum := "c296056a10fcff9f03e79d0c2438fb713a1fddb957b5a501e5f5b48248948bef", func := "cascade/cascadelaw8.TapeRuns", spec := "tapeRuns", apart := false }
def TapeRunsSaid : Prop := tapeRunsRow.holds Try.pinned (OpenSpec.ofChange tapeRunsSpec)

/-- ITS FALSE NEIGHBOUR: 'it returns false'. Refute it at one input. -/
def tapeRunsWrong : ChangeSpec := { name := "tapeRuns", fn := fun _ => fun
  | [] => { results := [.lit (.bool false)], args := [] }
  | _ => none }
def TapeRunsWrongFalsely : Prop := tapeRunsRow.holds Try.pinned (OpenSpec.ofChange tapeRunsWrong)

/-- 'cascadelaw8.TapeRight': WHATEVER THE INPUT: true; the input reads as it did. -/
def tapeRightSpec : ChangeSpec := { name := "tapeRight", fn := fun _ => fun
  | [d1, d2, d3, d4] => { results := [.lit (.bool true)], args := [d1, d2, d3, d4] }
  | _ => none }
def tapeRightRow : OpenClaim := { program := "ytjnppjipoibbeaa", sum := "c296056a10fcff9f03e79d0c2438fb713a1fddb957b5a501e5f5b48248948bef", func := "cascade/cascadelaw8.TapeRight", spec := "tapeRight", apart := false }
def TapeRightSaid : Prop := tapeRightRow.holds Try.pinned (OpenSpec.ofChange tapeRightSpec)

/-- ITS FALSE NEIGHBOUR: 'it returns false'. Refute it at one input. -/
def tapeRightWrong : ChangeSpec := { name := "tapeRight", fn := fun _ => fun
  | [d1, d2, d3, d4] => { results := [.lit (.bool false)], args := [d1, d2, d3, d4] }
  | _ => none }
def TapeRightWrongFalsely : Prop := tapeRightRow.holds Try.pinned (OpenSpec.ofChange tapeRightWrong)

/-- 'cascadelaw8.TapeSums': WHATEVER THE INPUT: true; the input reads as it did. -/
def tapeSumsSpec : ChangeSpec := { name := "tapeSums", fn := fun _ => fun
  | [d1, d2] => { results := [.lit (.bool true)], args := [d1, d2] }
  | _ => none }
def tapeSumsRow : OpenClaim := { program := "ytjnppjipoibbeaa", sum := "c296056a10fcff9f03e79d0c2438fb713a1fddb957b5a501e5f5b48248948bef", func := "cascade/cascadelaw8.TapeSums", spec := "tapeSums", apart := false }
def TapeSumsSaid : Prop := tapeSumsRow.holds Try.pinned (OpenSpec.ofChange tapeSumsSpec)

/-- ITS FALSE NEIGHBOUR: 'it returns false'. Refute it at one input. -/
def tapeSumsWrong : ChangeSpec := { name := "tapeSums", fn := fun _ => fun
  | [d1, d2] => { results := [.lit (.bool false)], args := [d1, d2] }
  | _ => none }
def TapeSumsWrongFalsely : Prop := tapeSumsRow.holds Try.pinned (OpenSpec.ofChange tapeSumsWrong)

/-- 'cascadelaw8.TapePlus': WHATEVER THE INPUT: true; the input reads as it did. -/
def tapePlusSpec : ChangeSpec := { name := "tapePlus", fn := fun _ => fun
  | [d1, d2, d3] => { results := [.lit (.bool true)], args := [d1, d2, d3] }
  | _ => none }
def tapePlusRow : OpenClaim := { program := "ytjnppjipoibbeaa", sum := "c296056a10fcff9f03e79d0c2438fb713a1fddb957b5a501e5f5b48248948bef", func := "cascade/cascadelaw8.TapePlus", spec := "tapePlus", apart := false }
def TapePlusSaid : Prop := tapePlusRow.holds Try.pinned (OpenSpec.ofChange tapePlusSpec)

/-- ITS FALSE NEIGHBOUR: 'it returns false'. Refute it at one input. -/
def tapePlusWrong : ChangeSpec := { name := "tapePlus", fn := fun _ => fun
  | [d1, d2, d3] => { results := [.lit (.bool false)], args := [d1, d2, d3] }
  | _ => none }
def TapePlusWrongFalsely : Prop := tapePlusRow.holds Try.pinned (OpenSpec.ofChange tapePlusWrong)

/- THE SECOND FORM. 'bulk': how many values and letters a reading holds, each counted each time it is reached (what is shared counts as often as it is met; a slice's spare places count too). A statement '..UptoSaid' is the law's where the arguments, and the package variables that the reading takes, are together of bulk at most 1048576: NARROWER than '..Said'. Prove '..Said' where nothing that the law and all that it calls make is longer than what came in: it says more and counts as full. Else prove '..UptoSaid'. A law counts once. -/
mutual
def uptoBulk {H : Type} : DataW H → Nat
  | .lit (.string bytes) => bytes.length + 1
  | .lit _ => 1
  | .nil => 1
  | .ptr d => uptoBulk d + 1
  | .slice elems spare => uptoBulkAll elems + uptoBulkAll spare + 1
  | .agg parts => uptoBulkAll parts + 1
  | .iface _ d => uptoBulk d + 1
  | .map entries => uptoBulkEntries entries + 1
  | .held _ => 1
def uptoBulkAll {H : Type} : List (DataW H) → Nat
  | [] => 0
  | d :: r => uptoBulk d + uptoBulkAll r
def uptoBulkEntries {H : Type} : List (Lit × DataW H) → Nat
  | [] => 0
  | x :: r => uptoBulkEntry x + uptoBulkEntries r
def uptoBulkEntry {H : Type} : Lit × DataW H → Nat
  | (.string bytes, d) => bytes.length + uptoBulk d + 1
  | (_, d) => uptoBulk d + 1
 end
def uptoSmall : (H : Type) → List (DataW H) → Bool := fun _ ds => decide (uptoBulkAll ds ≤ 1048576)
def OpenSpec.upto (s : _root_.Go.ChangeSpec) : _root_.Go.OpenSpec := { _root_.Go.OpenSpec.ofChange s with cond := some uptoSmall }

/-- 'cascadelaw15.TestsRuns', WHERE WHAT IT READS IS OF BULK AT MOST 1048576: true; the input reads as it did. -/
def testsRunsUptoRow : OpenClaim := { program := "ytjnppjipoibbeaa", sum := "c296056a10fcff9f03e79d0c2438fb713a1fddb957b5a501e5f5b48248948bef", func := "cascade/cascadelaw15.TestsRuns", spec := "testsRuns", apart := false, narrowed := true }
def TestsRunsUptoSaid : Prop := testsRunsUptoRow.holds Try.pinned (OpenSpec.upto testsRunsSpec)

/-- 'cascadelaw15.TestsTell', WHERE WHAT IT READS IS OF BULK AT MOST 1048576: true; the input reads as it did. -/
def testsTellUptoRow : OpenClaim := { program := "ytjnppjipoibbeaa", sum := "c296056a10fcff9f03e79d0c2438fb713a1fddb957b5a501e5f5b48248948bef", func := "cascade/cascadelaw15.TestsTell", spec := "testsTell", apart := false, narrowed := true }
def TestsTellUptoSaid : Prop := testsTellUptoRow.holds Try.pinned (OpenSpec.upto testsTellSpec)

/-- 'cascadelaw15.TestsMove', WHERE WHAT IT READS IS OF BULK AT MOST 1048576: true; the input reads as it did. -/
def testsMoveUptoRow : OpenClaim := { program := "ytjnppjipoibbeaa", sum := "c296056a10fcff9f03e79d0c2438fb713a1fddb957b5a501e5f5b48248948bef", func := "cascade/cascadelaw15.TestsMove", spec := "testsMove", apart := false, narrowed := true }
def TestsMoveUptoSaid : Prop := testsMoveUptoRow.holds Try.pinned (OpenSpec.upto testsMoveSpec)

/-- 'cascadelaw15.TestsZero', WHERE WHAT IT READS IS OF BULK AT MOST 1048576: true; the input reads as it did. -/
def testsZeroUptoRow : OpenClaim := { program := "ytjnppjipoibbeaa", sum := "c296056a10fcff9f03e79d0c2438fb713a1fddb957b5a501e5f5b48248948bef", func := "cascade/cascadelaw15.TestsZero", spec := "testsZero", apart := false, narrowed := true }
def TestsZeroUptoSaid : Prop := testsZeroUptoRow.holds Try.pinned (OpenSpec.upto testsZeroSpec)

/-- 'cascadelaw10.LateRuns', WHERE WHAT IT READS IS OF BULK AT MOST 1048576: true; the input reads as it did. -/
def lateRunsUptoRow : OpenClaim := { program := "ytjnppjipoibbeaa", sum := "c296056a10fcff9f03e79d0c2438fb713a1fddb957b5a501e5f5b48248948bef", func := "cascade/cascadelaw10.LateRuns", spec := "lateRuns", apart := false, narrowed := true }
def LateRunsUptoSaid : Prop := lateRunsUptoRow.holds Try.pinned (OpenSpec.upto lateRunsSpec)

/-- 'cascadelaw10.LateRatios', WHERE WHAT IT READS IS OF BULK AT MOST 1048576: true; the input reads as it did. -/
def lateRatiosUptoRow : OpenClaim := { program := "ytjnppjipoibbeaa", sum := "c296056a10fcff9f03e79d0c2438fb713a1fddb957b5a501e5f5b48248948bef", func := "cascade/cascadelaw10.LateRatios", spec := "lateRatios", apart := false, narrowed := true }
def LateRatiosUptoSaid : Prop := lateRatiosUptoRow.holds Try.pinned (OpenSpec.upto lateRatiosSpec)

/-- 'cascadelaw10.LateBuckets', WHERE WHAT IT READS IS OF BULK AT MOST 1048576: true; the input reads as it did. -/
def lateBucketsUptoRow : OpenClaim := { program := "ytjnppjipoibbeaa", sum := "c296056a10fcff9f03e79d0c2438fb713a1fddb957b5a501e5f5b48248948bef", func := "cascade/cascadelaw10.LateBuckets", spec := "lateBuckets", apart := false, narrowed := true }
def LateBucketsUptoSaid : Prop := lateBucketsUptoRow.holds Try.pinned (OpenSpec.upto lateBucketsSpec)

/-- 'cascadelaw10.LateMoves', WHERE WHAT IT READS IS OF BULK AT MOST 1048576: true; the input reads as it did. -/
def lateMovesUptoRow : OpenClaim := { program := "ytjnppjipoibbeaa", sum := "c296056a10fcff9f03e79d0c2438fb713a1fddb957b5a501e5f5b48248948bef", func := "cascade/cascadelaw10.LateMoves", spec := "lateMoves", apart := false, narrowed := true }
def LateMovesUptoSaid : Prop := lateMovesUptoRow.holds Try.pinned (OpenSpec.upto lateMovesSpec)

/-- 'cascadelaw8.TapeRuns', WHERE WHAT IT READS IS OF BULK AT MOST 1048576: true; the input reads as it did. -/
def tapeRunsUptoRow : OpenClaim := { program := "ytjnppjipoibbeaa", sum := "c296056a10fcff9f03e79d0c2438fb713a1fddb957b5a501e5f5b48248948bef", func := "cascade/cascadelaw8.TapeRuns", spec := "tapeRuns", apart := false, narrowed := true }
def TapeRunsUptoSaid : Prop := tapeRunsUptoRow.holds Try.pinned (OpenSpec.upto tapeRunsSpec)

/-- 'cascadelaw8.TapeRight', WHERE WHAT IT READS IS OF BULK AT MOST 1048576: true; the input reads as it did. -/
def tapeRightUptoRow : OpenClaim := { program := "ytjnppjipoibbeaa", sum := "c296056a10fcff9f03e79d0c2438fb713a1fddb957b5a501e5f5b48248948bef", func := "cascade/cascadelaw8.TapeRight", spec := "tapeRight", apart := false, narrowed := true }
def TapeRightUptoSaid : Prop := tapeRightUptoRow.holds Try.pinned (OpenSpec.upto tapeRightSpec)

/-- 'cascadelaw8.TapeSums', WHERE WHAT IT READS IS OF BULK AT MOST 1048576: true; the input reads as it did. -/
def tapeSumsUptoRow : OpenClaim := { program := "ytjnppjipoibbeaa", sum := "c296056a10fcff9f03e79d0c2438fb713a1fddb957b5a501e5f5b48248948bef", func := "cascade/cascadelaw8.TapeSums", spec := "tapeSums", apart := false, narrowed := true }
def TapeSumsUptoSaid : Prop := tapeSumsUptoRow.holds Try.pinned (OpenSpec.upto tapeSumsSpec)

/-- 'cascadelaw8.TapePlus', WHERE WHAT IT READS IS OF BULK AT MOST 1048576: true; the input reads as it did. -/
def tapePlusUptoRow : OpenClaim := { program := "ytjnppjipoibbeaa", sum := "c296056a10fcff9f03e79d0c2438fb713a1fddb957b5a501e5f5b48248948bef", func := "cascade/cascadelaw8.TapePlus", spec := "tapePlus", apart := false, narrowed := true }
def TapePlusUptoSaid : Prop := tapePlusUptoRow.holds Try.pinned (OpenSpec.upto tapePlusSpec)

end Rows
end Go.Proofs.Ytjnppjipoibbeaa
