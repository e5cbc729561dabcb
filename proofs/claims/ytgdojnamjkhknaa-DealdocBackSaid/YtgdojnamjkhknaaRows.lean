/-
  No cell of these rows narrows 'for every input' (looked for: loops, veiled, ifaces, maps, wideKeys, modest, calm, conditions, laid).
  DERIVED. THE GIVEN ROWS OF THIS SEAT. 20 by the template 'for every input the law returns true; each argument reads behind the call as it read before'; 0 by the template 'total and deterministic' (their statements: YtgdojnamjkhknaaTotals.lean).
  GIVEN WITH THE SEED: the statements are not yours to turn. If you find one false, say at which input.
  Laid BY PROGRAM, IN A SANDBOX (cutbox-rows.mjs): the forced cells as the released guide's own fill.sh prints them over the translation c3eda9c9f7ed758b… (all of the seat's roots in one cut). By AI agents, Wed Nov 11 2026. No macro, syntax, notation, axiom, sorry.
-/
import Derived.Test.YtgdojnamjkhknaaChecked
import GoSem.Claim
import GoSem.ClaimJoined
import GoSem.ClaimMapViews
import Derived.JoinedTies
import Derived.KernelRfl
namespace Go.Proofs.Ytgdojnamjkhknaa
/- THE CELL 'sum', in the pinned program and in every row, IS THE sha256 OF THE DUMP (.gsa) THAT YtgdojnamjkhknaaProg.lean LOADS. Nothing in Lean hashes anything: it is a label: what it is worth is what the hold of that sum in a sandbox is worth. -/
noncomputable def Try.pinned : Pinned := { name := "ytgdojnamjkhknaa", sum := "c3eda9c9f7ed758b68c8b9405c0059ad9b17695b5bd8c48c4d921ad0a0a6a774", checked := Try.checked }
namespace Rows
def none {H : Type} : Left H := { results := [], args := [] }

/-- 'cascadelaw12.WordRuns': WHATEVER THE INPUT: true; the input reads as it did. -/
def wordRunsSpec : ChangeSpec := { name := "wordRuns", fn := fun _ => fun
  | [] => { results := [.lit (.bool true)], args := [] }
  | _ => none }
def wordRunsRow : OpenClaim := { program := "ytgdojnamjkhknaa", sum := "c3eda9c9f7ed758b68c8b9405c0059ad9b17695b5bd8c48c4d921ad0a0a6a774", func := "cascade/cascadelaw12.WordRuns", spec := "wordRuns", apart := false }
def WordRunsSaid : Prop := wordRunsRow.holds Try.pinned (OpenSpec.ofChange wordRunsSpec)

/-- ITS FALSE NEIGHBOUR: 'it returns false'. Refute it at one input. -/
def wordRunsWrong : ChangeSpec := { name := "wordRuns", fn := fun _ => fun
  | [] => { results := [.lit (.bool false)], args := [] }
  | _ => none }
def WordRunsWrongFalsely : Prop := wordRunsRow.holds Try.pinned (OpenSpec.ofChange wordRunsWrong)

/-- 'cascadelaw12.WordReads': WHATEVER THE INPUT: true; the input reads as it did. -/
def wordReadsSpec : ChangeSpec := { name := "wordReads", fn := fun _ => fun
  | [d1, d2] => { results := [.lit (.bool true)], args := [d1, d2] }
  | _ => none }
def wordReadsRow : OpenClaim := { program := "ytgdojnamjkhknaa", sum := "c3eda9c9f7ed758b68c8b9405c0059ad9b17695b5bd8c48c4d921ad0a0a6a774", func := "cascade/cascadelaw12.WordReads", spec := "wordReads", apart := false }
def WordReadsSaid : Prop := wordReadsRow.holds Try.pinned (OpenSpec.ofChange wordReadsSpec)

/-- ITS FALSE NEIGHBOUR: 'it returns false'. Refute it at one input. -/
def wordReadsWrong : ChangeSpec := { name := "wordReads", fn := fun _ => fun
  | [d1, d2] => { results := [.lit (.bool false)], args := [d1, d2] }
  | _ => none }
def WordReadsWrongFalsely : Prop := wordReadsRow.holds Try.pinned (OpenSpec.ofChange wordReadsWrong)

/-- 'cascadelaw12.WordOrder': WHATEVER THE INPUT: true; the input reads as it did. -/
def wordOrderSpec : ChangeSpec := { name := "wordOrder", fn := fun _ => fun
  | [d1, d2, d3, d4] => { results := [.lit (.bool true)], args := [d1, d2, d3, d4] }
  | _ => none }
def wordOrderRow : OpenClaim := { program := "ytgdojnamjkhknaa", sum := "c3eda9c9f7ed758b68c8b9405c0059ad9b17695b5bd8c48c4d921ad0a0a6a774", func := "cascade/cascadelaw12.WordOrder", spec := "wordOrder", apart := false }
def WordOrderSaid : Prop := wordOrderRow.holds Try.pinned (OpenSpec.ofChange wordOrderSpec)

/-- ITS FALSE NEIGHBOUR: 'it returns false'. Refute it at one input. -/
def wordOrderWrong : ChangeSpec := { name := "wordOrder", fn := fun _ => fun
  | [d1, d2, d3, d4] => { results := [.lit (.bool false)], args := [d1, d2, d3, d4] }
  | _ => none }
def WordOrderWrongFalsely : Prop := wordOrderRow.holds Try.pinned (OpenSpec.ofChange wordOrderWrong)

/-- 'cascadelaw12.WordBack': WHATEVER THE INPUT: true; the input reads as it did. -/
def wordBackSpec : ChangeSpec := { name := "wordBack", fn := fun _ => fun
  | [d1, d2, d3] => { results := [.lit (.bool true)], args := [d1, d2, d3] }
  | _ => none }
def wordBackRow : OpenClaim := { program := "ytgdojnamjkhknaa", sum := "c3eda9c9f7ed758b68c8b9405c0059ad9b17695b5bd8c48c4d921ad0a0a6a774", func := "cascade/cascadelaw12.WordBack", spec := "wordBack", unfollowed := true, recurses := true, apart := false }
def WordBackSaid : Prop := wordBackRow.holds Try.pinned (OpenSpec.ofChange wordBackSpec)

/-- ITS FALSE NEIGHBOUR: 'it returns false'. Refute it at one input. -/
def wordBackWrong : ChangeSpec := { name := "wordBack", fn := fun _ => fun
  | [d1, d2, d3] => { results := [.lit (.bool false)], args := [d1, d2, d3] }
  | _ => none }
def WordBackWrongFalsely : Prop := wordBackRow.holds Try.pinned (OpenSpec.ofChange wordBackWrong)

/-- 'cascadelaw11.DealRuns': WHATEVER THE INPUT: true; the input reads as it did. -/
def dealRunsSpec : ChangeSpec := { name := "dealRuns", fn := fun _ => fun
  | [] => { results := [.lit (.bool true)], args := [] }
  | _ => none }
def dealRunsRow : OpenClaim := { program := "ytgdojnamjkhknaa", sum := "c3eda9c9f7ed758b68c8b9405c0059ad9b17695b5bd8c48c4d921ad0a0a6a774", func := "cascade/cascadelaw11.DealRuns", spec := "dealRuns", apart := false }
def DealRunsSaid : Prop := dealRunsRow.holds Try.pinned (OpenSpec.ofChange dealRunsSpec)

/-- ITS FALSE NEIGHBOUR: 'it returns false'. Refute it at one input. -/
def dealRunsWrong : ChangeSpec := { name := "dealRuns", fn := fun _ => fun
  | [] => { results := [.lit (.bool false)], args := [] }
  | _ => none }
def DealRunsWrongFalsely : Prop := dealRunsRow.holds Try.pinned (OpenSpec.ofChange dealRunsWrong)

/-- 'cascadelaw11.DealTells': WHATEVER THE INPUT: true; the input reads as it did. -/
def dealTellsSpec : ChangeSpec := { name := "dealTells", fn := fun _ => fun
  | [d1, d2, d3, d4] => { results := [.lit (.bool true)], args := [d1, d2, d3, d4] }
  | _ => none }
def dealTellsRow : OpenClaim := { program := "ytgdojnamjkhknaa", sum := "c3eda9c9f7ed758b68c8b9405c0059ad9b17695b5bd8c48c4d921ad0a0a6a774", func := "cascade/cascadelaw11.DealTells", spec := "dealTells", apart := false }
def DealTellsSaid : Prop := dealTellsRow.holds Try.pinned (OpenSpec.ofChange dealTellsSpec)

/-- ITS FALSE NEIGHBOUR: 'it returns false'. Refute it at one input. -/
def dealTellsWrong : ChangeSpec := { name := "dealTells", fn := fun _ => fun
  | [d1, d2, d3, d4] => { results := [.lit (.bool false)], args := [d1, d2, d3, d4] }
  | _ => none }
def DealTellsWrongFalsely : Prop := dealTellsRow.holds Try.pinned (OpenSpec.ofChange dealTellsWrong)

/-- 'cascadelaw11.DealSteps': WHATEVER THE INPUT: true; the input reads as it did. -/
def dealStepsSpec : ChangeSpec := { name := "dealSteps", fn := fun _ => fun
  | [d1, d2, d3, d4, d5] => { results := [.lit (.bool true)], args := [d1, d2, d3, d4, d5] }
  | _ => none }
def dealStepsRow : OpenClaim := { program := "ytgdojnamjkhknaa", sum := "c3eda9c9f7ed758b68c8b9405c0059ad9b17695b5bd8c48c4d921ad0a0a6a774", func := "cascade/cascadelaw11.DealSteps", spec := "dealSteps", apart := false }
def DealStepsSaid : Prop := dealStepsRow.holds Try.pinned (OpenSpec.ofChange dealStepsSpec)

/-- ITS FALSE NEIGHBOUR: 'it returns false'. Refute it at one input. -/
def dealStepsWrong : ChangeSpec := { name := "dealSteps", fn := fun _ => fun
  | [d1, d2, d3, d4, d5] => { results := [.lit (.bool false)], args := [d1, d2, d3, d4, d5] }
  | _ => none }
def DealStepsWrongFalsely : Prop := dealStepsRow.holds Try.pinned (OpenSpec.ofChange dealStepsWrong)

/-- 'cascadelaw11.DealTurned': WHATEVER THE INPUT: true; the input reads as it did. -/
def dealTurnedSpec : ChangeSpec := { name := "dealTurned", fn := fun _ => fun
  | [d1, d2, d3] => { results := [.lit (.bool true)], args := [d1, d2, d3] }
  | _ => none }
def dealTurnedRow : OpenClaim := { program := "ytgdojnamjkhknaa", sum := "c3eda9c9f7ed758b68c8b9405c0059ad9b17695b5bd8c48c4d921ad0a0a6a774", func := "cascade/cascadelaw11.DealTurned", spec := "dealTurned", apart := false }
def DealTurnedSaid : Prop := dealTurnedRow.holds Try.pinned (OpenSpec.ofChange dealTurnedSpec)

/-- ITS FALSE NEIGHBOUR: 'it returns false'. Refute it at one input. -/
def dealTurnedWrong : ChangeSpec := { name := "dealTurned", fn := fun _ => fun
  | [d1, d2, d3] => { results := [.lit (.bool false)], args := [d1, d2, d3] }
  | _ => none }
def DealTurnedWrongFalsely : Prop := dealTurnedRow.holds Try.pinned (OpenSpec.ofChange dealTurnedWrong)

/-- 'cascadelaw9.PoolRuns': WHATEVER THE INPUT: true; the input reads as it did. -/
def poolRunsSpec : ChangeSpec := { name := "poolRuns", fn := fun _ => fun
  | [] => { results := [.lit (.bool true)], args := [] }
  | _ => none }
def poolRunsRow : OpenClaim := { program := "ytgdojnamjkhknaa", sum := "c3eda9c9f7ed758b68c8b9405c0059ad9b17695b5bd8c48c4d921ad0a0a6a774", func := "cascade/cascadelaw9.PoolRuns", spec := "poolRuns", unfollowed := true, recurses := true, apart := false }
def PoolRunsSaid : Prop := poolRunsRow.holds Try.pinned (OpenSpec.ofChange poolRunsSpec)

/-- ITS FALSE NEIGHBOUR: 'it returns false'. Refute it at one input. -/
def poolRunsWrong : ChangeSpec := { name := "poolRuns", fn := fun _ => fun
  | [] => { results := [.lit (.bool false)], args := [] }
  | _ => none }
def PoolRunsWrongFalsely : Prop := poolRunsRow.holds Try.pinned (OpenSpec.ofChange poolRunsWrong)

/-- 'cascadelaw9.PoolPlays': WHATEVER THE INPUT: true; the input reads as it did. -/
def poolPlaysSpec : ChangeSpec := { name := "poolPlays", fn := fun _ => fun
  | [d1, d2, d3, d4] => { results := [.lit (.bool true)], args := [d1, d2, d3, d4] }
  | _ => none }
def poolPlaysRow : OpenClaim := { program := "ytgdojnamjkhknaa", sum := "c3eda9c9f7ed758b68c8b9405c0059ad9b17695b5bd8c48c4d921ad0a0a6a774", func := "cascade/cascadelaw9.PoolPlays", spec := "poolPlays", unfollowed := true, recurses := true, apart := false }
def PoolPlaysSaid : Prop := poolPlaysRow.holds Try.pinned (OpenSpec.ofChange poolPlaysSpec)

/-- ITS FALSE NEIGHBOUR: 'it returns false'. Refute it at one input. -/
def poolPlaysWrong : ChangeSpec := { name := "poolPlays", fn := fun _ => fun
  | [d1, d2, d3, d4] => { results := [.lit (.bool false)], args := [d1, d2, d3, d4] }
  | _ => none }
def PoolPlaysWrongFalsely : Prop := poolPlaysRow.holds Try.pinned (OpenSpec.ofChange poolPlaysWrong)

/-- 'cascadelaw9.PoolOver': WHATEVER THE INPUT: true; the input reads as it did. -/
def poolOverSpec : ChangeSpec := { name := "poolOver", fn := fun _ => fun
  | [d1, d2, d3, d4, d5] => { results := [.lit (.bool true)], args := [d1, d2, d3, d4, d5] }
  | _ => none }
def poolOverRow : OpenClaim := { program := "ytgdojnamjkhknaa", sum := "c3eda9c9f7ed758b68c8b9405c0059ad9b17695b5bd8c48c4d921ad0a0a6a774", func := "cascade/cascadelaw9.PoolOver", spec := "poolOver", unfollowed := true, recurses := true, apart := false }
def PoolOverSaid : Prop := poolOverRow.holds Try.pinned (OpenSpec.ofChange poolOverSpec)

/-- ITS FALSE NEIGHBOUR: 'it returns false'. Refute it at one input. -/
def poolOverWrong : ChangeSpec := { name := "poolOver", fn := fun _ => fun
  | [d1, d2, d3, d4, d5] => { results := [.lit (.bool false)], args := [d1, d2, d3, d4, d5] }
  | _ => none }
def PoolOverWrongFalsely : Prop := poolOverRow.holds Try.pinned (OpenSpec.ofChange poolOverWrong)

/-- 'cascadelaw9.PoolKeeps': WHATEVER THE INPUT: true; the input reads as it did. -/
def poolKeepsSpec : ChangeSpec := { name := "poolKeeps", fn := fun _ => fun
  | [d1, d2, d3] => { results := [.lit (.bool true)], args := [d1, d2, d3] }
  | _ => none }
def poolKeepsRow : OpenClaim := { program := "ytgdojnamjkhknaa", sum := "c3eda9c9f7ed758b68c8b9405c0059ad9b17695b5bd8c48c4d921ad0a0a6a774", func := "cascade/cascadelaw9.PoolKeeps", spec := "poolKeeps", unfollowed := true, recurses := true, apart := false }
def PoolKeepsSaid : Prop := poolKeepsRow.holds Try.pinned (OpenSpec.ofChange poolKeepsSpec)

/-- ITS FALSE NEIGHBOUR: 'it returns false'. Refute it at one input. -/
def poolKeepsWrong : ChangeSpec := { name := "poolKeeps", fn := fun _ => fun
  | [d1, d2, d3] => { results := [.lit (.bool false)], args := [d1, d2, d3] }
  | _ => none }
def PoolKeepsWrongFalsely : Prop := poolKeepsRow.holds Try.pinned (OpenSpec.ofChange poolKeepsWrong)

/-- 'cascadelaw14.TapedocRuns': WHATEVER THE INPUT: true; the input reads as it did. -/
def tapedocRunsSpec : ChangeSpec := { name := "tapedocRuns", fn := fun _ => fun
  | [] => { results := [.lit (.bool true)], args := [] }
  | _ => none }
def tapedocRunsRow : OpenClaim := { program := "ytgdojnamjkhknaa", sum := "c3eda9c9f7ed758b68c8b9405c0059ad9b17695b5bd8c48c4d921ad0a0a6a774", func := "cascade/cascadelaw14.TapedocRuns", spec := "tapedocRuns", unfollowed := true, recurses := true, apart := false }
def TapedocRunsSaid : Prop := tapedocRunsRow.holds Try.pinned (OpenSpec.ofChange tapedocRunsSpec)

/-- ITS FALSE NEIGHBOUR: 'it returns false'. Refute it at one input. -/
def tapedocRunsWrong : ChangeSpec := { name := "tapedocRuns", fn := fun _ => fun
  | [] => { results := [.lit (.bool false)], args := [] }
  | _ => none }
def TapedocRunsWrongFalsely : Prop := tapedocRunsRow.holds Try.pinned (OpenSpec.ofChange tapedocRunsWrong)

/-- 'cascadelaw14.TapedocBack': WHATEVER THE INPUT: true; the input reads as it did. -/
def tapedocBackSpec : ChangeSpec := { name := "tapedocBack", fn := fun _ => fun
  | [d1, d2, d3, d4, d5] => { results := [.lit (.bool true)], args := [d1, d2, d3, d4, d5] }
  | _ => none }
def tapedocBackRow : OpenClaim := { program := "ytgdojnamjkhknaa", sum := "c3eda9c9f7ed758b68c8b9405c0059ad9b17695b5bd8c48c4d921ad0a0a6a774", func := "cascade/cascadelaw14.TapedocBack", spec := "tapedocBack", unfollowed := true, recurses := true, apart := false }
def TapedocBackSaid : Prop := tapedocBackRow.holds Try.pinned (OpenSpec.ofChange tapedocBackSpec)

/-- ITS FALSE NEIGHBOUR: 'it returns false'. Refute it at one input. -/
def tapedocBackWrong : ChangeSpec := { name := "tapedocBack", fn := fun _ => fun
  | [d1, d2, d3, d4, d5] => { results := [.lit (.bool false)], args := [d1, d2, d3, d4, d5] }
  | _ => none }
def TapedocBackWrongFalsely : Prop := tapedocBackRow.holds Try.pinned (OpenSpec.ofChange tapedocBackWrong)

/-- 'cascadelaw14.TapedocOnly': WHATEVER THE INPUT: true; the input reads as it did. -/
def tapedocOnlySpec : ChangeSpec := { name := "tapedocOnly", fn := fun _ => fun
  | [d1, d2, d3, d4, d5, d6] => { results := [.lit (.bool true)], args := [d1, d2, d3, d4, d5, d6] }
  | _ => none }
def tapedocOnlyRow : OpenClaim := { program := "ytgdojnamjkhknaa", sum := "c3eda9c9f7ed758b68c8b9405c0059ad9b17695b5bd8c48c4d921ad0a0a6a774", func := "cascade/cascadelaw14.TapedocOnly", spec := "tapedocOnly", unfollowed := true, recurses := true, apart := false }
def TapedocOnlySaid : Prop := tapedocOnlyRow.holds Try.pinned (OpenSpec.ofChange tapedocOnlySpec)

/-- ITS FALSE NEIGHBOUR: 'it returns false'. Refute it at one input. -/
def tapedocOnlyWrong : ChangeSpec := { name := "tapedocOnly", fn := fun _ => fun
  | [d1, d2, d3, d4, d5, d6] => { results := [.lit (.bool false)], args := [d1, d2, d3, d4, d5, d6] }
  | _ => none }
def TapedocOnlyWrongFalsely : Prop := tapedocOnlyRow.holds Try.pinned (OpenSpec.ofChange tapedocOnlyWrong)

/-- 'cascadelaw14.TapedocSize': WHATEVER THE INPUT: true; the input reads as it did. -/
def tapedocSizeSpec : ChangeSpec := { name := "tapedocSize", fn := fun _ => fun
  | [d1, d2, d3] => { results := [.lit (.bool true)], args := [d1, d2, d3] }
  | _ => none }
def tapedocSizeRow : OpenClaim := { program := "ytgdojnamjkhknaa", sum := "c3eda9c9f7ed758b68c8b9405c0059ad9b17695b5bd8c48c4d921ad0a0a6a774", func := "cascade/cascadelaw14.TapedocSize", spec := "tapedocSize", unfollowed := true, recurses := true, apart := false }
def TapedocSizeSaid : Prop := tapedocSizeRow.holds Try.pinned (OpenSpec.ofChange tapedocSizeSpec)

/-- ITS FALSE NEIGHBOUR: 'it returns false'. Refute it at one input. -/
def tapedocSizeWrong : ChangeSpec := { name := "tapedocSize", fn := fun _ => fun
  | [d1, d2, d3] => { results := [.lit (.bool false)], args := [d1, d2, d3] }
  | _ => none }
def TapedocSizeWrongFalsely : Prop := tapedocSizeRow.holds Try.pinned (OpenSpec.ofChange tapedocSizeWrong)

/-- 'cascadelaw13.DealdocRuns': WHATEVER THE INPUT: true; the input reads as it did. -/
def dealdocRunsSpec : ChangeSpec := { name := "dealdocRuns", fn := fun _ => fun
  | [] => { results := [.lit (.bool true)], args := [] }
  | _ => none }
def dealdocRunsRow : OpenClaim := { program := "ytgdojnamjkhknaa", sum := "c3eda9c9f7ed758b68c8b9405c0059ad9b17695b5bd8c48c4d921ad0a0a6a774", func := "cascade/cascadelaw13.DealdocRuns", spec := "dealdocRuns", unfollowed := true, recurses := true, apart := false }
def DealdocRunsSaid : Prop := dealdocRunsRow.holds Try.pinned (OpenSpec.ofChange dealdocRunsSpec)

/-- ITS FALSE NEIGHBOUR: 'it returns false'. Refute it at one input. -/
def dealdocRunsWrong : ChangeSpec := { name := "dealdocRuns", fn := fun _ => fun
  | [] => { results := [.lit (.bool false)], args := [] }
  | _ => none }
def DealdocRunsWrongFalsely : Prop := dealdocRunsRow.holds Try.pinned (OpenSpec.ofChange dealdocRunsWrong)

/-- 'cascadelaw13.DealdocBack': WHATEVER THE INPUT: true; the input reads as it did. -/
def dealdocBackSpec : ChangeSpec := { name := "dealdocBack", fn := fun _ => fun
  | [d1, d2, d3] => { results := [.lit (.bool true)], args := [d1, d2, d3] }
  | _ => none }
def dealdocBackRow : OpenClaim := { program := "ytgdojnamjkhknaa", sum := "c3eda9c9f7ed758b68c8b9405c0059ad9b17695b5bd8c48c4d921ad0a0a6a774", func := "cascade/cascadelaw13.DealdocBack", spec := "dealdocBack", unfollowed := true, recurses := true, apart := false }
def DealdocBackSaid : Prop := dealdocBackRow.holds Try.pinned (OpenSpec.ofChange dealdocBackSpec)

/-- ITS FALSE NEIGHBOUR: 'it returns false'. Refute it at one input. -/
def dealdocBackWrong : ChangeSpec := { name := "dealdocBack", fn := fun _ => fun
  | [d1, d2, d3] => { results := [.lit (.bool false)], args := [d1, d2, d3] }
  | _ => none }
def DealdocBackWrongFalsely : Prop := dealdocBackRow.holds Try.pinned (OpenSpec.ofChange dealdocBackWrong)

/-- 'cascadelaw13.DealdocOnly': WHATEVER THE INPUT: true; the input reads as it did. -/
def dealdocOnlySpec : ChangeSpec := { name := "dealdocOnly", fn := fun _ => fun
  | [d1, d2, d3, d4, d5] => { results := [.lit (.bool true)], args := [d1, d2, d3, d4, d5] }
  | _ => none }
def dealdocOnlyRow : OpenClaim := { program := "ytgdojnamjkhknaa", sum := "c3eda9c9f7ed758b68c8b9405c0059ad9b17695b5bd8c48c4d921ad0a0a6a774", func := "cascade/cascadelaw13.DealdocOnly", spec := "dealdocOnly", unfollowed := true, recurses := true, apart := false }
def DealdocOnlySaid : Prop := dealdocOnlyRow.holds Try.pinned (OpenSpec.ofChange dealdocOnlySpec)

/-- ITS FALSE NEIGHBOUR: 'it returns false'. Refute it at one input. -/
def dealdocOnlyWrong : ChangeSpec := { name := "dealdocOnly", fn := fun _ => fun
  | [d1, d2, d3, d4, d5] => { results := [.lit (.bool false)], args := [d1, d2, d3, d4, d5] }
  | _ => none }
def DealdocOnlyWrongFalsely : Prop := dealdocOnlyRow.holds Try.pinned (OpenSpec.ofChange dealdocOnlyWrong)

/-- 'cascadelaw13.DealdocSize': WHATEVER THE INPUT: true; the input reads as it did. -/
def dealdocSizeSpec : ChangeSpec := { name := "dealdocSize", fn := fun _ => fun
  | [d1, d2] => { results := [.lit (.bool true)], args := [d1, d2] }
  | _ => none }
def dealdocSizeRow : OpenClaim := { program := "ytgdojnamjkhknaa", sum := "c3eda9c9f7ed758b68c8b9405c0059ad9b17695b5bd8c48c4d921ad0a0a6a774", func := "cascade/cascadelaw13.DealdocSize", spec := "dealdocSize", unfollowed := true, recurses := true, apart := false }
def DealdocSizeSaid : Prop := dealdocSizeRow.holds Try.pinned (OpenSpec.ofChange dealdocSizeSpec)

/-- ITS FALSE NEIGHBOUR: 'it returns false'. Refute it at one input. -/
def dealdocSizeWrong : ChangeSpec := { name := "dealdocSize", fn := fun _ => fun
  | [d1, d2] => { results := [.lit (.bool false)], args := [d1, d2] }
  | _ => none }
def DealdocSizeWrongFalsely : Prop := dealdocSizeRow.holds Try.pinned (OpenSpec.ofChange dealdocSizeWrong)

/- THE SECOND FORM. 'bulk': how many values and letters a reading holds, each counted each time it is reached (what is shared counts as often as it is met; a slice's spare places count too). A statement '..UptoSaid' is the law's where the arguments, and the package variables that the reading takes, are together of bulk at most 1048576: NARROWER than '..Said'. Prove '..Said' where nothing that the law and all that it calls make is longer than what came in: it says more and counts as full. Else prove '..UptoSaid'. A law counts once. -/
mutual
def uptoBulk {H : Type} : DataW H → Nat
  | .lit (.string bytes) => bytes.length + 1
  | .lit _ => 1
  | .nil => 1
  | .ptr d => uptoBulk d + 1
  | .slice elems spare => uptoBulkAll elems + uptoBulkAll spare + 1
  | .agg parts => uptoBulkAll parts + 1
  | .iface _ d => uptoBulk d + 1
  | .map entries => uptoBulkEntries entries + 1
  | .held _ => 1
def uptoBulkAll {H : Type} : List (DataW H) → Nat
  | [] => 0
  | d :: r => uptoBulk d + uptoBulkAll r
def uptoBulkEntries {H : Type} : List (Lit × DataW H) → Nat
  | [] => 0
  | x :: r => uptoBulkEntry x + uptoBulkEntries r
def uptoBulkEntry {H : Type} : Lit × DataW H → Nat
  | (.string bytes, d) => bytes.length + uptoBulk d + 1
  | (_, d) => uptoBulk d + 1
 end
def uptoSmall : (H : Type) → List (DataW H) → Bool := fun _ ds => decide (uptoBulkAll ds ≤ 1048576)
def OpenSpec.upto (s : _root_.Go.ChangeSpec) : _root_.Go.OpenSpec := { _root_.Go.OpenSpec.ofChange s with cond := some uptoSmall }

/-- 'cascadelaw12.WordRuns', WHERE WHAT IT READS IS OF BULK AT MOST 1048576: true; the input reads as it did. -/
def wordRunsUptoRow : OpenClaim := { program := "ytgdojnamjkhknaa", sum := "c3eda9c9f7ed758b68c8b9405c0059ad9b17695b5bd8c48c4d921ad0a0a6a774", func := "cascade/cascadelaw12.WordRuns", spec := "wordRuns", apart := false, narrowed := true }
def WordRunsUptoSaid : Prop := wordRunsUptoRow.holds Try.pinned (OpenSpec.upto wordRunsSpec)

/-- 'cascadelaw12.WordReads', WHERE WHAT IT READS IS OF BULK AT MOST 1048576: true; the input reads as it did. -/
def wordReadsUptoRow : OpenClaim := { program := "ytgdojnamjkhknaa", sum := "c3eda9c9f7ed758b68c8b9405c0059ad9b17695b5bd8c48c4d921ad0a0a6a774", func := "cascade/cascadelaw12.WordReads", spec := "wordReads", apart := false, narrowed := true }
def WordReadsUptoSaid : Prop := wordReadsUptoRow.holds Try.pinned (OpenSpec.upto wordReadsSpec)

/-- 'cascadelaw12.WordOrder', WHERE WHAT IT READS IS OF BULK AT MOST 1048576: true; the input reads as it did. -/
def wordOrderUptoRow : OpenClaim := { program := "ytgdojnamjkhknaa", sum := "c3eda9c9f7ed758b68c8b9405c0059ad9b17695b5bd8c48c4d921ad0a0a6a774", func := "cascade/cascadelaw12.WordOrder", spec := "wordOrder", apart := false, narrowed := true }
def WordOrderUptoSaid : Prop := wordOrderUptoRow.holds Try.pinned (OpenSpec.upto wordOrderSpec)

/-- 'cascadelaw12.WordBack', WHERE WHAT IT READS IS OF BULK AT MOST 1048576: true; the input reads as it did. -/
def wordBackUptoRow : OpenClaim := { program := "ytgdojnamjkhknaa", sum := "c3eda9c9f7ed758b68c8b9405c0059ad9b17695b5bd8c48c4d921ad0a0a6a774", func := "cascade/cascadelaw12.WordBack", spec := "wordBack", unfollowed := true, recurses := true, apart := false, narrowed := true }
def WordBackUptoSaid : Prop := wordBackUptoRow.holds Try.pinned (OpenSpec.upto wordBackSpec)

/-- 'cascadelaw11.DealRuns', WHERE WHAT IT READS IS OF BULK AT MOST 1048576: true; the input reads as it did. -/
def dealRunsUptoRow : OpenClaim := { program := "ytgdojnamjkhknaa", sum := "c3eda9c9f7ed758b68c8b9405c0059ad9b17695b5bd8c48c4d921ad0a0a6a774", func := "cascade/cascadelaw11.DealRuns", spec := "dealRuns", apart := false, narrowed := true }
def DealRunsUptoSaid : Prop := dealRunsUptoRow.holds Try.pinned (OpenSpec.upto dealRunsSpec)

/-- 'cascadelaw11.DealTells', WHERE WHAT IT READS IS OF BULK AT MOST 1048576: true; the input reads as it did. -/
def dealTellsUptoRow : OpenClaim := { program := "ytgdojnamjkhknaa", sum := "c3eda9c9f7ed758b68c8b9405c0059ad9b17695b5bd8c48c4d921ad0a0a6a774", func := "cascade/cascadelaw11.DealTells", spec := "dealTells", apart := false, narrowed := true }
def DealTellsUptoSaid : Prop := dealTellsUptoRow.holds Try.pinned (OpenSpec.upto dealTellsSpec)

/-- 'cascadelaw11.DealSteps', WHERE WHAT IT READS IS OF BULK AT MOST 1048576: true; the input reads as it did. -/
def dealStepsUptoRow : OpenClaim := { program := "ytgdojnamjkhknaa", sum := "c3eda9c9f7ed758b68c8b9405c0059ad9b17695b5bd8c48c4d921ad0a0a6a774", func := "cascade/cascadelaw11.DealSteps", spec := "dealSteps", apart := false, narrowed := true }
def DealStepsUptoSaid : Prop := dealStepsUptoRow.holds Try.pinned (OpenSpec.upto dealStepsSpec)

/-- 'cascadelaw11.DealTurned', WHERE WHAT IT READS IS OF BULK AT MOST 1048576: true; the input reads as it did. -/
def dealTurnedUptoRow : OpenClaim := { program := "ytgdojnamjkhknaa", sum := "c3eda9c9f7ed758b68c8b9405c0059ad9b17695b5bd8c48c4d921ad0a0a6a774", func := "cascade/cascadelaw11.DealTurned", spec := "dealTurned", apart := false, narrowed := true }
def DealTurnedUptoSaid : Prop := dealTurnedUptoRow.holds Try.pinned (OpenSpec.upto dealTurnedSpec)

/-- 'cascadelaw9.PoolRuns', WHERE WHAT IT READS IS OF BULK AT MOST 1048576: true; the input reads as it did. -/
def poolRunsUptoRow : OpenClaim := { program := "ytgdojnamjkhknaa", sum := "c3eda9c9f7ed758b68c8b9405c0059ad9b17695b5bd8c48c4d921ad0a0a6a774", func := "cascade/cascadelaw9.PoolRuns", spec := "poolRuns", unfollowed := true, recurses := true, apart := false, narrowed := true }
def PoolRunsUptoSaid : Prop := poolRunsUptoRow.holds Try.pinned (OpenSpec.upto poolRunsSpec)

/-- 'cascadelaw9.PoolPlays', WHERE WHAT IT READS IS OF BULK AT MOST 1048576: true; the input reads as it did. -/
def poolPlaysUptoRow : OpenClaim := { program := "ytgdojnamjkhknaa", sum := "c3eda9c9f7ed758b68c8b9405c0059ad9b17695b5bd8c48c4d921ad0a0a6a774", func := "cascade/cascadelaw9.PoolPlays", spec := "poolPlays", unfollowed := true, recurses := true, apart := false, narrowed := true }
def PoolPlaysUptoSaid : Prop := poolPlaysUptoRow.holds Try.pinned (OpenSpec.upto poolPlaysSpec)

/-- 'cascadelaw9.PoolOver', WHERE WHAT IT READS IS OF BULK AT MOST 1048576: true; the input reads as it did. -/
def poolOverUptoRow : OpenClaim := { program := "ytgdojnamjkhknaa", sum := "c3eda9c9f7ed758b68c8b9405c0059ad9b17695b5bd8c48c4d921ad0a0a6a774", func := "cascade/cascadelaw9.PoolOver", spec := "poolOver", unfollowed := true, recurses := true, apart := false, narrowed := true }
def PoolOverUptoSaid : Prop := poolOverUptoRow.holds Try.pinned (OpenSpec.upto poolOverSpec)

/-- 'cascadelaw9.PoolKeeps', WHERE WHAT IT READS IS OF BULK AT MOST 1048576: true; the input reads as it did. -/
def poolKeepsUptoRow : OpenClaim := { program := "ytgdojnamjkhknaa", sum := "c3eda9c9f7ed758b68c8b9405c0059ad9b17695b5bd8c48c4d921ad0a0a6a774", func := "cascade/cascadelaw9.PoolKeeps", spec := "poolKeeps", unfollowed := true, recurses := true, apart := false, narrowed := true }
def PoolKeepsUptoSaid : Prop := poolKeepsUptoRow.holds Try.pinned (OpenSpec.upto poolKeepsSpec)

/-- 'cascadelaw14.TapedocRuns', WHERE WHAT IT READS IS OF BULK AT MOST 1048576: true; the input reads as it did. -/
def tapedocRunsUptoRow : OpenClaim := { program := "ytgdojnamjkhknaa", sum := "c3eda9c9f7ed758b68c8b9405c0059ad9b17695b5bd8c48c4d921ad0a0a6a774", func := "cascade/cascadelaw14.TapedocRuns", spec := "tapedocRuns", unfollowed := true, recurses := true, apart := false, narrowed := true }
def TapedocRunsUptoSaid : Prop := tapedocRunsUptoRow.holds Try.pinned (OpenSpec.upto tapedocRunsSpec)

/-- 'cascadelaw14.TapedocBack', WHERE WHAT IT READS IS OF BULK AT MOST 1048576: true; the input reads as it did. -/
def tapedocBackUptoRow : OpenClaim := { program := "ytgdojnamjkhknaa", sum := "c3eda9c9f7ed758b68c8b9405c0059ad9b17695b5bd8c48c4d921ad0a0a6a774", func := "cascade/cascadelaw14.TapedocBack", spec := "tapedocBack", unfollowed := true, recurses := true, apart := false, narrowed := true }
def TapedocBackUptoSaid : Prop := tapedocBackUptoRow.holds Try.pinned (OpenSpec.upto tapedocBackSpec)

/-- 'cascadelaw14.TapedocOnly', WHERE WHAT IT READS IS OF BULK AT MOST 1048576: true; the input reads as it did. -/
def tapedocOnlyUptoRow : OpenClaim := { program := "ytgdojnamjkhknaa", sum := "c3eda9c9f7ed758b68c8b9405c0059ad9b17695b5bd8c48c4d921ad0a0a6a774", func := "cascade/cascadelaw14.TapedocOnly", spec := "tapedocOnly", unfollowed := true, recurses := true, apart := false, narrowed := true }
def TapedocOnlyUptoSaid : Prop := tapedocOnlyUptoRow.holds Try.pinned (OpenSpec.upto tapedocOnlySpec)

/-- 'cascadelaw14.TapedocSize', WHERE WHAT IT READS IS OF BULK AT MOST 1048576: true; the input reads as it did. -/
def tapedocSizeUptoRow : OpenClaim := { program := "ytgdojnamjkhknaa", sum := "c3eda9c9f7ed758b68c8b9405c0059ad9b17695b5bd8c48c4d921ad0a0a6a774", func := "cascade/cascadelaw14.TapedocSize", spec := "tapedocSize", unfollowed := true, recurses := true, apart := false, narrowed := true }
def TapedocSizeUptoSaid : Prop := tapedocSizeUptoRow.holds Try.pinned (OpenSpec.upto tapedocSizeSpec)

/-- 'cascadelaw13.DealdocRuns', WHERE WHAT IT READS IS OF BULK AT MOST 1048576: true; the input reads as it did. -/
def dealdocRunsUptoRow : OpenClaim := { program := "ytgdojnamjkhknaa", sum := "c3eda9c9f7ed758b68c8b9405c0059ad9b17695b5bd8c48c4d921ad0a0a6a774", func := "cascade/cascadelaw13.DealdocRuns", spec := "dealdocRuns", unfollowed := true, recurses := true, apart := false, narrowed := true }
def DealdocRunsUptoSaid : Prop := dealdocRunsUptoRow.holds Try.pinned (OpenSpec.upto dealdocRunsSpec)

/-- 'cascadelaw13.DealdocBack', WHERE WHAT IT READS IS OF BULK AT MOST 1048576: true; the input reads as it did. -/
def dealdocBackUptoRow : OpenClaim := { program := "ytgdojnamjkhknaa", sum := "c3eda9c9f7ed758b68c8b9405c0059ad9b17695b5bd8c48c4d921ad0a0a6a774", func := "cascade/cascadelaw13.DealdocBack", spec := "dealdocBack", unfollowed := true, recurses := true, apart := false, narrowed := true }
def DealdocBackUptoSaid : Prop := dealdocBackUptoRow.holds Try.pinned (OpenSpec.upto dealdocBackSpec)

/-- 'cascadelaw13.DealdocOnly', WHERE WHAT IT READS IS OF BULK AT MOST 1048576: true; the input reads as it did. -/
def dealdocOnlyUptoRow : OpenClaim := { program := "ytgdojnamjkhknaa", sum := "c3eda9c9f7ed758b68c8b9405c0059ad9b17695b5bd8c48c4d921ad0a0a6a774", func := "cascade/cascadelaw13.DealdocOnly", spec := "dealdocOnly", unfollowed := true, recurses := true, apart := false, narrowed := true }
def DealdocOnlyUptoSaid : Prop := dealdocOnlyUptoRow.holds Try.pinned (OpenSpec.upto dealdocOnlySpec)

/-- 'cascadelaw13.DealdocSize', WHERE WHAT IT READS IS OF BULK AT MOST 1048576: true; the input reads as it did. -/
def dealdocSizeUptoRow : OpenClaim := { program := "ytgdojnamjkhknaa", sum := "c3eda9c9f7ed758b68c8b9405c0059ad9b17695b5bd8c48c4d921ad0a0a6a774", func := "cascade/cascadelaw13.DealdocSize", spec := "dealdocSize", unfollowed := true, recurses := true, apart := false, narrowed := true }
def DealdocSizeUptoSaid : Prop := dealdocSizeUptoRow.holds Try.pinned (OpenSpec.upto dealdocSizeSpec)

end Rows
end Go.Proofs.Ytgdojnamjkhknaa
