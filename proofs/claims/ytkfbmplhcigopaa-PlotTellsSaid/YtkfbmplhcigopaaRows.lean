/-
  No cell of these rows narrows 'for every input' (looked for: loops, veiled, ifaces, maps, wideKeys, modest, calm, conditions, laid).
  DERIVED. THE GIVEN ROWS OF THIS SEAT. 11 by the template 'for every input the law returns true; each argument reads behind the call as it read before'; 0 by the template 'total and deterministic' (their statements: YtkfbmplhcigopaaTotals.lean).
  GIVEN WITH THE SEED: the statements are not yours to turn. If you find one false, say at which input.
  Laid BY PROGRAM, IN A SANDBOX (cutbox-rows.mjs): the forced cells as the released guide's own fill.sh prints them over the translation 5d800833fc355124… (all of the seat's roots in one cut). By AI agents, Wed Nov 11 2026. No macro, syntax, notation, axiom, sorry.
-/
import Derived.Test.YtkfbmplhcigopaaChecked
import GoSem.Claim
import GoSem.ClaimJoined
import GoSem.ClaimMapViews
import Derived.JoinedTies
import Derived.KernelRfl
namespace Go.Proofs.Ytkfbmplhcigopaa
/- THE CELL 'sum', in the pinned program and in every row, IS THE sha256 OF THE DUMP (.gsa) THAT YtkfbmplhcigopaaProg.lean LOADS. Nothing in Lean hashes anything: it is a label: what it is worth is what the hold of that sum in a sandbox is worth. -/
noncomputable def Try.pinned : Pinned := { name := "ytkfbmplhcigopaa", sum := "5d800833fc355124b51143e1b7550bffbac9f2ba3af7bc3de5722844fe6c0be0", checked := Try.checked }
namespace Rows
def none {H : Type} : Left H := { results := [], args := [] }

/-- 'quitrentlaw03.CivilTells': WHATEVER THE INPUT: true; the input reads as it did. -/
def civilTellsSpec : ChangeSpec := { name := "civilTells", fn := fun _ => fun
  | [d1, d2, d3, d4] => { results := [.lit (.bool true)], args := [d1, d2, d3, d4] }
  | _ => none }
def civilTellsRow : OpenClaim := { program := "ytkfbmplhcigopaa", sum := "5d800833fc355124b51143e1b7550bffbac9f2ba3af7bc3de5722844fe6c0be0", func := "quitrent/quitrentlaw03.CivilTells", spec := "civilTells", apart := false }
def CivilTellsSaid : Prop := civilTellsRow.holds Try.pinned (OpenSpec.ofChange civilTellsSpec)

/-- ITS FALSE NEIGHBOUR: 'it returns false'. Refute it at one input. -/
def civilTellsWrong : ChangeSpec := { name := "civilTells", fn := fun _ => fun
  | [d1, d2, d3, d4] => { results := [.lit (.bool false)], args := [d1, d2, d3, d4] }
  | _ => none }
def CivilTellsWrongFalsely : Prop := civilTellsRow.holds Try.pinned (OpenSpec.ofChange civilTellsWrong)

/-- 'quitrentlaw03.CivilMoves': WHATEVER THE INPUT: true; the input reads as it did. -/
def civilMovesSpec : ChangeSpec := { name := "civilMoves", fn := fun _ => fun
  | [d1, d2] => { results := [.lit (.bool true)], args := [d1, d2] }
  | _ => none }
def civilMovesRow : OpenClaim := { program := "ytkfbmplhcigopaa", sum := "5d800833fc355124b51143e1b7550bffbac9f2ba3af7bc3de5722844fe6c0be0", func := "quitrent/quitrentlaw03.CivilMoves", spec := "civilMoves", apart := false }
def CivilMovesSaid : Prop := civilMovesRow.holds Try.pinned (OpenSpec.ofChange civilMovesSpec)

/-- ITS FALSE NEIGHBOUR: 'it returns false'. Refute it at one input. -/
def civilMovesWrong : ChangeSpec := { name := "civilMoves", fn := fun _ => fun
  | [d1, d2] => { results := [.lit (.bool false)], args := [d1, d2] }
  | _ => none }
def CivilMovesWrongFalsely : Prop := civilMovesRow.holds Try.pinned (OpenSpec.ofChange civilMovesWrong)

/-- 'quitrentlaw03.CivilBack': WHATEVER THE INPUT: true; the input reads as it did. -/
def civilBackSpec : ChangeSpec := { name := "civilBack", fn := fun _ => fun
  | [d1, d2, d3, d4] => { results := [.lit (.bool true)], args := [d1, d2, d3, d4] }
  | _ => none }
def civilBackRow : OpenClaim := { program := "ytkfbmplhcigopaa", sum := "5d800833fc355124b51143e1b7550bffbac9f2ba3af7bc3de5722844fe6c0be0", func := "quitrent/quitrentlaw03.CivilBack", spec := "civilBack", apart := false }
def CivilBackSaid : Prop := civilBackRow.holds Try.pinned (OpenSpec.ofChange civilBackSpec)

/-- ITS FALSE NEIGHBOUR: 'it returns false'. Refute it at one input. -/
def civilBackWrong : ChangeSpec := { name := "civilBack", fn := fun _ => fun
  | [d1, d2, d3, d4] => { results := [.lit (.bool false)], args := [d1, d2, d3, d4] }
  | _ => none }
def CivilBackWrongFalsely : Prop := civilBackRow.holds Try.pinned (OpenSpec.ofChange civilBackWrong)

/-- 'quitrentlaw03.CivilAgain': WHATEVER THE INPUT: true; the input reads as it did. -/
def civilAgainSpec : ChangeSpec := { name := "civilAgain", fn := fun _ => fun
  | [d1, d2, d3] => { results := [.lit (.bool true)], args := [d1, d2, d3] }
  | _ => none }
def civilAgainRow : OpenClaim := { program := "ytkfbmplhcigopaa", sum := "5d800833fc355124b51143e1b7550bffbac9f2ba3af7bc3de5722844fe6c0be0", func := "quitrent/quitrentlaw03.CivilAgain", spec := "civilAgain", apart := false }
def CivilAgainSaid : Prop := civilAgainRow.holds Try.pinned (OpenSpec.ofChange civilAgainSpec)

/-- ITS FALSE NEIGHBOUR: 'it returns false'. Refute it at one input. -/
def civilAgainWrong : ChangeSpec := { name := "civilAgain", fn := fun _ => fun
  | [d1, d2, d3] => { results := [.lit (.bool false)], args := [d1, d2, d3] }
  | _ => none }
def CivilAgainWrongFalsely : Prop := civilAgainRow.holds Try.pinned (OpenSpec.ofChange civilAgainWrong)

/-- 'quitrentlaw03.CivilSteps': WHATEVER THE INPUT: true; the input reads as it did. -/
def civilStepsSpec : ChangeSpec := { name := "civilSteps", fn := fun _ => fun
  | [d1, d2, d3] => { results := [.lit (.bool true)], args := [d1, d2, d3] }
  | _ => none }
def civilStepsRow : OpenClaim := { program := "ytkfbmplhcigopaa", sum := "5d800833fc355124b51143e1b7550bffbac9f2ba3af7bc3de5722844fe6c0be0", func := "quitrent/quitrentlaw03.CivilSteps", spec := "civilSteps", apart := false }
def CivilStepsSaid : Prop := civilStepsRow.holds Try.pinned (OpenSpec.ofChange civilStepsSpec)

/-- ITS FALSE NEIGHBOUR: 'it returns false'. Refute it at one input. -/
def civilStepsWrong : ChangeSpec := { name := "civilSteps", fn := fun _ => fun
  | [d1, d2, d3] => { results := [.lit (.bool false)], args := [d1, d2, d3] }
  | _ => none }
def CivilStepsWrongFalsely : Prop := civilStepsRow.holds Try.pinned (OpenSpec.ofChange civilStepsWrong)

/-- 'quitrentlaw21.PlotTells': WHATEVER THE INPUT: true; the input reads as it did. -/
def plotTellsSpec : ChangeSpec := { name := "plotTells", fn := fun _ => fun
  | [d1, d2, d3] => { results := [.lit (.bool true)], args := [d1, d2, d3] }
  | _ => none }
def plotTellsRow : OpenClaim := { program := "ytkfbmplhcigopaa", sum := "5d800833fc355124b51143e1b7550bffbac9f2ba3af7bc3de5722844fe6c0be0", func := "quitrent/quitrentlaw21.PlotTells", spec := "plotTells", unfollowed := true, recurses := true, apart := false }
def PlotTellsSaid : Prop := plotTellsRow.holds Try.pinned (OpenSpec.ofChange plotTellsSpec)

/-- ITS FALSE NEIGHBOUR: 'it returns false'. Refute it at one input. -/
def plotTellsWrong : ChangeSpec := { name := "plotTells", fn := fun _ => fun
  | [d1, d2, d3] => { results := [.lit (.bool false)], args := [d1, d2, d3] }
  | _ => none }
def PlotTellsWrongFalsely : Prop := plotTellsRow.holds Try.pinned (OpenSpec.ofChange plotTellsWrong)

/-- 'quitrentlaw21.PlotTurns': WHATEVER THE INPUT: true; the input reads as it did. -/
def plotTurnsSpec : ChangeSpec := { name := "plotTurns", fn := fun _ => fun
  | [d1, d2] => { results := [.lit (.bool true)], args := [d1, d2] }
  | _ => none }
def plotTurnsRow : OpenClaim := { program := "ytkfbmplhcigopaa", sum := "5d800833fc355124b51143e1b7550bffbac9f2ba3af7bc3de5722844fe6c0be0", func := "quitrent/quitrentlaw21.PlotTurns", spec := "plotTurns", unfollowed := true, recurses := true, apart := false }
def PlotTurnsSaid : Prop := plotTurnsRow.holds Try.pinned (OpenSpec.ofChange plotTurnsSpec)

/-- ITS FALSE NEIGHBOUR: 'it returns false'. Refute it at one input. -/
def plotTurnsWrong : ChangeSpec := { name := "plotTurns", fn := fun _ => fun
  | [d1, d2] => { results := [.lit (.bool false)], args := [d1, d2] }
  | _ => none }
def PlotTurnsWrongFalsely : Prop := plotTurnsRow.holds Try.pinned (OpenSpec.ofChange plotTurnsWrong)

/-- 'quitrentlaw21.PlotTimes': WHATEVER THE INPUT: true; the input reads as it did. -/
def plotTimesSpec : ChangeSpec := { name := "plotTimes", fn := fun _ => fun
  | [d1, d2, d3] => { results := [.lit (.bool true)], args := [d1, d2, d3] }
  | _ => none }
def plotTimesRow : OpenClaim := { program := "ytkfbmplhcigopaa", sum := "5d800833fc355124b51143e1b7550bffbac9f2ba3af7bc3de5722844fe6c0be0", func := "quitrent/quitrentlaw21.PlotTimes", spec := "plotTimes", unfollowed := true, recurses := true, apart := false }
def PlotTimesSaid : Prop := plotTimesRow.holds Try.pinned (OpenSpec.ofChange plotTimesSpec)

/-- ITS FALSE NEIGHBOUR: 'it returns false'. Refute it at one input. -/
def plotTimesWrong : ChangeSpec := { name := "plotTimes", fn := fun _ => fun
  | [d1, d2, d3] => { results := [.lit (.bool false)], args := [d1, d2, d3] }
  | _ => none }
def PlotTimesWrongFalsely : Prop := plotTimesRow.holds Try.pinned (OpenSpec.ofChange plotTimesWrong)

/-- 'quitrentlaw21.PlotStairs': WHATEVER THE INPUT: true; the input reads as it did. -/
def plotStairsSpec : ChangeSpec := { name := "plotStairs", fn := fun _ => fun
  | [d] => { results := [.lit (.bool true)], args := [d] }
  | _ => none }
def plotStairsRow : OpenClaim := { program := "ytkfbmplhcigopaa", sum := "5d800833fc355124b51143e1b7550bffbac9f2ba3af7bc3de5722844fe6c0be0", func := "quitrent/quitrentlaw21.PlotStairs", spec := "plotStairs", unfollowed := true, recurses := true, apart := false }
def PlotStairsSaid : Prop := plotStairsRow.holds Try.pinned (OpenSpec.ofChange plotStairsSpec)

/-- ITS FALSE NEIGHBOUR: 'it returns false'. Refute it at one input. -/
def plotStairsWrong : ChangeSpec := { name := "plotStairs", fn := fun _ => fun
  | [d] => { results := [.lit (.bool false)], args := [d] }
  | _ => none }
def PlotStairsWrongFalsely : Prop := plotStairsRow.holds Try.pinned (OpenSpec.ofChange plotStairsWrong)

/-- 'quitrentlaw08.CodecTells': WHATEVER THE INPUT: true; the input reads as it did. -/
def codecTellsSpec : ChangeSpec := { name := "codecTells", fn := fun _ => fun
  | [d1, d2, d3] => { results := [.lit (.bool true)], args := [d1, d2, d3] }
  | _ => none }
def codecTellsRow : OpenClaim := { program := "ytkfbmplhcigopaa", sum := "5d800833fc355124b51143e1b7550bffbac9f2ba3af7bc3de5722844fe6c0be0", func := "quitrent/quitrentlaw08.CodecTells", spec := "codecTells", apart := false }
def CodecTellsSaid : Prop := codecTellsRow.holds Try.pinned (OpenSpec.ofChange codecTellsSpec)

/-- ITS FALSE NEIGHBOUR: 'it returns false'. Refute it at one input. -/
def codecTellsWrong : ChangeSpec := { name := "codecTells", fn := fun _ => fun
  | [d1, d2, d3] => { results := [.lit (.bool false)], args := [d1, d2, d3] }
  | _ => none }
def CodecTellsWrongFalsely : Prop := codecTellsRow.holds Try.pinned (OpenSpec.ofChange codecTellsWrong)

/-- 'quitrentlaw08.CodecLists': WHATEVER THE INPUT: true; the input reads as it did. -/
def codecListsSpec : ChangeSpec := { name := "codecLists", fn := fun _ => fun
  | [d1, d2] => { results := [.lit (.bool true)], args := [d1, d2] }
  | _ => none }
def codecListsRow : OpenClaim := { program := "ytkfbmplhcigopaa", sum := "5d800833fc355124b51143e1b7550bffbac9f2ba3af7bc3de5722844fe6c0be0", func := "quitrent/quitrentlaw08.CodecLists", spec := "codecLists", apart := false }
def CodecListsSaid : Prop := codecListsRow.holds Try.pinned (OpenSpec.ofChange codecListsSpec)

/-- ITS FALSE NEIGHBOUR: 'it returns false'. Refute it at one input. -/
def codecListsWrong : ChangeSpec := { name := "codecLists", fn := fun _ => fun
  | [d1, d2] => { results := [.lit (.bool false)], args := [d1, d2] }
  | _ => none }
def CodecListsWrongFalsely : Prop := codecListsRow.holds Try.pinned (OpenSpec.ofChange codecListsWrong)

/- THE SECOND FORM. 'bulk': how many values and letters a reading holds, each counted each time it is reached (what is shared counts as often as it is met; a slice's spare places count too). A statement '..UptoSaid' is the law's where the arguments, and the package variables that the reading takes, are together of bulk at most 1048576: NARROWER than '..Said'. Prove '..Said' where nothing that the law and all that it calls make is longer than what came in: it says more and counts as full. Else prove '..UptoSaid'. A law counts once. -/
mutual
def uptoBulk {H : Type} : DataW H → Nat
  | .lit (.string bytes) => bytes.length + 1
  | .lit _ => 1
  | .nil => 1
  | .ptr d => uptoBulk d + 1
  | .slice elems spare => uptoBulkAll elems + uptoBulkAll spare + 1
  | .agg parts => uptoBulkAll parts + 1
  | .iface _ d => uptoBulk d + 1
  | .map entries => uptoBulkEntries entries + 1
  | .held _ => 1
def uptoBulkAll {H : Type} : List (DataW H) → Nat
  | [] => 0
  | d :: r => uptoBulk d + uptoBulkAll r
def uptoBulkEntries {H : Type} : List (Lit × DataW H) → Nat
  | [] => 0
  | x :: r => uptoBulkEntry x + uptoBulkEntries r
def uptoBulkEntry {H : Type} : Lit × DataW H → Nat
  | (.string bytes, d) => bytes.length + uptoBulk d + 1
  | (_, d) => uptoBulk d + 1
 end
def uptoSmall : (H : Type) → List (DataW H) → Bool := fun _ ds => decide (uptoBulkAll ds ≤ 1048576)
def OpenSpec.upto (s : _root_.Go.ChangeSpec) : _root_.Go.OpenSpec := { _root_.Go.OpenSpec.ofChange s with cond := some uptoSmall }

/-- 'quitrentlaw03.CivilTells', WHERE WHAT IT READS IS OF BULK AT MOST 1048576: true; the input reads as it did. -/
def civilTellsUptoRow : OpenClaim := { program := "ytkfbmplhcigopaa", sum := "5d800833fc355124b51143e1b7550bffbac9f2ba3af7bc3de5722844fe6c0be0", func := "quitrent/quitrentlaw03.CivilTells", spec := "civilTells", apart := false, narrowed := true }
def CivilTellsUptoSaid : Prop := civilTellsUptoRow.holds Try.pinned (OpenSpec.upto civilTellsSpec)

/-- 'quitrentlaw03.CivilMoves', WHERE WHAT IT READS IS OF BULK AT MOST 1048576: true; the input reads as it did. -/
def civilMovesUptoRow : OpenClaim := { program := "ytkfbmplhcigopaa", sum := "5d800833fc355124b51143e1b7550bffbac9f2ba3af7bc3de5722844fe6c0be0", func := "quitrent/quitrentlaw03.CivilMoves", spec := "civilMoves", apart := false, narrowed := true }
def CivilMovesUptoSaid : Prop := civilMovesUptoRow.holds Try.pinned (OpenSpec.upto civilMovesSpec)

/-- 'quitrentlaw03.CivilBack', WHERE WHAT IT READS IS OF BULK AT MOST 1048576: true; the input reads as it did. -/
def civilBackUptoRow : OpenClaim := { program := "ytkfbmplhcigopaa", sum := "5d800833fc355124b51143e1b7550bffbac9f2ba3af7bc3de5722844fe6c0be0", func := "quitrent/quitrentlaw03.CivilBack", spec := "civilBack", apart := false, narrowed := true }
def CivilBackUptoSaid : Prop := civilBackUptoRow.holds Try.pinned (OpenSpec.upto civilBackSpec)

/-- 'quitrentlaw03.CivilAgain', WHERE WHAT IT READS IS OF BULK AT MOST 1048576: true; the input reads as it did. -/
def civilAgainUptoRow : OpenClaim := { program := "ytkfbmplhcigopaa", sum := "5d800833fc355124b51143e1b7550bffbac9f2ba3af7bc3de5722844fe6c0be0", func := "quitrent/quitrentlaw03.CivilAgain", spec := "civilAgain", apart := false, narrowed := true }
def CivilAgainUptoSaid : Prop := civilAgainUptoRow.holds Try.pinned (OpenSpec.upto civilAgainSpec)

/-- 'quitrentlaw03.CivilSteps', WHERE WHAT IT READS IS OF BULK AT MOST 1048576: true; the input reads as it did. -/
def civilStepsUptoRow : OpenClaim := { program := "ytkfbmplhcigopaa", sum := "5d800833fc355124b51143e1b7550bffbac9f2ba3af7bc3de5722844fe6c0be0", func := "quitrent/quitrentlaw03.CivilSteps", spec := "civilSteps", apart := false, narrowed := true }
def CivilStepsUptoSaid : Prop := civilStepsUptoRow.holds Try.pinned (OpenSpec.upto civilStepsSpec)

/-- 'quitrentlaw21.PlotTells', WHERE WHAT IT READS IS OF BULK AT MOST 1048576: true; the input reads as it did. -/
def plotTellsUptoRow : OpenClaim := { program := "ytkfbmplhcigopaa", sum := "5d800833fc355124b51143e1b7550bffbac9f2ba3af7bc3de5722844fe6c0be0", func := "quitrent/quitrentlaw21.PlotTells", spec := "plotTells", unfollowed := true, recurses := true, apart := false, narrowed := true }
def PlotTellsUptoSaid : Prop := plotTellsUptoRow.holds Try.pinned (OpenSpec.upto plotTellsSpec)

/-- 'quitrentlaw21.PlotTurns', WHERE WHAT IT READS IS OF BULK AT MOST 1048576: true; the input reads as it did. -/
def plotTurnsUptoRow : OpenClaim := { program := "ytkfbmplhcigopaa", sum := "5d800833fc355124b51143e1b7550bffbac9f2ba3af7bc3de5722844fe6c0be0", func := "quitrent/quitrentlaw21.PlotTurns", spec := "plotTurns", unfollowed := true, recurses := true, apart := false, narrowed := true }
def PlotTurnsUptoSaid : Prop := plotTurnsUptoRow.holds Try.pinned (OpenSpec.upto plotTurnsSpec)

/-- 'quitrentlaw21.PlotTimes', WHERE WHAT IT READS IS OF BULK AT MOST 1048576: true; the input reads as it did. -/
def plotTimesUptoRow : OpenClaim := { program := "ytkfbmplhcigopaa", sum := "5d800833fc355124b51143e1b7550bffbac9f2ba3af7bc3de5722844fe6c0be0", func := "quitrent/quitrentlaw21.PlotTimes", spec := "plotTimes", unfollowed := true, recurses := true, apart := false, narrowed := true }
def PlotTimesUptoSaid : Prop := plotTimesUptoRow.holds Try.pinned (OpenSpec.upto plotTimesSpec)

/-- 'quitrentlaw21.PlotStairs', WHERE WHAT IT READS IS OF BULK AT MOST 1048576: true; the input reads as it did. -/
def plotStairsUptoRow : OpenClaim := { program := "ytkfbmplhcigopaa", sum := "5d800833fc355124b51143e1b7550bffbac9f2ba3af7bc3de5722844fe6c0be0", func := "quitrent/quitrentlaw21.PlotStairs", spec := "plotStairs", unfollowed := true, recurses := true, apart := false, narrowed := true }
def PlotStairsUptoSaid : Prop := plotStairsUptoRow.holds Try.pinned (OpenSpec.upto plotStairsSpec)

/-- 'quitrentlaw08.CodecTells', WHERE WHAT IT READS IS OF BULK AT MOST 1048576: true; the input reads as it did. -/
def codecTellsUptoRow : OpenClaim := { program := "ytkfbmplhcigopaa", sum := "5d800833fc355124b51143e1b7550bffbac9f2ba3af7bc3de5722844fe6c0be0", func := "quitrent/quitrentlaw08.CodecTells", spec := "codecTells", apart := false, narrowed := true }
def CodecTellsUptoSaid : Prop := codecTellsUptoRow.holds Try.pinned (OpenSpec.upto codecTellsSpec)

/-- 'quitrentlaw08.CodecLists', WHERE WHAT IT READS IS OF BULK AT MOST 1048576: true; the input reads as it did. -/
def codecListsUptoRow : OpenClaim := { program := "ytkfbmplhcigopaa", sum := "5d800833fc355124b51143e1b7550bffbac9f2ba3af7bc3de5722844fe6c0be0", func := "quitrent/quitrentlaw08.CodecLists", spec := "codecLists", apart := false, narrowed := true }
def CodecListsUptoSaid : Prop := codecListsUptoRow.holds Try.pinned (OpenSpec.upto codecListsSpec)

end Rows
end Go.Proofs.Ytkfbmplhcigopaa
