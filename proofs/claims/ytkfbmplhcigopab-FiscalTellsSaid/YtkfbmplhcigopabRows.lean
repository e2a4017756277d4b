/-
  No cell of these rows narrows 'for every input' (looked for: loops, veiled, ifaces, maps, wideKeys, modest, calm, conditions, laid).
  DERIVED. THE GIVEN ROWS OF THIS SEAT. 5 by the template 'for every input the law returns true; each argument reads behind the call as it read before'; 0 by the template 'total and deterministic' (their statements: YtkfbmplhcigopabTotals.lean).
  GIVEN WITH THE SEED: the statements are not yours to turn. If you find one false, say at which input.
  Laid BY PROGRAM, IN A SANDBOX (cutbox-rows.mjs): the forced cells as the released guide's own fill.sh prints them over the translation 341a3e7ac2cf9832… (all of the seat's roots in one cut). By AI agents, Wed Nov 11 2026. No macro, syntax, notation, axiom, sorry.
-/
import Derived.Test.YtkfbmplhcigopabChecked
import GoSem.Claim
import GoSem.ClaimJoined
import GoSem.ClaimMapViews
import Derived.JoinedTies
import Derived.KernelRfl
namespace Go.Proofs.Ytkfbmplhcigopab
/- THE CELL 'sum', in the pinned program and in every row, IS THE sha256 OF THE DUMP (.gsa) THAT YtkfbmplhcigopabProg.lean LOADS. Nothing in Lean hashes anything: it is a label: what it is worth is what the hold of that sum in a sandbox is worth. -/
noncomputable def Try.pinned : Pinned := { name := "ytkfbmplhcigopab", sum := "341a3e7ac2cf983239200e04bceb13b41c1f0e6ef0d7291293b7b6727fe1bc79", checked := Try.checked }
namespace Rows
def none {H : Type} : Left H := { results := [], args := [] }

/-- 'quitrentlaw08.CodecBack': WHATEVER THE INPUT: true; the input reads as it did. -/
def codecBackSpec : ChangeSpec := { name := "codecBack", fn := fun _ => fun
  | [d1, d2, d3, d4] => { results := [.lit (.bool true)], args := [d1, d2, d3, d4] }
  | _ => none }
def codecBackRow : OpenClaim := { program := "ytkfbmplhcigopab", sum := "341a3e7ac2cf983239200e04bceb13b41c1f0e6ef0d7291293b7b6727fe1bc79", func := "quitrent/quitrentlaw08.CodecBack", spec := "codecBack", apart := false }
def CodecBackSaid : Prop := codecBackRow.holds Try.pinned (OpenSpec.ofChange codecBackSpec)

/-- ITS FALSE NEIGHBOUR: 'it returns false'. Refute it at one input. -/
def codecBackWrong : ChangeSpec := { name := "codecBack", fn := fun _ => fun
  | [d1, d2, d3, d4] => { results := [.lit (.bool false)], args := [d1, d2, d3, d4] }
  | _ => none }
def CodecBackWrongFalsely : Prop := codecBackRow.holds Try.pinned (OpenSpec.ofChange codecBackWrong)

/-- 'quitrentlaw08.CodecShort': WHATEVER THE INPUT: true; the input reads as it did. -/
def codecShortSpec : ChangeSpec := { name := "codecShort", fn := fun _ => fun
  | [d1, d2] => { results := [.lit (.bool true)], args := [d1, d2] }
  | _ => none }
def codecShortRow : OpenClaim := { program := "ytkfbmplhcigopab", sum := "341a3e7ac2cf983239200e04bceb13b41c1f0e6ef0d7291293b7b6727fe1bc79", func := "quitrent/quitrentlaw08.CodecShort", spec := "codecShort", apart := false }
def CodecShortSaid : Prop := codecShortRow.holds Try.pinned (OpenSpec.ofChange codecShortSpec)

/-- ITS FALSE NEIGHBOUR: 'it returns false'. Refute it at one input. -/
def codecShortWrong : ChangeSpec := { name := "codecShort", fn := fun _ => fun
  | [d1, d2] => { results := [.lit (.bool false)], args := [d1, d2] }
  | _ => none }
def CodecShortWrongFalsely : Prop := codecShortRow.holds Try.pinned (OpenSpec.ofChange codecShortWrong)

/-- 'quitrentlaw04.FiscalTells': WHATEVER THE INPUT: true; the input reads as it did. -/
def fiscalTellsSpec : ChangeSpec := { name := "fiscalTells", fn := fun _ => fun
  | [d1, d2, d3] => { results := [.lit (.bool true)], args := [d1, d2, d3] }
  | _ => none }
def fiscalTellsRow : OpenClaim := { program := "ytkfbmplhcigopab", sum := "341a3e7ac2cf983239200e04bceb13b41c1f0e6ef0d7291293b7b6727fe1bc79", func := "quitrent/quitrentlaw04.FiscalTells", spec := "fiscalTells", apart := false }
def FiscalTellsSaid : Prop := fiscalTellsRow.holds Try.pinned (OpenSpec.ofChange fiscalTellsSpec)

/-- ITS FALSE NEIGHBOUR: 'it returns false'. Refute it at one input. -/
def fiscalTellsWrong : ChangeSpec := { name := "fiscalTells", fn := fun _ => fun
  | [d1, d2, d3] => { results := [.lit (.bool false)], args := [d1, d2, d3] }
  | _ => none }
def FiscalTellsWrongFalsely : Prop := fiscalTellsRow.holds Try.pinned (OpenSpec.ofChange fiscalTellsWrong)

/-- 'quitrentlaw04.FiscalNext': WHATEVER THE INPUT: true; the input reads as it did. -/
def fiscalNextSpec : ChangeSpec := { name := "fiscalNext", fn := fun _ => fun
  | [d1, d2, d3] => { results := [.lit (.bool true)], args := [d1, d2, d3] }
  | _ => none }
def fiscalNextRow : OpenClaim := { program := "ytkfbmplhcigopab", sum := "341a3e7ac2cf983239200e04bceb13b41c1f0e6ef0d7291293b7b6727fe1bc79", func := "quitrent/quitrentlaw04.FiscalNext", spec := "fiscalNext", apart := false }
def FiscalNextSaid : Prop := fiscalNextRow.holds Try.pinned (OpenSpec.ofChange fiscalNextSpec)

/-- ITS FALSE NEIGHBOUR: 'it returns false'. Refute it at one input. -/
def fiscalNextWrong : ChangeSpec := { name := "fiscalNext", fn := fun _ => fun
  | [d1, d2, d3] => { results := [.lit (.bool false)], args := [d1, d2, d3] }
  | _ => none }
def FiscalNextWrongFalsely : Prop := fiscalNextRow.holds Try.pinned (OpenSpec.ofChange fiscalNextWrong)

/-- 'quitrentlaw04.FiscalKinds': WHATEVER THE INPUT: true; the input reads as it did. -/
def fiscalKindsSpec : ChangeSpec := { name := "fiscalKinds", fn := fun _ => fun
  | [d1, d2] => { results := [.lit (.bool true)], args := [d1, d2] }
  | _ => none }
def fiscalKindsRow : OpenClaim := { program := "ytkfbmplhcigopab", sum := "341a3e7ac2cf983239200e04bceb13b41c1f0e6ef0d7291293b7b6727fe1bc79", func := "quitrent/quitrentlaw04.FiscalKinds", spec := "fiscalKinds", apart := false }
def FiscalKindsSaid : Prop := fiscalKindsRow.holds Try.pinned (OpenSpec.ofChange fiscalKindsSpec)

/-- ITS FALSE NEIGHBOUR: 'it returns false'. Refute it at one input. -/
def fiscalKindsWrong : ChangeSpec := { name := "fiscalKinds", fn := fun _ => fun
  | [d1, d2] => { results := [.lit (.bool false)], args := [d1, d2] }
  | _ => none }
def FiscalKindsWrongFalsely : Prop := fiscalKindsRow.holds Try.pinned (OpenSpec.ofChange fiscalKindsWrong)

/- THE SECOND FORM. 'bulk': how many values and letters a reading holds, each counted each time it is reached (what is shared counts as often as it is met; a slice's spare places count too). A statement '..UptoSaid' is the law's where the arguments, and the package variables that the reading takes, are together of bulk at most 1048576: NARROWER than '..Said'. Prove '..Said' where nothing that the law and all that it calls make is longer than what came in: it says more and counts as full. Else prove '..UptoSaid'. A law counts once. -/
mutual
def uptoBulk {H : Type} : DataW H → Nat
  | .lit (.string bytes) => bytes.length + 1
  | .lit _ => 1
  | .nil => 1
  | .ptr d => uptoBulk d + 1
  | .slice elems spare => uptoBulkAll elems + uptoBulkAll spare + 1
  | .agg parts => uptoBulkAll parts + 1
  | .iface _ d => uptoBulk d + 1
  | .map entries => uptoBulkEntries entries + 1
  | .held _ => 1
def uptoBulkAll {H : Type} : List (DataW H) → Nat
  | [] => 0
  | d :: r => uptoBulk d + uptoBulkAll r
def uptoBulkEntries {H : Type} : List (Lit × DataW H) → Nat
  | [] => 0
  | x :: r => uptoBulkEntry x + uptoBulkEntries r
def uptoBulkEntry {H : Type} : Lit × DataW H → Nat
  | (.string bytes, d) => bytes.length + uptoBulk d + 1
  | (_, d) => uptoBulk d + 1
 end
def uptoSmall : (H : Type) → List (DataW H) → Bool := fun _ ds => decide (uptoBulkAll ds ≤ 1048576)
def OpenSpec.upto (s : _root_.Go.ChangeSpec) : _root_.Go.OpenSpec := { _root_.Go.OpenSpec.ofChange s with cond := some uptoSmall }

/-- 'quitrentlaw08.CodecBack', WHERE WHAT IT READS IS OF BULK AT MOST 1048576: true; the input reads as it did. -/
def codecBackUptoRow : OpenClaim := { program := "ytkfbmplhcigopab", sum := "341a3e7ac2cf983239200e04bceb13b41c1f0e6ef0d7291293b7b6727fe1bc79", func := "quitrent/quitrentlaw08.CodecBack", spec := "codecBack", apart := false, narrowed := true }
def CodecBackUptoSaid : Prop := codecBackUptoRow.holds Try.pinned (OpenSpec.upto codecBackSpec)

/-- 'quitrentlaw08.CodecShort', WHERE WHAT IT READS IS OF BULK AT MOST 1048576: true; the input reads as it did. -/
def codecShortUptoRow : OpenClaim := { program := "ytkfbmplhcigopab", sum := "341a3e7ac2cf983239200e04bceb13b41c1f0e6ef0d7291293b7b6727fe1bc79", func := "quitrent/quitrentlaw08.CodecShort", spec := "codecShort", apart := false, narrowed := true }
def CodecShortUptoSaid : Prop := codecShortUptoRow.holds Try.pinned (OpenSpec.upto codecShortSpec)

/-- 'quitrentlaw04.FiscalTells', WHERE WHAT IT READS IS OF BULK AT MOST 1048576: true; the input reads as it did. -/
def fiscalTellsUptoRow : OpenClaim := { program := "ytkfbmplhcigopab", sum := "341a3e7ac2cf983239200e04bceb13b41c1f0e6ef0d7291293b7b6727fe1bc79", func := "quitrent/quitrentlaw04.FiscalTells", spec := "fiscalTells", apart := false, narrowed := true }
def FiscalTellsUptoSaid : Prop := fiscalTellsUptoRow.holds Try.pinned (OpenSpec.upto fiscalTellsSpec)

/-- 'quitrentlaw04.FiscalNext', WHERE WHAT IT READS IS OF BULK AT MOST 1048576: true; the input reads as it did. -/
def fiscalNextUptoRow : OpenClaim := { program := "ytkfbmplhcigopab", sum := "341a3e7ac2cf983239200e04bceb13b41c1f0e6ef0d7291293b7b6727fe1bc79", func := "quitrent/quitrentlaw04.FiscalNext", spec := "fiscalNext", apart := false, narrowed := true }
def FiscalNextUptoSaid : Prop := fiscalNextUptoRow.holds Try.pinned (OpenSpec.upto fiscalNextSpec)

/-- 'quitrentlaw04.FiscalKinds', WHERE WHAT IT READS IS OF BULK AT MOST 1048576: true; the input reads as it did. -/
def fiscalKindsUptoRow : OpenClaim := { program := "ytkfbmplhcigopab", sum := "341a3e7ac2cf983239200e04bceb13b41c1f0e6ef0d7291293b7b6727fe1bc79", func := "quitrent/quitrentlaw04.FiscalKinds", spec := "fiscalKinds", apart := false, narrowed := true }
def FiscalKindsUptoSaid : Prop := fiscalKindsUptoRow.holds Try.pinned (OpenSpec.upto fiscalKindsSpec)

end Rows
end Go.Proofs.Ytkfbmplhcigopab
