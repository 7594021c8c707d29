/-
  No cell of these rows narrows 'for every input' (looked for: loops, veiled, ifaces, maps, wideKeys, modest, calm, conditions, laid).
  DERIVED. THE GIVEN ROWS OF THIS SEAT. 5 by the template 'for every input the law returns true; each argument reads behind the call as it read before'; 0 by the template 'total and deterministic' (their statements: YtialmkppgbplpaaTotals.lean).
  GIVEN WITH THE SEED: the statements are not yours to turn. If you find one false, say at which input.
  Laid BY PROGRAM, IN A SANDBOX (cutbox-rows.mjs): the forced cells as the released guide's own fill.sh prints them over the translation 1958b495a6812fbf… (all of the seat's roots in one cut). By AI agents, Wed Nov 11 2026. No macro, syntax, notation, axiom, sorry.
-/
import Derived.Test.YtialmkppgbplpaaChecked
import GoSem.Claim
import GoSem.ClaimJoined
import GoSem.ClaimMapViews
import Derived.JoinedTies
import Derived.KernelRfl
namespace Go.Proofs.Ytialmkppgbplpaa
/- THE CELL 'sum', in the pinned program and in every row, IS THE sha256 OF THE DUMP (.gsa) THAT YtialmkppgbplpaaProg.lean LOADS. Nothing in Lean hashes anything: it is a label: what it is worth is what the hold of that sum in a sandbox is worth. -/
noncomputable def Try.pinned : Pinned := { name := "ytialmkppgbplpaa", sum := "1958b495a6812fbff5bb911ee1c8556c91a75ad04419e06af38ec8e1856b0596", checked := Try.checked }
namespace Rows
def none {H : Type} : Left H := { results := [], args := [] }

/-- 'ravelinlaw3.CellTells': WHATEVER THE INPUT: true; the input reads as it did. -/
def cellTellsSpec : ChangeSpec := { name := "cellTells", fn := fun _ => fun
  | [d1, d2, d3] => { results := [.lit (.bool true)], args := [d1, d2, d3] }
  | _ => none }
def cellTellsRow : OpenClaim := { program := "ytialmkppgbplpaa", sum := "1958b495a6812fbff5bb911ee1c8556c91a75ad04419e06af38ec8e1856b0596", func := "ravelin/ravelinlaw3.CellTells", spec := "cellTells", apart := false }
def CellTellsSaid : Prop := cellTellsRow.holds Try.pinned (OpenSpec.ofChange cellTellsSpec)

/-- ITS FALSE NEIGHBOUR: 'it returns false'. Refute it at one input. -/
def cellTellsWrong : ChangeSpec := { name := "cellTells", fn := fun _ => fun
  | [d1, d2, d3] => { results := [.lit (.bool false)], args := [d1, d2, d3] }
  | _ => none }
def CellTellsWrongFalsely : Prop := cellTellsRow.holds Try.pinned (OpenSpec.ofChange cellTellsWrong)

/-- 'ravelinlaw3.CellBack': WHATEVER THE INPUT: true; the input reads as it did. -/
def cellBackSpec : ChangeSpec := { name := "cellBack", fn := fun _ => fun
  | [d1, d2, d3, d4, d5] => { results := [.lit (.bool true)], args := [d1, d2, d3, d4, d5] }
  | _ => none }
def cellBackRow : OpenClaim := { program := "ytialmkppgbplpaa", sum := "1958b495a6812fbff5bb911ee1c8556c91a75ad04419e06af38ec8e1856b0596", func := "ravelin/ravelinlaw3.CellBack", spec := "cellBack", apart := false }
def CellBackSaid : Prop := cellBackRow.holds Try.pinned (OpenSpec.ofChange cellBackSpec)

/-- ITS FALSE NEIGHBOUR: 'it returns false'. Refute it at one input. -/
def cellBackWrong : ChangeSpec := { name := "cellBack", fn := fun _ => fun
  | [d1, d2, d3, d4, d5] => { results := [.lit (.bool false)], args := [d1, d2, d3, d4, d5] }
  | _ => none }
def CellBackWrongFalsely : Prop := cellBackRow.holds Try.pinned (OpenSpec.ofChange cellBackWrong)

/-- 'ravelinlaw3.CellShapes': WHATEVER THE INPUT: true; the input reads as it did. -/
def cellShapesSpec : ChangeSpec := { name := "cellShapes", fn := fun _ => fun
  | [d1, d2, d3] => { results := [.lit (.bool true)], args := [d1, d2, d3] }
  | _ => none }
def cellShapesRow : OpenClaim := { program := "ytialmkppgbplpaa", sum := "1958b495a6812fbff5bb911ee1c8556c91a75ad04419e06af38ec8e1856b0596", func := "ravelin/ravelinlaw3.CellShapes", spec := "cellShapes", apart := false }
def CellShapesSaid : Prop := cellShapesRow.holds Try.pinned (OpenSpec.ofChange cellShapesSpec)

/-- ITS FALSE NEIGHBOUR: 'it returns false'. Refute it at one input. -/
def cellShapesWrong : ChangeSpec := { name := "cellShapes", fn := fun _ => fun
  | [d1, d2, d3] => { results := [.lit (.bool false)], args := [d1, d2, d3] }
  | _ => none }
def CellShapesWrongFalsely : Prop := cellShapesRow.holds Try.pinned (OpenSpec.ofChange cellShapesWrong)

/-- 'ravelinlaw3.CellRows': WHATEVER THE INPUT: true; the input reads as it did. -/
def cellRowsSpec : ChangeSpec := { name := "cellRows", fn := fun _ => fun
  | [d1, d2] => { results := [.lit (.bool true)], args := [d1, d2] }
  | _ => none }
def cellRowsRow : OpenClaim := { program := "ytialmkppgbplpaa", sum := "1958b495a6812fbff5bb911ee1c8556c91a75ad04419e06af38ec8e1856b0596", func := "ravelin/ravelinlaw3.CellRows", spec := "cellRows", apart := false }
def CellRowsSaid : Prop := cellRowsRow.holds Try.pinned (OpenSpec.ofChange cellRowsSpec)

/-- ITS FALSE NEIGHBOUR: 'it returns false'. Refute it at one input. -/
def cellRowsWrong : ChangeSpec := { name := "cellRows", fn := fun _ => fun
  | [d1, d2] => { results := [.lit (.bool false)], args := [d1, d2] }
  | _ => none }
def CellRowsWrongFalsely : Prop := cellRowsRow.holds Try.pinned (OpenSpec.ofChange cellRowsWrong)

/-- 'ravelinlaw3.CellSizes': WHATEVER THE INPUT: true; the input reads as it did. -/
def cellSizesSpec : ChangeSpec := { name := "cellSizes", fn := fun _ => fun
  | [d1, d2] => { results := [.lit (.bool true)], args := [d1, d2] }
  | _ => none }
def cellSizesRow : OpenClaim := { program := "ytialmkppgbplpaa", sum := "1958b495a6812fbff5bb911ee1c8556c91a75ad04419e06af38ec8e1856b0596", func := "ravelin/ravelinlaw3.CellSizes", spec := "cellSizes", apart := false }
def CellSizesSaid : Prop := cellSizesRow.holds Try.pinned (OpenSpec.ofChange cellSizesSpec)

/-- ITS FALSE NEIGHBOUR: 'it returns false'. Refute it at one input. -/
def cellSizesWrong : ChangeSpec := { name := "cellSizes", fn := fun _ => fun
  | [d1, d2] => { results := [.lit (.bool false)], args := [d1, d2] }
  | _ => none }
def CellSizesWrongFalsely : Prop := cellSizesRow.holds Try.pinned (OpenSpec.ofChange cellSizesWrong)

/- THE SECOND FORM. 'bulk': how many values and letters a reading holds, each counted each time it is reached (what is shared counts as often as it is met; a slice's spare places count too). A statement '..UptoSaid' is the law's where the arguments, and the package variables that the reading takes, are together of bulk at most 1048576: NARROWER than '..Said'. Prove '..Said' where nothing that the law and all that it calls make is longer than what came in: it says more and counts as full. Else prove '..UptoSaid'. A law counts once. -/
mutual
def uptoBulk {H : Type} : DataW H → Nat
  | .lit (.string bytes) => bytes.length + 1
  | .lit _ => 1
  | .nil => 1
  | .ptr d => uptoBulk d + 1
  | .slice elems spare => uptoBulkAll elems + uptoBulkAll spare + 1
  | .agg parts => uptoBulkAll parts + 1
  | .iface _ d => uptoBulk d + 1
  | .map entries => uptoBulkEntries entries + 1
  | .held _ => 1
def uptoBulkAll {H : Type} : List (DataW H) → Nat
  | [] => 0
  | d :: r => uptoBulk d + uptoBulkAll r
def uptoBulkEntries {H : Type} : List (Lit × DataW H) → Nat
  | [] => 0
  | x :: r => uptoBulkEntry x + uptoBulkEntries r
def uptoBulkEntry {H : Type} : Lit × DataW H → Nat
  | (.string bytes, d) => bytes.length + uptoBulk d + 1
  | (_, d) => uptoBulk d + 1
 end
def uptoSmall : (H : Type) → List (DataW H) → Bool := fun _ ds => decide (uptoBulkAll ds ≤ 1048576)
def OpenSpec.upto (s : _root_.Go.ChangeSpec) : _root_.Go.OpenSpec := { _root_.Go.OpenSpec.ofChange s with cond := some uptoSmall }

/-- 'ravelinlaw3.CellTells', WHERE WHAT IT READS IS OF BULK AT MOST 1048576: true; the input reads as it did. -/
def cellTellsUptoRow : OpenClaim := { program := "ytialmkppgbplpaa", sum := "1958b495a6812fbff5bb911ee1c8556c91a75ad04419e06af38ec8e1856b0596", func := "ravelin/ravelinlaw3.CellTells", spec := "cellTells", apart := false, narrowed := true }
def CellTellsUptoSaid : Prop := cellTellsUptoRow.holds Try.pinned (OpenSpec.upto cellTellsSpec)

/-- 'ravelinlaw3.CellBack', WHERE WHAT IT READS IS OF BULK AT MOST 1048576: true; the input reads as it did. -/
def cellBackUptoRow : OpenClaim := { program := "ytialmkppgbplpaa", sum := "1958b495a6812fbff5bb911ee1c8556c91a75ad04419e06af38ec8e1856b0596", func := "ravelin/ravelinlaw3.CellBack", spec := "cellBack", apart := false, narrowed := true }
def CellBackUptoSaid : Prop := cellBackUptoRow.holds Try.pinned (OpenSpec.upto cellBackSpec)

/-- 'ravelinlaw3.CellShapes', WHERE WHAT IT READS IS OF BULK AT MOST 1048576: true; the input reads as it did. -/
def cellShapesUptoRow : OpenClaim := { program := "ytialmkppgbplpaa", sum := "1958b495a6812fbff5bb911ee1c8556c91a75ad04419e06af38ec8e1856b0596", func := "ravelin/ravelinlaw3.CellShapes", spec := "cellShapes", apart := false, narrowed := true }
def CellShapesUptoSaid : Prop := cellShapesUptoRow.holds Try.pinned (OpenSpec.upto cellShapesSpec)

/-- 'ravelinlaw3.CellRows', WHERE WHAT IT READS IS OF BULK AT MOST 1048576: true; the input reads as it did. -/
def cellRowsUptoRow : OpenClaim := { program := "ytialmkppgbplpaa", sum := "1958b495a6812fbff5bb911ee1c8556c91a75ad04419e06af38ec8e1856b0596", func := "ravelin/ravelinlaw3.CellRows", spec := "cellRows", apart := false, narrowed := true }
def CellRowsUptoSaid : Prop := cellRowsUptoRow.holds Try.pinned (OpenSpec.upto cellRowsSpec)

/-- 'ravelinlaw3.CellSizes', WHERE WHAT IT READS IS OF BULK AT MOST 1048576: true; the input reads as it did. -/
def cellSizesUptoRow : OpenClaim := { program := "ytialmkppgbplpaa", sum := "1958b495a6812fbff5bb911ee1c8556c91a75ad04419e06af38ec8e1856b0596", func := "ravelin/ravelinlaw3.CellSizes", spec := "cellSizes", apart := false, narrowed := true }
def CellSizesUptoSaid : Prop := cellSizesUptoRow.holds Try.pinned (OpenSpec.upto cellSizesSpec)

end Rows
end Go.Proofs.Ytialmkppgbplpaa
