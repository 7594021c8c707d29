/-
  No cell of these rows narrows 'for every input' (looked for: loops, veiled, ifaces, maps, wideKeys, modest, calm, conditions, laid).
  DERIVED. THE GIVEN ROWS OF THIS SEAT. 4 by the template 'for every input the law returns true; each argument reads behind the call as it read before'; 0 by the template 'total and deterministic' (their statements: YtkmbgihfdfgmgaaTotals.lean).
  GIVEN WITH THE SEED: the statements are not yours to turn. If you find one false, say at which input.
  Laid BY PROGRAM, IN A SANDBOX (cutbox-rows.mjs): the forced cells as the released guide's own fill.sh prints them over the translation 29ae70311d57ef89… (all of the seat's roots in one cut). By AI agents, Wed Nov 11 2026. No macro, syntax, notation, axiom, sorry.
-/
import Derived.Test.YtkmbgihfdfgmgaaChecked
import GoSem.Claim
import GoSem.ClaimJoined
import GoSem.ClaimMapViews
import Derived.JoinedTies
import Derived.KernelRfl
namespace Go.Proofs.Ytkmbgihfdfgmgaa
/- THE CELL 'sum', in the pinned program and in every row, IS THE sha256 OF THE DUMP (.gsa) THAT YtkmbgihfdfgmgaaProg.lean LOADS. Nothing in Lean hashes anything: it is a label: what it is worth is what the hold of that sum in a sandbox is worth. -/
noncomputable def Try.pinned : Pinned := { name := "ytkmbgihfdfgmgaa", sum := "29ae70311d57ef899117cc99540db3513dca1a96c1805a2a19a5b2f795ff23c2", checked := Try.checked }
namespace Rows
def none {H : Type} : Left H := { results := [], args := [] }

/-- 'ravelinlaw18.ItemTells': WHATEVER THE INPUT: true; the input reads as it did. -/
def itemTellsSpec : ChangeSpec := { name := "itemTells", fn := fun _ => fun
  | [d1, d2, d3] => { results := [.lit (.bool true)], args := [d1, d2, d3] }
  | _ => none }
def itemTellsRow : OpenClaim := { program := "ytkmbgihfdfgmgaa", sum := "29ae70311d57ef899117cc99540db3513dca1a96c1805a2a19a5b2f795ff23c2", func := "ravelin/ravelinlaw18.ItemTells", spec := "itemTells", apart := false }
def ItemTellsSaid : Prop := itemTellsRow.holds Try.pinned (OpenSpec.ofChange itemTellsSpec)

/-- ITS FALSE NEIGHBOUR: 'it returns false'. Refute it at one input. -/
def itemTellsWrong : ChangeSpec := { name := "itemTells", fn := fun _ => fun
  | [d1, d2, d3] => { results := [.lit (.bool false)], args := [d1, d2, d3] }
  | _ => none }
def ItemTellsWrongFalsely : Prop := itemTellsRow.holds Try.pinned (OpenSpec.ofChange itemTellsWrong)

/-- 'ravelinlaw18.ItemBack': WHATEVER THE INPUT: true; the input reads as it did. -/
def itemBackSpec : ChangeSpec := { name := "itemBack", fn := fun _ => fun
  | [d1, d2, d3, d4] => { results := [.lit (.bool true)], args := [d1, d2, d3, d4] }
  | _ => none }
def itemBackRow : OpenClaim := { program := "ytkmbgihfdfgmgaa", sum := "29ae70311d57ef899117cc99540db3513dca1a96c1805a2a19a5b2f795ff23c2", func := "ravelin/ravelinlaw18.ItemBack", spec := "itemBack", apart := false }
def ItemBackSaid : Prop := itemBackRow.holds Try.pinned (OpenSpec.ofChange itemBackSpec)

/-- ITS FALSE NEIGHBOUR: 'it returns false'. Refute it at one input. -/
def itemBackWrong : ChangeSpec := { name := "itemBack", fn := fun _ => fun
  | [d1, d2, d3, d4] => { results := [.lit (.bool false)], args := [d1, d2, d3, d4] }
  | _ => none }
def ItemBackWrongFalsely : Prop := itemBackRow.holds Try.pinned (OpenSpec.ofChange itemBackWrong)

/-- 'ravelinlaw18.ItemShapes': WHATEVER THE INPUT: true; the input reads as it did. -/
def itemShapesSpec : ChangeSpec := { name := "itemShapes", fn := fun _ => fun
  | [d1, d2, d3, d4, d5, d6] => { results := [.lit (.bool true)], args := [d1, d2, d3, d4, d5, d6] }
  | _ => none }
def itemShapesRow : OpenClaim := { program := "ytkmbgihfdfgmgaa", sum := "29ae70311d57ef899117cc99540db3513dca1a96c1805a2a19a5b2f795ff23c2", func := "ravelin/ravelinlaw18.ItemShapes", spec := "itemShapes", apart := false }
def ItemShapesSaid : Prop := itemShapesRow.holds Try.pinned (OpenSpec.ofChange itemShapesSpec)

/-- ITS FALSE NEIGHBOUR: 'it returns false'. Refute it at one input. -/
def itemShapesWrong : ChangeSpec := { name := "itemShapes", fn := fun _ => fun
  | [d1, d2, d3, d4, d5, d6] => { results := [.lit (.bool false)], args := [d1, d2, d3, d4, d5, d6] }
  | _ => none }
def ItemShapesWrongFalsely : Prop := itemShapesRow.holds Try.pinned (OpenSpec.ofChange itemShapesWrong)

/-- 'ravelinlaw18.ItemRows': WHATEVER THE INPUT: true; the input reads as it did. -/
def itemRowsSpec : ChangeSpec := { name := "itemRows", fn := fun _ => fun
  | [d] => { results := [.lit (.bool true)], args := [d] }
  | _ => none }
def itemRowsRow : OpenClaim := { program := "ytkmbgihfdfgmgaa", sum := "29ae70311d57ef899117cc99540db3513dca1a96c1805a2a19a5b2f795ff23c2", func := "ravelin/ravelinlaw18.ItemRows", spec := "itemRows", apart := false }
def ItemRowsSaid : Prop := itemRowsRow.holds Try.pinned (OpenSpec.ofChange itemRowsSpec)

/-- ITS FALSE NEIGHBOUR: 'it returns false'. Refute it at one input. -/
def itemRowsWrong : ChangeSpec := { name := "itemRows", fn := fun _ => fun
  | [d] => { results := [.lit (.bool false)], args := [d] }
  | _ => none }
def ItemRowsWrongFalsely : Prop := itemRowsRow.holds Try.pinned (OpenSpec.ofChange itemRowsWrong)

/- THE SECOND FORM. 'bulk': how many values and letters a reading holds, each counted each time it is reached (what is shared counts as often as it is met; a slice's spare places count too). A statement '..UptoSaid' is the law's where the arguments, and the package variables that the reading takes, are together of bulk at most 1048576: NARROWER than '..Said'. Prove '..Said' where nothing that the law and all that it calls make is longer than what came in: it says more and counts as full. Else prove '..UptoSaid'. A law counts once. -/
mutual
def uptoBulk {H : Type} : DataW H → Nat
  | .lit (.string bytes) => bytes.length + 1
  | .lit _ => 1
  | .nil => 1
  | .ptr d => uptoBulk d + 1
  | .slice elems spare => uptoBulkAll elems + uptoBulkAll spare + 1
  | .agg parts => uptoBulkAll parts + 1
  | .iface _ d => uptoBulk d + 1
  | .map entries => uptoBulkEntries entries + 1
  | .held _ => 1
def uptoBulkAll {H : Type} : List (DataW H) → Nat
  | [] => 0
  | d :: r => uptoBulk d + uptoBulkAll r
def uptoBulkEntries {H : Type} : List (Lit × DataW H) → Nat
  | [] => 0
  | x :: r => uptoBulkEntry x + uptoBulkEntries r
def uptoBulkEntry {H : Type} : Lit × DataW H → Nat
  | (.string bytes, d) => bytes.length + uptoBulk d + 1
  | (_, d) => uptoBulk d + 1
 end
def uptoSmall : (H : Type) → List (DataW H) → Bool := fun _ ds => decide (uptoBulkAll ds ≤ 1048576)
def OpenSpec.upto (s : _root_.Go.ChangeSpec) : _root_.Go.OpenSpec := { _root_.Go.OpenSpec.ofChange s with cond := some uptoSmall }

/-- 'ravelinlaw18.ItemTells', WHERE WHAT IT READS IS OF BULK AT MOST 1048576: true; the input reads as it did. -/
def itemTellsUptoRow : OpenClaim := { program := "ytkmbgihfdfgmgaa", sum := "29ae70311d57ef899117cc99540db3513dca1a96c1805a2a19a5b2f795ff23c2", func := "ravelin/ravelinlaw18.ItemTells", spec := "itemTells", apart := false, narrowed := true }
def ItemTellsUptoSaid : Prop := itemTellsUptoRow.holds Try.pinned (OpenSpec.upto itemTellsSpec)

/-- 'ravelinlaw18.ItemBack', WHERE WHAT IT READS IS OF BULK AT MOST 1048576: true; the input reads as it did. -/
def itemBackUptoRow : OpenClaim := { program := "ytkmbgihfdfgmgaa", sum := "29ae70311d57ef899117cc99540db3513dca1a96c1805a2a19a5b2f795ff23c2", func := "ravelin/ravelinlaw18.ItemBack", spec := "itemBack", apart := false, narrowed := true }
def ItemBackUptoSaid : Prop := itemBackUptoRow.holds Try.pinned (OpenSpec.upto itemBackSpec)

/-- 'ravelinlaw18.ItemShapes', WHERE WHAT IT READS IS OF BULK AT MOST 1048576: true; the input reads as it did. -/
def itemShapesUptoRow : OpenClaim := { program := "ytkmbgihfdfgmgaa", sum := "29ae70311d57ef899117cc99540db3513dca1a96c1805a2a19a5b2f795ff23c2", func := "ravelin/ravelinlaw18.ItemShapes", spec := "itemShapes", apart := false, narrowed := true }
def ItemShapesUptoSaid : Prop := itemShapesUptoRow.holds Try.pinned (OpenSpec.upto itemShapesSpec)

/-- 'ravelinlaw18.ItemRows', WHERE WHAT IT READS IS OF BULK AT MOST 1048576: true; the input reads as it did. -/
def itemRowsUptoRow : OpenClaim := { program := "ytkmbgihfdfgmgaa", sum := "29ae70311d57ef899117cc99540db3513dca1a96c1805a2a19a5b2f795ff23c2", func := "ravelin/ravelinlaw18.ItemRows", spec := "itemRows", apart := false, narrowed := true }
def ItemRowsUptoSaid : Prop := itemRowsUptoRow.holds Try.pinned (OpenSpec.upto itemRowsSpec)

end Rows
end Go.Proofs.Ytkmbgihfdfgmgaa
