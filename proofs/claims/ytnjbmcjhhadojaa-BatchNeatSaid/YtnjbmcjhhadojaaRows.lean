/-
  No cell of these rows narrows 'for every input' (looked for: loops, veiled, ifaces, maps, wideKeys, modest, calm, conditions, laid).
  DERIVED. THE GIVEN ROWS OF THIS SEAT. 4 by the template 'for every input the law returns true; each argument reads behind the call as it read before'; 0 by the template 'total and deterministic' (their statements: YtnjbmcjhhadojaaTotals.lean).
  GIVEN WITH THE SEED: the statements are not yours to turn. If you find one false, say at which input.
  Laid BY PROGRAM, IN A SANDBOX (cutbox-rows.mjs): the forced cells as the released guide's own fill.sh prints them over the translation 75cb143a3a2c9a06… (all of the seat's roots in one cut). By AI agents, Wed Nov 11 2026. No macro, syntax, notation, axiom, sorry.
-/
import Derived.Test.YtnjbmcjhhadojaaChecked
import GoSem.Claim
import GoSem.ClaimJoined
import GoSem.ClaimMapViews
import Derived.JoinedTies
import Derived.KernelRfl
namespace Go.Proofs.Ytnjbmcjhhadojaa
/- THE CELL 'sum', in the pinned program and in every row, IS THE sha256 OF THE DUMP (.gsa) THAT YtnjbmcjhhadojaaProg.lean LOADS. Nothing in Lean hashes anything: it is a label: what it is worth is what the hold of that sum in a sandbox is worth. -/
noncomputable def Try.pinned : Pinned := { name := "ytnjbmcjhhadojaa", sum := "75cb143a3a2c9a06c1d017b97b30d6088c713811a04fecc57a49917eb3bce9d1", checked := Try.checked }
namespace Rows
def none {H : Type} : Left H := { results := [], args := [] }

/-- 'ravelinlaw12.BatchTells': WHATEVER THE INPUT: true; the input reads as it did. -/
def batchTellsSpec : ChangeSpec := { name := "batchTells", fn := fun _ => fun
  | [d1, d2, d3] => { results := [.lit (.bool true)], args := [d1, d2, d3] }
  | _ => none }
def batchTellsRow : OpenClaim := { program := "ytnjbmcjhhadojaa", sum := "75cb143a3a2c9a06c1d017b97b30d6088c713811a04fecc57a49917eb3bce9d1", func := "ravelin/ravelinlaw12.BatchTells", spec := "batchTells", inPlace := ["internal/bytealg.abigen_runtime_cmpstring"], unfollowed := true, recurses := true, apart := false }
def BatchTellsSaid : Prop := batchTellsRow.holds Try.pinned (OpenSpec.ofChange batchTellsSpec)

/-- ITS FALSE NEIGHBOUR: 'it returns false'. Refute it at one input. -/
def batchTellsWrong : ChangeSpec := { name := "batchTells", fn := fun _ => fun
  | [d1, d2, d3] => { results := [.lit (.bool false)], args := [d1, d2, d3] }
  | _ => none }
def BatchTellsWrongFalsely : Prop := batchTellsRow.holds Try.pinned (OpenSpec.ofChange batchTellsWrong)

/-- 'ravelinlaw12.BatchLogs': WHATEVER THE INPUT: true; the input reads as it did. -/
def batchLogsSpec : ChangeSpec := { name := "batchLogs", fn := fun _ => fun
  | [d1, d2, d3, d4] => { results := [.lit (.bool true)], args := [d1, d2, d3, d4] }
  | _ => none }
def batchLogsRow : OpenClaim := { program := "ytnjbmcjhhadojaa", sum := "75cb143a3a2c9a06c1d017b97b30d6088c713811a04fecc57a49917eb3bce9d1", func := "ravelin/ravelinlaw12.BatchLogs", spec := "batchLogs", inPlace := ["internal/bytealg.abigen_runtime_cmpstring"], unfollowed := true, recurses := true, apart := false }
def BatchLogsSaid : Prop := batchLogsRow.holds Try.pinned (OpenSpec.ofChange batchLogsSpec)

/-- ITS FALSE NEIGHBOUR: 'it returns false'. Refute it at one input. -/
def batchLogsWrong : ChangeSpec := { name := "batchLogs", fn := fun _ => fun
  | [d1, d2, d3, d4] => { results := [.lit (.bool false)], args := [d1, d2, d3, d4] }
  | _ => none }
def BatchLogsWrongFalsely : Prop := batchLogsRow.holds Try.pinned (OpenSpec.ofChange batchLogsWrong)

/-- 'ravelinlaw12.BatchNeat': WHATEVER THE INPUT: true; the input reads as it did. -/
def batchNeatSpec : ChangeSpec := { name := "batchNeat", fn := fun _ => fun
  | [d] => { results := [.lit (.bool true)], args := [d] }
  | _ => none }
def batchNeatRow : OpenClaim := { program := "ytnjbmcjhhadojaa", sum := "75cb143a3a2c9a06c1d017b97b30d6088c713811a04fecc57a49917eb3bce9d1", func := "ravelin/ravelinlaw12.BatchNeat", spec := "batchNeat", inPlace := ["internal/bytealg.abigen_runtime_cmpstring"], unfollowed := true, recurses := true, apart := false }
def BatchNeatSaid : Prop := batchNeatRow.holds Try.pinned (OpenSpec.ofChange batchNeatSpec)

/-- ITS FALSE NEIGHBOUR: 'it returns false'. Refute it at one input. -/
def batchNeatWrong : ChangeSpec := { name := "batchNeat", fn := fun _ => fun
  | [d] => { results := [.lit (.bool false)], args := [d] }
  | _ => none }
def BatchNeatWrongFalsely : Prop := batchNeatRow.holds Try.pinned (OpenSpec.ofChange batchNeatWrong)

/-- 'ravelinlaw12.BatchShapes': WHATEVER THE INPUT: true; the input reads as it did. -/
def batchShapesSpec : ChangeSpec := { name := "batchShapes", fn := fun _ => fun
  | [d1, d2, d3] => { results := [.lit (.bool true)], args := [d1, d2, d3] }
  | _ => none }
def batchShapesRow : OpenClaim := { program := "ytnjbmcjhhadojaa", sum := "75cb143a3a2c9a06c1d017b97b30d6088c713811a04fecc57a49917eb3bce9d1", func := "ravelin/ravelinlaw12.BatchShapes", spec := "batchShapes", inPlace := ["internal/bytealg.abigen_runtime_cmpstring"], unfollowed := true, recurses := true, apart := false }
def BatchShapesSaid : Prop := batchShapesRow.holds Try.pinned (OpenSpec.ofChange batchShapesSpec)

/-- ITS FALSE NEIGHBOUR: 'it returns false'. Refute it at one input. -/
def batchShapesWrong : ChangeSpec := { name := "batchShapes", fn := fun _ => fun
  | [d1, d2, d3] => { results := [.lit (.bool false)], args := [d1, d2, d3] }
  | _ => none }
def BatchShapesWrongFalsely : Prop := batchShapesRow.holds Try.pinned (OpenSpec.ofChange batchShapesWrong)

/- THE SECOND FORM. 'bulk': how many values and letters a reading holds, each counted each time it is reached (what is shared counts as often as it is met; a slice's spare places count too). A statement '..UptoSaid' is the law's where the arguments, and the package variables that the reading takes, are together of bulk at most 1048576: NARROWER than '..Said'. Prove '..Said' where nothing that the law and all that it calls make is longer than what came in: it says more and counts as full. Else prove '..UptoSaid'. A law counts once. -/
mutual
def uptoBulk {H : Type} : DataW H → Nat
  | .lit (.string bytes) => bytes.length + 1
  | .lit _ => 1
  | .nil => 1
  | .ptr d => uptoBulk d + 1
  | .slice elems spare => uptoBulkAll elems + uptoBulkAll spare + 1
  | .agg parts => uptoBulkAll parts + 1
  | .iface _ d => uptoBulk d + 1
  | .map entries => uptoBulkEntries entries + 1
  | .held _ => 1
def uptoBulkAll {H : Type} : List (DataW H) → Nat
  | [] => 0
  | d :: r => uptoBulk d + uptoBulkAll r
def uptoBulkEntries {H : Type} : List (Lit × DataW H) → Nat
  | [] => 0
  | x :: r => uptoBulkEntry x + uptoBulkEntries r
def uptoBulkEntry {H : Type} : Lit × DataW H → Nat
  | (.string bytes, d) => bytes.length + uptoBulk d + 1
  | (_, d) => uptoBulk d + 1
 end
def uptoSmall : (H : Type) → List (DataW H) → Bool := fun _ ds => decide (uptoBulkAll ds ≤ 1048576)
def OpenSpec.upto (s : _root_.Go.ChangeSpec) : _root_.Go.OpenSpec := { _root_.Go.OpenSpec.ofChange s with cond := some uptoSmall }

/-- 'ravelinlaw12.BatchTells', WHERE WHAT IT READS IS OF BULK AT MOST 1048576: true; the input reads as it did. -/
def batchTellsUptoRow : OpenClaim := { program := "ytnjbmcjhhadojaa", sum := "75cb143a3a2c9a06c1d017b97b30d6088c713811a04fecc57a49917eb3bce9d1", func := "ravelin/ravelinlaw12.BatchTells", spec := "batchTells", inPlace := ["internal/bytealg.abigen_runtime_cmpstring"], unfollowed := true, recurses := true, apart := false, narrowed := true }
def BatchTellsUptoSaid : Prop := batchTellsUptoRow.holds Try.pinned (OpenSpec.upto batchTellsSpec)

/-- 'ravelinlaw12.BatchLogs', WHERE WHAT IT READS IS OF BULK AT MOST 1048576: true; the input reads as it did. -/
def batchLogsUptoRow : OpenClaim := { program := "ytnjbmcjhhadojaa", sum := "75cb143a3a2c9a06c1d017b97b30d6088c713811a04fecc57a49917eb3bce9d1", func := "ravelin/ravelinlaw12.BatchLogs", spec := "batchLogs", inPlace := ["internal/bytealg.abigen_runtime_cmpstring"], unfollowed := true, recurses := true, apart := false, narrowed := true }
def BatchLogsUptoSaid : Prop := batchLogsUptoRow.holds Try.pinned (OpenSpec.upto batchLogsSpec)

/-- 'ravelinlaw12.BatchNeat', WHERE WHAT IT READS IS OF BULK AT MOST 1048576: true; the input reads as it did. -/
def batchNeatUptoRow : OpenClaim := { program := "ytnjbmcjhhadojaa", sum := "75cb143a3a2c9a06c1d017b97b30d6088c713811a04fecc57a49917eb3bce9d1", func := "ravelin/ravelinlaw12.BatchNeat", spec := "batchNeat", inPlace := ["internal/bytealg.abigen_runtime_cmpstring"], unfollowed := true, recurses := true, apart := false, narrowed := true }
def BatchNeatUptoSaid : Prop := batchNeatUptoRow.holds Try.pinned (OpenSpec.upto batchNeatSpec)

/-- 'ravelinlaw12.BatchShapes', WHERE WHAT IT READS IS OF BULK AT MOST 1048576: true; the input reads as it did. -/
def batchShapesUptoRow : OpenClaim := { program := "ytnjbmcjhhadojaa", sum := "75cb143a3a2c9a06c1d017b97b30d6088c713811a04fecc57a49917eb3bce9d1", func := "ravelin/ravelinlaw12.BatchShapes", spec := "batchShapes", inPlace := ["internal/bytealg.abigen_runtime_cmpstring"], unfollowed := true, recurses := true, apart := false, narrowed := true }
def BatchShapesUptoSaid : Prop := batchShapesUptoRow.holds Try.pinned (OpenSpec.upto batchShapesSpec)

end Rows
end Go.Proofs.Ytnjbmcjhhadojaa
