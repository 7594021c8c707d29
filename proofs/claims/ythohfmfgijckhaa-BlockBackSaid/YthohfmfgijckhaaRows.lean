/-
  No cell of these rows narrows 'for every input' (looked for: loops, veiled, ifaces, maps, wideKeys, modest, calm, conditions, laid).
  DERIVED. THE GIVEN ROWS OF THIS SEAT. 4 by the template 'for every input the law returns true; each argument reads behind the call as it read before'; 0 by the template 'total and deterministic' (their statements: YthohfmfgijckhaaTotals.lean).
  GIVEN WITH THE SEED: the statements are not yours to turn. If you find one false, say at which input.
  Laid BY PROGRAM, IN A SANDBOX (cutbox-rows.mjs): the forced cells as the released guide's own fill.sh prints them over the translation d58117d4d9b59f62… (all of the seat's roots in one cut). By AI agents, Wed Nov 11 2026. No macro, syntax, notation, axiom, sorry.
-/
import Derived.Test.YthohfmfgijckhaaChecked
import GoSem.Claim
import GoSem.ClaimJoined
import GoSem.ClaimMapViews
import Derived.JoinedTies
import Derived.KernelRfl
namespace Go.Proofs.Ythohfmfgijckhaa
/- THE CELL 'sum', in the pinned program and in every row, IS THE sha256 OF THE DUMP (.gsa) THAT YthohfmfgijckhaaProg.lean LOADS. Nothing in Lean hashes anything: it is a label: what it is worth is what the hold of that sum in a sandbox is worth. -/
noncomputable def Try.pinned : Pinned := { name := "ythohfmfgijckhaa", sum := "d58117d4d9b59f6291e8852c93d783313f192773110635f07dce811bdd158348", checked := Try.checked }
namespace Rows
def none {H : Type} : Left H := { results := [], args := [] }

/-- 'ravelinlaw8.BlockTells': WHATEVER THE INPUT: true; the input reads as it did. -/
def blockTellsSpec : ChangeSpec := { name := "blockTells", fn := fun _ => fun
  | [d1, d2, d3, d4] => { results := [.lit (.bool true)], args := [d1, d2, d3, d4] }
  | _ => none }
def blockTellsRow : OpenClaim := { program := "ythohfmfgijckhaa", sum := "d58117d4d9b59f6291e8852c93d783313f192773110635f07dce811bdd158348", func := "ravelin/ravelinlaw8.BlockTells", spec := "blockTells", inPlace := ["internal/bytealg.abigen_runtime_cmpstring"], apart := false }
def BlockTellsSaid : Prop := blockTellsRow.holds Try.pinned (OpenSpec.ofChange blockTellsSpec)

/-- ITS FALSE NEIGHBOUR: 'it returns false'. Refute it at one input. -/
def blockTellsWrong : ChangeSpec := { name := "blockTells", fn := fun _ => fun
  | [d1, d2, d3, d4] => { results := [.lit (.bool false)], args := [d1, d2, d3, d4] }
  | _ => none }
def BlockTellsWrongFalsely : Prop := blockTellsRow.holds Try.pinned (OpenSpec.ofChange blockTellsWrong)

/-- 'ravelinlaw8.BlockBack': WHATEVER THE INPUT: true; the input reads as it did. -/
def blockBackSpec : ChangeSpec := { name := "blockBack", fn := fun _ => fun
  | [d1, d2, d3] => { results := [.lit (.bool true)], args := [d1, d2, d3] }
  | _ => none }
def blockBackRow : OpenClaim := { program := "ythohfmfgijckhaa", sum := "d58117d4d9b59f6291e8852c93d783313f192773110635f07dce811bdd158348", func := "ravelin/ravelinlaw8.BlockBack", spec := "blockBack", inPlace := ["internal/bytealg.abigen_runtime_cmpstring"], apart := false }
def BlockBackSaid : Prop := blockBackRow.holds Try.pinned (OpenSpec.ofChange blockBackSpec)

/-- ITS FALSE NEIGHBOUR: 'it returns false'. Refute it at one input. -/
def blockBackWrong : ChangeSpec := { name := "blockBack", fn := fun _ => fun
  | [d1, d2, d3] => { results := [.lit (.bool false)], args := [d1, d2, d3] }
  | _ => none }
def BlockBackWrongFalsely : Prop := blockBackRow.holds Try.pinned (OpenSpec.ofChange blockBackWrong)

/-- 'ravelinlaw8.BlockShared': WHATEVER THE INPUT: true; the input reads as it did. -/
def blockSharedSpec : ChangeSpec := { name := "blockShared", fn := fun _ => fun
  | [d1, d2] => { results := [.lit (.bool true)], args := [d1, d2] }
  | _ => none }
def blockSharedRow : OpenClaim := { program := "ythohfmfgijckhaa", sum := "d58117d4d9b59f6291e8852c93d783313f192773110635f07dce811bdd158348", func := "ravelin/ravelinlaw8.BlockShared", spec := "blockShared", inPlace := ["internal/bytealg.abigen_runtime_cmpstring"], apart := false }
def BlockSharedSaid : Prop := blockSharedRow.holds Try.pinned (OpenSpec.ofChange blockSharedSpec)

/-- ITS FALSE NEIGHBOUR: 'it returns false'. Refute it at one input. -/
def blockSharedWrong : ChangeSpec := { name := "blockShared", fn := fun _ => fun
  | [d1, d2] => { results := [.lit (.bool false)], args := [d1, d2] }
  | _ => none }
def BlockSharedWrongFalsely : Prop := blockSharedRow.holds Try.pinned (OpenSpec.ofChange blockSharedWrong)

/-- 'ravelinlaw8.BlockSmall': WHATEVER THE INPUT: true; the input reads as it did. -/
def blockSmallSpec : ChangeSpec := { name := "blockSmall", fn := fun _ => fun
  | [d1, d2] => { results := [.lit (.bool true)], args := [d1, d2] }
  | _ => none }
def blockSmallRow : OpenClaim := { program := "ythohfmfgijckhaa", sum := "d58117d4d9b59f6291e8852c93d783313f192773110635f07dce811bdd158348", func := "ravelin/ravelinlaw8.BlockSmall", spec := "blockSmall", inPlace := ["internal/bytealg.abigen_runtime_cmpstring"], apart := false }
def BlockSmallSaid : Prop := blockSmallRow.holds Try.pinned (OpenSpec.ofChange blockSmallSpec)

/-- ITS FALSE NEIGHBOUR: 'it returns false'. Refute it at one input. -/
def blockSmallWrong : ChangeSpec := { name := "blockSmall", fn := fun _ => fun
  | [d1, d2] => { results := [.lit (.bool false)], args := [d1, d2] }
  | _ => none }
def BlockSmallWrongFalsely : Prop := blockSmallRow.holds Try.pinned (OpenSpec.ofChange blockSmallWrong)

/- THE SECOND FORM. 'bulk': how many values and letters a reading holds, each counted each time it is reached (what is shared counts as often as it is met; a slice's spare places count too). A statement '..UptoSaid' is the law's where the arguments, and the package variables that the reading takes, are together of bulk at most 1048576: NARROWER than '..Said'. Prove '..Said' where nothing that the law and all that it calls make is longer than what came in: it says more and counts as full. Else prove '..UptoSaid'. A law counts once. -/
mutual
def uptoBulk {H : Type} : DataW H → Nat
  | .lit (.string bytes) => bytes.length + 1
  | .lit _ => 1
  | .nil => 1
  | .ptr d => uptoBulk d + 1
  | .slice elems spare => uptoBulkAll elems + uptoBulkAll spare + 1
  | .agg parts => uptoBulkAll parts + 1
  | .iface _ d => uptoBulk d + 1
  | .map entries => uptoBulkEntries entries + 1
  | .held _ => 1
def uptoBulkAll {H : Type} : List (DataW H) → Nat
  | [] => 0
  | d :: r => uptoBulk d + uptoBulkAll r
def uptoBulkEntries {H : Type} : List (Lit × DataW H) → Nat
  | [] => 0
  | x :: r => uptoBulkEntry x + uptoBulkEntries r
def uptoBulkEntry {H : Type} : Lit × DataW H → Nat
  | (.string bytes, d) => bytes.length + uptoBulk d + 1
  | (_, d) => uptoBulk d + 1
 end
def uptoSmall : (H : Type) → List (DataW H) → Bool := fun _ ds => decide (uptoBulkAll ds ≤ 1048576)
def OpenSpec.upto (s : _root_.Go.ChangeSpec) : _root_.Go.OpenSpec := { _root_.Go.OpenSpec.ofChange s with cond := some uptoSmall }

/-- 'ravelinlaw8.BlockTells', WHERE WHAT IT READS IS OF BULK AT MOST 1048576: true; the input reads as it did. -/
def blockTellsUptoRow : OpenClaim := { program := "ythohfmfgijckhaa", sum := "d58117d4d9b59f6291e8852c93d783313f192773110635f07dce811bdd158348", func := "ravelin/ravelinlaw8.BlockTells", spec := "blockTells", inPlace := ["internal/bytealg.abigen_runtime_cmpstring"], apart := false, narrowed := true }
def BlockTellsUptoSaid : Prop := blockTellsUptoRow.holds Try.pinned (OpenSpec.upto blockTellsSpec)

/-- 'ravelinlaw8.BlockBack', WHERE WHAT IT READS IS OF BULK AT MOST 1048576: true; the input reads as it did. -/
def blockBackUptoRow : OpenClaim := { program := "ythohfmfgijckhaa", sum := "d58117d4d9b59f6291e8852c93d783313f192773110635f07dce811bdd158348", func := "ravelin/ravelinlaw8.BlockBack", spec := "blockBack", inPlace := ["internal/bytealg.abigen_runtime_cmpstring"], apart := false, narrowed := true }
def BlockBackUptoSaid : Prop := blockBackUptoRow.holds Try.pinned (OpenSpec.upto blockBackSpec)

/-- 'ravelinlaw8.BlockShared', WHERE WHAT IT READS IS OF BULK AT MOST 1048576: true; the input reads as it did. -/
def blockSharedUptoRow : OpenClaim := { program := "ythohfmfgijckhaa", sum := "d58117d4d9b59f6291e8852c93d783313f192773110635f07dce811bdd158348", func := "ravelin/ravelinlaw8.BlockShared", spec := "blockShared", inPlace := ["internal/bytealg.abigen_runtime_cmpstring"], apart := false, narrowed := true }
def BlockSharedUptoSaid : Prop := blockSharedUptoRow.holds Try.pinned (OpenSpec.upto blockSharedSpec)

/-- 'ravelinlaw8.BlockSmall', WHERE WHAT IT READS IS OF BULK AT MOST 1048576: true; the input reads as it did. -/
def blockSmallUptoRow : OpenClaim := { program := "ythohfmfgijckhaa", sum := "d58117d4d9b59f6291e8852c93d783313f192773110635f07dce811bdd158348", func := "ravelin/ravelinlaw8.BlockSmall", spec := "blockSmall", inPlace := ["internal/bytealg.abigen_runtime_cmpstring"], apart := false, narrowed := true }
def BlockSmallUptoSaid : Prop := blockSmallUptoRow.holds Try.pinned (OpenSpec.upto blockSmallSpec)

end Rows
end Go.Proofs.Ythohfmfgijckhaa
