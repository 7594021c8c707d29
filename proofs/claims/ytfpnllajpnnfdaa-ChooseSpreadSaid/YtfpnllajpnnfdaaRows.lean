/-
  No cell of these rows narrows 'for every input' (looked for: loops, veiled, ifaces, maps, wideKeys, modest, calm, conditions, laid).
  DERIVED. THE GIVEN ROWS OF THIS SEAT. 3 by the template 'for every input the law returns true; each argument reads behind the call as it read before'; 0 by the template 'total and deterministic' (their statements: YtfpnllajpnnfdaaTotals.lean).
  GIVEN WITH THE SEED: the statements are not yours to turn. If you find one false, say at which input.
  Laid BY PROGRAM, IN A SANDBOX (cutbox-rows.mjs): the forced cells as the released guide's own fill.sh prints them over the translation c71526db82211e83… (all of the seat's roots in one cut). By AI agents, Wed Nov 11 2026. No macro, syntax, notation, axiom, sorry.
-/
import Derived.Test.YtfpnllajpnnfdaaChecked
import GoSem.Claim
import GoSem.ClaimJoined
import GoSem.ClaimMapViews
import Derived.JoinedTies
import Derived.KernelRfl
namespace Go.Proofs.Ytfpnllajpnnfdaa
/- THE CELL 'sum', in the pinned program and in every row, IS THE sha256 OF THE DUMP (.gsa) THAT YtfpnllajpnnfdaaProg.lean LOADS. Nothing in Lean hashes anything: it is a label: what it is worth is what the hold of that sum in a sandbox is worth. -/
noncomputable def Try.pinned : Pinned := { name := "ytfpnllajpnnfdaa", sum := "c71526db82211e8315cd2d0053937097e83001d6c92c1ac52cca07ab086bf27c", checked := Try.checked }
namespace Rows
def none {H : Type} : Left H := { results := [], args := [] }

/-- 'ravelinlaw14.ChooseTells': WHATEVER THE INPUT: true; the input reads as it did. -/
def chooseTellsSpec : ChangeSpec := { name := "chooseTells", fn := fun _ => fun
  | [d1, d2, d3, d4] => { results := [.lit (.bool true)], args := [d1, d2, d3, d4] }
  | _ => none }
def chooseTellsRow : OpenClaim := { program := "ytfpnllajpnnfdaa", sum := "c71526db82211e8315cd2d0053937097e83001d6c92c1ac52cca07ab086bf27c", func := "ravelin/ravelinlaw14.ChooseTells", spec := "chooseTells", inPlace := ["internal/bytealg.abigen_runtime_cmpstring"], unfollowed := true, recurses := true, apart := false }
def ChooseTellsSaid : Prop := chooseTellsRow.holds Try.pinned (OpenSpec.ofChange chooseTellsSpec)

/-- ITS FALSE NEIGHBOUR: 'it returns false'. Refute it at one input. -/
def chooseTellsWrong : ChangeSpec := { name := "chooseTells", fn := fun _ => fun
  | [d1, d2, d3, d4] => { results := [.lit (.bool false)], args := [d1, d2, d3, d4] }
  | _ => none }
def ChooseTellsWrongFalsely : Prop := chooseTellsRow.holds Try.pinned (OpenSpec.ofChange chooseTellsWrong)

/-- 'ravelinlaw14.ChooseWhole': WHATEVER THE INPUT: true; the input reads as it did. -/
def chooseWholeSpec : ChangeSpec := { name := "chooseWhole", fn := fun _ => fun
  | [d] => { results := [.lit (.bool true)], args := [d] }
  | _ => none }
def chooseWholeRow : OpenClaim := { program := "ytfpnllajpnnfdaa", sum := "c71526db82211e8315cd2d0053937097e83001d6c92c1ac52cca07ab086bf27c", func := "ravelin/ravelinlaw14.ChooseWhole", spec := "chooseWhole", inPlace := ["internal/bytealg.abigen_runtime_cmpstring"], unfollowed := true, recurses := true, apart := false }
def ChooseWholeSaid : Prop := chooseWholeRow.holds Try.pinned (OpenSpec.ofChange chooseWholeSpec)

/-- ITS FALSE NEIGHBOUR: 'it returns false'. Refute it at one input. -/
def chooseWholeWrong : ChangeSpec := { name := "chooseWhole", fn := fun _ => fun
  | [d] => { results := [.lit (.bool false)], args := [d] }
  | _ => none }
def ChooseWholeWrongFalsely : Prop := chooseWholeRow.holds Try.pinned (OpenSpec.ofChange chooseWholeWrong)

/-- 'ravelinlaw14.ChooseSpread': WHATEVER THE INPUT: true; the input reads as it did. -/
def chooseSpreadSpec : ChangeSpec := { name := "chooseSpread", fn := fun _ => fun
  | [d1, d2, d3, d4] => { results := [.lit (.bool true)], args := [d1, d2, d3, d4] }
  | _ => none }
def chooseSpreadRow : OpenClaim := { program := "ytfpnllajpnnfdaa", sum := "c71526db82211e8315cd2d0053937097e83001d6c92c1ac52cca07ab086bf27c", func := "ravelin/ravelinlaw14.ChooseSpread", spec := "chooseSpread", inPlace := ["internal/bytealg.abigen_runtime_cmpstring"], unfollowed := true, recurses := true, apart := false }
def ChooseSpreadSaid : Prop := chooseSpreadRow.holds Try.pinned (OpenSpec.ofChange chooseSpreadSpec)

/-- ITS FALSE NEIGHBOUR: 'it returns false'. Refute it at one input. -/
def chooseSpreadWrong : ChangeSpec := { name := "chooseSpread", fn := fun _ => fun
  | [d1, d2, d3, d4] => { results := [.lit (.bool false)], args := [d1, d2, d3, d4] }
  | _ => none }
def ChooseSpreadWrongFalsely : Prop := chooseSpreadRow.holds Try.pinned (OpenSpec.ofChange chooseSpreadWrong)

/- THE SECOND FORM. 'bulk': how many values and letters a reading holds, each counted each time it is reached (what is shared counts as often as it is met; a slice's spare places count too). A statement '..UptoSaid' is the law's where the arguments, and the package variables that the reading takes, are together of bulk at most 1048576: NARROWER than '..Said'. Prove '..Said' where nothing that the law and all that it calls make is longer than what came in: it says more and counts as full. Else prove '..UptoSaid'. A law counts once. -/
mutual
def uptoBulk {H : Type} : DataW H → Nat
  | .lit (.string bytes) => bytes.length + 1
  | .lit _ => 1
  | .nil => 1
  | .ptr d => uptoBulk d + 1
  | .slice elems spare => uptoBulkAll elems + uptoBulkAll spare + 1
  | .agg parts => uptoBulkAll parts + 1
  | .iface _ d => uptoBulk d + 1
  | .map entries => uptoBulkEntries entries + 1
  | .held _ => 1
def uptoBulkAll {H : Type} : List (DataW H) → Nat
  | [] => 0
  | d :: r => uptoBulk d + uptoBulkAll r
def uptoBulkEntries {H : Type} : List (Lit × DataW H) → Nat
  | [] => 0
  | x :: r => uptoBulkEntry x + uptoBulkEntries r
def uptoBulkEntry {H : Type} : Lit × DataW H → Nat
  | (.string bytes, d) => bytes.length + uptoBulk d + 1
  | (_, d) => uptoBulk d + 1
 end
def uptoSmall : (H : Type) → List (DataW H) → Bool := fun _ ds => decide (uptoBulkAll ds ≤ 1048576)
def OpenSpec.upto (s : _root_.Go.ChangeSpec) : _root_.Go.OpenSpec := { _root_.Go.OpenSpec.ofChange s with cond := some uptoSmall }

/-- 'ravelinlaw14.ChooseTells', WHERE WHAT IT READS IS OF BULK AT MOST 1048576: true; the input reads as it did. -/
def chooseTellsUptoRow : OpenClaim := { program := "ytfpnllajpnnfdaa", sum := "c71526db82211e8315cd2d0053937097e83001d6c92c1ac52cca07ab086bf27c", func := "ravelin/ravelinlaw14.ChooseTells", spec := "chooseTells", inPlace := ["internal/bytealg.abigen_runtime_cmpstring"], unfollowed := true, recurses := true, apart := false, narrowed := true }
def ChooseTellsUptoSaid : Prop := chooseTellsUptoRow.holds Try.pinned (OpenSpec.upto chooseTellsSpec)

/-- 'ravelinlaw14.ChooseWhole', WHERE WHAT IT READS IS OF BULK AT MOST 1048576: true; the input reads as it did. -/
def chooseWholeUptoRow : OpenClaim := { program := "ytfpnllajpnnfdaa", sum := "c71526db82211e8315cd2d0053937097e83001d6c92c1ac52cca07ab086bf27c", func := "ravelin/ravelinlaw14.ChooseWhole", spec := "chooseWhole", inPlace := ["internal/bytealg.abigen_runtime_cmpstring"], unfollowed := true, recurses := true, apart := false, narrowed := true }
def ChooseWholeUptoSaid : Prop := chooseWholeUptoRow.holds Try.pinned (OpenSpec.upto chooseWholeSpec)

/-- 'ravelinlaw14.ChooseSpread', WHERE WHAT IT READS IS OF BULK AT MOST 1048576: true; the input reads as it did. -/
def chooseSpreadUptoRow : OpenClaim := { program := "ytfpnllajpnnfdaa", sum := "c71526db82211e8315cd2d0053937097e83001d6c92c1ac52cca07ab086bf27c", func := "ravelin/ravelinlaw14.ChooseSpread", spec := "chooseSpread", inPlace := ["internal/bytealg.abigen_runtime_cmpstring"], unfollowed := true, recurses := true, apart := false, narrowed := true }
def ChooseSpreadUptoSaid : Prop := chooseSpreadUptoRow.holds Try.pinned (OpenSpec.upto chooseSpreadSpec)

end Rows
end Go.Proofs.Ytfpnllajpnnfdaa
