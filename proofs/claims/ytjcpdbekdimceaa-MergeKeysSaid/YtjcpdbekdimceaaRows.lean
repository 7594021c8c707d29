/-
  No cell of these rows narrows 'for every input' (looked for: loops, veiled, ifaces, maps, wideKeys, modest, calm, conditions, laid).
  DERIVED. THE GIVEN ROWS OF THIS SEAT. 5 by the template 'for every input the law returns true; each argument reads behind the call as it read before'; 0 by the template 'total and deterministic' (their statements: YtjcpdbekdimceaaTotals.lean).
  GIVEN WITH THE SEED: the statements are not yours to turn. If you find one false, say at which input.
  Laid BY PROGRAM, IN A SANDBOX (cutbox-rows.mjs): the forced cells as the released guide's own fill.sh prints them over the translation 5a40bd4974c44d82… (all of the seat's roots in one cut). By AI agents, Wed Nov 11 2026. No macro, syntax, notation, axiom, sorry.
-/
import Derived.Test.YtjcpdbekdimceaaChecked
import GoSem.Claim
import GoSem.ClaimJoined
import GoSem.ClaimMapViews
import Derived.JoinedTies
import Derived.KernelRfl
namespace Go.Proofs.Ytjcpdbekdimceaa
/- THE CELL 'sum', in the pinned program and in every row, IS THE sha256 OF THE DUMP (.gsa) THAT YtjcpdbekdimceaaProg.lean LOADS. Nothing in Lean hashes anything: it is a label: what it is worth is what the hold of that sum in a sandbox is worth. -/
noncomputable def Try.pinned : Pinned := { name := "ytjcpdbekdimceaa", sum := "5a40bd4974c44d8203411f6bf161e9cfff90120896b6ae180fb7c3c7d7a33fb9", checked := Try.checked }
namespace Rows
def none {H : Type} : Left H := { results := [], args := [] }

/-- 'ravelinlaw11.MergeTells': WHATEVER THE INPUT: true; the input reads as it did. -/
def mergeTellsSpec : ChangeSpec := { name := "mergeTells", fn := fun _ => fun
  | [d1, d2, d3, d4, d5] => { results := [.lit (.bool true)], args := [d1, d2, d3, d4, d5] }
  | _ => none }
def mergeTellsRow : OpenClaim := { program := "ytjcpdbekdimceaa", sum := "5a40bd4974c44d8203411f6bf161e9cfff90120896b6ae180fb7c3c7d7a33fb9", func := "ravelin/ravelinlaw11.MergeTells", spec := "mergeTells", inPlace := ["internal/bytealg.abigen_runtime_cmpstring"], unfollowed := true, recurses := true, apart := false }
def MergeTellsSaid : Prop := mergeTellsRow.holds Try.pinned (OpenSpec.ofChange mergeTellsSpec)

/-- ITS FALSE NEIGHBOUR: 'it returns false'. Refute it at one input. -/
def mergeTellsWrong : ChangeSpec := { name := "mergeTells", fn := fun _ => fun
  | [d1, d2, d3, d4, d5] => { results := [.lit (.bool false)], args := [d1, d2, d3, d4, d5] }
  | _ => none }
def MergeTellsWrongFalsely : Prop := mergeTellsRow.holds Try.pinned (OpenSpec.ofChange mergeTellsWrong)

/-- 'ravelinlaw11.MergeSame': WHATEVER THE INPUT: true; the input reads as it did. -/
def mergeSameSpec : ChangeSpec := { name := "mergeSame", fn := fun _ => fun
  | [d1, d2, d3] => { results := [.lit (.bool true)], args := [d1, d2, d3] }
  | _ => none }
def mergeSameRow : OpenClaim := { program := "ytjcpdbekdimceaa", sum := "5a40bd4974c44d8203411f6bf161e9cfff90120896b6ae180fb7c3c7d7a33fb9", func := "ravelin/ravelinlaw11.MergeSame", spec := "mergeSame", inPlace := ["internal/bytealg.abigen_runtime_cmpstring"], unfollowed := true, recurses := true, apart := false }
def MergeSameSaid : Prop := mergeSameRow.holds Try.pinned (OpenSpec.ofChange mergeSameSpec)

/-- ITS FALSE NEIGHBOUR: 'it returns false'. Refute it at one input. -/
def mergeSameWrong : ChangeSpec := { name := "mergeSame", fn := fun _ => fun
  | [d1, d2, d3] => { results := [.lit (.bool false)], args := [d1, d2, d3] }
  | _ => none }
def MergeSameWrongFalsely : Prop := mergeSameRow.holds Try.pinned (OpenSpec.ofChange mergeSameWrong)

/-- 'ravelinlaw11.MergeParts': WHATEVER THE INPUT: true; the input reads as it did. -/
def mergePartsSpec : ChangeSpec := { name := "mergeParts", fn := fun _ => fun
  | [d1, d2] => { results := [.lit (.bool true)], args := [d1, d2] }
  | _ => none }
def mergePartsRow : OpenClaim := { program := "ytjcpdbekdimceaa", sum := "5a40bd4974c44d8203411f6bf161e9cfff90120896b6ae180fb7c3c7d7a33fb9", func := "ravelin/ravelinlaw11.MergeParts", spec := "mergeParts", inPlace := ["internal/bytealg.abigen_runtime_cmpstring"], unfollowed := true, recurses := true, apart := false }
def MergePartsSaid : Prop := mergePartsRow.holds Try.pinned (OpenSpec.ofChange mergePartsSpec)

/-- ITS FALSE NEIGHBOUR: 'it returns false'. Refute it at one input. -/
def mergePartsWrong : ChangeSpec := { name := "mergeParts", fn := fun _ => fun
  | [d1, d2] => { results := [.lit (.bool false)], args := [d1, d2] }
  | _ => none }
def MergePartsWrongFalsely : Prop := mergePartsRow.holds Try.pinned (OpenSpec.ofChange mergePartsWrong)

/-- 'ravelinlaw11.MergeHeld': WHATEVER THE INPUT: true; the input reads as it did. -/
def mergeHeldSpec : ChangeSpec := { name := "mergeHeld", fn := fun _ => fun
  | [d1, d2, d3, d4] => { results := [.lit (.bool true)], args := [d1, d2, d3, d4] }
  | _ => none }
def mergeHeldRow : OpenClaim := { program := "ytjcpdbekdimceaa", sum := "5a40bd4974c44d8203411f6bf161e9cfff90120896b6ae180fb7c3c7d7a33fb9", func := "ravelin/ravelinlaw11.MergeHeld", spec := "mergeHeld", inPlace := ["internal/bytealg.abigen_runtime_cmpstring"], unfollowed := true, recurses := true, apart := false }
def MergeHeldSaid : Prop := mergeHeldRow.holds Try.pinned (OpenSpec.ofChange mergeHeldSpec)

/-- ITS FALSE NEIGHBOUR: 'it returns false'. Refute it at one input. -/
def mergeHeldWrong : ChangeSpec := { name := "mergeHeld", fn := fun _ => fun
  | [d1, d2, d3, d4] => { results := [.lit (.bool false)], args := [d1, d2, d3, d4] }
  | _ => none }
def MergeHeldWrongFalsely : Prop := mergeHeldRow.holds Try.pinned (OpenSpec.ofChange mergeHeldWrong)

/-- 'ravelinlaw11.MergeKeys': WHATEVER THE INPUT: true; the input reads as it did. -/
def mergeKeysSpec : ChangeSpec := { name := "mergeKeys", fn := fun _ => fun
  | [d1, d2, d3] => { results := [.lit (.bool true)], args := [d1, d2, d3] }
  | _ => none }
def mergeKeysRow : OpenClaim := { program := "ytjcpdbekdimceaa", sum := "5a40bd4974c44d8203411f6bf161e9cfff90120896b6ae180fb7c3c7d7a33fb9", func := "ravelin/ravelinlaw11.MergeKeys", spec := "mergeKeys", inPlace := ["internal/bytealg.abigen_runtime_cmpstring"], unfollowed := true, recurses := true, apart := false }
def MergeKeysSaid : Prop := mergeKeysRow.holds Try.pinned (OpenSpec.ofChange mergeKeysSpec)

/-- ITS FALSE NEIGHBOUR: 'it returns false'. Refute it at one input. -/
def mergeKeysWrong : ChangeSpec := { name := "mergeKeys", fn := fun _ => fun
  | [d1, d2, d3] => { results := [.lit (.bool false)], args := [d1, d2, d3] }
  | _ => none }
def MergeKeysWrongFalsely : Prop := mergeKeysRow.holds Try.pinned (OpenSpec.ofChange mergeKeysWrong)

/- THE SECOND FORM. 'bulk': how many values and letters a reading holds, each counted each time it is reached (what is shared counts as often as it is met; a slice's spare places count too). A statement '..UptoSaid' is the law's where the arguments, and the package variables that the reading takes, are together of bulk at most 1048576: NARROWER than '..Said'. Prove '..Said' where nothing that the law and all that it calls make is longer than what came in: it says more and counts as full. Else prove '..UptoSaid'. A law counts once. -/
mutual
def uptoBulk {H : Type} : DataW H → Nat
  | .lit (.string bytes) => bytes.length + 1
  | .lit _ => 1
  | .nil => 1
  | .ptr d => uptoBulk d + 1
  | .slice elems spare => uptoBulkAll elems + uptoBulkAll spare + 1
  | .agg parts => uptoBulkAll parts + 1
  | .iface _ d => uptoBulk d + 1
  | .map entries => uptoBulkEntries entries + 1
  | .held _ => 1
def uptoBulkAll {H : Type} : List (DataW H) → Nat
  | [] => 0
  | d :: r => uptoBulk d + uptoBulkAll r
def uptoBulkEntries {H : Type} : List (Lit × DataW H) → Nat
  | [] => 0
  | x :: r => uptoBulkEntry x + uptoBulkEntries r
def uptoBulkEntry {H : Type} : Lit × DataW H → Nat
  | (.string bytes, d) => bytes.length + uptoBulk d + 1
  | (_, d) => uptoBulk d + 1
 end
def uptoSmall : (H : Type) → List (DataW H) → Bool := fun _ ds => decide (uptoBulkAll ds ≤ 1048576)
def OpenSpec.upto (s : _root_.Go.ChangeSpec) : _root_.Go.OpenSpec := { _root_.Go.OpenSpec.ofChange s with cond := some uptoSmall }

/-- 'ravelinlaw11.MergeTells', WHERE WHAT IT READS IS OF BULK AT MOST 1048576: true; the input reads as it did. -/
def mergeTellsUptoRow : OpenClaim := { program := "ytjcpdbekdimceaa", sum := "5a40bd4974c44d8203411f6bf161e9cfff90120896b6ae180fb7c3c7d7a33fb9", func := "ravelin/ravelinlaw11.MergeTells", spec := "mergeTells", inPlace := ["internal/bytealg.abigen_runtime_cmpstring"], unfollowed := true, recurses := true, apart := false, narrowed := true }
def MergeTellsUptoSaid : Prop := mergeTellsUptoRow.holds Try.pinned (OpenSpec.upto mergeTellsSpec)

/-- 'ravelinlaw11.MergeSame', WHERE WHAT IT READS IS OF BULK AT MOST 1048576: true; the input reads as it did. -/
def mergeSameUptoRow : OpenClaim := { program := "ytjcpdbekdimceaa", sum := "5a40bd4974c44d8203411f6bf161e9cfff90120896b6ae180fb7c3c7d7a33fb9", func := "ravelin/ravelinlaw11.MergeSame", spec := "mergeSame", inPlace := ["internal/bytealg.abigen_runtime_cmpstring"], unfollowed := true, recurses := true, apart := false, narrowed := true }
def MergeSameUptoSaid : Prop := mergeSameUptoRow.holds Try.pinned (OpenSpec.upto mergeSameSpec)

/-- 'ravelinlaw11.MergeParts', WHERE WHAT IT READS IS OF BULK AT MOST 1048576: true; the input reads as it did. -/
def mergePartsUptoRow : OpenClaim := { program := "ytjcpdbekdimceaa", sum := "5a40bd4974c44d8203411f6bf161e9cfff90120896b6ae180fb7c3c7d7a33fb9", func := "ravelin/ravelinlaw11.MergeParts", spec := "mergeParts", inPlace := ["internal/bytealg.abigen_runtime_cmpstring"], unfollowed := true, recurses := true, apart := false, narrowed := true }
def MergePartsUptoSaid : Prop := mergePartsUptoRow.holds Try.pinned (OpenSpec.upto mergePartsSpec)

/-- 'ravelinlaw11.MergeHeld', WHERE WHAT IT READS IS OF BULK AT MOST 1048576: true; the input reads as it did. -/
def mergeHeldUptoRow : OpenClaim := { program := "ytjcpdbekdimceaa", sum := "5a40bd4974c44d8203411f6bf161e9cfff90120896b6ae180fb7c3c7d7a33fb9", func := "ravelin/ravelinlaw11.MergeHeld", spec := "mergeHeld", inPlace := ["internal/bytealg.abigen_runtime_cmpstring"], unfollowed := true, recurses := true, apart := false, narrowed := true }
def MergeHeldUptoSaid : Prop := mergeHeldUptoRow.holds Try.pinned (OpenSpec.upto mergeHeldSpec)

/-- 'ravelinlaw11.MergeKeys', WHERE WHAT IT READS IS OF BULK AT MOST 1048576: true; the input reads as it did. -/
def mergeKeysUptoRow : OpenClaim := { program := "ytjcpdbekdimceaa", sum := "5a40bd4974c44d8203411f6bf161e9cfff90120896b6ae180fb7c3c7d7a33fb9", func := "ravelin/ravelinlaw11.MergeKeys", spec := "mergeKeys", inPlace := ["internal/bytealg.abigen_runtime_cmpstring"], unfollowed := true, recurses := true, apart := false, narrowed := true }
def MergeKeysUptoSaid : Prop := mergeKeysUptoRow.holds Try.pinned (OpenSpec.upto mergeKeysSpec)

end Rows
end Go.Proofs.Ytjcpdbekdimceaa
