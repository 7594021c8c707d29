/-
  No cell of these rows narrows 'for every input' (looked for: loops, veiled, ifaces, maps, wideKeys, modest, calm, conditions, laid).
  DERIVED. THE GIVEN ROWS OF THIS SEAT. 4 by the template 'for every input the law returns true; each argument reads behind the call as it read before'; 0 by the template 'total and deterministic' (their statements: YthlndkbdonoefaaTotals.lean).
  GIVEN WITH THE SEED: the statements are not yours to turn. If you find one false, say at which input.
  Laid BY PROGRAM, IN A SANDBOX (cutbox-rows.mjs): the forced cells as the released guide's own fill.sh prints them over the translation a5ca04e83f41bbdf… (all of the seat's roots in one cut). By AI agents, Wed Nov 11 2026. No macro, syntax, notation, axiom, sorry.
-/
import Derived.Test.YthlndkbdonoefaaChecked
import GoSem.Claim
import GoSem.ClaimJoined
import GoSem.ClaimMapViews
import Derived.JoinedTies
import Derived.KernelRfl
namespace Go.Proofs.Ythlndkbdonoefaa
/- THE CELL 'sum', in the pinned program and in every row, IS THE sha256 OF THE DUMP (.gsa) THAT YthlndkbdonoefaaProg.lean LOADS. Nothing in Lean hashes anything: it is a label: what it is worth is what the hold of that sum in a sandbox is worth. -/
noncomputable def Try.pinned : Pinned := { name := "ythlndkbdonoefaa", sum := "a5ca04e83f41bbdfe8bd503ae624232a052a83867a3a38a6d597e5a00c696303", checked := Try.checked }
namespace Rows
def none {H : Type} : Left H := { results := [], args := [] }

/-- 'ravelinlaw4.SealTells': WHATEVER THE INPUT: true; the input reads as it did. -/
def sealTellsSpec : ChangeSpec := { name := "sealTells", fn := fun _ => fun
  | [d1, d2] => { results := [.lit (.bool true)], args := [d1, d2] }
  | _ => none }
def sealTellsRow : OpenClaim := { program := "ythlndkbdonoefaa", sum := "a5ca04e83f41bbdfe8bd503ae624232a052a83867a3a38a6d597e5a00c696303", func := "ravelin/ravelinlaw4.SealTells", spec := "sealTells", apart := false }
def SealTellsSaid : Prop := sealTellsRow.holds Try.pinned (OpenSpec.ofChange sealTellsSpec)

/-- ITS FALSE NEIGHBOUR: 'it returns false'. Refute it at one input. -/
def sealTellsWrong : ChangeSpec := { name := "sealTells", fn := fun _ => fun
  | [d1, d2] => { results := [.lit (.bool false)], args := [d1, d2] }
  | _ => none }
def SealTellsWrongFalsely : Prop := sealTellsRow.holds Try.pinned (OpenSpec.ofChange sealTellsWrong)

/-- 'ravelinlaw4.SealSpoilt': WHATEVER THE INPUT: true; the input reads as it did. -/
def sealSpoiltSpec : ChangeSpec := { name := "sealSpoilt", fn := fun _ => fun
  | [d1, d2, d3] => { results := [.lit (.bool true)], args := [d1, d2, d3] }
  | _ => none }
def sealSpoiltRow : OpenClaim := { program := "ythlndkbdonoefaa", sum := "a5ca04e83f41bbdfe8bd503ae624232a052a83867a3a38a6d597e5a00c696303", func := "ravelin/ravelinlaw4.SealSpoilt", spec := "sealSpoilt", apart := false }
def SealSpoiltSaid : Prop := sealSpoiltRow.holds Try.pinned (OpenSpec.ofChange sealSpoiltSpec)

/-- ITS FALSE NEIGHBOUR: 'it returns false'. Refute it at one input. -/
def sealSpoiltWrong : ChangeSpec := { name := "sealSpoilt", fn := fun _ => fun
  | [d1, d2, d3] => { results := [.lit (.bool false)], args := [d1, d2, d3] }
  | _ => none }
def SealSpoiltWrongFalsely : Prop := sealSpoiltRow.holds Try.pinned (OpenSpec.ofChange sealSpoiltWrong)

/-- 'ravelinlaw4.SealRows': WHATEVER THE INPUT: true; the input reads as it did. -/
def sealRowsSpec : ChangeSpec := { name := "sealRows", fn := fun _ => fun
  | [d1, d2, d3] => { results := [.lit (.bool true)], args := [d1, d2, d3] }
  | _ => none }
def sealRowsRow : OpenClaim := { program := "ythlndkbdonoefaa", sum := "a5ca04e83f41bbdfe8bd503ae624232a052a83867a3a38a6d597e5a00c696303", func := "ravelin/ravelinlaw4.SealRows", spec := "sealRows", apart := false }
def SealRowsSaid : Prop := sealRowsRow.holds Try.pinned (OpenSpec.ofChange sealRowsSpec)

/-- ITS FALSE NEIGHBOUR: 'it returns false'. Refute it at one input. -/
def sealRowsWrong : ChangeSpec := { name := "sealRows", fn := fun _ => fun
  | [d1, d2, d3] => { results := [.lit (.bool false)], args := [d1, d2, d3] }
  | _ => none }
def SealRowsWrongFalsely : Prop := sealRowsRow.holds Try.pinned (OpenSpec.ofChange sealRowsWrong)

/-- 'ravelinlaw4.SealSums': WHATEVER THE INPUT: true; the input reads as it did. -/
def sealSumsSpec : ChangeSpec := { name := "sealSums", fn := fun _ => fun
  | [d1, d2, d3, d4] => { results := [.lit (.bool true)], args := [d1, d2, d3, d4] }
  | _ => none }
def sealSumsRow : OpenClaim := { program := "ythlndkbdonoefaa", sum := "a5ca04e83f41bbdfe8bd503ae624232a052a83867a3a38a6d597e5a00c696303", func := "ravelin/ravelinlaw4.SealSums", spec := "sealSums", apart := false }
def SealSumsSaid : Prop := sealSumsRow.holds Try.pinned (OpenSpec.ofChange sealSumsSpec)

/-- ITS FALSE NEIGHBOUR: 'it returns false'. Refute it at one input. -/
def sealSumsWrong : ChangeSpec := { name := "sealSums", fn := fun _ => fun
  | [d1, d2, d3, d4] => { results := [.lit (.bool false)], args := [d1, d2, d3, d4] }
  | _ => none }
def SealSumsWrongFalsely : Prop := sealSumsRow.holds Try.pinned (OpenSpec.ofChange sealSumsWrong)

/- THE SECOND FORM. 'bulk': how many values and letters a reading holds, each counted each time it is reached (what is shared counts as often as it is met; a slice's spare places count too). A statement '..UptoSaid' is the law's where the arguments, and the package variables that the reading takes, are together of bulk at most 1048576: NARROWER than '..Said'. Prove '..Said' where nothing that the law and all that it calls make is longer than what came in: it says more and counts as full. Else prove '..UptoSaid'. A law counts once. -/
mutual
def uptoBulk {H : Type} : DataW H → Nat
  | .lit (.string bytes) => bytes.length + 1
  | .lit _ => 1
  | .nil => 1
  | .ptr d => uptoBulk d + 1
  | .slice elems spare => uptoBulkAll elems + uptoBulkAll spare + 1
  | .agg parts => uptoBulkAll parts + 1
  | .iface _ d => uptoBulk d + 1
  | .map entries => uptoBulkEntries entries + 1
  | .held _ => 1
def uptoBulkAll {H : Type} : List (DataW H) → Nat
  | [] => 0
  | d :: r => uptoBulk d + uptoBulkAll r
def uptoBulkEntries {H : Type} : List (Lit × DataW H) → Nat
  | [] => 0
  | x :: r => uptoBulkEntry x + uptoBulkEntries r
def uptoBulkEntry {H : Type} : Lit × DataW H → Nat
  | (.string bytes, d) => bytes.length + uptoBulk d + 1
  | (_, d) => uptoBulk d + 1
 end
def uptoSmall : (H : Type) → List (DataW H) → Bool := fun _ ds => decide (uptoBulkAll ds ≤ 1048576)
def OpenSpec.upto (s : _root_.Go.ChangeSpec) : _root_.Go.OpenSpec := { _root_.Go.OpenSpec.ofChange s with cond := some uptoSmall }

/-- 'ravelinlaw4.SealTells', WHERE WHAT IT READS IS OF BULK AT MOST 1048576: true; the input reads as it did. -/
def sealTellsUptoRow : OpenClaim := { program := "ythlndkbdonoefaa", sum := "a5ca04e83f41bbdfe8bd503ae624232a052a83867a3a38a6d597e5a00c696303", func := "ravelin/ravelinlaw4.SealTells", spec := "sealTells", apart := false, narrowed := true }
def SealTellsUptoSaid : Prop := sealTellsUptoRow.holds Try.pinned (OpenSpec.upto sealTellsSpec)

/-- 'ravelinlaw4.SealSpoilt', WHERE WHAT IT READS IS OF BULK AT MOST 1048576: true; the input reads as it did. -/
def sealSpoiltUptoRow : OpenClaim := { program := "ythlndkbdonoefaa", sum := "a5ca04e83f41bbdfe8bd503ae624232a052a83867a3a38a6d597e5a00c696303", func := "ravelin/ravelinlaw4.SealSpoilt", spec := "sealSpoilt", apart := false, narrowed := true }
def SealSpoiltUptoSaid : Prop := sealSpoiltUptoRow.holds Try.pinned (OpenSpec.upto sealSpoiltSpec)

/-- 'ravelinlaw4.SealRows', WHERE WHAT IT READS IS OF BULK AT MOST 1048576: true; the input reads as it did. -/
def sealRowsUptoRow : OpenClaim := { program := "ythlndkbdonoefaa", sum := "a5ca04e83f41bbdfe8bd503ae624232a052a83867a3a38a6d597e5a00c696303", func := "ravelin/ravelinlaw4.SealRows", spec := "sealRows", apart := false, narrowed := true }
def SealRowsUptoSaid : Prop := sealRowsUptoRow.holds Try.pinned (OpenSpec.upto sealRowsSpec)

/-- 'ravelinlaw4.SealSums', WHERE WHAT IT READS IS OF BULK AT MOST 1048576: true; the input reads as it did. -/
def sealSumsUptoRow : OpenClaim := { program := "ythlndkbdonoefaa", sum := "a5ca04e83f41bbdfe8bd503ae624232a052a83867a3a38a6d597e5a00c696303", func := "ravelin/ravelinlaw4.SealSums", spec := "sealSums", apart := false, narrowed := true }
def SealSumsUptoSaid : Prop := sealSumsUptoRow.holds Try.pinned (OpenSpec.upto sealSumsSpec)

end Rows
end Go.Proofs.Ythlndkbdonoefaa
