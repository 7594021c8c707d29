/-
  No cell of these rows narrows 'for every input' (looked for: loops, veiled, ifaces, maps, wideKeys, modest, calm, conditions, laid).
  DERIVED. THE GIVEN ROWS OF THIS SEAT. 5 by the template 'for every input the law returns true; each argument reads behind the call as it read before'; 0 by the template 'total and deterministic' (their statements: YtdkdnfgpgedglaaTotals.lean).
  GIVEN WITH THE SEED: the statements are not yours to turn. If you find one false, say at which input.
  Laid BY PROGRAM, IN A SANDBOX (cutbox-rows.mjs): the forced cells as the released guide's own fill.sh prints them over the translation 39f51073fe1992af… (all of the seat's roots in one cut). By AI agents, Wed Nov 11 2026. No macro, syntax, notation, axiom, sorry.
-/
import Derived.Test.YtdkdnfgpgedglaaChecked
import GoSem.Claim
import GoSem.ClaimJoined
import GoSem.ClaimMapViews
import Derived.JoinedTies
import Derived.KernelRfl
namespace Go.Proofs.Ytdkdnfgpgedglaa
/- THE CELL 'sum', in the pinned program and in every row, IS THE sha256 OF THE DUMP (.gsa) THAT YtdkdnfgpgedglaaProg.lean LOADS. Nothing in Lean hashes anything: it is a label: what it is worth is what the hold of that sum in a sandbox is worth. -/
noncomputable def Try.pinned : Pinned := { name := "ytdkdnfgpgedglaa", sum := "39f51073fe1992afb17e531580251f3051e621478649717c54761bef64e422c6", checked := Try.checked }
namespace Rows
def none {H : Type} : Left H := { results := [], args := [] }

/-- 'ravelinlaw10.HeapPlays': WHATEVER THE INPUT: true; the input reads as it did. -/
def heapPlaysSpec : ChangeSpec := { name := "heapPlays", fn := fun _ => fun
  | [d1, d2, d3, d4, d5] => { results := [.lit (.bool true)], args := [d1, d2, d3, d4, d5] }
  | _ => none }
def heapPlaysRow : OpenClaim := { program := "ytdkdnfgpgedglaa", sum := "39f51073fe1992afb17e531580251f3051e621478649717c54761bef64e422c6", func := "ravelin/ravelinlaw10.HeapPlays", spec := "heapPlays", inPlace := ["internal/bytealg.abigen_runtime_cmpstring", "slices.overlaps[ravelin/api.Entry]"], unfollowed := true, recurses := true, apart := false }
def HeapPlaysSaid : Prop := heapPlaysRow.holds Try.pinned (OpenSpec.ofChange heapPlaysSpec)

/-- ITS FALSE NEIGHBOUR: 'it returns false'. Refute it at one input. -/
def heapPlaysWrong : ChangeSpec := { name := "heapPlays", fn := fun _ => fun
  | [d1, d2, d3, d4, d5] => { results := [.lit (.bool false)], args := [d1, d2, d3, d4, d5] }
  | _ => none }
def HeapPlaysWrongFalsely : Prop := heapPlaysRow.holds Try.pinned (OpenSpec.ofChange heapPlaysWrong)

/-- 'ravelinlaw10.HeapOrders': WHATEVER THE INPUT: true; the input reads as it did. -/
def heapOrdersSpec : ChangeSpec := { name := "heapOrders", fn := fun _ => fun
  | [d1, d2] => { results := [.lit (.bool true)], args := [d1, d2] }
  | _ => none }
def heapOrdersRow : OpenClaim := { program := "ytdkdnfgpgedglaa", sum := "39f51073fe1992afb17e531580251f3051e621478649717c54761bef64e422c6", func := "ravelin/ravelinlaw10.HeapOrders", spec := "heapOrders", inPlace := ["internal/bytealg.abigen_runtime_cmpstring", "slices.overlaps[ravelin/api.Entry]"], unfollowed := true, recurses := true, apart := false }
def HeapOrdersSaid : Prop := heapOrdersRow.holds Try.pinned (OpenSpec.ofChange heapOrdersSpec)

/-- ITS FALSE NEIGHBOUR: 'it returns false'. Refute it at one input. -/
def heapOrdersWrong : ChangeSpec := { name := "heapOrders", fn := fun _ => fun
  | [d1, d2] => { results := [.lit (.bool false)], args := [d1, d2] }
  | _ => none }
def HeapOrdersWrongFalsely : Prop := heapOrdersRow.holds Try.pinned (OpenSpec.ofChange heapOrdersWrong)

/-- 'ravelinlaw10.HeapMany': WHATEVER THE INPUT: true; the input reads as it did. -/
def heapManySpec : ChangeSpec := { name := "heapMany", fn := fun _ => fun
  | [d1, d2] => { results := [.lit (.bool true)], args := [d1, d2] }
  | _ => none }
def heapManyRow : OpenClaim := { program := "ytdkdnfgpgedglaa", sum := "39f51073fe1992afb17e531580251f3051e621478649717c54761bef64e422c6", func := "ravelin/ravelinlaw10.HeapMany", spec := "heapMany", inPlace := ["internal/bytealg.abigen_runtime_cmpstring", "slices.overlaps[ravelin/api.Entry]"], unfollowed := true, recurses := true, apart := false }
def HeapManySaid : Prop := heapManyRow.holds Try.pinned (OpenSpec.ofChange heapManySpec)

/-- ITS FALSE NEIGHBOUR: 'it returns false'. Refute it at one input. -/
def heapManyWrong : ChangeSpec := { name := "heapMany", fn := fun _ => fun
  | [d1, d2] => { results := [.lit (.bool false)], args := [d1, d2] }
  | _ => none }
def HeapManyWrongFalsely : Prop := heapManyRow.holds Try.pinned (OpenSpec.ofChange heapManyWrong)

/-- 'ravelinlaw10.HeapNumbers': WHATEVER THE INPUT: true; the input reads as it did. -/
def heapNumbersSpec : ChangeSpec := { name := "heapNumbers", fn := fun _ => fun
  | [d1, d2] => { results := [.lit (.bool true)], args := [d1, d2] }
  | _ => none }
def heapNumbersRow : OpenClaim := { program := "ytdkdnfgpgedglaa", sum := "39f51073fe1992afb17e531580251f3051e621478649717c54761bef64e422c6", func := "ravelin/ravelinlaw10.HeapNumbers", spec := "heapNumbers", inPlace := ["internal/bytealg.abigen_runtime_cmpstring", "slices.overlaps[ravelin/api.Entry]"], unfollowed := true, recurses := true, apart := false }
def HeapNumbersSaid : Prop := heapNumbersRow.holds Try.pinned (OpenSpec.ofChange heapNumbersSpec)

/-- ITS FALSE NEIGHBOUR: 'it returns false'. Refute it at one input. -/
def heapNumbersWrong : ChangeSpec := { name := "heapNumbers", fn := fun _ => fun
  | [d1, d2] => { results := [.lit (.bool false)], args := [d1, d2] }
  | _ => none }
def HeapNumbersWrongFalsely : Prop := heapNumbersRow.holds Try.pinned (OpenSpec.ofChange heapNumbersWrong)

/-- 'ravelinlaw10.HeapRanges': WHATEVER THE INPUT: true; the input reads as it did. -/
def heapRangesSpec : ChangeSpec := { name := "heapRanges", fn := fun _ => fun
  | [d1, d2] => { results := [.lit (.bool true)], args := [d1, d2] }
  | _ => none }
def heapRangesRow : OpenClaim := { program := "ytdkdnfgpgedglaa", sum := "39f51073fe1992afb17e531580251f3051e621478649717c54761bef64e422c6", func := "ravelin/ravelinlaw10.HeapRanges", spec := "heapRanges", inPlace := ["internal/bytealg.abigen_runtime_cmpstring", "slices.overlaps[ravelin/api.Entry]"], unfollowed := true, recurses := true, apart := false }
def HeapRangesSaid : Prop := heapRangesRow.holds Try.pinned (OpenSpec.ofChange heapRangesSpec)

/-- ITS FALSE NEIGHBOUR: 'it returns false'. Refute it at one input. -/
def heapRangesWrong : ChangeSpec := { name := "heapRanges", fn := fun _ => fun
  | [d1, d2] => { results := [.lit (.bool false)], args := [d1, d2] }
  | _ => none }
def HeapRangesWrongFalsely : Prop := heapRangesRow.holds Try.pinned (OpenSpec.ofChange heapRangesWrong)

/- THE SECOND FORM. 'bulk': how many values and letters a reading holds, each counted each time it is reached (what is shared counts as often as it is met; a slice's spare places count too). A statement '..UptoSaid' is the law's where the arguments, and the package variables that the reading takes, are together of bulk at most 1048576: NARROWER than '..Said'. Prove '..Said' where nothing that the law and all that it calls make is longer than what came in: it says more and counts as full. Else prove '..UptoSaid'. A law counts once. -/
mutual
def uptoBulk {H : Type} : DataW H → Nat
  | .lit (.string bytes) => bytes.length + 1
  | .lit _ => 1
  | .nil => 1
  | .ptr d => uptoBulk d + 1
  | .slice elems spare => uptoBulkAll elems + uptoBulkAll spare + 1
  | .agg parts => uptoBulkAll parts + 1
  | .iface _ d => uptoBulk d + 1
  | .map entries => uptoBulkEntries entries + 1
  | .held _ => 1
def uptoBulkAll {H : Type} : List (DataW H) → Nat
  | [] => 0
  | d :: r => uptoBulk d + uptoBulkAll r
def uptoBulkEntries {H : Type} : List (Lit × DataW H) → Nat
  | [] => 0
  | x :: r => uptoBulkEntry x + uptoBulkEntries r
def uptoBulkEntry {H : Type} : Lit × DataW H → Nat
  | (.string bytes, d) => bytes.length + uptoBulk d + 1
  | (_, d) => uptoBulk d + 1
 end
def uptoSmall : (H : Type) → List (DataW H) → Bool := fun _ ds => decide (uptoBulkAll ds ≤ 1048576)
def OpenSpec.upto (s : _root_.Go.ChangeSpec) : _root_.Go.OpenSpec := { _root_.Go.OpenSpec.ofChange s with cond := some uptoSmall }

/-- 'ravelinlaw10.HeapPlays', WHERE WHAT IT READS IS OF BULK AT MOST 1048576: true; the input reads as it did. -/
def heapPlaysUptoRow : OpenClaim := { program := "ytdkdnfgpgedglaa", sum := "39f51073fe1992afb17e531580251f3051e621478649717c54761bef64e422c6", func := "ravelin/ravelinlaw10.HeapPlays", spec := "heapPlays", inPlace := ["internal/bytealg.abigen_runtime_cmpstring", "slices.overlaps[ravelin/api.Entry]"], unfollowed := true, recurses := true, apart := false, narrowed := true }
def HeapPlaysUptoSaid : Prop := heapPlaysUptoRow.holds Try.pinned (OpenSpec.upto heapPlaysSpec)

/-- 'ravelinlaw10.HeapOrders', WHERE WHAT IT READS IS OF BULK AT MOST 1048576: true; the input reads as it did. -/
def heapOrdersUptoRow : OpenClaim := { program := "ytdkdnfgpgedglaa", sum := "39f51073fe1992afb17e531580251f3051e621478649717c54761bef64e422c6", func := "ravelin/ravelinlaw10.HeapOrders", spec := "heapOrders", inPlace := ["internal/bytealg.abigen_runtime_cmpstring", "slices.overlaps[ravelin/api.Entry]"], unfollowed := true, recurses := true, apart := false, narrowed := true }
def HeapOrdersUptoSaid : Prop := heapOrdersUptoRow.holds Try.pinned (OpenSpec.upto heapOrdersSpec)

/-- 'ravelinlaw10.HeapMany', WHERE WHAT IT READS IS OF BULK AT MOST 1048576: true; the input reads as it did. -/
def heapManyUptoRow : OpenClaim := { program := "ytdkdnfgpgedglaa", sum := "39f51073fe1992afb17e531580251f3051e621478649717c54761bef64e422c6", func := "ravelin/ravelinlaw10.HeapMany", spec := "heapMany", inPlace := ["internal/bytealg.abigen_runtime_cmpstring", "slices.overlaps[ravelin/api.Entry]"], unfollowed := true, recurses := true, apart := false, narrowed := true }
def HeapManyUptoSaid : Prop := heapManyUptoRow.holds Try.pinned (OpenSpec.upto heapManySpec)

/-- 'ravelinlaw10.HeapNumbers', WHERE WHAT IT READS IS OF BULK AT MOST 1048576: true; the input reads as it did. -/
def heapNumbersUptoRow : OpenClaim := { program := "ytdkdnfgpgedglaa", sum := "39f51073fe1992afb17e531580251f3051e621478649717c54761bef64e422c6", func := "ravelin/ravelinlaw10.HeapNumbers", spec := "heapNumbers", inPlace := ["internal/bytealg.abigen_runtime_cmpstring", "slices.overlaps[ravelin/api.Entry]"], unfollowed := true, recurses := true, apart := false, narrowed := true }
def HeapNumbersUptoSaid : Prop := heapNumbersUptoRow.holds Try.pinned (OpenSpec.upto heapNumbersSpec)

/-- 'ravelinlaw10.HeapRanges', WHERE WHAT IT READS IS OF BULK AT MOST 1048576: true; the input reads as it did. -/
def heapRangesUptoRow : OpenClaim := { program := "ytdkdnfgpgedglaa", sum := "39f51073fe1992afb17e531580251f3051e621478649717c54761bef64e422c6", func := "ravelin/ravelinlaw10.HeapRanges", spec := "heapRanges", inPlace := ["internal/bytealg.abigen_runtime_cmpstring", "slices.overlaps[ravelin/api.Entry]"], unfollowed := true, recurses := true, apart := false, narrowed := true }
def HeapRangesUptoSaid : Prop := heapRangesUptoRow.holds Try.pinned (OpenSpec.upto heapRangesSpec)

end Rows
end Go.Proofs.Ytdkdnfgpgedglaa
