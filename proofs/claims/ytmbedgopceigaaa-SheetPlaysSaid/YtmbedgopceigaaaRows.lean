/-
  No cell of these rows narrows 'for every input' (looked for: loops, veiled, ifaces, maps, wideKeys, modest, calm, conditions, laid).
  DERIVED. THE GIVEN ROWS OF THIS SEAT. 5 by the template 'for every input the law returns true; each argument reads behind the call as it read before'; 0 by the template 'total and deterministic' (their statements: YtmbedgopceigaaaTotals.lean).
  GIVEN WITH THE SEED: the statements are not yours to turn. If you find one false, say at which input.
  Laid BY PROGRAM, IN A SANDBOX (cutbox-rows.mjs): the forced cells as the released guide's own fill.sh prints them over the translation eac094a4ba8cc78f… (all of the seat's roots in one cut). By AI agents, Wed Nov 11 2026. No macro, syntax, notation, axiom, sorry.
-/
import Derived.Test.YtmbedgopceigaaaChecked
import GoSem.Claim
import GoSem.ClaimJoined
import GoSem.ClaimMapViews
import Derived.JoinedTies
import Derived.KernelRfl
namespace Go.Proofs.Ytmbedgopceigaaa
/- THE CELL 'sum', in the pinned program and in every row, IS THE sha256 OF THE DUMP (.gsa) THAT YtmbedgopceigaaaProg.lean LOADS. Nothing in Lean hashes anything: it is a label: what it is worth is what the hold of that sum in a sandbox is worth. -/
noncomputable def Try.pinned : Pinned := { name := "ytmbedgopceigaaa", sum := "eac094a4ba8cc78fa806b88f3e54bd7152028fbe692d0a8e4f4c0fd9d12f1de8", checked := Try.checked }
namespace Rows
def none {H : Type} : Left H := { results := [], args := [] }

/-- 'ravelinlaw13.SheetPlays': WHATEVER THE INPUT: true; the input reads as it did. -/
def sheetPlaysSpec : ChangeSpec := { name := "sheetPlays", fn := fun _ => fun
  | [d] => { results := [.lit (.bool true)], args := [d] }
  | _ => none }
def sheetPlaysRow : OpenClaim := { program := "ytmbedgopceigaaa", sum := "eac094a4ba8cc78fa806b88f3e54bd7152028fbe692d0a8e4f4c0fd9d12f1de8", func := "ravelin/ravelinlaw13.SheetPlays", spec := "sheetPlays", inPlace := ["internal/bytealg.abigen_runtime_cmpstring"], unfollowed := true, recurses := true, apart := false }
def SheetPlaysSaid : Prop := sheetPlaysRow.holds Try.pinned (OpenSpec.ofChange sheetPlaysSpec)

/-- ITS FALSE NEIGHBOUR: 'it returns false'. Refute it at one input. -/
def sheetPlaysWrong : ChangeSpec := { name := "sheetPlays", fn := fun _ => fun
  | [d] => { results := [.lit (.bool false)], args := [d] }
  | _ => none }
def SheetPlaysWrongFalsely : Prop := sheetPlaysRow.holds Try.pinned (OpenSpec.ofChange sheetPlaysWrong)

/-- 'ravelinlaw13.SheetReads': WHATEVER THE INPUT: true; the input reads as it did. -/
def sheetReadsSpec : ChangeSpec := { name := "sheetReads", fn := fun _ => fun
  | [d1, d2] => { results := [.lit (.bool true)], args := [d1, d2] }
  | _ => none }
def sheetReadsRow : OpenClaim := { program := "ytmbedgopceigaaa", sum := "eac094a4ba8cc78fa806b88f3e54bd7152028fbe692d0a8e4f4c0fd9d12f1de8", func := "ravelin/ravelinlaw13.SheetReads", spec := "sheetReads", inPlace := ["internal/bytealg.abigen_runtime_cmpstring"], unfollowed := true, recurses := true, apart := false }
def SheetReadsSaid : Prop := sheetReadsRow.holds Try.pinned (OpenSpec.ofChange sheetReadsSpec)

/-- ITS FALSE NEIGHBOUR: 'it returns false'. Refute it at one input. -/
def sheetReadsWrong : ChangeSpec := { name := "sheetReads", fn := fun _ => fun
  | [d1, d2] => { results := [.lit (.bool false)], args := [d1, d2] }
  | _ => none }
def SheetReadsWrongFalsely : Prop := sheetReadsRow.holds Try.pinned (OpenSpec.ofChange sheetReadsWrong)

/-- 'ravelinlaw13.SheetRules': WHATEVER THE INPUT: true; the input reads as it did. -/
def sheetRulesSpec : ChangeSpec := { name := "sheetRules", fn := fun _ => fun
  | [d] => { results := [.lit (.bool true)], args := [d] }
  | _ => none }
def sheetRulesRow : OpenClaim := { program := "ytmbedgopceigaaa", sum := "eac094a4ba8cc78fa806b88f3e54bd7152028fbe692d0a8e4f4c0fd9d12f1de8", func := "ravelin/ravelinlaw13.SheetRules", spec := "sheetRules", inPlace := ["internal/bytealg.abigen_runtime_cmpstring"], unfollowed := true, recurses := true, apart := false }
def SheetRulesSaid : Prop := sheetRulesRow.holds Try.pinned (OpenSpec.ofChange sheetRulesSpec)

/-- ITS FALSE NEIGHBOUR: 'it returns false'. Refute it at one input. -/
def sheetRulesWrong : ChangeSpec := { name := "sheetRules", fn := fun _ => fun
  | [d] => { results := [.lit (.bool false)], args := [d] }
  | _ => none }
def SheetRulesWrongFalsely : Prop := sheetRulesRow.holds Try.pinned (OpenSpec.ofChange sheetRulesWrong)

/-- 'ravelinlaw13.SheetMeets': WHATEVER THE INPUT: true; the input reads as it did. -/
def sheetMeetsSpec : ChangeSpec := { name := "sheetMeets", fn := fun _ => fun
  | [d1, d2, d3, d4, d5] => { results := [.lit (.bool true)], args := [d1, d2, d3, d4, d5] }
  | _ => none }
def sheetMeetsRow : OpenClaim := { program := "ytmbedgopceigaaa", sum := "eac094a4ba8cc78fa806b88f3e54bd7152028fbe692d0a8e4f4c0fd9d12f1de8", func := "ravelin/ravelinlaw13.SheetMeets", spec := "sheetMeets", inPlace := ["internal/bytealg.abigen_runtime_cmpstring"], unfollowed := true, recurses := true, apart := false }
def SheetMeetsSaid : Prop := sheetMeetsRow.holds Try.pinned (OpenSpec.ofChange sheetMeetsSpec)

/-- ITS FALSE NEIGHBOUR: 'it returns false'. Refute it at one input. -/
def sheetMeetsWrong : ChangeSpec := { name := "sheetMeets", fn := fun _ => fun
  | [d1, d2, d3, d4, d5] => { results := [.lit (.bool false)], args := [d1, d2, d3, d4, d5] }
  | _ => none }
def SheetMeetsWrongFalsely : Prop := sheetMeetsRow.holds Try.pinned (OpenSpec.ofChange sheetMeetsWrong)

/-- 'ravelinlaw13.SheetMany': WHATEVER THE INPUT: true; the input reads as it did. -/
def sheetManySpec : ChangeSpec := { name := "sheetMany", fn := fun _ => fun
  | [d1, d2] => { results := [.lit (.bool true)], args := [d1, d2] }
  | _ => none }
def sheetManyRow : OpenClaim := { program := "ytmbedgopceigaaa", sum := "eac094a4ba8cc78fa806b88f3e54bd7152028fbe692d0a8e4f4c0fd9d12f1de8", func := "ravelin/ravelinlaw13.SheetMany", spec := "sheetMany", inPlace := ["internal/bytealg.abigen_runtime_cmpstring"], unfollowed := true, recurses := true, apart := false }
def SheetManySaid : Prop := sheetManyRow.holds Try.pinned (OpenSpec.ofChange sheetManySpec)

/-- ITS FALSE NEIGHBOUR: 'it returns false'. Refute it at one input. -/
def sheetManyWrong : ChangeSpec := { name := "sheetMany", fn := fun _ => fun
  | [d1, d2] => { results := [.lit (.bool false)], args := [d1, d2] }
  | _ => none }
def SheetManyWrongFalsely : Prop := sheetManyRow.holds Try.pinned (OpenSpec.ofChange sheetManyWrong)

/- THE SECOND FORM. 'bulk': how many values and letters a reading holds, each counted each time it is reached (what is shared counts as often as it is met; a slice's spare places count too). A statement '..UptoSaid' is the law's where the arguments, and the package variables that the reading takes, are together of bulk at most 1048576: NARROWER than '..Said'. Prove '..Said' where nothing that the law and all that it calls make is longer than what came in: it says more and counts as full. Else prove '..UptoSaid'. A law counts once. -/
mutual
def uptoBulk {H : Type} : DataW H → Nat
  | .lit (.string bytes) => bytes.length + 1
  | .lit _ => 1
  | .nil => 1
  | .ptr d => uptoBulk d + 1
  | .slice elems spare => uptoBulkAll elems + uptoBulkAll spare + 1
  | .agg parts => uptoBulkAll parts + 1
  | .iface _ d => uptoBulk d + 1
  | .map entries => uptoBulkEntries entries + 1
  | .held _ => 1
def uptoBulkAll {H : Type} : List (DataW H) → Nat
  | [] => 0
  | d :: r => uptoBulk d + uptoBulkAll r
def uptoBulkEntries {H : Type} : List (Lit × DataW H) → Nat
  | [] => 0
  | x :: r => uptoBulkEntry x + uptoBulkEntries r
def uptoBulkEntry {H : Type} : Lit × DataW H → Nat
  | (.string bytes, d) => bytes.length + uptoBulk d + 1
  | (_, d) => uptoBulk d + 1
 end
def uptoSmall : (H : Type) → List (DataW H) → Bool := fun _ ds => decide (uptoBulkAll ds ≤ 1048576)
def OpenSpec.upto (s : _root_.Go.ChangeSpec) : _root_.Go.OpenSpec := { _root_.Go.OpenSpec.ofChange s with cond := some uptoSmall }

/-- 'ravelinlaw13.SheetPlays', WHERE WHAT IT READS IS OF BULK AT MOST 1048576: true; the input reads as it did. -/
def sheetPlaysUptoRow : OpenClaim := { program := "ytmbedgopceigaaa", sum := "eac094a4ba8cc78fa806b88f3e54bd7152028fbe692d0a8e4f4c0fd9d12f1de8", func := "ravelin/ravelinlaw13.SheetPlays", spec := "sheetPlays", inPlace := ["internal/bytealg.abigen_runtime_cmpstring"], unfollowed := true, recurses := true, apart := false, narrowed := true }
def SheetPlaysUptoSaid : Prop := sheetPlaysUptoRow.holds Try.pinned (OpenSpec.upto sheetPlaysSpec)

/-- 'ravelinlaw13.SheetReads', WHERE WHAT IT READS IS OF BULK AT MOST 1048576: true; the input reads as it did. -/
def sheetReadsUptoRow : OpenClaim := { program := "ytmbedgopceigaaa", sum := "eac094a4ba8cc78fa806b88f3e54bd7152028fbe692d0a8e4f4c0fd9d12f1de8", func := "ravelin/ravelinlaw13.SheetReads", spec := "sheetReads", inPlace := ["internal/bytealg.abigen_runtime_cmpstring"], unfollowed := true, recurses := true, apart := false, narrowed := true }
def SheetReadsUptoSaid : Prop := sheetReadsUptoRow.holds Try.pinned (OpenSpec.upto sheetReadsSpec)

/-- 'ravelinlaw13.SheetRules', WHERE WHAT IT READS IS OF BULK AT MOST 1048576: true; the input reads as it did. -/
def sheetRulesUptoRow : OpenClaim := { program := "ytmbedgopceigaaa", sum := "eac094a4ba8cc78fa806b88f3e54bd7152028fbe692d0a8e4f4c0fd9d12f1de8", func := "ravelin/ravelinlaw13.SheetRules", spec := "sheetRules", inPlace := ["internal/bytealg.abigen_runtime_cmpstring"], unfollowed := true, recurses := true, apart := false, narrowed := true }
def SheetRulesUptoSaid : Prop := sheetRulesUptoRow.holds Try.pinned (OpenSpec.upto sheetRulesSpec)

/-- 'ravelinlaw13.SheetMeets', WHERE WHAT IT READS IS OF BULK AT MOST 1048576: true; the input reads as it did. -/
def sheetMeetsUptoRow : OpenClaim := { program := "ytmbedgopceigaaa", sum := "eac094a4ba8cc78fa806b88f3e54bd7152028fbe692d0a8e4f4c0fd9d12f1de8", func := "ravelin/ravelinlaw13.SheetMeets", spec := "sheetMeets", inPlace := ["internal/bytealg.abigen_runtime_cmpstring"], unfollowed := true, recurses := true, apart := false, narrowed := true }
def SheetMeetsUptoSaid : Prop := sheetMeetsUptoRow.holds Try.pinned (OpenSpec.upto sheetMeetsSpec)

/-- 'ravelinlaw13.SheetMany', WHERE WHAT IT READS IS OF BULK AT MOST 1048576: true; the input reads as it did. -/
def sheetManyUptoRow : OpenClaim := { program := "ytmbedgopceigaaa", sum := "eac094a4ba8cc78fa806b88f3e54bd7152028fbe692d0a8e4f4c0fd9d12f1de8", func := "ravelin/ravelinlaw13.SheetMany", spec := "sheetMany", inPlace := ["internal/bytealg.abigen_runtime_cmpstring"], unfollowed := true, recurses := true, apart := false, narrowed := true }
def SheetManyUptoSaid : Prop := sheetManyUptoRow.holds Try.pinned (OpenSpec.upto sheetManySpec)

end Rows
end Go.Proofs.Ytmbedgopceigaaa
