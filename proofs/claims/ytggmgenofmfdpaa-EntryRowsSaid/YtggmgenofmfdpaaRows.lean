/-
  No cell of these rows narrows 'for every input' (looked for: loops, veiled, ifaces, maps, wideKeys, modest, calm, conditions, laid).
  DERIVED. THE GIVEN ROWS OF THIS SEAT. 6 by the template 'for every input the law returns true; each argument reads behind the call as it read before'; 0 by the template 'total and deterministic' (their statements: YtggmgenofmfdpaaTotals.lean).
  GIVEN WITH THE SEED: the statements are not yours to turn. If you find one false, say at which input.
  Laid BY PROGRAM, IN A SANDBOX (cutbox-rows.mjs): the forced cells as the released guide's own fill.sh prints them over the translation 6d6660f7628a5c1d… (all of the seat's roots in one cut). By AI agents, Wed Nov 11 2026. No macro, syntax, notation, axiom, sorry.
-/
import Derived.Test.YtggmgenofmfdpaaChecked
import GoSem.Claim
import GoSem.ClaimJoined
import GoSem.ClaimMapViews
import Derived.JoinedTies
import Derived.KernelRfl
namespace Go.Proofs.Ytggmgenofmfdpaa
/- THE CELL 'sum', in the pinned program and in every row, IS THE sha256 OF THE DUMP (.gsa) THAT YtggmgenofmfdpaaProg.lean LOADS. Nothing in Lean hashes anything: it is a label: what it is worth is what the hold of that sum in a sandbox is worth. -/
noncomputable def Try.pinned : Pinned := { name := "ytggmgenofmfdpaa", sum := "6d6660f7628a5c1df43b81151d486fe9d249f916e293be83ac5b6727bf5a2ef2", checked := Try.checked }
namespace Rows
def none {H : Type} : Left H := { results := [], args := [] }

/-- 'ravelinlaw6.EntryTells': WHATEVER THE INPUT: true; the input reads as it did. -/
def entryTellsSpec : ChangeSpec := { name := "entryTells", fn := fun _ => fun
  | [d1, d2, d3, d4, d5, d6, d7] => { results := [.lit (.bool true)], args := [d1, d2, d3, d4, d5, d6, d7] }
  | _ => none }
def entryTellsRow : OpenClaim := { program := "ytggmgenofmfdpaa", sum := "6d6660f7628a5c1df43b81151d486fe9d249f916e293be83ac5b6727bf5a2ef2", func := "ravelin/ravelinlaw6.EntryTells", spec := "entryTells", inPlace := ["internal/bytealg.abigen_runtime_cmpstring"], unfollowed := true, recurses := true, apart := false }
def EntryTellsSaid : Prop := entryTellsRow.holds Try.pinned (OpenSpec.ofChange entryTellsSpec)

/-- ITS FALSE NEIGHBOUR: 'it returns false'. Refute it at one input. -/
def entryTellsWrong : ChangeSpec := { name := "entryTells", fn := fun _ => fun
  | [d1, d2, d3, d4, d5, d6, d7] => { results := [.lit (.bool false)], args := [d1, d2, d3, d4, d5, d6, d7] }
  | _ => none }
def EntryTellsWrongFalsely : Prop := entryTellsRow.holds Try.pinned (OpenSpec.ofChange entryTellsWrong)

/-- 'ravelinlaw6.EntryBack': WHATEVER THE INPUT: true; the input reads as it did. -/
def entryBackSpec : ChangeSpec := { name := "entryBack", fn := fun _ => fun
  | [d1, d2, d3, d4] => { results := [.lit (.bool true)], args := [d1, d2, d3, d4] }
  | _ => none }
def entryBackRow : OpenClaim := { program := "ytggmgenofmfdpaa", sum := "6d6660f7628a5c1df43b81151d486fe9d249f916e293be83ac5b6727bf5a2ef2", func := "ravelin/ravelinlaw6.EntryBack", spec := "entryBack", inPlace := ["internal/bytealg.abigen_runtime_cmpstring"], unfollowed := true, recurses := true, apart := false }
def EntryBackSaid : Prop := entryBackRow.holds Try.pinned (OpenSpec.ofChange entryBackSpec)

/-- ITS FALSE NEIGHBOUR: 'it returns false'. Refute it at one input. -/
def entryBackWrong : ChangeSpec := { name := "entryBack", fn := fun _ => fun
  | [d1, d2, d3, d4] => { results := [.lit (.bool false)], args := [d1, d2, d3, d4] }
  | _ => none }
def EntryBackWrongFalsely : Prop := entryBackRow.holds Try.pinned (OpenSpec.ofChange entryBackWrong)

/-- 'ravelinlaw6.EntryOrders': WHATEVER THE INPUT: true; the input reads as it did. -/
def entryOrdersSpec : ChangeSpec := { name := "entryOrders", fn := fun _ => fun
  | [d1, d2, d3, d4, d5] => { results := [.lit (.bool true)], args := [d1, d2, d3, d4, d5] }
  | _ => none }
def entryOrdersRow : OpenClaim := { program := "ytggmgenofmfdpaa", sum := "6d6660f7628a5c1df43b81151d486fe9d249f916e293be83ac5b6727bf5a2ef2", func := "ravelin/ravelinlaw6.EntryOrders", spec := "entryOrders", inPlace := ["internal/bytealg.abigen_runtime_cmpstring"], unfollowed := true, recurses := true, apart := false }
def EntryOrdersSaid : Prop := entryOrdersRow.holds Try.pinned (OpenSpec.ofChange entryOrdersSpec)

/-- ITS FALSE NEIGHBOUR: 'it returns false'. Refute it at one input. -/
def entryOrdersWrong : ChangeSpec := { name := "entryOrders", fn := fun _ => fun
  | [d1, d2, d3, d4, d5] => { results := [.lit (.bool false)], args := [d1, d2, d3, d4, d5] }
  | _ => none }
def EntryOrdersWrongFalsely : Prop := entryOrdersRow.holds Try.pinned (OpenSpec.ofChange entryOrdersWrong)

/-- 'ravelinlaw6.EntryNewest': WHATEVER THE INPUT: true; the input reads as it did. -/
def entryNewestSpec : ChangeSpec := { name := "entryNewest", fn := fun _ => fun
  | [d1, d2] => { results := [.lit (.bool true)], args := [d1, d2] }
  | _ => none }
def entryNewestRow : OpenClaim := { program := "ytggmgenofmfdpaa", sum := "6d6660f7628a5c1df43b81151d486fe9d249f916e293be83ac5b6727bf5a2ef2", func := "ravelin/ravelinlaw6.EntryNewest", spec := "entryNewest", inPlace := ["internal/bytealg.abigen_runtime_cmpstring"], unfollowed := true, recurses := true, apart := false }
def EntryNewestSaid : Prop := entryNewestRow.holds Try.pinned (OpenSpec.ofChange entryNewestSpec)

/-- ITS FALSE NEIGHBOUR: 'it returns false'. Refute it at one input. -/
def entryNewestWrong : ChangeSpec := { name := "entryNewest", fn := fun _ => fun
  | [d1, d2] => { results := [.lit (.bool false)], args := [d1, d2] }
  | _ => none }
def EntryNewestWrongFalsely : Prop := entryNewestRow.holds Try.pinned (OpenSpec.ofChange entryNewestWrong)

/-- 'ravelinlaw6.EntryLimits': WHATEVER THE INPUT: true; the input reads as it did. -/
def entryLimitsSpec : ChangeSpec := { name := "entryLimits", fn := fun _ => fun
  | [d1, d2, d3, d4] => { results := [.lit (.bool true)], args := [d1, d2, d3, d4] }
  | _ => none }
def entryLimitsRow : OpenClaim := { program := "ytggmgenofmfdpaa", sum := "6d6660f7628a5c1df43b81151d486fe9d249f916e293be83ac5b6727bf5a2ef2", func := "ravelin/ravelinlaw6.EntryLimits", spec := "entryLimits", inPlace := ["internal/bytealg.abigen_runtime_cmpstring"], unfollowed := true, recurses := true, apart := false }
def EntryLimitsSaid : Prop := entryLimitsRow.holds Try.pinned (OpenSpec.ofChange entryLimitsSpec)

/-- ITS FALSE NEIGHBOUR: 'it returns false'. Refute it at one input. -/
def entryLimitsWrong : ChangeSpec := { name := "entryLimits", fn := fun _ => fun
  | [d1, d2, d3, d4] => { results := [.lit (.bool false)], args := [d1, d2, d3, d4] }
  | _ => none }
def EntryLimitsWrongFalsely : Prop := entryLimitsRow.holds Try.pinned (OpenSpec.ofChange entryLimitsWrong)

/-- 'ravelinlaw6.EntryRows': WHATEVER THE INPUT: true; the input reads as it did. -/
def entryRowsSpec : ChangeSpec := { name := "entryRows", fn := fun _ => fun
  | [d] => { results := [.lit (.bool true)], args := [d] }
  | _ => none }
def entryRowsRow : OpenClaim := { program := "ytggmgenofmfdpaa", sum := "6d6660f7628a5c1df43b81151d486fe9d249f916e293be83ac5b6727bf5a2ef2", func := "ravelin/ravelinlaw6.EntryRows", spec := "entryRows", inPlace := ["internal/bytealg.abigen_runtime_cmpstring"], unfollowed := true, recurses := true, apart := false }
def EntryRowsSaid : Prop := entryRowsRow.holds Try.pinned (OpenSpec.ofChange entryRowsSpec)

/-- ITS FALSE NEIGHBOUR: 'it returns false'. Refute it at one input. -/
def entryRowsWrong : ChangeSpec := { name := "entryRows", fn := fun _ => fun
  | [d] => { results := [.lit (.bool false)], args := [d] }
  | _ => none }
def EntryRowsWrongFalsely : Prop := entryRowsRow.holds Try.pinned (OpenSpec.ofChange entryRowsWrong)

/- THE SECOND FORM. 'bulk': how many values and letters a reading holds, each counted each time it is reached (what is shared counts as often as it is met; a slice's spare places count too). A statement '..UptoSaid' is the law's where the arguments, and the package variables that the reading takes, are together of bulk at most 1048576: NARROWER than '..Said'. Prove '..Said' where nothing that the law and all that it calls make is longer than what came in: it says more and counts as full. Else prove '..UptoSaid'. A law counts once. -/
mutual
def uptoBulk {H : Type} : DataW H → Nat
  | .lit (.string bytes) => bytes.length + 1
  | .lit _ => 1
  | .nil => 1
  | .ptr d => uptoBulk d + 1
  | .slice elems spare => uptoBulkAll elems + uptoBulkAll spare + 1
  | .agg parts => uptoBulkAll parts + 1
  | .iface _ d => uptoBulk d + 1
  | .map entries => uptoBulkEntries entries + 1
  | .held _ => 1
def uptoBulkAll {H : Type} : List (DataW H) → Nat
  | [] => 0
  | d :: r => uptoBulk d + uptoBulkAll r
def uptoBulkEntries {H : Type} : List (Lit × DataW H) → Nat
  | [] => 0
  | x :: r => uptoBulkEntry x + uptoBulkEntries r
def uptoBulkEntry {H : Type} : Lit × DataW H → Nat
  | (.string bytes, d) => bytes.length + uptoBulk d + 1
  | (_, d) => uptoBulk d + 1
 end
def uptoSmall : (H : Type) → List (DataW H) → Bool := fun _ ds => decide (uptoBulkAll ds ≤ 1048576)
def OpenSpec.upto (s : _root_.Go.ChangeSpec) : _root_.Go.OpenSpec := { _root_.Go.OpenSpec.ofChange s with cond := some uptoSmall }

/-- 'ravelinlaw6.EntryTells', WHERE WHAT IT READS IS OF BULK AT MOST 1048576: true; the input reads as it did. -/
def entryTellsUptoRow : OpenClaim := { program := "ytggmgenofmfdpaa", sum := "6d6660f7628a5c1df43b81151d486fe9d249f916e293be83ac5b6727bf5a2ef2", func := "ravelin/ravelinlaw6.EntryTells", spec := "entryTells", inPlace := ["internal/bytealg.abigen_runtime_cmpstring"], unfollowed := true, recurses := true, apart := false, narrowed := true }
def EntryTellsUptoSaid : Prop := entryTellsUptoRow.holds Try.pinned (OpenSpec.upto entryTellsSpec)

/-- 'ravelinlaw6.EntryBack', WHERE WHAT IT READS IS OF BULK AT MOST 1048576: true; the input reads as it did. -/
def entryBackUptoRow : OpenClaim := { program := "ytggmgenofmfdpaa", sum := "6d6660f7628a5c1df43b81151d486fe9d249f916e293be83ac5b6727bf5a2ef2", func := "ravelin/ravelinlaw6.EntryBack", spec := "entryBack", inPlace := ["internal/bytealg.abigen_runtime_cmpstring"], unfollowed := true, recurses := true, apart := false, narrowed := true }
def EntryBackUptoSaid : Prop := entryBackUptoRow.holds Try.pinned (OpenSpec.upto entryBackSpec)

/-- 'ravelinlaw6.EntryOrders', WHERE WHAT IT READS IS OF BULK AT MOST 1048576: true; the input reads as it did. -/
def entryOrdersUptoRow : OpenClaim := { program := "ytggmgenofmfdpaa", sum := "6d6660f7628a5c1df43b81151d486fe9d249f916e293be83ac5b6727bf5a2ef2", func := "ravelin/ravelinlaw6.EntryOrders", spec := "entryOrders", inPlace := ["internal/bytealg.abigen_runtime_cmpstring"], unfollowed := true, recurses := true, apart := false, narrowed := true }
def EntryOrdersUptoSaid : Prop := entryOrdersUptoRow.holds Try.pinned (OpenSpec.upto entryOrdersSpec)

/-- 'ravelinlaw6.EntryNewest', WHERE WHAT IT READS IS OF BULK AT MOST 1048576: true; the input reads as it did. -/
def entryNewestUptoRow : OpenClaim := { program := "ytggmgenofmfdpaa", sum := "6d6660f7628a5c1df43b81151d486fe9d249f916e293be83ac5b6727bf5a2ef2", func := "ravelin/ravelinlaw6.EntryNewest", spec := "entryNewest", inPlace := ["internal/bytealg.abigen_runtime_cmpstring"], unfollowed := true, recurses := true, apart := false, narrowed := true }
def EntryNewestUptoSaid : Prop := entryNewestUptoRow.holds Try.pinned (OpenSpec.upto entryNewestSpec)

/-- 'ravelinlaw6.EntryLimits', WHERE WHAT IT READS IS OF BULK AT MOST 1048576: true; the input reads as it did. -/
def entryLimitsUptoRow : OpenClaim := { program := "ytggmgenofmfdpaa", sum := "6d6660f7628a5c1df43b81151d486fe9d249f916e293be83ac5b6727bf5a2ef2", func := "ravelin/ravelinlaw6.EntryLimits", spec := "entryLimits", inPlace := ["internal/bytealg.abigen_runtime_cmpstring"], unfollowed := true, recurses := true, apart := false, narrowed := true }
def EntryLimitsUptoSaid : Prop := entryLimitsUptoRow.holds Try.pinned (OpenSpec.upto entryLimitsSpec)

/-- 'ravelinlaw6.EntryRows', WHERE WHAT IT READS IS OF BULK AT MOST 1048576: true; the input reads as it did. -/
def entryRowsUptoRow : OpenClaim := { program := "ytggmgenofmfdpaa", sum := "6d6660f7628a5c1df43b81151d486fe9d249f916e293be83ac5b6727bf5a2ef2", func := "ravelin/ravelinlaw6.EntryRows", spec := "entryRows", inPlace := ["internal/bytealg.abigen_runtime_cmpstring"], unfollowed := true, recurses := true, apart := false, narrowed := true }
def EntryRowsUptoSaid : Prop := entryRowsUptoRow.holds Try.pinned (OpenSpec.upto entryRowsSpec)

end Rows
end Go.Proofs.Ytggmgenofmfdpaa
