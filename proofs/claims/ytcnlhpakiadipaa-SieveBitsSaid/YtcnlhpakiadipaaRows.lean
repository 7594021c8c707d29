/-
  No cell of these rows narrows 'for every input' (looked for: loops, veiled, ifaces, maps, wideKeys, modest, calm, conditions, laid).
  DERIVED. THE GIVEN ROWS OF THIS SEAT. 4 by the template 'for every input the law returns true; each argument reads behind the call as it read before'; 0 by the template 'total and deterministic' (their statements: YtcnlhpakiadipaaTotals.lean).
  GIVEN WITH THE SEED: the statements are not yours to turn. If you find one false, say at which input.
  Laid BY PROGRAM, IN A SANDBOX (cutbox-rows.mjs): the forced cells as the released guide's own fill.sh prints them over the translation 5852c1407215c189… (all of the seat's roots in one cut). By AI agents, Wed Nov 11 2026. No macro, syntax, notation, axiom, sorry.
-/
import Derived.Test.YtcnlhpakiadipaaChecked
import GoSem.Claim
import GoSem.ClaimJoined
import GoSem.ClaimMapViews
import Derived.JoinedTies
import Derived.KernelRfl
namespace Go.Proofs.Ytcnlhpakiadipaa
/- THE CELL 'sum', in the pinned program and in every row, IS THE sha256 OF THE DUMP (.gsa) THAT YtcnlhpakiadipaaProg.lean LOADS. Nothing in Lean hashes anything: it is a label: what it is worth is what the hold of that sum in a sandbox is worth. -/
noncomputable def Try.pinned : Pinned := { name := "ytcnlhpakiadipaa", sum := "5852c1407215c1898068ce7fd8db69d7eab99d4d23b377509beb4f8e8f000751", checked := Try.checked }
namespace Rows
def none {H : Type} : Left H := { results := [], args := [] }

/-- 'ravelinlaw7.SieveTells': WHATEVER THE INPUT: true; the input reads as it did. -/
def sieveTellsSpec : ChangeSpec := { name := "sieveTells", fn := fun _ => fun
  | [d1, d2, d3] => { results := [.lit (.bool true)], args := [d1, d2, d3] }
  | _ => none }
def sieveTellsRow : OpenClaim := { program := "ytcnlhpakiadipaa", sum := "5852c1407215c1898068ce7fd8db69d7eab99d4d23b377509beb4f8e8f000751", func := "ravelin/ravelinlaw7.SieveTells", spec := "sieveTells", apart := false }
def SieveTellsSaid : Prop := sieveTellsRow.holds Try.pinned (OpenSpec.ofChange sieveTellsSpec)

/-- ITS FALSE NEIGHBOUR: 'it returns false'. Refute it at one input. -/
def sieveTellsWrong : ChangeSpec := { name := "sieveTells", fn := fun _ => fun
  | [d1, d2, d3] => { results := [.lit (.bool false)], args := [d1, d2, d3] }
  | _ => none }
def SieveTellsWrongFalsely : Prop := sieveTellsRow.holds Try.pinned (OpenSpec.ofChange sieveTellsWrong)

/-- 'ravelinlaw7.SieveHas': WHATEVER THE INPUT: true; the input reads as it did. -/
def sieveHasSpec : ChangeSpec := { name := "sieveHas", fn := fun _ => fun
  | [d1, d2] => { results := [.lit (.bool true)], args := [d1, d2] }
  | _ => none }
def sieveHasRow : OpenClaim := { program := "ytcnlhpakiadipaa", sum := "5852c1407215c1898068ce7fd8db69d7eab99d4d23b377509beb4f8e8f000751", func := "ravelin/ravelinlaw7.SieveHas", spec := "sieveHas", apart := false }
def SieveHasSaid : Prop := sieveHasRow.holds Try.pinned (OpenSpec.ofChange sieveHasSpec)

/-- ITS FALSE NEIGHBOUR: 'it returns false'. Refute it at one input. -/
def sieveHasWrong : ChangeSpec := { name := "sieveHas", fn := fun _ => fun
  | [d1, d2] => { results := [.lit (.bool false)], args := [d1, d2] }
  | _ => none }
def SieveHasWrongFalsely : Prop := sieveHasRow.holds Try.pinned (OpenSpec.ofChange sieveHasWrong)

/-- 'ravelinlaw7.SieveFew': WHATEVER THE INPUT: true; the input reads as it did. -/
def sieveFewSpec : ChangeSpec := { name := "sieveFew", fn := fun _ => fun
  | [d1, d2] => { results := [.lit (.bool true)], args := [d1, d2] }
  | _ => none }
def sieveFewRow : OpenClaim := { program := "ytcnlhpakiadipaa", sum := "5852c1407215c1898068ce7fd8db69d7eab99d4d23b377509beb4f8e8f000751", func := "ravelin/ravelinlaw7.SieveFew", spec := "sieveFew", apart := false }
def SieveFewSaid : Prop := sieveFewRow.holds Try.pinned (OpenSpec.ofChange sieveFewSpec)

/-- ITS FALSE NEIGHBOUR: 'it returns false'. Refute it at one input. -/
def sieveFewWrong : ChangeSpec := { name := "sieveFew", fn := fun _ => fun
  | [d1, d2] => { results := [.lit (.bool false)], args := [d1, d2] }
  | _ => none }
def SieveFewWrongFalsely : Prop := sieveFewRow.holds Try.pinned (OpenSpec.ofChange sieveFewWrong)

/-- 'ravelinlaw7.SieveBits': WHATEVER THE INPUT: true; the input reads as it did. -/
def sieveBitsSpec : ChangeSpec := { name := "sieveBits", fn := fun _ => fun
  | [d1, d2] => { results := [.lit (.bool true)], args := [d1, d2] }
  | _ => none }
def sieveBitsRow : OpenClaim := { program := "ytcnlhpakiadipaa", sum := "5852c1407215c1898068ce7fd8db69d7eab99d4d23b377509beb4f8e8f000751", func := "ravelin/ravelinlaw7.SieveBits", spec := "sieveBits", apart := false }
def SieveBitsSaid : Prop := sieveBitsRow.holds Try.pinned (OpenSpec.ofChange sieveBitsSpec)

/-- ITS FALSE NEIGHBOUR: 'it returns false'. Refute it at one input. -/
def sieveBitsWrong : ChangeSpec := { name := "sieveBits", fn := fun _ => fun
  | [d1, d2] => { results := [.lit (.bool false)], args := [d1, d2] }
  | _ => none }
def SieveBitsWrongFalsely : Prop := sieveBitsRow.holds Try.pinned (OpenSpec.ofChange sieveBitsWrong)

/- THE SECOND FORM. 'bulk': how many values and letters a reading holds, each counted each time it is reached (what is shared counts as often as it is met; a slice's spare places count too). A statement '..UptoSaid' is the law's where the arguments, and the package variables that the reading takes, are together of bulk at most 1048576: NARROWER than '..Said'. Prove '..Said' where nothing that the law and all that it calls make is longer than what came in: it says more and counts as full. Else prove '..UptoSaid'. A law counts once. -/
mutual
def uptoBulk {H : Type} : DataW H → Nat
  | .lit (.string bytes) => bytes.length + 1
  | .lit _ => 1
  | .nil => 1
  | .ptr d => uptoBulk d + 1
  | .slice elems spare => uptoBulkAll elems + uptoBulkAll spare + 1
  | .agg parts => uptoBulkAll parts + 1
  | .iface _ d => uptoBulk d + 1
  | .map entries => uptoBulkEntries entries + 1
  | .held _ => 1
def uptoBulkAll {H : Type} : List (DataW H) → Nat
  | [] => 0
  | d :: r => uptoBulk d + uptoBulkAll r
def uptoBulkEntries {H : Type} : List (Lit × DataW H) → Nat
  | [] => 0
  | x :: r => uptoBulkEntry x + uptoBulkEntries r
def uptoBulkEntry {H : Type} : Lit × DataW H → Nat
  | (.string bytes, d) => bytes.length + uptoBulk d + 1
  | (_, d) => uptoBulk d + 1
 end
def uptoSmall : (H : Type) → List (DataW H) → Bool := fun _ ds => decide (uptoBulkAll ds ≤ 1048576)
def OpenSpec.upto (s : _root_.Go.ChangeSpec) : _root_.Go.OpenSpec := { _root_.Go.OpenSpec.ofChange s with cond := some uptoSmall }

/-- 'ravelinlaw7.SieveTells', WHERE WHAT IT READS IS OF BULK AT MOST 1048576: true; the input reads as it did. -/
def sieveTellsUptoRow : OpenClaim := { program := "ytcnlhpakiadipaa", sum := "5852c1407215c1898068ce7fd8db69d7eab99d4d23b377509beb4f8e8f000751", func := "ravelin/ravelinlaw7.SieveTells", spec := "sieveTells", apart := false, narrowed := true }
def SieveTellsUptoSaid : Prop := sieveTellsUptoRow.holds Try.pinned (OpenSpec.upto sieveTellsSpec)

/-- 'ravelinlaw7.SieveHas', WHERE WHAT IT READS IS OF BULK AT MOST 1048576: true; the input reads as it did. -/
def sieveHasUptoRow : OpenClaim := { program := "ytcnlhpakiadipaa", sum := "5852c1407215c1898068ce7fd8db69d7eab99d4d23b377509beb4f8e8f000751", func := "ravelin/ravelinlaw7.SieveHas", spec := "sieveHas", apart := false, narrowed := true }
def SieveHasUptoSaid : Prop := sieveHasUptoRow.holds Try.pinned (OpenSpec.upto sieveHasSpec)

/-- 'ravelinlaw7.SieveFew', WHERE WHAT IT READS IS OF BULK AT MOST 1048576: true; the input reads as it did. -/
def sieveFewUptoRow : OpenClaim := { program := "ytcnlhpakiadipaa", sum := "5852c1407215c1898068ce7fd8db69d7eab99d4d23b377509beb4f8e8f000751", func := "ravelin/ravelinlaw7.SieveFew", spec := "sieveFew", apart := false, narrowed := true }
def SieveFewUptoSaid : Prop := sieveFewUptoRow.holds Try.pinned (OpenSpec.upto sieveFewSpec)

/-- 'ravelinlaw7.SieveBits', WHERE WHAT IT READS IS OF BULK AT MOST 1048576: true; the input reads as it did. -/
def sieveBitsUptoRow : OpenClaim := { program := "ytcnlhpakiadipaa", sum := "5852c1407215c1898068ce7fd8db69d7eab99d4d23b377509beb4f8e8f000751", func := "ravelin/ravelinlaw7.SieveBits", spec := "sieveBits", apart := false, narrowed := true }
def SieveBitsUptoSaid : Prop := sieveBitsUptoRow.holds Try.pinned (OpenSpec.upto sieveBitsSpec)

end Rows
end Go.Proofs.Ytcnlhpakiadipaa
