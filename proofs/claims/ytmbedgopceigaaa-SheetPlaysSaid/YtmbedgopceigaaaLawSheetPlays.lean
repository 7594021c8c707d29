/- The law's row (wip/tools/mkrow.py); the walk stands in the texts named below. -/
import Derived.Test.YtmbedgopceigaaaRows
import Derived.Test.YtmbedgopceigaaaQTabPl
import Derived.Test.YtmbedgopceigaaaQOpens
import Derived.WalkKit
import Derived.ProofKit
import Derived.OpenShut
import Derived.ShutString
import Derived.ChangeOld
import Derived.Below
import Derived.SizedLaws
import Derived.WideShapes
namespace Go.Proofs.Ytmbedgopceigaaa.sheetPlays
open Go.ChangeShapes Go.WideShapes Go.ChangeAt Go.RowKit Go.Proofs.Ytmbedgopceigaaa.Opens Go.Proofs.Ytmbedgopceigaaa.P Go.Proofs.Ytmbedgopceigaaa.Q Go.Proofs.YtmbedgopceigaaaW.PrintWords Go.Proofs.YtmbedgopceigaaaW.PrintLast
open Go.ChangeMaps (open_string shut_string)
set_option linter.unusedVariables false
theorem own : ownKnob Try.prog.godebug = none := by kernel_rfl
theorem laidOut : laidOutB Try.prog = true := by kernel_rfl
theorem opens_k32 : Opens Try.prog 32 k32 (fun x => ((Lit.int .i64 x.f0).wf = true ∧ (Lit.int .i64 x.f1).wf = true ∧ x.f2.size ≤ 9223372036854775807 ∧ x.f3.size ≤ 9223372036854775807 ∧ (Lit.int .i64 x.f4).wf = true)) := ⟨fun h => by
  obtain ⟨xs, n, _, _, hl, hlen, hf⟩ := DataW.trod_struct Try.underlying32 h
  obtain ⟨y0, h0⟩ := field_of hf hlen 0 _ rfl 3 0 1 rfl rfl (by kernel_rfl)
  obtain ⟨a0, k0, g0⟩ := (opens_int Try.underlying3).go h0
  obtain ⟨y1, h1⟩ := field_of hf hlen 1 _ rfl 3 1 1 rfl rfl (by kernel_rfl)
  obtain ⟨a1, k1, g1⟩ := (opens_int Try.underlying3).go h1
  obtain ⟨y2, h2⟩ := field_of hf hlen 2 _ rfl 9 2 1 rfl rfl (by kernel_rfl)
  obtain ⟨a2, k2, g2⟩ := (opens_string Try.underlying9).go h2
  obtain ⟨y3, h3⟩ := field_of hf hlen 3 _ rfl 9 3 1 rfl rfl (by kernel_rfl)
  obtain ⟨a3, k3, g3⟩ := (opens_string Try.underlying9).go h3
  obtain ⟨y4, h4⟩ := field_of hf hlen 4 _ rfl 3 4 1 rfl rfl (by kernel_rfl)
  obtain ⟨a4, k4, g4⟩ := (opens_int Try.underlying3).go h4
  rw [show Try.prog.cellsOf 32 = 5 by kernel_rfl] at hl
  refine ⟨⟨a0, a1, a2, a3, a4⟩, ?_, g0, g1, g2, g3, g4⟩
  exact ⟨_, _, part_more 0 1, k0, ⟨_, _, part_more 1 1, k1, ⟨_, _, part_more 2 1, k2, ⟨_, _, part_more 3 1, k3, (by rw [part_last hl (by decide)] at k4; exact k4)⟩⟩⟩⟩⟩
theorem opens_k36 : Opens Try.prog 36 k36 (fun x => ((x.f0.length ≤ 9223372036854775807 ∧ ∀ yx_f0 ∈ x.f0, (Lit.int .i64 yx_f0).wf = true) ∧ (x.f1.length ≤ 9223372036854775807 ∧ ∀ yx_f1 ∈ x.f1, ((Lit.int .i64 yx_f1.f0).wf = true ∧ (Lit.int .i64 yx_f1.f1).wf = true ∧ yx_f1.f2.size ≤ 9223372036854775807 ∧ yx_f1.f3.size ≤ 9223372036854775807 ∧ (Lit.int .i64 yx_f1.f4).wf = true)) ∧ (Lit.int .i64 x.f2).wf = true ∧ (Lit.int .i64 x.f3).wf = true)) := ⟨fun h => by
  obtain ⟨xs, n, _, _, hl, hlen, hf⟩ := DataW.trod_struct Try.underlying36 h
  obtain ⟨y0, h0⟩ := field_of hf hlen 0 _ rfl 34 0 1 rfl rfl (by kernel_rfl)
  obtain ⟨a0, k0, g0⟩ := (opens_slice Try.underlying34 (by kernel_rfl) (opens_int Try.underlying3)).go h0
  obtain ⟨y1, h1⟩ := field_of hf hlen 1 _ rfl 33 1 1 rfl rfl (by kernel_rfl)
  obtain ⟨a1, k1, g1⟩ := (opens_slice Try.underlying33 (by kernel_rfl) opens_k32).go h1
  obtain ⟨y2, h2⟩ := field_of hf hlen 2 _ rfl 3 2 1 rfl rfl (by kernel_rfl)
  obtain ⟨a2, k2, g2⟩ := (opens_int Try.underlying3).go h2
  obtain ⟨y3, h3⟩ := field_of hf hlen 3 _ rfl 3 3 1 rfl rfl (by kernel_rfl)
  obtain ⟨a3, k3, g3⟩ := (opens_int Try.underlying3).go h3
  rw [show Try.prog.cellsOf 36 = 4 by kernel_rfl] at hl
  refine ⟨⟨a0, a1, a2, a3⟩, ?_, g0, g1, g2, g3⟩
  exact ⟨_, _, part_more 0 1, k0, ⟨_, _, part_more 1 1, k1, ⟨_, _, part_more 2 1, k2, (by rw [part_last hl (by decide)] at k3; exact k3)⟩⟩⟩⟩
set_option maxRecDepth 100000 in
set_option maxHeartbeats 1000000 in
theorem lifted (os : Os) (started : os.Started) (H : Type) (enc : TypeId × Value → H) :
    ReturnsInHanded {} Try.checked os 3 .any (Rows.sheetPlaysSpec.pre6 enc Try.prog Try.f3 Rows.sheetPlaysRow.domain false) (Rows.sheetPlaysSpec.post enc Try.prog Try.f3 false true false false) := by
  refine returnsInHanded_of_change_sized (C := Try.checked) own started (by kernel_rfl) Try.func3
    (ChangeSpec.witness6 (enc := enc) (C := Try.checked) false ⟨#[], #[.slice none 0 0], []⟩ 8 (by kernel_rfl) (by kernel_rfl) (by kernel_rfl) (by kernel_rfl)) ?_
  intro W base args ds gs before hval0 hW hcnd hsz0 _
  have hsz : (DataW.weightsEach Try.prog (Try.f3.params.toList ++ Rows.sheetPlaysSpec.plain.varTypes Try.prog) (ds ++ gs)).all (· ≤ reachBytes) = true := hsz0
  have hval : ∀ (j : Nat) t v, Try.f3.params[j]? = some t → args[j]? = some v → Value.okWide Try.prog W .any base t v := hval0
  have hW' := hW
  obtain ⟨p, q, hA0, hV, rfl, hfz, hnd⟩ := hW
  have hA : DataW.TrodAll enc Try.prog W 0 (fun _ => true) true Try.f3.params.toList args.toList ds p := hA0
  rw [Try.params3] at hA hval hsz
  obtain ⟨v0, vs0, d0, ds0, p0, q0, hargs, rfl, rfl, h0, r0⟩ := trodAll_cons hA
  obtain ⟨rfl, rfl, rfl⟩ := trodAll_nil r0
  obtain rfl : args = #[v0] := by cases args; simp_all
  obtain ⟨rfl, rfl⟩ := trodVars_none hV
  obtain ⟨a0, len0, cap0, rfl⟩ := okWide_slice Try.underlying22 (hval 0 22 v0 rfl rfl)
  have k0 := h0
  have lt0 : ∀ x ∈ p0, x.block < W.heap.size := by obtain ⟨m, hm⟩ := k0; exact DataW.trod_lt m _ _ _ hm
  obtain ⟨z0, e0, w0, y0, g0⟩ := opens_row Try.underlying22 (by kernel_rfl) opens_k36 h0
  subst e0
  clear hA0 hval0 hsz0 hsz hval
  refine (LPlays W _ _ z0 w0 y0 g0.1).mono fun e W' ⟨he, bel_⟩ => ?_
  have bel : Below W.heap.size W W' := bel_
  subst he
  exact ⟨_, rfl, _, _, _, [], _, [], hW', trodAll_mk1 (shut_bool Try.underlying4 _), (trodAll_cons_mk (Below.trod laidOut (by kernel_rfl) (of_decide_eq_true (by kernel_rfl)) k0 bel lt0) trodAll_mk0), rfl, bel.frame _, fun h => by cases h⟩
theorem over : Rows.sheetPlaysRow.holds Try.pinned (OpenSpec.ofChange Rows.sheetPlaysSpec) :=
  OpenClaim.holds_of_wide 3 Try.f3 rfl rfl rfl rfl rfl rfl rfl ⟨rfl, rfl, rfl, rfl, rfl⟩ rfl rfl rfl rfl rfl (by kernel_rfl) Try.func3 (by kernel_rfl)
    (of_decide_eq_true (by kernel_rfl)) (by unfold Func.isWrapper; first | (rw [if_pos (by decide +kernel)]; kernel_rfl) | (rw [if_neg (by decide +kernel)]; exact ⟨rfl, rfl⟩))
    (fun os started H enc _ => lifted os started H enc)
theorem proved : Rows.SheetPlaysSaid := over
#print axioms proved
end Go.Proofs.Ytmbedgopceigaaa.sheetPlays
namespace Go.Proofs.Ytmbedgopceigaaa
/-- The row, under a short name, for the claim. -/
theorem sheetPlays_holds : Rows.SheetPlaysSaid := sheetPlays.proved
end Go.Proofs.Ytmbedgopceigaaa
