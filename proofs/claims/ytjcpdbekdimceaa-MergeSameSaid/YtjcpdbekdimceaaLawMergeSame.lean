-- Printed by a changed copy of the kit's printer (wip/tools/ext.py); labels and more
import Derived.Test.YtjcpdbekdimceaaRows
import Derived.Test.YtjcpdbekdimceaaM0
import Derived.Test.YtjcpdbekdimceaaPx15
import Derived.Test.YtjcpdbekdimceaaQOpens
import Derived.Test.YtjcpdbekdimceaaPureMergeSame
import Derived.WalkKit
import Derived.ProofKit
import Derived.OpenShut
import Derived.ShutString
import Derived.ChangeOld
import Derived.Below
import Derived.SizedLaws
import Derived.WideShapes
namespace Go.Proofs.Ytjcpdbekdimceaa.mergeSame
open Go.ChangeShapes Go.WideShapes Go.ChangeAt Go.RowKit Go.Proofs.Ytjcpdbekdimceaa.Opens Go.Proofs.Ytjcpdbekdimceaa.P Go.Proofs.YtjcpdbekdimceaaW.PrintWords Go.Proofs.YtjcpdbekdimceaaW.PrintLast
open Go.ChangeMaps (open_string shut_string)
set_option linter.unusedVariables false
theorem own : ownKnob Try.prog.godebug = none := by kernel_rfl
theorem laidOut : laidOutB Try.prog = true := by kernel_rfl
theorem opens_k39 : Opens Try.prog 39 k39 (fun x => (x.f0.size ≤ 9223372036854775807 ∧ (Lit.int .i64 x.f1).wf = true ∧ True ∧ x.f3.size ≤ 9223372036854775807)) := ⟨fun h => by
  obtain ⟨xs, n, _, _, hl, hlen, hf⟩ := DataW.trod_struct Try.underlying39 h
  obtain ⟨y0, h0⟩ := field_of hf hlen 0 _ rfl 9 0 1 rfl rfl (by kernel_rfl)
  obtain ⟨a0, k0, g0⟩ := (opens_string Try.underlying9).go h0
  obtain ⟨y1, h1⟩ := field_of hf hlen 1 _ rfl 3 1 1 rfl rfl (by kernel_rfl)
  obtain ⟨a1, k1, g1⟩ := (opens_int Try.underlying3).go h1
  obtain ⟨y2, h2⟩ := field_of hf hlen 2 _ rfl 4 2 1 rfl rfl (by kernel_rfl)
  obtain ⟨a2, k2, g2⟩ := (opens_bool Try.underlying4).go h2
  obtain ⟨y3, h3⟩ := field_of hf hlen 3 _ rfl 9 3 1 rfl rfl (by kernel_rfl)
  obtain ⟨a3, k3, g3⟩ := (opens_string Try.underlying9).go h3
  rw [show Try.prog.cellsOf 39 = 4 by kernel_rfl] at hl
  refine ⟨⟨a0, a1, a2, a3⟩, ?_, g0, g1, g2, g3⟩
  exact ⟨_, _, part_more 0 1, k0, ⟨_, _, part_more 1 1, k1, ⟨_, _, part_more 2 1, k2, (by rw [part_last hl (by decide)] at k3; exact k3)⟩⟩⟩⟩
set_option maxRecDepth 100000 in
set_option maxHeartbeats 1000000 in
theorem lifted (os : Os) (started : os.Started) (H : Type) (enc : TypeId × Value → H) :
    ReturnsInHanded {} Try.checked os 4 .any (Rows.mergeSameSpec.pre6 enc Try.prog Try.f4 Rows.mergeSameRow.domain false) (Rows.mergeSameSpec.post enc Try.prog Try.f4 false true false false) := by
  refine returnsInHanded_of_change_sized (C := Try.checked) own started (by kernel_rfl) Try.func4
    (ChangeSpec.witness6 (enc := enc) (C := Try.checked) false ⟨#[], #[.slice none 0 0, .slice none 0 0, .bool false], []⟩ 8 (by kernel_rfl) (by kernel_rfl) (by kernel_rfl) (by kernel_rfl)) ?_
  intro W base args ds gs before hval0 hW hcnd hsz0 _
  have hsz : (DataW.weightsEach Try.prog (Try.f4.params.toList ++ Rows.mergeSameSpec.plain.varTypes Try.prog) (ds ++ gs)).all (· ≤ reachBytes) = true := hsz0
  have hval : ∀ (j : Nat) t v, Try.f4.params[j]? = some t → args[j]? = some v → Value.okWide Try.prog W .any base t v := hval0
  have hW' := hW
  obtain ⟨p, q, hA0, hV, rfl, hfz, hnd⟩ := hW
  have hA : DataW.TrodAll enc Try.prog W 0 (fun _ => true) true Try.f4.params.toList args.toList ds p := hA0
  rw [Try.params4] at hA hval hsz
  obtain ⟨v0, vs0, d0, ds0, p0, q0, hargs, rfl, rfl, h0, r0⟩ := trodAll_cons hA
  obtain ⟨v1, vs1, d1, ds1, p1, q1, rfl, rfl, rfl, h1, r1⟩ := trodAll_cons r0
  obtain ⟨v2, vs2, d2, ds2, p2, q2, rfl, rfl, rfl, h2, r2⟩ := trodAll_cons r1
  obtain ⟨rfl, rfl, rfl⟩ := trodAll_nil r2
  obtain rfl : args = #[v0, v1, v2] := by cases args; simp_all
  obtain ⟨rfl, rfl⟩ := trodVars_none hV
  obtain ⟨a0, len0, cap0, rfl⟩ := okWide_slice Try.underlying23 (hval 0 23 v0 rfl rfl)
  have k0 := h0
  have lt0 : ∀ x ∈ p0, x.block < W.heap.size := by obtain ⟨m, hm⟩ := k0; exact DataW.trod_lt m _ _ _ hm
  obtain ⟨z0, e0, w0, y0, g0⟩ := opens_row Try.underlying23 (by kernel_rfl) opens_k39 h0
  subst e0
  obtain ⟨a1, len1, cap1, rfl⟩ := okWide_slice Try.underlying24 (hval 1 24 v1 rfl rfl)
  have k1 := h1
  have lt1 : ∀ x ∈ p1, x.block < W.heap.size := by obtain ⟨m, hm⟩ := k1; exact DataW.trod_lt m _ _ _ hm
  obtain ⟨z1, e1, w1, y1, g1⟩ := opens_row Try.underlying24 (by kernel_rfl) (opens_int Try.underlying3) h1
  subst e1
  obtain ⟨a2, rfl, rfl, rfl⟩ := open_bool Try.underlying4 (hval 2 4 v2 rfl rfl) h2
  clear hA0 hval0 hsz0 hsz hval
  obtain ⟨k_, hk_⟩ := Pure.MergeSame z0 z1 a2 g0.1 g0.2 g1.1 g1.2
  refine (ravelinlaw11_MergeSame.calls k_ _ _ z0 _ _ z1 a2 true W w0 y0 w1 y1 hk_ rfl).mono fun e W' ⟨he, bel_⟩ => ?_
  have bel : Below W.heap.size W W' := bel_
  subst he
  exact ⟨_, rfl, _, _, _, [], _, [], hW', trodAll_mk1 (shut_bool Try.underlying4 _), (trodAll_cons_mk (Below.trod laidOut (by kernel_rfl) (of_decide_eq_true (by kernel_rfl)) k0 bel lt0) (trodAll_cons_mk (Below.trod laidOut (by kernel_rfl) (of_decide_eq_true (by kernel_rfl)) k1 bel lt1) (trodAll_cons_mk (shut_bool Try.underlying4 _) trodAll_mk0))), rfl, bel.frame _, fun h => by cases h⟩
theorem over : Rows.mergeSameRow.holds Try.pinned (OpenSpec.ofChange Rows.mergeSameSpec) :=
  OpenClaim.holds_of_wide 4 Try.f4 rfl rfl rfl rfl rfl rfl rfl ⟨rfl, rfl, rfl, rfl, rfl⟩ rfl rfl rfl rfl rfl (by kernel_rfl) Try.func4 (by kernel_rfl)
    (of_decide_eq_true (by kernel_rfl)) (by unfold Func.isWrapper; first | (rw [if_pos (by decide +kernel)]; kernel_rfl) | (rw [if_neg (by decide +kernel)]; exact ⟨rfl, rfl⟩))
    (fun os started H enc _ => lifted os started H enc)
theorem proved : Rows.MergeSameSaid := over
#print axioms proved
end Go.Proofs.Ytjcpdbekdimceaa.mergeSame
namespace Go.Proofs.Ytjcpdbekdimceaa
/-- The row, under a short name, for the claim. -/
theorem mergeSame_holds : Rows.MergeSameSaid := mergeSame.proved
end Go.Proofs.Ytjcpdbekdimceaa
