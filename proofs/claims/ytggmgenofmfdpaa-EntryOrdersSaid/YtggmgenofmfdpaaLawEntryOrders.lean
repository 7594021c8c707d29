-- Printed by a changed copy of the kit's printer (wip/tools/ext.py); labels and more
import Derived.Test.YtggmgenofmfdpaaRows
import Derived.Test.YtggmgenofmfdpaaM0
import Derived.Test.YtggmgenofmfdpaaPx29
import Derived.Test.YtggmgenofmfdpaaQOpens
import Derived.Test.YtggmgenofmfdpaaPureEntryOrders
import Derived.WalkKit
import Derived.ProofKit
import Derived.OpenShut
import Derived.ShutString
import Derived.ChangeOld
import Derived.Below
import Derived.SizedLaws
import Derived.WideShapes
namespace Go.Proofs.Ytggmgenofmfdpaa.entryOrders
open Go.ChangeShapes Go.WideShapes Go.ChangeAt Go.RowKit Go.Proofs.Ytggmgenofmfdpaa.Opens Go.Proofs.Ytggmgenofmfdpaa.P Go.Proofs.YtggmgenofmfdpaaW.PrintWords Go.Proofs.YtggmgenofmfdpaaW.PrintLast
open Go.ChangeMaps (open_string shut_string)
set_option linter.unusedVariables false
theorem own : ownKnob Try.prog.godebug = none := by kernel_rfl
theorem laidOut : laidOutB Try.prog = true := by kernel_rfl
theorem opens_k23 : Opens Try.prog 23 k23 (fun x => (x.f0.size ≤ 9223372036854775807 ∧ (Lit.int .i64 x.f1).wf = true ∧ True ∧ x.f3.size ≤ 9223372036854775807)) := ⟨fun h => by
  obtain ⟨xs, n, _, _, hl, hlen, hf⟩ := DataW.trod_struct Try.underlying23 h
  obtain ⟨y0, h0⟩ := field_of hf hlen 0 _ rfl 9 0 1 rfl rfl (by kernel_rfl)
  obtain ⟨a0, k0, g0⟩ := (opens_string Try.underlying9).go h0
  obtain ⟨y1, h1⟩ := field_of hf hlen 1 _ rfl 3 1 1 rfl rfl (by kernel_rfl)
  obtain ⟨a1, k1, g1⟩ := (opens_int Try.underlying3).go h1
  obtain ⟨y2, h2⟩ := field_of hf hlen 2 _ rfl 4 2 1 rfl rfl (by kernel_rfl)
  obtain ⟨a2, k2, g2⟩ := (opens_bool Try.underlying4).go h2
  obtain ⟨y3, h3⟩ := field_of hf hlen 3 _ rfl 9 3 1 rfl rfl (by kernel_rfl)
  obtain ⟨a3, k3, g3⟩ := (opens_string Try.underlying9).go h3
  rw [show Try.prog.cellsOf 23 = 4 by kernel_rfl] at hl
  refine ⟨⟨a0, a1, a2, a3⟩, ?_, g0, g1, g2, g3⟩
  exact ⟨_, _, part_more 0 1, k0, ⟨_, _, part_more 1 1, k1, ⟨_, _, part_more 2 1, k2, (by rw [part_last hl (by decide)] at k3; exact k3)⟩⟩⟩⟩
set_option maxRecDepth 100000 in
set_option maxHeartbeats 1000000 in
theorem lifted (os : Os) (started : os.Started) (H : Type) (enc : TypeId × Value → H) :
    ReturnsInHanded {} Try.checked os 5 .any (Rows.entryOrdersSpec.pre6 enc Try.prog Try.f5 Rows.entryOrdersRow.domain false) (Rows.entryOrdersSpec.post enc Try.prog Try.f5 false true false false) := by
  refine returnsInHanded_of_change_sized (C := Try.checked) own started (by kernel_rfl) Try.func5
    (ChangeSpec.witness6 (enc := enc) (C := Try.checked) false ⟨#[], #[.agg #[.string ByteArray.empty, .int .i64 0, .bool false, .string ByteArray.empty], .agg #[.string ByteArray.empty, .int .i64 0, .bool false, .string ByteArray.empty], .agg #[.string ByteArray.empty, .int .i64 0, .bool false, .string ByteArray.empty], .slice none 0 0, .int .u8 0], []⟩ 8 (by kernel_rfl) (by kernel_rfl) (by kernel_rfl) (by kernel_rfl)) ?_
  intro W base args ds gs before hval0 hW hcnd hsz0 _
  have hsz : (DataW.weightsEach Try.prog (Try.f5.params.toList ++ Rows.entryOrdersSpec.plain.varTypes Try.prog) (ds ++ gs)).all (· ≤ reachBytes) = true := hsz0
  have hval : ∀ (j : Nat) t v, Try.f5.params[j]? = some t → args[j]? = some v → Value.okWide Try.prog W .any base t v := hval0
  have hW' := hW
  obtain ⟨p, q, hA0, hV, rfl, hfz, hnd⟩ := hW
  have hA : DataW.TrodAll enc Try.prog W 0 (fun _ => true) true Try.f5.params.toList args.toList ds p := hA0
  rw [Try.params5] at hA hval hsz
  obtain ⟨v0, vs0, d0, ds0, p0, q0, hargs, rfl, rfl, h0, r0⟩ := trodAll_cons hA
  obtain ⟨v1, vs1, d1, ds1, p1, q1, rfl, rfl, rfl, h1, r1⟩ := trodAll_cons r0
  obtain ⟨v2, vs2, d2, ds2, p2, q2, rfl, rfl, rfl, h2, r2⟩ := trodAll_cons r1
  obtain ⟨v3, vs3, d3, ds3, p3, q3, rfl, rfl, rfl, h3, r3⟩ := trodAll_cons r2
  obtain ⟨v4, vs4, d4, ds4, p4, q4, rfl, rfl, rfl, h4, r4⟩ := trodAll_cons r3
  obtain ⟨rfl, rfl, rfl⟩ := trodAll_nil r4
  obtain rfl : args = #[v0, v1, v2, v3, v4] := by cases args; simp_all
  obtain ⟨rfl, rfl⟩ := trodVars_none hV
  have k0 := h0
  have lt0 : ∀ x ∈ p0, x.block < W.heap.size := by obtain ⟨m, hm⟩ := k0; exact DataW.trod_lt m _ _ _ hm
  obtain ⟨cs0, rfl, sz0⟩ := okWide_struct Try.underlying23 (hval 0 23 v0 rfl rfl)
  obtain ⟨u0_0, u0_1, u0_2, u0_3, rfl⟩ := array4 (sz0.trans (show Try.prog.cellsOf 23 = 4 by kernel_rfl))
  obtain ⟨fuel0, hf0⟩ := h0
  obtain ⟨xs0, n0, _, _, hl0, hlen0, hff0⟩ := DataW.trod_struct Try.underlying23 hf0
  obtain ⟨y0_0, h0_0⟩ := field_of hff0 hlen0 0 _ rfl 9 0 1 rfl rfl (by kernel_rfl)
  obtain ⟨a0_0, k0_0, g0_0⟩ := (opens_string Try.underlying9).go h0_0
  obtain rfl : u0_0 = .string a0_0 := by
    have e_ : (_ : List Value) = [.string a0_0] := k0_0
    simpa [Value.cells] using e_
  obtain ⟨y0_1, h0_1⟩ := field_of hff0 hlen0 1 _ rfl 3 1 1 rfl rfl (by kernel_rfl)
  obtain ⟨a0_1, k0_1, g0_1⟩ := (opens_int Try.underlying3).go h0_1
  obtain rfl : u0_1 = .int .i64 a0_1 := by
    have e_ : (_ : List Value) = [.int .i64 a0_1] := k0_1
    simpa [Value.cells] using e_
  obtain ⟨y0_2, h0_2⟩ := field_of hff0 hlen0 2 _ rfl 4 2 1 rfl rfl (by kernel_rfl)
  obtain ⟨a0_2, k0_2, g0_2⟩ := (opens_bool Try.underlying4).go h0_2
  obtain rfl : u0_2 = .bool a0_2 := by
    have e_ : (_ : List Value) = [.bool a0_2] := k0_2
    simpa [Value.cells] using e_
  obtain ⟨y0_3, h0_3⟩ := field_of hff0 hlen0 3 _ rfl 9 3 1 rfl rfl (by kernel_rfl)
  obtain ⟨a0_3, k0_3, g0_3⟩ := (opens_string Try.underlying9).go h0_3
  obtain rfl : u0_3 = .string a0_3 := by
    have e_ : (_ : List Value) = [.string a0_3] := k0_3
    simpa [Value.cells] using e_
  have k1 := h1
  have lt1 : ∀ x ∈ p1, x.block < W.heap.size := by obtain ⟨m, hm⟩ := k1; exact DataW.trod_lt m _ _ _ hm
  obtain ⟨cs1, rfl, sz1⟩ := okWide_struct Try.underlying23 (hval 1 23 v1 rfl rfl)
  obtain ⟨u1_0, u1_1, u1_2, u1_3, rfl⟩ := array4 (sz1.trans (show Try.prog.cellsOf 23 = 4 by kernel_rfl))
  obtain ⟨fuel1, hf1⟩ := h1
  obtain ⟨xs1, n1, _, _, hl1, hlen1, hff1⟩ := DataW.trod_struct Try.underlying23 hf1
  obtain ⟨y1_0, h1_0⟩ := field_of hff1 hlen1 0 _ rfl 9 0 1 rfl rfl (by kernel_rfl)
  obtain ⟨a1_0, k1_0, g1_0⟩ := (opens_string Try.underlying9).go h1_0
  obtain rfl : u1_0 = .string a1_0 := by
    have e_ : (_ : List Value) = [.string a1_0] := k1_0
    simpa [Value.cells] using e_
  obtain ⟨y1_1, h1_1⟩ := field_of hff1 hlen1 1 _ rfl 3 1 1 rfl rfl (by kernel_rfl)
  obtain ⟨a1_1, k1_1, g1_1⟩ := (opens_int Try.underlying3).go h1_1
  obtain rfl : u1_1 = .int .i64 a1_1 := by
    have e_ : (_ : List Value) = [.int .i64 a1_1] := k1_1
    simpa [Value.cells] using e_
  obtain ⟨y1_2, h1_2⟩ := field_of hff1 hlen1 2 _ rfl 4 2 1 rfl rfl (by kernel_rfl)
  obtain ⟨a1_2, k1_2, g1_2⟩ := (opens_bool Try.underlying4).go h1_2
  obtain rfl : u1_2 = .bool a1_2 := by
    have e_ : (_ : List Value) = [.bool a1_2] := k1_2
    simpa [Value.cells] using e_
  obtain ⟨y1_3, h1_3⟩ := field_of hff1 hlen1 3 _ rfl 9 3 1 rfl rfl (by kernel_rfl)
  obtain ⟨a1_3, k1_3, g1_3⟩ := (opens_string Try.underlying9).go h1_3
  obtain rfl : u1_3 = .string a1_3 := by
    have e_ : (_ : List Value) = [.string a1_3] := k1_3
    simpa [Value.cells] using e_
  have k2 := h2
  have lt2 : ∀ x ∈ p2, x.block < W.heap.size := by obtain ⟨m, hm⟩ := k2; exact DataW.trod_lt m _ _ _ hm
  obtain ⟨cs2, rfl, sz2⟩ := okWide_struct Try.underlying23 (hval 2 23 v2 rfl rfl)
  obtain ⟨u2_0, u2_1, u2_2, u2_3, rfl⟩ := array4 (sz2.trans (show Try.prog.cellsOf 23 = 4 by kernel_rfl))
  obtain ⟨fuel2, hf2⟩ := h2
  obtain ⟨xs2, n2, _, _, hl2, hlen2, hff2⟩ := DataW.trod_struct Try.underlying23 hf2
  obtain ⟨y2_0, h2_0⟩ := field_of hff2 hlen2 0 _ rfl 9 0 1 rfl rfl (by kernel_rfl)
  obtain ⟨a2_0, k2_0, g2_0⟩ := (opens_string Try.underlying9).go h2_0
  obtain rfl : u2_0 = .string a2_0 := by
    have e_ : (_ : List Value) = [.string a2_0] := k2_0
    simpa [Value.cells] using e_
  obtain ⟨y2_1, h2_1⟩ := field_of hff2 hlen2 1 _ rfl 3 1 1 rfl rfl (by kernel_rfl)
  obtain ⟨a2_1, k2_1, g2_1⟩ := (opens_int Try.underlying3).go h2_1
  obtain rfl : u2_1 = .int .i64 a2_1 := by
    have e_ : (_ : List Value) = [.int .i64 a2_1] := k2_1
    simpa [Value.cells] using e_
  obtain ⟨y2_2, h2_2⟩ := field_of hff2 hlen2 2 _ rfl 4 2 1 rfl rfl (by kernel_rfl)
  obtain ⟨a2_2, k2_2, g2_2⟩ := (opens_bool Try.underlying4).go h2_2
  obtain rfl : u2_2 = .bool a2_2 := by
    have e_ : (_ : List Value) = [.bool a2_2] := k2_2
    simpa [Value.cells] using e_
  obtain ⟨y2_3, h2_3⟩ := field_of hff2 hlen2 3 _ rfl 9 3 1 rfl rfl (by kernel_rfl)
  obtain ⟨a2_3, k2_3, g2_3⟩ := (opens_string Try.underlying9).go h2_3
  obtain rfl : u2_3 = .string a2_3 := by
    have e_ : (_ : List Value) = [.string a2_3] := k2_3
    simpa [Value.cells] using e_
  obtain ⟨a3, len3, cap3, rfl⟩ := okWide_slice Try.underlying24 (hval 3 24 v3 rfl rfl)
  have k3 := h3
  have lt3 : ∀ x ∈ p3, x.block < W.heap.size := by obtain ⟨m, hm⟩ := k3; exact DataW.trod_lt m _ _ _ hm
  obtain ⟨z3, e3, w3, y3, g3⟩ := opens_row Try.underlying24 (by kernel_rfl) opens_k23 h3
  subst e3
  obtain ⟨a4, rfl, rfl, rfl, w4⟩ := open_int Try.underlying5 (hval 4 5 v4 rfl rfl) h4
  clear hA0 hval0 hsz0 hsz hval
  obtain ⟨k_, hk_⟩ := Pure.EntryOrders a0_0 a0_1 a0_2 a0_3 a1_0 a1_1 a1_2 a1_3 a2_0 a2_1 a2_2 a2_3 z3 a4 g0_0 g0_1 g0_3 g1_0 g1_1 g1_3 g2_0 g2_1 g2_3 g3.1 g3.2 w4
  refine (ravelinlaw6_EntryOrders.calls k_ a0_0 a0_1 a0_2 a0_3 a1_0 a1_1 a1_2 a1_3 a2_0 a2_1 a2_2 a2_3 _ _ z3 a4 true W w3 y3 hk_ rfl).mono fun e W' ⟨he, bel_⟩ => ?_
  have bel : Below W.heap.size W W' := bel_
  subst he
  exact ⟨_, rfl, _, _, _, [], _, [], hW', trodAll_mk1 (shut_bool Try.underlying4 _), (trodAll_cons_mk (Below.trod laidOut (by kernel_rfl) (of_decide_eq_true (by kernel_rfl)) k0 bel lt0) (trodAll_cons_mk (Below.trod laidOut (by kernel_rfl) (of_decide_eq_true (by kernel_rfl)) k1 bel lt1) (trodAll_cons_mk (Below.trod laidOut (by kernel_rfl) (of_decide_eq_true (by kernel_rfl)) k2 bel lt2) (trodAll_cons_mk (Below.trod laidOut (by kernel_rfl) (of_decide_eq_true (by kernel_rfl)) k3 bel lt3) (trodAll_cons_mk (shut_int Try.underlying5 w4) trodAll_mk0))))), rfl, bel.frame _, fun h => by cases h⟩
theorem over : Rows.entryOrdersRow.holds Try.pinned (OpenSpec.ofChange Rows.entryOrdersSpec) :=
  OpenClaim.holds_of_wide 5 Try.f5 rfl rfl rfl rfl rfl rfl rfl ⟨rfl, rfl, rfl, rfl, rfl⟩ rfl rfl rfl rfl rfl (by kernel_rfl) Try.func5 (by kernel_rfl)
    (of_decide_eq_true (by kernel_rfl)) (by unfold Func.isWrapper; first | (rw [if_pos (by decide +kernel)]; kernel_rfl) | (rw [if_neg (by decide +kernel)]; exact ⟨rfl, rfl⟩))
    (fun os started H enc _ => lifted os started H enc)
theorem proved : Rows.EntryOrdersSaid := over
#print axioms proved
end Go.Proofs.Ytggmgenofmfdpaa.entryOrders
namespace Go.Proofs.Ytggmgenofmfdpaa
/-- The row, under a short name, for the claim. -/
theorem entryOrders_holds : Rows.EntryOrdersSaid := entryOrders.proved
end Go.Proofs.Ytggmgenofmfdpaa
