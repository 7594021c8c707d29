-- Printed by a changed copy of the kit's printer (wip/tools/ext.py); labels and more
import Derived.Test.YtggmgenofmfdpaaRows
import Derived.Test.YtggmgenofmfdpaaM0
import Derived.Test.YtggmgenofmfdpaaPx27
import Derived.Test.YtggmgenofmfdpaaQOpens
import Derived.Test.YtggmgenofmfdpaaPureEntryTells
import Derived.WalkKit
import Derived.ProofKit
import Derived.OpenShut
import Derived.ShutString
import Derived.ChangeOld
import Derived.Below
import Derived.SizedLaws
import Derived.WideShapes
namespace Go.Proofs.Ytggmgenofmfdpaa.entryTells
open Go.ChangeShapes Go.WideShapes Go.ChangeAt Go.RowKit Go.Proofs.Ytggmgenofmfdpaa.Opens Go.Proofs.Ytggmgenofmfdpaa.P Go.Proofs.YtggmgenofmfdpaaW.PrintWords Go.Proofs.YtggmgenofmfdpaaW.PrintLast
open Go.ChangeMaps (open_string shut_string)
set_option linter.unusedVariables false
theorem own : ownKnob Try.prog.godebug = none := by kernel_rfl
theorem laidOut : laidOutB Try.prog = true := by kernel_rfl
theorem opens_k23 : Opens Try.prog 23 k23 (fun x => (x.f0.size ≤ 9223372036854775807 ∧ (Lit.int .i64 x.f1).wf = true ∧ True ∧ x.f3.size ≤ 9223372036854775807)) := ⟨fun h => by
  obtain ⟨xs, n, _, _, hl, hlen, hf⟩ := DataW.trod_struct Try.underlying23 h
  obtain ⟨y0, h0⟩ := field_of hf hlen 0 _ rfl 9 0 1 rfl rfl (by kernel_rfl)
  obtain ⟨a0, k0, g0⟩ := (opens_string Try.underlying9).go h0
  obtain ⟨y1, h1⟩ := field_of hf hlen 1 _ rfl 3 1 1 rfl rfl (by kernel_rfl)
  obtain ⟨a1, k1, g1⟩ := (opens_int Try.underlying3).go h1
  obtain ⟨y2, h2⟩ := field_of hf hlen 2 _ rfl 4 2 1 rfl rfl (by kernel_rfl)
  obtain ⟨a2, k2, g2⟩ := (opens_bool Try.underlying4).go h2
  obtain ⟨y3, h3⟩ := field_of hf hlen 3 _ rfl 9 3 1 rfl rfl (by kernel_rfl)
  obtain ⟨a3, k3, g3⟩ := (opens_string Try.underlying9).go h3
  rw [show Try.prog.cellsOf 23 = 4 by kernel_rfl] at hl
  refine ⟨⟨a0, a1, a2, a3⟩, ?_, g0, g1, g2, g3⟩
  exact ⟨_, _, part_more 0 1, k0, ⟨_, _, part_more 1 1, k1, ⟨_, _, part_more 2 1, k2, (by rw [part_last hl (by decide)] at k3; exact k3)⟩⟩⟩⟩
set_option maxRecDepth 100000 in
set_option maxHeartbeats 1000000 in
theorem lifted (os : Os) (started : os.Started) (H : Type) (enc : TypeId × Value → H) :
    ReturnsInHanded {} Try.checked os 3 .any (Rows.entryTellsSpec.pre6 enc Try.prog Try.f3 Rows.entryTellsRow.domain false) (Rows.entryTellsSpec.post enc Try.prog Try.f3 false true false false) := by
  refine returnsInHanded_of_change_sized (C := Try.checked) own started (by kernel_rfl) Try.func3
    (ChangeSpec.witness6 (enc := enc) (C := Try.checked) false ⟨#[], #[.agg #[.string ByteArray.empty, .int .i64 0, .bool false, .string ByteArray.empty], .agg #[.string ByteArray.empty, .int .i64 0, .bool false, .string ByteArray.empty], .slice none 0 0, .string ByteArray.empty, .int .i64 0, .string ByteArray.empty, .agg #[.string ByteArray.empty, .bool false, .string ByteArray.empty]], []⟩ 8 (by kernel_rfl) (by kernel_rfl) (by kernel_rfl) (by kernel_rfl)) ?_
  intro W base args ds gs before hval0 hW hcnd hsz0 _
  have hsz : (DataW.weightsEach Try.prog (Try.f3.params.toList ++ Rows.entryTellsSpec.plain.varTypes Try.prog) (ds ++ gs)).all (· ≤ reachBytes) = true := hsz0
  have hval : ∀ (j : Nat) t v, Try.f3.params[j]? = some t → args[j]? = some v → Value.okWide Try.prog W .any base t v := hval0
  have hW' := hW
  obtain ⟨p, q, hA0, hV, rfl, hfz, hnd⟩ := hW
  have hA : DataW.TrodAll enc Try.prog W 0 (fun _ => true) true Try.f3.params.toList args.toList ds p := hA0
  rw [Try.params3] at hA hval hsz
  obtain ⟨v0, vs0, d0, ds0, p0, q0, hargs, rfl, rfl, h0, r0⟩ := trodAll_cons hA
  obtain ⟨v1, vs1, d1, ds1, p1, q1, rfl, rfl, rfl, h1, r1⟩ := trodAll_cons r0
  obtain ⟨v2, vs2, d2, ds2, p2, q2, rfl, rfl, rfl, h2, r2⟩ := trodAll_cons r1
  obtain ⟨v3, vs3, d3, ds3, p3, q3, rfl, rfl, rfl, h3, r3⟩ := trodAll_cons r2
  obtain ⟨v4, vs4, d4, ds4, p4, q4, rfl, rfl, rfl, h4, r4⟩ := trodAll_cons r3
  obtain ⟨v5, vs5, d5, ds5, p5, q5, rfl, rfl, rfl, h5, r5⟩ := trodAll_cons r4
  obtain ⟨v6, vs6, d6, ds6, p6, q6, rfl, rfl, rfl, h6, r6⟩ := trodAll_cons r5
  obtain ⟨rfl, rfl, rfl⟩ := trodAll_nil r6
  obtain rfl : args = #[v0, v1, v2, v3, v4, v5, v6] := by cases args; simp_all
  obtain ⟨rfl, rfl⟩ := trodVars_none hV
  have k0 := h0
  have lt0 : ∀ x ∈ p0, x.block < W.heap.size := by obtain ⟨m, hm⟩ := k0; exact DataW.trod_lt m _ _ _ hm
  obtain ⟨cs0, rfl, sz0⟩ := okWide_struct Try.underlying23 (hval 0 23 v0 rfl rfl)
  obtain ⟨u0_0, u0_1, u0_2, u0_3, rfl⟩ := array4 (sz0.trans (show Try.prog.cellsOf 23 = 4 by kernel_rfl))
  obtain ⟨fuel0, hf0⟩ := h0
  obtain ⟨xs0, n0, _, _, hl0, hlen0, hff0⟩ := DataW.trod_struct Try.underlying23 hf0
  obtain ⟨y0_0, h0_0⟩ := field_of hff0 hlen0 0 _ rfl 9 0 1 rfl rfl (by kernel_rfl)
  obtain ⟨a0_0, k0_0, g0_0⟩ := (opens_string Try.underlying9).go h0_0
  obtain rfl : u0_0 = .string a0_0 := by
    have e_ : (_ : List Value) = [.string a0_0] := k0_0
    simpa [Value.cells] using e_
  obtain ⟨y0_1, h0_1⟩ := field_of hff0 hlen0 1 _ rfl 3 1 1 rfl rfl (by kernel_rfl)
  obtain ⟨a0_1, k0_1, g0_1⟩ := (opens_int Try.underlying3).go h0_1
  obtain rfl : u0_1 = .int .i64 a0_1 := by
    have e_ : (_ : List Value) = [.int .i64 a0_1] := k0_1
    simpa [Value.cells] using e_
  obtain ⟨y0_2, h0_2⟩ := field_of hff0 hlen0 2 _ rfl 4 2 1 rfl rfl (by kernel_rfl)
  obtain ⟨a0_2, k0_2, g0_2⟩ := (opens_bool Try.underlying4).go h0_2
  obtain rfl : u0_2 = .bool a0_2 := by
    have e_ : (_ : List Value) = [.bool a0_2] := k0_2
    simpa [Value.cells] using e_
  obtain ⟨y0_3, h0_3⟩ := field_of hff0 hlen0 3 _ rfl 9 3 1 rfl rfl (by kernel_rfl)
  obtain ⟨a0_3, k0_3, g0_3⟩ := (opens_string Try.underlying9).go h0_3
  obtain rfl : u0_3 = .string a0_3 := by
    have e_ : (_ : List Value) = [.string a0_3] := k0_3
    simpa [Value.cells] using e_
  have k1 := h1
  have lt1 : ∀ x ∈ p1, x.block < W.heap.size := by obtain ⟨m, hm⟩ := k1; exact DataW.trod_lt m _ _ _ hm
  obtain ⟨cs1, rfl, sz1⟩ := okWide_struct Try.underlying23 (hval 1 23 v1 rfl rfl)
  obtain ⟨u1_0, u1_1, u1_2, u1_3, rfl⟩ := array4 (sz1.trans (show Try.prog.cellsOf 23 = 4 by kernel_rfl))
  obtain ⟨fuel1, hf1⟩ := h1
  obtain ⟨xs1, n1, _, _, hl1, hlen1, hff1⟩ := DataW.trod_struct Try.underlying23 hf1
  obtain ⟨y1_0, h1_0⟩ := field_of hff1 hlen1 0 _ rfl 9 0 1 rfl rfl (by kernel_rfl)
  obtain ⟨a1_0, k1_0, g1_0⟩ := (opens_string Try.underlying9).go h1_0
  obtain rfl : u1_0 = .string a1_0 := by
    have e_ : (_ : List Value) = [.string a1_0] := k1_0
    simpa [Value.cells] using e_
  obtain ⟨y1_1, h1_1⟩ := field_of hff1 hlen1 1 _ rfl 3 1 1 rfl rfl (by kernel_rfl)
  obtain ⟨a1_1, k1_1, g1_1⟩ := (opens_int Try.underlying3).go h1_1
  obtain rfl : u1_1 = .int .i64 a1_1 := by
    have e_ : (_ : List Value) = [.int .i64 a1_1] := k1_1
    simpa [Value.cells] using e_
  obtain ⟨y1_2, h1_2⟩ := field_of hff1 hlen1 2 _ rfl 4 2 1 rfl rfl (by kernel_rfl)
  obtain ⟨a1_2, k1_2, g1_2⟩ := (opens_bool Try.underlying4).go h1_2
  obtain rfl : u1_2 = .bool a1_2 := by
    have e_ : (_ : List Value) = [.bool a1_2] := k1_2
    simpa [Value.cells] using e_
  obtain ⟨y1_3, h1_3⟩ := field_of hff1 hlen1 3 _ rfl 9 3 1 rfl rfl (by kernel_rfl)
  obtain ⟨a1_3, k1_3, g1_3⟩ := (opens_string Try.underlying9).go h1_3
  obtain rfl : u1_3 = .string a1_3 := by
    have e_ : (_ : List Value) = [.string a1_3] := k1_3
    simpa [Value.cells] using e_
  obtain ⟨a2, len2, cap2, rfl⟩ := okWide_slice Try.underlying24 (hval 2 24 v2 rfl rfl)
  have k2 := h2
  have lt2 : ∀ x ∈ p2, x.block < W.heap.size := by obtain ⟨m, hm⟩ := k2; exact DataW.trod_lt m _ _ _ hm
  obtain ⟨z2, e2, w2, y2, g2⟩ := opens_row Try.underlying24 (by kernel_rfl) opens_k23 h2
  subst e2
  obtain ⟨a3, rfl, rfl, rfl, y3⟩ := open_string Try.underlying9 (hval 3 9 v3 rfl rfl) h3
  have w3 : a3.size ≤ 140737488351232 := by
    have z := sized_string hsz (j := 3) (t := 9) rfl rfl
    rw [Array.length_toList] at z
    exact z
  obtain ⟨a4, rfl, rfl, rfl, w4⟩ := open_int Try.underlying3 (hval 4 3 v4 rfl rfl) h4
  obtain ⟨a5, rfl, rfl, rfl, y5⟩ := open_string Try.underlying9 (hval 5 9 v5 rfl rfl) h5
  have w5 : a5.size ≤ 140737488351232 := by
    have z := sized_string hsz (j := 5) (t := 9) rfl rfl
    rw [Array.length_toList] at z
    exact z
  have k6 := h6
  have lt6 : ∀ x ∈ p6, x.block < W.heap.size := by obtain ⟨m, hm⟩ := k6; exact DataW.trod_lt m _ _ _ hm
  obtain ⟨cs6, rfl, sz6⟩ := okWide_struct Try.underlying26 (hval 6 26 v6 rfl rfl)
  obtain ⟨u6_0, u6_1, u6_2, rfl⟩ := array3 (sz6.trans (show Try.prog.cellsOf 26 = 3 by kernel_rfl))
  obtain ⟨fuel6, hf6⟩ := h6
  obtain ⟨xs6, n6, _, _, hl6, hlen6, hff6⟩ := DataW.trod_struct Try.underlying26 hf6
  obtain ⟨y6_0, h6_0⟩ := field_of hff6 hlen6 0 _ rfl 9 0 1 rfl rfl (by kernel_rfl)
  obtain ⟨a6_0, k6_0, g6_0⟩ := (opens_string Try.underlying9).go h6_0
  obtain rfl : u6_0 = .string a6_0 := by
    have e_ : (_ : List Value) = [.string a6_0] := k6_0
    simpa [Value.cells] using e_
  obtain ⟨y6_1, h6_1⟩ := field_of hff6 hlen6 1 _ rfl 4 1 1 rfl rfl (by kernel_rfl)
  obtain ⟨a6_1, k6_1, g6_1⟩ := (opens_bool Try.underlying4).go h6_1
  obtain rfl : u6_1 = .bool a6_1 := by
    have e_ : (_ : List Value) = [.bool a6_1] := k6_1
    simpa [Value.cells] using e_
  obtain ⟨y6_2, h6_2⟩ := field_of hff6 hlen6 2 _ rfl 9 2 1 rfl rfl (by kernel_rfl)
  obtain ⟨a6_2, k6_2, g6_2⟩ := (opens_string Try.underlying9).go h6_2
  obtain rfl : u6_2 = .string a6_2 := by
    have e_ : (_ : List Value) = [.string a6_2] := k6_2
    simpa [Value.cells] using e_
  clear hA0 hval0 hsz0 hsz hval
  obtain ⟨k_, hk_⟩ := Pure.EntryTells a0_0 a0_1 a0_2 a0_3 a1_0 a1_1 a1_2 a1_3 z2 a3 a4 a5 a6_0 a6_1 a6_2 g0_0 g0_1 g0_3 g1_0 g1_1 g1_3 g2.1 g2.2 w3 w4 w5 g6_0 g6_2
  refine (ravelinlaw6_EntryTells.calls k_ a0_0 a0_1 a0_2 a0_3 a1_0 a1_1 a1_2 a1_3 _ _ z2 a3 a4 a5 a6_0 a6_1 a6_2 true W w2 y2 hk_ rfl).mono fun e W' ⟨he, bel_⟩ => ?_
  have bel : Below W.heap.size W W' := bel_
  subst he
  exact ⟨_, rfl, _, _, _, [], _, [], hW', trodAll_mk1 (shut_bool Try.underlying4 _), (trodAll_cons_mk (Below.trod laidOut (by kernel_rfl) (of_decide_eq_true (by kernel_rfl)) k0 bel lt0) (trodAll_cons_mk (Below.trod laidOut (by kernel_rfl) (of_decide_eq_true (by kernel_rfl)) k1 bel lt1) (trodAll_cons_mk (Below.trod laidOut (by kernel_rfl) (of_decide_eq_true (by kernel_rfl)) k2 bel lt2) (trodAll_cons_mk (shut_string Try.underlying9 y3) (trodAll_cons_mk (shut_int Try.underlying3 w4) (trodAll_cons_mk (shut_string Try.underlying9 y5) (trodAll_cons_mk (Below.trod laidOut (by kernel_rfl) (of_decide_eq_true (by kernel_rfl)) k6 bel lt6) trodAll_mk0))))))), rfl, bel.frame _, fun h => by cases h⟩
theorem over : Rows.entryTellsRow.holds Try.pinned (OpenSpec.ofChange Rows.entryTellsSpec) :=
  OpenClaim.holds_of_wide 3 Try.f3 rfl rfl rfl rfl rfl rfl rfl ⟨rfl, rfl, rfl, rfl, rfl⟩ rfl rfl rfl rfl rfl (by kernel_rfl) Try.func3 (by kernel_rfl)
    (of_decide_eq_true (by kernel_rfl)) (by unfold Func.isWrapper; first | (rw [if_pos (by decide +kernel)]; kernel_rfl) | (rw [if_neg (by decide +kernel)]; exact ⟨rfl, rfl⟩))
    (fun os started H enc _ => lifted os started H enc)
theorem proved : Rows.EntryTellsSaid := over
#print axioms proved
end Go.Proofs.Ytggmgenofmfdpaa.entryTells
namespace Go.Proofs.Ytggmgenofmfdpaa
/-- The row, under a short name, for the claim. -/
theorem entryTells_holds : Rows.EntryTellsSaid := entryTells.proved
end Go.Proofs.Ytggmgenofmfdpaa
