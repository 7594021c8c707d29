-- Printed by a changed copy of the kit's printer (wip/tools/ext.py); labels and more
import Derived.Test.YtkmbgihfdfgmgaaRows
import Derived.Test.YtkmbgihfdfgmgaaM0
import Derived.Test.YtkmbgihfdfgmgaaPx18
import Derived.Test.YtkmbgihfdfgmgaaQOpens
import Derived.Test.YtkmbgihfdfgmgaaPureItemTells
import Derived.WalkKit
import Derived.ProofKit
import Derived.OpenShut
import Derived.ShutString
import Derived.ChangeOld
import Derived.Below
import Derived.SizedLaws
import Derived.WideShapes
namespace Go.Proofs.Ytkmbgihfdfgmgaa.itemTells
open Go.ChangeShapes Go.WideShapes Go.ChangeAt Go.RowKit Go.Proofs.Ytkmbgihfdfgmgaa.Opens Go.Proofs.Ytkmbgihfdfgmgaa.P Go.Proofs.YtkmbgihfdfgmgaaW.PrintWords Go.Proofs.YtkmbgihfdfgmgaaW.PrintLast
open Go.ChangeMaps (open_string shut_string)
set_option linter.unusedVariables false
theorem own : ownKnob Try.prog.godebug = none := by kernel_rfl
theorem laidOut : laidOutB Try.prog = true := by kernel_rfl
theorem opens_k39 : Opens Try.prog 39 k39 (fun x => (x.f0.size ≤ 9223372036854775807 ∧ True ∧ x.f2.size ≤ 9223372036854775807)) := ⟨fun h => by
  obtain ⟨xs, n, _, _, hl, hlen, hf⟩ := DataW.trod_struct Try.underlying39 h
  obtain ⟨y0, h0⟩ := field_of hf hlen 0 _ rfl 9 0 1 rfl rfl (by kernel_rfl)
  obtain ⟨a0, k0, g0⟩ := (opens_string Try.underlying9).go h0
  obtain ⟨y1, h1⟩ := field_of hf hlen 1 _ rfl 4 1 1 rfl rfl (by kernel_rfl)
  obtain ⟨a1, k1, g1⟩ := (opens_bool Try.underlying4).go h1
  obtain ⟨y2, h2⟩ := field_of hf hlen 2 _ rfl 9 2 1 rfl rfl (by kernel_rfl)
  obtain ⟨a2, k2, g2⟩ := (opens_string Try.underlying9).go h2
  rw [show Try.prog.cellsOf 39 = 3 by kernel_rfl] at hl
  refine ⟨⟨a0, a1, a2⟩, ?_, g0, g1, g2⟩
  exact ⟨_, _, part_more 0 1, k0, ⟨_, _, part_more 1 1, k1, (by rw [part_last hl (by decide)] at k2; exact k2)⟩⟩⟩
set_option maxRecDepth 100000 in
set_option maxHeartbeats 1000000 in
theorem lifted (os : Os) (started : os.Started) (H : Type) (enc : TypeId × Value → H) :
    ReturnsInHanded {} Try.checked os 3 .any (Rows.itemTellsSpec.pre6 enc Try.prog Try.f3 Rows.itemTellsRow.domain false) (Rows.itemTellsSpec.post enc Try.prog Try.f3 false true false false) := by
  refine returnsInHanded_of_change_sized (C := Try.checked) own started (by kernel_rfl) Try.func3
    (ChangeSpec.witness6 (enc := enc) (C := Try.checked) false ⟨#[], #[.agg #[.int .i64 0, .int .i64 0, .int .i64 0, .bool false, .slice none 0 0], .agg #[.int .i64 0, .int .i64 0, .int .i64 0, .bool false, .slice none 0 0], .string ByteArray.empty], []⟩ 8 (by kernel_rfl) (by kernel_rfl) (by kernel_rfl) (by kernel_rfl)) ?_
  intro W base args ds gs before hval0 hW hcnd hsz0 _
  have hsz : (DataW.weightsEach Try.prog (Try.f3.params.toList ++ Rows.itemTellsSpec.plain.varTypes Try.prog) (ds ++ gs)).all (· ≤ reachBytes) = true := hsz0
  have hval : ∀ (j : Nat) t v, Try.f3.params[j]? = some t → args[j]? = some v → Value.okWide Try.prog W .any base t v := hval0
  have hW' := hW
  obtain ⟨p, q, hA0, hV, rfl, hfz, hnd⟩ := hW
  have hA : DataW.TrodAll enc Try.prog W 0 (fun _ => true) true Try.f3.params.toList args.toList ds p := hA0
  rw [Try.params3] at hA hval hsz
  obtain ⟨v0, vs0, d0, ds0, p0, q0, hargs, rfl, rfl, h0, r0⟩ := trodAll_cons hA
  obtain ⟨v1, vs1, d1, ds1, p1, q1, rfl, rfl, rfl, h1, r1⟩ := trodAll_cons r0
  obtain ⟨v2, vs2, d2, ds2, p2, q2, rfl, rfl, rfl, h2, r2⟩ := trodAll_cons r1
  obtain ⟨rfl, rfl, rfl⟩ := trodAll_nil r2
  obtain rfl : args = #[v0, v1, v2] := by cases args; simp_all
  obtain ⟨rfl, rfl⟩ := trodVars_none hV
  have k0 := h0
  have lt0 : ∀ x ∈ p0, x.block < W.heap.size := by obtain ⟨m, hm⟩ := k0; exact DataW.trod_lt m _ _ _ hm
  obtain ⟨cs0, rfl, sz0⟩ := okWide_struct Try.underlying24 (hval 0 24 v0 rfl rfl)
  obtain ⟨u0_0, u0_1, u0_2, u0_3, u0_4, rfl⟩ := array5 (sz0.trans (show Try.prog.cellsOf 24 = 5 by kernel_rfl))
  obtain ⟨fuel0, hf0⟩ := h0
  obtain ⟨xs0, n0, _, _, hl0, hlen0, hff0⟩ := DataW.trod_struct Try.underlying24 hf0
  obtain ⟨y0_0, h0_0⟩ := field_of hff0 hlen0 0 _ rfl 3 0 1 rfl rfl (by kernel_rfl)
  obtain ⟨a0_0, k0_0, g0_0⟩ := (opens_int Try.underlying3).go h0_0
  obtain rfl : u0_0 = .int .i64 a0_0 := by
    have e_ : (_ : List Value) = [.int .i64 a0_0] := k0_0
    simpa [Value.cells] using e_
  obtain ⟨y0_1, h0_1⟩ := field_of hff0 hlen0 1 _ rfl 3 1 1 rfl rfl (by kernel_rfl)
  obtain ⟨a0_1, k0_1, g0_1⟩ := (opens_int Try.underlying3).go h0_1
  obtain rfl : u0_1 = .int .i64 a0_1 := by
    have e_ : (_ : List Value) = [.int .i64 a0_1] := k0_1
    simpa [Value.cells] using e_
  obtain ⟨y0_2, h0_2⟩ := field_of hff0 hlen0 2 _ rfl 3 2 1 rfl rfl (by kernel_rfl)
  obtain ⟨a0_2, k0_2, g0_2⟩ := (opens_int Try.underlying3).go h0_2
  obtain rfl : u0_2 = .int .i64 a0_2 := by
    have e_ : (_ : List Value) = [.int .i64 a0_2] := k0_2
    simpa [Value.cells] using e_
  obtain ⟨y0_3, h0_3⟩ := field_of hff0 hlen0 3 _ rfl 4 3 1 rfl rfl (by kernel_rfl)
  obtain ⟨a0_3, k0_3, g0_3⟩ := (opens_bool Try.underlying4).go h0_3
  obtain rfl : u0_3 = .bool a0_3 := by
    have e_ : (_ : List Value) = [.bool a0_3] := k0_3
    simpa [Value.cells] using e_
  obtain ⟨y0_4, h0_4⟩ := field_of hff0 hlen0 4 _ rfl 22 4 1 rfl rfl (by kernel_rfl)
  obtain ⟨A0_4, c0_4, l0_4, k0_4, y0_4, w0_4, g0_4⟩ := opens_cells Try.underlying22 (by kernel_rfl) opens_k39 h0_4
  obtain rfl : u0_4 = .slice A0_4 l0_4.length c0_4 := by simpa [Value.cells] using k0_4
  have k1 := h1
  have lt1 : ∀ x ∈ p1, x.block < W.heap.size := by obtain ⟨m, hm⟩ := k1; exact DataW.trod_lt m _ _ _ hm
  obtain ⟨cs1, rfl, sz1⟩ := okWide_struct Try.underlying24 (hval 1 24 v1 rfl rfl)
  obtain ⟨u1_0, u1_1, u1_2, u1_3, u1_4, rfl⟩ := array5 (sz1.trans (show Try.prog.cellsOf 24 = 5 by kernel_rfl))
  obtain ⟨fuel1, hf1⟩ := h1
  obtain ⟨xs1, n1, _, _, hl1, hlen1, hff1⟩ := DataW.trod_struct Try.underlying24 hf1
  obtain ⟨y1_0, h1_0⟩ := field_of hff1 hlen1 0 _ rfl 3 0 1 rfl rfl (by kernel_rfl)
  obtain ⟨a1_0, k1_0, g1_0⟩ := (opens_int Try.underlying3).go h1_0
  obtain rfl : u1_0 = .int .i64 a1_0 := by
    have e_ : (_ : List Value) = [.int .i64 a1_0] := k1_0
    simpa [Value.cells] using e_
  obtain ⟨y1_1, h1_1⟩ := field_of hff1 hlen1 1 _ rfl 3 1 1 rfl rfl (by kernel_rfl)
  obtain ⟨a1_1, k1_1, g1_1⟩ := (opens_int Try.underlying3).go h1_1
  obtain rfl : u1_1 = .int .i64 a1_1 := by
    have e_ : (_ : List Value) = [.int .i64 a1_1] := k1_1
    simpa [Value.cells] using e_
  obtain ⟨y1_2, h1_2⟩ := field_of hff1 hlen1 2 _ rfl 3 2 1 rfl rfl (by kernel_rfl)
  obtain ⟨a1_2, k1_2, g1_2⟩ := (opens_int Try.underlying3).go h1_2
  obtain rfl : u1_2 = .int .i64 a1_2 := by
    have e_ : (_ : List Value) = [.int .i64 a1_2] := k1_2
    simpa [Value.cells] using e_
  obtain ⟨y1_3, h1_3⟩ := field_of hff1 hlen1 3 _ rfl 4 3 1 rfl rfl (by kernel_rfl)
  obtain ⟨a1_3, k1_3, g1_3⟩ := (opens_bool Try.underlying4).go h1_3
  obtain rfl : u1_3 = .bool a1_3 := by
    have e_ : (_ : List Value) = [.bool a1_3] := k1_3
    simpa [Value.cells] using e_
  obtain ⟨y1_4, h1_4⟩ := field_of hff1 hlen1 4 _ rfl 22 4 1 rfl rfl (by kernel_rfl)
  obtain ⟨A1_4, c1_4, l1_4, k1_4, y1_4, w1_4, g1_4⟩ := opens_cells Try.underlying22 (by kernel_rfl) opens_k39 h1_4
  obtain rfl : u1_4 = .slice A1_4 l1_4.length c1_4 := by simpa [Value.cells] using k1_4
  obtain ⟨a2, rfl, rfl, rfl, y2⟩ := open_string Try.underlying9 (hval 2 9 v2 rfl rfl) h2
  have w2 : a2.size ≤ 140737488351232 := by
    have z := sized_string hsz (j := 2) (t := 9) rfl rfl
    rw [Array.length_toList] at z
    exact z
  clear hA0 hval0 hsz0 hsz hval
  obtain ⟨k_, hk_⟩ := Pure.ItemTells a0_0 a0_1 a0_2 a0_3 l0_4 a1_0 a1_1 a1_2 a1_3 l1_4 a2 g0_0 g0_1 g0_2 g0_4.1 g0_4.2 g1_0 g1_1 g1_2 g1_4.1 g1_4.2 w2
  refine (ravelinlaw18_ItemTells.calls k_ a0_0 a0_1 a0_2 a0_3 _ _ l0_4 a1_0 a1_1 a1_2 a1_3 _ _ l1_4 a2 true W w0_4 y0_4 w1_4 y1_4 hk_ rfl).mono fun e W' ⟨he, bel_⟩ => ?_
  have bel : Below W.heap.size W W' := bel_
  subst he
  exact ⟨_, rfl, _, _, _, [], _, [], hW', trodAll_mk1 (shut_bool Try.underlying4 _), (trodAll_cons_mk (Below.trod laidOut (by kernel_rfl) (of_decide_eq_true (by kernel_rfl)) k0 bel lt0) (trodAll_cons_mk (Below.trod laidOut (by kernel_rfl) (of_decide_eq_true (by kernel_rfl)) k1 bel lt1) (trodAll_cons_mk (shut_string Try.underlying9 y2) trodAll_mk0))), rfl, bel.frame _, fun h => by cases h⟩
theorem over : Rows.itemTellsRow.holds Try.pinned (OpenSpec.ofChange Rows.itemTellsSpec) :=
  OpenClaim.holds_of_wide 3 Try.f3 rfl rfl rfl rfl rfl rfl rfl ⟨rfl, rfl, rfl, rfl, rfl⟩ rfl rfl rfl rfl rfl (by kernel_rfl) Try.func3 (by kernel_rfl)
    (of_decide_eq_true (by kernel_rfl)) (by unfold Func.isWrapper; first | (rw [if_pos (by decide +kernel)]; kernel_rfl) | (rw [if_neg (by decide +kernel)]; exact ⟨rfl, rfl⟩))
    (fun os started H enc _ => lifted os started H enc)
theorem proved : Rows.ItemTellsSaid := over
#print axioms proved
end Go.Proofs.Ytkmbgihfdfgmgaa.itemTells
namespace Go.Proofs.Ytkmbgihfdfgmgaa
/-- The row, under a short name, for the claim. -/
theorem itemTells_holds : Rows.ItemTellsSaid := itemTells.proved
end Go.Proofs.Ytkmbgihfdfgmgaa
