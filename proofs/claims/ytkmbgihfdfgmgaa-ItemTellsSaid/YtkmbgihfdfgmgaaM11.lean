-- Printed by a changed copy of the kit's printer (wip/tools/ext.py); labels and more
import Derived.Test.YtkmbgihfdfgmgaaQShort
import Derived.Test.YtkmbgihfdfgmgaaM0
import Derived.Test.YtkmbgihfdfgmgaaM9
import Derived.Test.YtkmbgihfdfgmgaaM10
namespace Go.Proofs.Ytkmbgihfdfgmgaa.P
open Go.RowKit Go.Proofs.YtkmbgihfdfgmgaaW.PrintWords Go.Proofs.YtkmbgihfdfgmgaaW.PrintLast Go.Proofs.YtkmbgihfdfgmgaaW.PrintMore
attribute [local go_sem] max2_int min2_int max_two min_two max_three min_three max_four min_four   -- for this text's walks alone
attribute [local go_sem high] string_leq string_geq string_gtr
set_option linter.unusedVariables false
set_option linter.unusedSimpArgs false

abbrev mkPx16_0 : Array Bool := #[false, false, false, false, false, false, false, false, false, false, false, false, false, false]
abbrev mkPx16_1 : Array Bool := #[true, false, false, false, false, false, false, false, false, false, false, false, false, false]
abbrev mkPx16_2 : Array Bool := #[true, false, true, false, false, false, false, false, false, false, false, false, false, false]
abbrev mkPx16_3 : Array Bool := #[true, false, true, false, true, false, false, false, false, false, false, false, false, false]
abbrev mkPx16_4 : Array Bool := #[true, false, true, false, true, false, true, false, false, false, false, false, false, false]
abbrev mkPx16_5 : Array Bool := #[true, false, true, false, true, false, true, true, false, false, false, false, false, false]
abbrev mkPx16_6 : Array Bool := #[true, false, true, false, true, false, true, true, false, false, true, false, false, false]
abbrev mkPx16_7 : Array Bool := #[true, true, true, false, true, false, true, true, false, false, true, false, false, false]
abbrev mkPx16_8 : Array Bool := #[true, true, true, true, true, false, true, true, false, false, true, false, false, false]
abbrev mkPx16_9 : Array Bool := #[true, true, true, true, true, true, true, true, false, false, true, false, false, false]
abbrev mkPx16_10 : Array Bool := #[true, true, true, true, true, true, true, true, true, false, true, false, false, false]
abbrev mkPx16_11 : Array Bool := #[true, true, true, true, true, true, true, true, true, true, true, false, false, false]
abbrev mkPx16_12 : Array Bool := #[true, true, true, true, true, true, true, true, true, true, true, true, false, false]
abbrev mkPx16_13 : Array Bool := #[true, true, true, true, true, true, true, true, true, true, true, true, true, false]
abbrev mkPx16_14 : Array Bool := #[true, true, true, true, true, true, true, true, true, true, true, true, true, true]
/-! ### ravelinref18_Read: function 12 -/
def ravelinref18_Read.j0 : Nat → Int → Bool → Int → Int → Int → Bool → List (S39) → Option (Int × Int × Int × Bool × (List (S39)) × Int × Int)
  | 0, _, _, _, _, _, _, _ => none
  | k + 1, x6, x94, x348000, x348001, x348002, x348003, x348004 => if x94 = true then (some (0, 0, 0, false, ([] : List (S39)), 0, 10)) else (some (x348000, x348001, x348002, x348003, x348004, x6, 0))
def ravelinref18_Read.f (k : Nat) (a0 : ByteArray) : Option (Int × Int × Int × Bool × (List (S39)) × Int × Int) := (ravelinref3_Open.f k a0).bind fun bt329 => (if bt329.2.2 = 0 then (if 0 ≤ (bt329.1.size : Int) then ((ravelinref3_TakeNum.f k bt329.1).bind fun bt333 => (if bt333.2.2 = 0 then (if 0 ≤ (wrap64 (bt333.2.1)) then (if (wrap64 (bt333.2.1)) ≤ (bt329.1.size : Int) then ((ravelinref3_TakeNum.f k (bt329.1.extract ((wrap64 (bt333.2.1)) : Int).toNat bt329.1.size)).bind fun bt336 => (if bt336.2.2 = 0 then (if 0 ≤ (wrap64 ((wrap64 (bt333.2.1)) + bt336.2.1)) then (if (wrap64 ((wrap64 (bt333.2.1)) + bt336.2.1)) ≤ (bt329.1.size : Int) then ((ravelinref3_TakeNum.f k (bt329.1.extract ((wrap64 ((wrap64 (bt333.2.1)) + bt336.2.1)) : Int).toNat bt329.1.size)).bind fun bt339 => (if bt339.2.2 = 0 then (if (wrap64 ((wrap64 ((wrap64 (bt333.2.1)) + bt336.2.1)) + bt339.2.1)) = (bt329.1.size : Int) then (some (0, 0, 0, false, ([] : List (S39)), 0, 10)) else (if 0 ≤ (wrap64 ((wrap64 ((wrap64 ((wrap64 (bt333.2.1)) + bt336.2.1)) + bt339.2.1)) + 1)) then (if (wrap64 ((wrap64 ((wrap64 ((wrap64 (bt333.2.1)) + bt336.2.1)) + bt339.2.1)) + 1)) ≤ (bt329.1.size : Int) then ((ravelinref12_TakeRow.f k (bt329.1.extract ((wrap64 ((wrap64 ((wrap64 ((wrap64 (bt333.2.1)) + bt336.2.1)) + bt339.2.1)) + 1)) : Int).toNat bt329.1.size)).bind fun bt342 => (if 0 ≤ (wrap64 ((wrap64 ((wrap64 (bt333.2.1)) + bt336.2.1)) + bt339.2.1)) then (if (wrap64 ((wrap64 ((wrap64 (bt333.2.1)) + bt336.2.1)) + bt339.2.1)) < (bt329.1.size : Int) then ((ravelinref18_Bytes.f k bt333.1 bt336.1 bt339.1 ((bt bt329.1 (wrap64 ((wrap64 ((wrap64 (bt333.2.1)) + bt336.2.1)) + bt339.2.1))) == 1) bt342.1).bind fun bt348 => (if bt342.2.2 = true then (if bt348.2 = true then (if 0 ≤ bt329.2.1 then (if bt329.2.1 ≤ (a0.size : Int) then (ravelinref18_Read.j0 k bt329.2.1 (bt348.1.toList != (a0.extract 0 (bt329.2.1 : Int).toNat).toList) bt333.1 bt336.1 bt339.1 ((bt bt329.1 (wrap64 ((wrap64 ((wrap64 (bt333.2.1)) + bt336.2.1)) + bt339.2.1))) == 1) bt342.1) else (none)) else (none)) else (ravelinref18_Read.j0 k bt329.2.1 true bt333.1 bt336.1 bt339.1 ((bt bt329.1 (wrap64 ((wrap64 ((wrap64 (bt333.2.1)) + bt336.2.1)) + bt339.2.1))) == 1) bt342.1)) else (ravelinref18_Read.j0 k bt329.2.1 true bt333.1 bt336.1 bt339.1 ((bt bt329.1 (wrap64 ((wrap64 ((wrap64 (bt333.2.1)) + bt336.2.1)) + bt339.2.1))) == 1) bt342.1))) else (none)) else (none))) else (none)) else (none))) else (some (0, 0, 0, false, ([] : List (S39)), 0, 10)))) else (none)) else (none)) else (some (0, 0, 0, false, ([] : List (S39)), 0, 10)))) else (none)) else (none)) else (some (0, 0, 0, false, ([] : List (S39)), 0, 10)))) else (none)) else (some (0, 0, 0, false, ([] : List (S39)), 0, bt329.2.2)))
theorem ravelinref18_Read.mono_l : ∀ k, (∀ y0 y1 y2 y3 y4 y5 y6, LeO (ravelinref18_Read.j0 k y0 y1 y2 y3 y4 y5 y6) (ravelinref18_Read.j0 (k + 1) y0 y1 y2 y3 y4 y5 y6))
  | 0 => fun _ _ _ _ _ _ _ r h => by simp [ravelinref18_Read.j0] at h
  | k + 1 => by
    have ih0 := ravelinref18_Read.mono_l k
    · intro y0 y1 y2 y3 y4 y5 y6
      unfold ravelinref18_Read.j0
      repeat' first
      | (with_reducible exact ih0 _ _ _ _ _ _ _)
      | (with_reducible exact ravelinref12_TakeRow.mono _ _)
      | (with_reducible exact ravelinref18_Bytes.mono _ _ _ _ _ _)
      | (with_reducible exact ravelinref3_Open.mono _ _)
      | (with_reducible exact ravelinref3_TakeNum.mono _ _)
      | (with_reducible exact LeO.refl _)
      | (with_reducible exact LeO.none _)
      | (with_reducible refine LeO.ite ?_ ?_)
      | (with_reducible refine LeO.bind ?_ (fun _ => ?_))
      | exact ih0 _ _ _ _ _ _ _
      | exact ravelinref12_TakeRow.mono _ _
      | exact ravelinref18_Bytes.mono _ _ _ _ _ _
      | exact ravelinref3_Open.mono _ _
      | exact ravelinref3_TakeNum.mono _ _
      | exact LeO.none _
      | refine LeO.ite ?_ ?_
      | refine LeO.bind ?_ (fun _ => ?_)
theorem ravelinref18_Read.mono : ∀ a0 k, LeO (ravelinref18_Read.f k a0) (ravelinref18_Read.f (k + 1) a0) := by
  intro a0 k
  have ih0 := ravelinref18_Read.mono_l k
  unfold ravelinref18_Read.f
  repeat' first
      | (with_reducible exact ih0 _ _ _ _ _ _ _)
      | (with_reducible exact ravelinref12_TakeRow.mono _ _)
      | (with_reducible exact ravelinref18_Bytes.mono _ _ _ _ _ _)
      | (with_reducible exact ravelinref3_Open.mono _ _)
      | (with_reducible exact ravelinref3_TakeNum.mono _ _)
      | (with_reducible exact LeO.refl _)
      | (with_reducible exact LeO.none _)
      | (with_reducible refine LeO.ite ?_ ?_)
      | (with_reducible refine LeO.bind ?_ (fun _ => ?_))
      | exact ih0 _ _ _ _ _ _ _
      | exact ravelinref12_TakeRow.mono _ _
      | exact ravelinref18_Bytes.mono _ _ _ _ _ _
      | exact ravelinref3_Open.mono _ _
      | exact ravelinref3_TakeNum.mono _ _
      | exact LeO.none _
      | refine LeO.ite ?_ ?_
      | refine LeO.bind ?_ (fun _ => ?_)
def ravelinref18_Read.T17 : Bool × List (List Nat × List Nat) := (true, [([], []), ([0], [0]), ([], []), ([2], [2]), ([], []), ([4], [4]), ([], []), ([], []), ([6, 7], [6, 7]), ([8], [8]), ([], []), ([1, 3, 5, 9, 10], [1, 3, 5, 9, 10]), ([], []), ([12, 11, 0, 1, 2, 3, 4, 5, 6, 7, 8, 9, 10, 11, 12], [11, 12])])
def ravelinref18_Read.B17 : List Nat := [0, 1, 0, 4, 0, 16, 0, 0, 192, 448, 0, 2047, 0, 8191]
theorem ravelinref18_Read.tab17 : rtab .any (opsOf Try.f12 17) = ravelinref18_Read.T17 := by kernel_rfl
theorem ravelinref18_Read.bits17 : waitsOk ravelinref18_Read.T17.2 ravelinref18_Read.B17 = true := by kernel_rfl
set_option maxHeartbeats 8000000 in
set_option maxRecDepth 100000 in
theorem ravelinref18_Read.calls (k : Nat) (a0 : ByteArray) (r1 : Int) (r2 : Int) (r3 : Int) (r4 : Bool) (r5 : List (S39)) (r6 : Int) (r7 : Int) (w : World) (h : ravelinref18_Read.f k a0 = some (r1, r2, r3, r4, r5, r6, r7)) :
    Calls Try.prog 12 #[.string a0] w fun e w' => ∃ v4_ : Value, e = .returned (.tuple #[.agg #[.int .i64 r1, .int .i64 r2, .int .i64 r3, .bool r4, v4_], .int .i64 r6, .int .i64 r7]) ∧ Kd.R k39 39 w' w.heap.size (fun _ => True) v4_ r5 ∧ Below w.heap.size w w' := by
  have hu24 := Try.underlying24
  have hu58 := Try.underlying58
  have HB := Aside0.mk (Below.refl w.heap.size w)
  have H : ((ravelinref3_Open.f k a0).bind fun bt329 => (if bt329.2.2 = 0 then (if 0 ≤ (bt329.1.size : Int) then ((ravelinref3_TakeNum.f k bt329.1).bind fun bt333 => (if bt333.2.2 = 0 then (if 0 ≤ (wrap64 (bt333.2.1)) then (if (wrap64 (bt333.2.1)) ≤ (bt329.1.size : Int) then ((ravelinref3_TakeNum.f k (bt329.1.extract ((wrap64 (bt333.2.1)) : Int).toNat bt329.1.size)).bind fun bt336 => (if bt336.2.2 = 0 then (if 0 ≤ (wrap64 ((wrap64 (bt333.2.1)) + bt336.2.1)) then (if (wrap64 ((wrap64 (bt333.2.1)) + bt336.2.1)) ≤ (bt329.1.size : Int) then ((ravelinref3_TakeNum.f k (bt329.1.extract ((wrap64 ((wrap64 (bt333.2.1)) + bt336.2.1)) : Int).toNat bt329.1.size)).bind fun bt339 => (if bt339.2.2 = 0 then (if (wrap64 ((wrap64 ((wrap64 (bt333.2.1)) + bt336.2.1)) + bt339.2.1)) = (bt329.1.size : Int) then (some (0, 0, 0, false, ([] : List (S39)), 0, 10)) else (if 0 ≤ (wrap64 ((wrap64 ((wrap64 ((wrap64 (bt333.2.1)) + bt336.2.1)) + bt339.2.1)) + 1)) then (if (wrap64 ((wrap64 ((wrap64 ((wrap64 (bt333.2.1)) + bt336.2.1)) + bt339.2.1)) + 1)) ≤ (bt329.1.size : Int) then ((ravelinref12_TakeRow.f k (bt329.1.extract ((wrap64 ((wrap64 ((wrap64 ((wrap64 (bt333.2.1)) + bt336.2.1)) + bt339.2.1)) + 1)) : Int).toNat bt329.1.size)).bind fun bt342 => (if 0 ≤ (wrap64 ((wrap64 ((wrap64 (bt333.2.1)) + bt336.2.1)) + bt339.2.1)) then (if (wrap64 ((wrap64 ((wrap64 (bt333.2.1)) + bt336.2.1)) + bt339.2.1)) < (bt329.1.size : Int) then ((ravelinref18_Bytes.f k bt333.1 bt336.1 bt339.1 ((bt bt329.1 (wrap64 ((wrap64 ((wrap64 (bt333.2.1)) + bt336.2.1)) + bt339.2.1))) == 1) bt342.1).bind fun bt348 => (if bt342.2.2 = true then (if bt348.2 = true then (if 0 ≤ bt329.2.1 then (if bt329.2.1 ≤ (a0.size : Int) then (ravelinref18_Read.j0 k bt329.2.1 (bt348.1.toList != (a0.extract 0 (bt329.2.1 : Int).toNat).toList) bt333.1 bt336.1 bt339.1 ((bt bt329.1 (wrap64 ((wrap64 ((wrap64 (bt333.2.1)) + bt336.2.1)) + bt339.2.1))) == 1) bt342.1) else (none)) else (none)) else (ravelinref18_Read.j0 k bt329.2.1 true bt333.1 bt336.1 bt339.1 ((bt bt329.1 (wrap64 ((wrap64 ((wrap64 (bt333.2.1)) + bt336.2.1)) + bt339.2.1))) == 1) bt342.1)) else (ravelinref18_Read.j0 k bt329.2.1 true bt333.1 bt336.1 bt339.1 ((bt bt329.1 (wrap64 ((wrap64 ((wrap64 (bt333.2.1)) + bt336.2.1)) + bt339.2.1))) == 1) bt342.1))) else (none)) else (none))) else (none)) else (none))) else (some (0, 0, 0, false, ([] : List (S39)), 0, 10)))) else (none)) else (none)) else (some (0, 0, 0, false, ([] : List (S39)), 0, 10)))) else (none)) else (none)) else (some (0, 0, 0, false, ([] : List (S39)), 0, 10)))) else (none)) else (some (0, 0, 0, false, ([] : List (S39)), 0, bt329.2.2)))) = some (r1, r2, r3, r4, r5, r6, r7) := h
  clear h
  replace H := Option.bind_eq_some_iff.mp H
  obtain ⟨⟨t329, t330, t331⟩, A20, H⟩ := H
  try dsimp only at H
  have A2 := Aside0.mk A20
  clear A20
  by_cases c3 : t331 = 0
  rotate_left
  · rw [if_neg c3] at H
    have c3b0 : (t331 == 0) = false := beq_eq_false_iff_ne.mpr c3
    have c3b1 : (t331 != 0) = true := bne_iff_ne.mpr c3
    simp only [Option.some.injEq, Prod.mk.injEq] at H
    obtain ⟨rfl, rfl, rfl, rfl, rfl, rfl, rfl⟩ := H
    go_enter Try.func12, Try.ntmps12
    go_wp2_with (first | ((with_reducible refine gate_dst (N := 2) rfl ?_); refine box_event ?hg (N := 2) ?hd (cs := #[.int .i64 0, .int .i64 0, .int .i64 0, .bool false, .slice none 0 0]) (t := 24) ?hr ?_; (case hd => rfl); (case hg => rfl); (case hr => first | (go_simp; done) | (go_simp; rfl)); intro gb328 hg w96 hbox hb; have n0_ := bs_ HB hb; have n1_ := Aside0.mk (hbox); have n2_ := gz_ HB hg; have n3_ := gz_ HB hg; clear HB; have HB := n0_; have BK328 := n1_; have GW328 := n2_; have GE328 := n3_; clear n0_ n1_ n2_ n3_; clear hb hbox hg) | ((with_reducible refine gate_callee (f := 26) rfl ?_); refine goesL_ (some 22) rfl rfl Try.func26 (by kernel_rfl) rfl #[.string a0] rfl (by (try simp only [maps_]); first | done | rfl) ?_; (with_reducible refine (ravelinref3_Open.calls k a0 t329 t330 t331 _ A2.out).mono ?_); rintro e w97 ⟨rfl, hb⟩; refine ⟨_, rfl, ?_⟩; have n0_ := bb_ BK328 hb; have n1_ := bl_ [gb328] HB ⟨GE328, ⟨⟩⟩ hb; clear BK328; clear HB; have BK328 := n0_; have HB := n1_; clear n0_ n1_; (try clear hb); (try clear hb2); (try clear hk); (try clear hi); have hcz98_0 := bc0 BK328; have hcz98_1 := bc1 BK328; have hcz98_2 := bc2 BK328; have hcz98_3 := bc3 BK328; have hcz98_4 := bc4 BK328; have hfz98_0 := bf_ BK328 0; have hfz98_1 := bf_ BK328 1; have hfz98_2 := bf_ BK328 2; have hfz98_3 := bf_ BK328 3; have hfz98_4 := bf_ BK328 4))
    refine bodyPost_ret (results_ctt rfl _ _ gb328 24 #[.int .i64 0, .int .i64 0, .int .i64 0, .bool false, .slice none 0 0] (0, 0) _ rfl (by (with_reducible repeat (first | refine blk_drewN ?_ _ | refine blk_drew ?_ | refine blk_alloc ?_ _)); refine blk_put (cs := #[.int .i64 0, .int .i64 0, .int .i64 0, .bool false, .slice none 0 0]) ?_ 4 _ rfl; refine blk_put (cs := #[.int .i64 0, .int .i64 0, .int .i64 0, .bool false, .slice none 0 0]) ?_ 3 _ rfl; refine blk_put (cs := #[.int .i64 0, .int .i64 0, .int .i64 0, .bool false, .slice none 0 0]) ?_ 2 _ rfl; refine blk_put (cs := #[.int .i64 0, .int .i64 0, .int .i64 0, .bool false, .slice none 0 0]) ?_ 1 _ rfl; refine blk_put (cs := #[.int .i64 0, .int .i64 0, .int .i64 0, .bool false, .slice none 0 0]) ?_ 0 _ rfl; exact gb_ BK328) Try.underlying24 rfl (by kernel_rfl)) rfl ?_
    exact ⟨_, by first | rfl | (simp [*, errW_none, errW_some] <;> rfl), by first | exact Kd.R_nil _ _ _ _ _ | exact Kd.N_nil _ _ _ _ _ | exact Kd.V_nil _ _ _ _ _ | exact Kd.Q_nil _ _ _ _ _ | exact Kd.S_nil _ _ _ _ _, gwl_ [gb328] HB ⟨GE328, ⟨⟩⟩⟩
  rw [if_pos c3] at H
  have c3b0 : (t331 == 0) = true := beq_iff_eq.mpr c3
  have c3b1 : (t331 != 0) = false := bne_eq_false_iff_eq.mpr c3
  clear c3
  by_cases c4 : 0 ≤ (t329.size : Int)
  rotate_left
  · rw [if_neg c4] at H
    exact absurd H (by simp)
  rw [if_pos c4] at H
  have c4b0 := eq_true c4
  have c4b1 : decide (0 ≤ (t329.size : Int)) = true := decide_eq_true c4
  clear c4
  replace H := Option.bind_eq_some_iff.mp H
  obtain ⟨⟨t333, t334, t335⟩, A50, H⟩ := H
  try dsimp only at H
  have A5 := Aside0.mk A50
  clear A50
  by_cases c6 : t335 = 0
  rotate_left
  · rw [if_neg c6] at H
    have c6b0 : (t335 == 0) = false := beq_eq_false_iff_ne.mpr c6
    have c6b1 : (t335 != 0) = true := bne_iff_ne.mpr c6
    simp only [Option.some.injEq, Prod.mk.injEq] at H
    obtain ⟨rfl, rfl, rfl, rfl, rfl, rfl, rfl⟩ := H
    go_enter Try.func12, Try.ntmps12
    try go_wp2_with (first | ((with_reducible refine gate_dst (N := 2) rfl ?_); refine box_event ?hg (N := 2) ?hd (cs := #[.int .i64 0, .int .i64 0, .int .i64 0, .bool false, .slice none 0 0]) (t := 24) ?hr ?_; (case hd => rfl); (case hg => rfl); (case hr => first | (go_simp; done) | (go_simp; rfl)); intro gb328 hg w91 hbox hb; have n0_ := bs_ HB hb; have n1_ := Aside0.mk (hbox); have n2_ := gz_ HB hg; have n3_ := gz_ HB hg; clear HB; have HB := n0_; have BK328 := n1_; have GW328 := n2_; have GE328 := n3_; clear n0_ n1_ n2_ n3_; clear hb hbox hg) | ((with_reducible refine gate_callee (f := 26) rfl ?_); refine goesL_ (some 22) rfl rfl Try.func26 (by kernel_rfl) rfl #[.string a0] rfl (by (try simp only [maps_]); first | done | rfl) ?_; (with_reducible refine (ravelinref3_Open.calls k a0 t329 t330 t331 _ A2.out).mono ?_); rintro e w92 ⟨rfl, hb⟩; refine ⟨_, rfl, ?_⟩; have n0_ := bb_ BK328 hb; have n1_ := bl_ [gb328] HB ⟨GE328, ⟨⟩⟩ hb; clear BK328; clear HB; have BK328 := n0_; have HB := n1_; clear n0_ n1_; (try clear hb); (try clear hb2); (try clear hk); (try clear hi)) | ((with_reducible refine gate_dst (N := 8) rfl ?_); refine box_event ?hg (N := 8) ?hd (cs := #[.int .i64 0, .int .i64 0, .int .i64 0]) (t := 58) ?hr ?_; (case hd => rfl); (case hg => rfl); (case hr => first | (go_simp; done) | (go_simp; rfl)); intro gb332 hg w93 hbox hb; have n0_ := bb_ BK328 hb; have n1_ := bl_ [gb328] HB ⟨GE328, ⟨⟩⟩ hb; have n2_ := Aside0.mk (hbox); have n3_ := gl_ [gb328] HB ⟨GE328, ⟨⟩⟩ hg; have n4_ := gl_ [gb328] HB ⟨GE328, ⟨⟩⟩ hg; have n5_ := gn_ BK328 hg; have n6_ := Aside0.mk ((by rw [hg]; exact Nat.ne_of_gt (blk_lt (g := gb328) (o := .cells #[.int .i64 0, .int .i64 0, .int .i64 0, .bool false, .slice none 0 0] 24 (0, 0)) (gb_ BK328)) : gb332 ≠ gb328)); clear BK328; clear HB; have BK328 := n0_; have HB := n1_; have BK332 := n2_; have GW332 := n3_; have GE332 := n4_; have NB328_332 := n5_; have NB332_328 := n6_; clear n0_ n1_ n2_ n3_ n4_ n5_ n6_; clear hb hbox hg))
    refine wp_loop_rounds 4 ?_
    rw [rounds_succ]
    try go_wp2_with (first | ((with_reducible refine gate_callee (f := 27) rfl ?_); refine goesL_ (some 38) rfl rfl Try.func27 (by kernel_rfl) rfl #[.string t329] rfl (by (try simp only [maps_]); first | done | rfl) ?_; (with_reducible refine (ravelinref3_TakeNum.calls k t329 t333 t334 t335 _ A5.out).mono ?_); rintro e w' ⟨rfl, ⟨nd, rfl⟩⟩; refine ⟨_, rfl, ?_⟩; (try (rw [drewN_self w93]; generalize hq_ : World.drewN w93 _ = w93; have n0_ : Aside0 (w93.heap[gb328]? = some (.cells #[.int .i64 0, .int .i64 0, .int .i64 0, .bool false, .slice none 0 0] 24 (0, 0))) := ⟨by rw [← hq_]; exact (gb_ BK328)⟩; have n1_ : Aside0 (w93.heap[gb332]? = some (.cells #[.int .i64 0, .int .i64 0, .int .i64 0] 58 (0, 0))) := ⟨by rw [← hq_]; exact (gb_ BK332)⟩; have n2_ : Aside0 (Below w.heap.size w w93) := ⟨by rw [← hq_]; exact (gwl_ [gb328, gb332] HB ⟨GE328, GE332, ⟨⟩⟩)⟩; clear BK328 BK332 HB hq_; have BK328 := n0_; have BK332 := n1_; have HB := n2_; clear n0_ n1_ n2_)); have hnb94 := NB328_332.out; have hnc94 := NB332_328.out; have hcz95_0 := bc0 BK328; have hcz95_1 := bc1 BK328; have hcz95_2 := bc2 BK328; have hcz95_3 := bc3 BK328; have hcz95_4 := bc4 BK328; have hfz95_0 := bf_ BK328 0; have hfz95_1 := bf_ BK328 1; have hfz95_2 := bf_ BK328 2; have hfz95_3 := bf_ BK328 3; have hfz95_4 := bf_ BK328 4))
    refine bodyPost_ret (results_ctt rfl _ _ gb328 24 #[.int .i64 0, .int .i64 0, .int .i64 0, .bool false, .slice none 0 0] (0, 0) _ rfl (by (with_reducible repeat (first | refine blk_drewN ?_ _ | refine blk_drew ?_ | refine blk_alloc ?_ _)); refine blk_put (cs := #[.int .i64 0, .int .i64 0, .int .i64 0, .bool false, .slice none 0 0]) ?_ 4 _ rfl; refine blk_put (cs := #[.int .i64 0, .int .i64 0, .int .i64 0, .bool false, .slice none 0 0]) ?_ 3 _ rfl; refine blk_put (cs := #[.int .i64 0, .int .i64 0, .int .i64 0, .bool false, .slice none 0 0]) ?_ 2 _ rfl; refine blk_put (cs := #[.int .i64 0, .int .i64 0, .int .i64 0, .bool false, .slice none 0 0]) ?_ 1 _ rfl; refine blk_put (cs := #[.int .i64 0, .int .i64 0, .int .i64 0, .bool false, .slice none 0 0]) ?_ 0 _ rfl; exact gb_ BK328) Try.underlying24 rfl (by kernel_rfl)) rfl ?_
    exact ⟨_, by first | rfl | (simp [*, errW_none, errW_some] <;> rfl), by first | exact Kd.R_nil _ _ _ _ _ | exact Kd.N_nil _ _ _ _ _ | exact Kd.V_nil _ _ _ _ _ | exact Kd.Q_nil _ _ _ _ _ | exact Kd.S_nil _ _ _ _ _, gwl_ [gb328, gb332] HB ⟨GE328, GE332, ⟨⟩⟩⟩
  rw [if_pos c6] at H
  have c6b0 : (t335 == 0) = true := beq_iff_eq.mpr c6
  have c6b1 : (t335 != 0) = false := bne_eq_false_iff_eq.mpr c6
  clear c6
  obtain ⟨ji7, hji7⟩ : ∃ j_ : Int, (wrap64 (t334)) = j_ := ⟨_, rfl⟩
  replace H : (if 0 ≤ (ji7) then (if (ji7) ≤ (t329.size : Int) then ((ravelinref3_TakeNum.f k (t329.extract ((ji7) : Int).toNat t329.size)).bind fun bt336 => (if bt336.2.2 = 0 then (if 0 ≤ (wrap64 ((ji7) + bt336.2.1)) then (if (wrap64 ((ji7) + bt336.2.1)) ≤ (t329.size : Int) then ((ravelinref3_TakeNum.f k (t329.extract ((wrap64 ((ji7) + bt336.2.1)) : Int).toNat t329.size)).bind fun bt339 => (if bt339.2.2 = 0 then (if (wrap64 ((wrap64 ((ji7) + bt336.2.1)) + bt339.2.1)) = (t329.size : Int) then (some (0, 0, 0, false, ([] : List (S39)), 0, 10)) else (if 0 ≤ (wrap64 ((wrap64 ((wrap64 ((ji7) + bt336.2.1)) + bt339.2.1)) + 1)) then (if (wrap64 ((wrap64 ((wrap64 ((ji7) + bt336.2.1)) + bt339.2.1)) + 1)) ≤ (t329.size : Int) then ((ravelinref12_TakeRow.f k (t329.extract ((wrap64 ((wrap64 ((wrap64 ((ji7) + bt336.2.1)) + bt339.2.1)) + 1)) : Int).toNat t329.size)).bind fun bt342 => (if 0 ≤ (wrap64 ((wrap64 ((ji7) + bt336.2.1)) + bt339.2.1)) then (if (wrap64 ((wrap64 ((ji7) + bt336.2.1)) + bt339.2.1)) < (t329.size : Int) then ((ravelinref18_Bytes.f k t333 bt336.1 bt339.1 ((bt t329 (wrap64 ((wrap64 ((ji7) + bt336.2.1)) + bt339.2.1))) == 1) bt342.1).bind fun bt348 => (if bt342.2.2 = true then (if bt348.2 = true then (if 0 ≤ t330 then (if t330 ≤ (a0.size : Int) then (ravelinref18_Read.j0 k t330 (bt348.1.toList != (a0.extract 0 (t330 : Int).toNat).toList) t333 bt336.1 bt339.1 ((bt t329 (wrap64 ((wrap64 ((ji7) + bt336.2.1)) + bt339.2.1))) == 1) bt342.1) else (none)) else (none)) else (ravelinref18_Read.j0 k t330 true t333 bt336.1 bt339.1 ((bt t329 (wrap64 ((wrap64 ((ji7) + bt336.2.1)) + bt339.2.1))) == 1) bt342.1)) else (ravelinref18_Read.j0 k t330 true t333 bt336.1 bt339.1 ((bt t329 (wrap64 ((wrap64 ((ji7) + bt336.2.1)) + bt339.2.1))) == 1) bt342.1))) else (none)) else (none))) else (none)) else (none))) else (some (0, 0, 0, false, ([] : List (S39)), 0, 10)))) else (none)) else (none)) else (some (0, 0, 0, false, ([] : List (S39)), 0, 10)))) else (none)) else (none)) = some (r1, r2, r3, r4, r5, r6, r7) := by first | (rw [hji7] at H; exact H) | (simp only [hji7] at H ⊢; exact H)
  (try rw [hji7] at A2)
  (try rw [hji7] at A5)
  have hji7w : (IntKind.i64.wrap (t334)) = ji7 := (i64_w _).trans hji7
  by_cases c8 : 0 ≤ (ji7)
  rotate_left
  · rw [if_neg c8] at H
    exact absurd H (by simp)
  rw [if_pos c8] at H
  have c8b0 := eq_true c8
  have c8b1 : decide (0 ≤ (ji7)) = true := decide_eq_true c8
  clear c8
  by_cases c9 : (ji7) ≤ (t329.size : Int)
  rotate_left
  · rw [if_neg c9] at H
    exact absurd H (by simp)
  rw [if_pos c9] at H
  have c9b0 := eq_true c9
  have c9b1 : decide ((ji7) ≤ (t329.size : Int)) = true := decide_eq_true c9
  clear c9
  replace H := Option.bind_eq_some_iff.mp H
  obtain ⟨⟨t336, t337, t338⟩, A100, H⟩ := H
  try dsimp only at H
  have A10 := Aside0.mk A100
  clear A100
  by_cases c11 : t338 = 0
  rotate_left
  · rw [if_neg c11] at H
    have c11b0 : (t338 == 0) = false := beq_eq_false_iff_ne.mpr c11
    have c11b1 : (t338 != 0) = true := bne_iff_ne.mpr c11
    simp only [Option.some.injEq, Prod.mk.injEq] at H
    obtain ⟨rfl, rfl, rfl, rfl, rfl, rfl, rfl⟩ := H
    go_enter Try.func12, Try.ntmps12
    try go_wp2_with (first | ((with_reducible refine gate_dst (N := 2) rfl ?_); refine box_event ?hg (N := 2) ?hd (cs := #[.int .i64 0, .int .i64 0, .int .i64 0, .bool false, .slice none 0 0]) (t := 24) ?hr ?_; (case hd => rfl); (case hg => rfl); (case hr => first | (go_simp; done) | (go_simp; rfl)); intro gb328 hg w84 hbox hb; have n0_ := bs_ HB hb; have n1_ := Aside0.mk (hbox); have n2_ := gz_ HB hg; have n3_ := gz_ HB hg; clear HB; have HB := n0_; have BK328 := n1_; have GW328 := n2_; have GE328 := n3_; clear n0_ n1_ n2_ n3_; clear hb hbox hg) | ((with_reducible refine gate_callee (f := 26) rfl ?_); refine goesL_ (some 22) rfl rfl Try.func26 (by kernel_rfl) rfl #[.string a0] rfl (by (try simp only [maps_]); first | done | rfl) ?_; (with_reducible refine (ravelinref3_Open.calls k a0 t329 t330 t331 _ A2.out).mono ?_); rintro e w85 ⟨rfl, hb⟩; refine ⟨_, rfl, ?_⟩; have n0_ := bb_ BK328 hb; have n1_ := bl_ [gb328] HB ⟨GE328, ⟨⟩⟩ hb; clear BK328; clear HB; have BK328 := n0_; have HB := n1_; clear n0_ n1_; (try clear hb); (try clear hb2); (try clear hk); (try clear hi)) | ((with_reducible refine gate_dst (N := 8) rfl ?_); refine box_event ?hg (N := 8) ?hd (cs := #[.int .i64 0, .int .i64 0, .int .i64 0]) (t := 58) ?hr ?_; (case hd => rfl); (case hg => rfl); (case hr => first | (go_simp; done) | (go_simp; rfl)); intro gb332 hg w86 hbox hb; have n0_ := bb_ BK328 hb; have n1_ := bl_ [gb328] HB ⟨GE328, ⟨⟩⟩ hb; have n2_ := Aside0.mk (hbox); have n3_ := gl_ [gb328] HB ⟨GE328, ⟨⟩⟩ hg; have n4_ := gl_ [gb328] HB ⟨GE328, ⟨⟩⟩ hg; have n5_ := gn_ BK328 hg; have n6_ := Aside0.mk ((by rw [hg]; exact Nat.ne_of_gt (blk_lt (g := gb328) (o := .cells #[.int .i64 0, .int .i64 0, .int .i64 0, .bool false, .slice none 0 0] 24 (0, 0)) (gb_ BK328)) : gb332 ≠ gb328)); clear BK328; clear HB; have BK328 := n0_; have HB := n1_; have BK332 := n2_; have GW332 := n3_; have GE332 := n4_; have NB328_332 := n5_; have NB332_328 := n6_; clear n0_ n1_ n2_ n3_ n4_ n5_ n6_; clear hb hbox hg))
    refine wp_loop_rounds 4 ?_
    rw [rounds_succ]
    try go_wp2_with (first | ((with_reducible refine gate_callee (f := 27) rfl ?_); refine goesL_ (some 38) rfl rfl Try.func27 (by kernel_rfl) rfl #[.string t329] rfl (by (try simp only [maps_]); first | done | rfl) ?_; (with_reducible refine (ravelinref3_TakeNum.calls k t329 t333 t334 t335 _ A5.out).mono ?_); rintro e w' ⟨rfl, ⟨nd, rfl⟩⟩; refine ⟨_, rfl, ?_⟩; (try (rw [drewN_self w86]; generalize hq_ : World.drewN w86 _ = w86; have n0_ : Aside0 (w86.heap[gb328]? = some (.cells #[.int .i64 0, .int .i64 0, .int .i64 0, .bool false, .slice none 0 0] 24 (0, 0))) := ⟨by rw [← hq_]; exact (gb_ BK328)⟩; have n1_ : Aside0 (w86.heap[gb332]? = some (.cells #[.int .i64 0, .int .i64 0, .int .i64 0] 58 (0, 0))) := ⟨by rw [← hq_]; exact (gb_ BK332)⟩; have n2_ : Aside0 (Below w.heap.size w w86) := ⟨by rw [← hq_]; exact (gwl_ [gb328, gb332] HB ⟨GE328, GE332, ⟨⟩⟩)⟩; clear BK328 BK332 HB hq_; have BK328 := n0_; have BK332 := n1_; have HB := n2_; clear n0_ n1_ n2_)); have hnb87 := NB332_328.out; have hnc87 := NB328_332.out; have hcz88_0 := bc0 BK332; have hcz88_1 := bc1 BK332; have hcz88_2 := bc2 BK332; have hfz88_0 := bf_ BK332 0; have hfz88_1 := bf_ BK332 1; have hfz88_2 := bf_ BK332 2; have n0_ : Aside0 ((w86.setCell ⟨gb332, 0, none⟩ (.int .i64 t333)).heap[gb328]? = some (.cells #[.int .i64 0, .int .i64 0, .int .i64 0, .bool false, .slice none 0 0] 24 (0, 0))) := ⟨by (with_reducible repeat (first | refine blk_drewN ?_ _ | refine blk_drew ?_ | refine blk_alloc ?_ _)); refine blk_far ?_ NB328_332.out _; exact gb_ BK328⟩; have n1_ : Aside0 ((w86.setCell ⟨gb332, 0, none⟩ (.int .i64 t333)).heap[gb332]? = some (.cells #[.int .i64 t333, .int .i64 0, .int .i64 0] 58 (0, 0))) := ⟨by (with_reducible repeat (first | refine blk_drewN ?_ _ | refine blk_drew ?_ | refine blk_alloc ?_ _)); refine blk_put (cs := #[.int .i64 0, .int .i64 0, .int .i64 0]) ?_ 0 _ rfl; exact gb_ BK332⟩; have n2_ : Aside0 (Below w.heap.size w (w86.setCell ⟨gb332, 0, none⟩ (.int .i64 t333))) := ⟨gwl_ [gb328, gb332] HB ⟨GE328, GE332, ⟨⟩⟩⟩; (try clear BK328); (try clear BK332); (try clear HB); have BK328 := n0_; have BK332 := n1_; have HB := n2_; clear n0_ n1_ n2_))
    rw [rounds_succ]
    try go_wp2_with (first | ((with_reducible refine gate_callee (f := 27) rfl ?_); refine goesL_ (some 38) rfl rfl Try.func27 (by kernel_rfl) rfl #[.string (t329.extract ((ji7) : Int).toNat t329.size)] rfl (by (try simp only [List.map_toArray, List.map_cons, List.map_nil]); first | done | (simp only [hji7]; rfl) | rfl | (simp only [List.length_drop, List.length_take]; rfl)) ?_; (with_reducible refine (ravelinref3_TakeNum.calls k (t329.extract ((ji7) : Int).toNat t329.size) t336 t337 t338 _ A10.out).mono ?_); rintro e w' ⟨rfl, ⟨nd, rfl⟩⟩; refine ⟨_, rfl, ?_⟩; (try (rw [drewN_self (w86.setCell ⟨gb332, 0, none⟩ (.int .i64 t333))]; generalize hq_ : World.drewN (w86.setCell ⟨gb332, 0, none⟩ (.int .i64 t333)) _ = w89; have n0_ : Aside0 (w89.heap[gb328]? = some (.cells #[.int .i64 0, .int .i64 0, .int .i64 0, .bool false, .slice none 0 0] 24 (0, 0))) := ⟨by rw [← hq_]; exact (gb_ BK328)⟩; have n1_ : Aside0 (w89.heap[gb332]? = some (.cells #[.int .i64 t333, .int .i64 0, .int .i64 0] 58 (0, 0))) := ⟨by rw [← hq_]; exact (gb_ BK332)⟩; have n2_ : Aside0 (Below w.heap.size w w89) := ⟨by rw [← hq_]; exact (gwl_ [gb328, gb332] HB ⟨GE328, GE332, ⟨⟩⟩)⟩; clear BK328 BK332 HB hq_; have BK328 := n0_; have BK332 := n1_; have HB := n2_; clear n0_ n1_ n2_)); have hcz90_0 := bc0 BK328; have hcz90_1 := bc1 BK328; have hcz90_2 := bc2 BK328; have hcz90_3 := bc3 BK328; have hcz90_4 := bc4 BK328; have hfz90_0 := bf_ BK328 0; have hfz90_1 := bf_ BK328 1; have hfz90_2 := bf_ BK328 2; have hfz90_3 := bf_ BK328 3; have hfz90_4 := bf_ BK328 4))
    refine bodyPost_ret (results_ctt rfl _ _ gb328 24 #[.int .i64 0, .int .i64 0, .int .i64 0, .bool false, .slice none 0 0] (0, 0) _ rfl (by (with_reducible repeat (first | refine blk_drewN ?_ _ | refine blk_drew ?_ | refine blk_alloc ?_ _)); refine blk_put (cs := #[.int .i64 0, .int .i64 0, .int .i64 0, .bool false, .slice none 0 0]) ?_ 4 _ rfl; refine blk_put (cs := #[.int .i64 0, .int .i64 0, .int .i64 0, .bool false, .slice none 0 0]) ?_ 3 _ rfl; refine blk_put (cs := #[.int .i64 0, .int .i64 0, .int .i64 0, .bool false, .slice none 0 0]) ?_ 2 _ rfl; refine blk_put (cs := #[.int .i64 0, .int .i64 0, .int .i64 0, .bool false, .slice none 0 0]) ?_ 1 _ rfl; refine blk_put (cs := #[.int .i64 0, .int .i64 0, .int .i64 0, .bool false, .slice none 0 0]) ?_ 0 _ rfl; exact gb_ BK328) Try.underlying24 rfl (by kernel_rfl)) rfl ?_
    exact ⟨_, by first | rfl | (simp [errW_none, errW_some] <;> rfl) | (simp only [← hji7]; first | rfl | (simp [errW_none, errW_some] <;> rfl)) | (simp [*, errW_none, errW_some] <;> rfl), by first | exact Kd.R_nil _ _ _ _ _ | exact Kd.N_nil _ _ _ _ _ | exact Kd.V_nil _ _ _ _ _ | exact Kd.Q_nil _ _ _ _ _ | exact Kd.S_nil _ _ _ _ _, gwl_ [gb328, gb332] HB ⟨GE328, GE332, ⟨⟩⟩⟩
  rw [if_pos c11] at H
  have c11b0 : (t338 == 0) = true := beq_iff_eq.mpr c11
  have c11b1 : (t338 != 0) = false := bne_eq_false_iff_eq.mpr c11
  clear c11
  obtain ⟨ji12, hji12⟩ : ∃ j_ : Int, (wrap64 ((ji7) + t337)) = j_ := ⟨_, rfl⟩
  replace H : (if 0 ≤ (ji12) then (if (ji12) ≤ (t329.size : Int) then ((ravelinref3_TakeNum.f k (t329.extract ((ji12) : Int).toNat t329.size)).bind fun bt339 => (if bt339.2.2 = 0 then (if (wrap64 ((ji12) + bt339.2.1)) = (t329.size : Int) then (some (0, 0, 0, false, ([] : List (S39)), 0, 10)) else (if 0 ≤ (wrap64 ((wrap64 ((ji12) + bt339.2.1)) + 1)) then (if (wrap64 ((wrap64 ((ji12) + bt339.2.1)) + 1)) ≤ (t329.size : Int) then ((ravelinref12_TakeRow.f k (t329.extract ((wrap64 ((wrap64 ((ji12) + bt339.2.1)) + 1)) : Int).toNat t329.size)).bind fun bt342 => (if 0 ≤ (wrap64 ((ji12) + bt339.2.1)) then (if (wrap64 ((ji12) + bt339.2.1)) < (t329.size : Int) then ((ravelinref18_Bytes.f k t333 t336 bt339.1 ((bt t329 (wrap64 ((ji12) + bt339.2.1))) == 1) bt342.1).bind fun bt348 => (if bt342.2.2 = true then (if bt348.2 = true then (if 0 ≤ t330 then (if t330 ≤ (a0.size : Int) then (ravelinref18_Read.j0 k t330 (bt348.1.toList != (a0.extract 0 (t330 : Int).toNat).toList) t333 t336 bt339.1 ((bt t329 (wrap64 ((ji12) + bt339.2.1))) == 1) bt342.1) else (none)) else (none)) else (ravelinref18_Read.j0 k t330 true t333 t336 bt339.1 ((bt t329 (wrap64 ((ji12) + bt339.2.1))) == 1) bt342.1)) else (ravelinref18_Read.j0 k t330 true t333 t336 bt339.1 ((bt t329 (wrap64 ((ji12) + bt339.2.1))) == 1) bt342.1))) else (none)) else (none))) else (none)) else (none))) else (some (0, 0, 0, false, ([] : List (S39)), 0, 10)))) else (none)) else (none)) = some (r1, r2, r3, r4, r5, r6, r7) := by first | (rw [hji12] at H; exact H) | (simp only [hji12] at H ⊢; exact H)
  (try rw [hji12] at A2)
  (try rw [hji12] at A5)
  (try rw [hji12] at A10)
  have hji12w : (IntKind.i64.wrap ((ji7) + t337)) = ji12 := (i64_w _).trans hji12
  by_cases c13 : 0 ≤ (ji12)
  rotate_left
  · rw [if_neg c13] at H
    exact absurd H (by simp)
  rw [if_pos c13] at H
  have c13b0 := eq_true c13
  have c13b1 : decide (0 ≤ (ji12)) = true := decide_eq_true c13
  clear c13
  by_cases c14 : (ji12) ≤ (t329.size : Int)
  rotate_left
  · rw [if_neg c14] at H
    exact absurd H (by simp)
  rw [if_pos c14] at H
  have c14b0 := eq_true c14
  have c14b1 : decide ((ji12) ≤ (t329.size : Int)) = true := decide_eq_true c14
  clear c14
  replace H := Option.bind_eq_some_iff.mp H
  obtain ⟨⟨t339, t340, t341⟩, A150, H⟩ := H
  try dsimp only at H
  have A15 := Aside0.mk A150
  clear A150
  by_cases c16 : t341 = 0
  rotate_left
  · rw [if_neg c16] at H
    have c16b0 : (t341 == 0) = false := beq_eq_false_iff_ne.mpr c16
    have c16b1 : (t341 != 0) = true := bne_iff_ne.mpr c16
    simp only [Option.some.injEq, Prod.mk.injEq] at H
    obtain ⟨rfl, rfl, rfl, rfl, rfl, rfl, rfl⟩ := H
    go_enter Try.func12, Try.ntmps12
    try go_wp2_with (first | ((with_reducible refine gate_dst (N := 2) rfl ?_); refine box_event ?hg (N := 2) ?hd (cs := #[.int .i64 0, .int .i64 0, .int .i64 0, .bool false, .slice none 0 0]) (t := 24) ?hr ?_; (case hd => rfl); (case hg => rfl); (case hr => first | (go_simp; done) | (go_simp; rfl)); intro gb328 hg w75 hbox hb; have n0_ := bs_ HB hb; have n1_ := Aside0.mk (hbox); have n2_ := gz_ HB hg; have n3_ := gz_ HB hg; clear HB; have HB := n0_; have BK328 := n1_; have GW328 := n2_; have GE328 := n3_; clear n0_ n1_ n2_ n3_; clear hb hbox hg) | ((with_reducible refine gate_callee (f := 26) rfl ?_); refine goesL_ (some 22) rfl rfl Try.func26 (by kernel_rfl) rfl #[.string a0] rfl (by (try simp only [maps_]); first | done | rfl) ?_; (with_reducible refine (ravelinref3_Open.calls k a0 t329 t330 t331 _ A2.out).mono ?_); rintro e w76 ⟨rfl, hb⟩; refine ⟨_, rfl, ?_⟩; have n0_ := bb_ BK328 hb; have n1_ := bl_ [gb328] HB ⟨GE328, ⟨⟩⟩ hb; clear BK328; clear HB; have BK328 := n0_; have HB := n1_; clear n0_ n1_; (try clear hb); (try clear hb2); (try clear hk); (try clear hi)) | ((with_reducible refine gate_dst (N := 8) rfl ?_); refine box_event ?hg (N := 8) ?hd (cs := #[.int .i64 0, .int .i64 0, .int .i64 0]) (t := 58) ?hr ?_; (case hd => rfl); (case hg => rfl); (case hr => first | (go_simp; done) | (go_simp; rfl)); intro gb332 hg w77 hbox hb; have n0_ := bb_ BK328 hb; have n1_ := bl_ [gb328] HB ⟨GE328, ⟨⟩⟩ hb; have n2_ := Aside0.mk (hbox); have n3_ := gl_ [gb328] HB ⟨GE328, ⟨⟩⟩ hg; have n4_ := gl_ [gb328] HB ⟨GE328, ⟨⟩⟩ hg; have n5_ := gn_ BK328 hg; have n6_ := Aside0.mk ((by rw [hg]; exact Nat.ne_of_gt (blk_lt (g := gb328) (o := .cells #[.int .i64 0, .int .i64 0, .int .i64 0, .bool false, .slice none 0 0] 24 (0, 0)) (gb_ BK328)) : gb332 ≠ gb328)); clear BK328; clear HB; have BK328 := n0_; have HB := n1_; have BK332 := n2_; have GW332 := n3_; have GE332 := n4_; have NB328_332 := n5_; have NB332_328 := n6_; clear n0_ n1_ n2_ n3_ n4_ n5_ n6_; clear hb hbox hg))
    refine wp_loop_rounds 4 ?_
    rw [rounds_succ]
    try go_wp2_with (first | ((with_reducible refine gate_callee (f := 27) rfl ?_); refine goesL_ (some 38) rfl rfl Try.func27 (by kernel_rfl) rfl #[.string t329] rfl (by (try simp only [maps_]); first | done | rfl) ?_; (with_reducible refine (ravelinref3_TakeNum.calls k t329 t333 t334 t335 _ A5.out).mono ?_); rintro e w' ⟨rfl, ⟨nd, rfl⟩⟩; refine ⟨_, rfl, ?_⟩; (try (rw [drewN_self w77]; generalize hq_ : World.drewN w77 _ = w77; have n0_ : Aside0 (w77.heap[gb328]? = some (.cells #[.int .i64 0, .int .i64 0, .int .i64 0, .bool false, .slice none 0 0] 24 (0, 0))) := ⟨by rw [← hq_]; exact (gb_ BK328)⟩; have n1_ : Aside0 (w77.heap[gb332]? = some (.cells #[.int .i64 0, .int .i64 0, .int .i64 0] 58 (0, 0))) := ⟨by rw [← hq_]; exact (gb_ BK332)⟩; have n2_ : Aside0 (Below w.heap.size w w77) := ⟨by rw [← hq_]; exact (gwl_ [gb328, gb332] HB ⟨GE328, GE332, ⟨⟩⟩)⟩; clear BK328 BK332 HB hq_; have BK328 := n0_; have BK332 := n1_; have HB := n2_; clear n0_ n1_ n2_)); have hnb78 := NB332_328.out; have hnc78 := NB328_332.out; have hcz79_0 := bc0 BK332; have hcz79_1 := bc1 BK332; have hcz79_2 := bc2 BK332; have hfz79_0 := bf_ BK332 0; have hfz79_1 := bf_ BK332 1; have hfz79_2 := bf_ BK332 2; have n0_ : Aside0 ((w77.setCell ⟨gb332, 0, none⟩ (.int .i64 t333)).heap[gb328]? = some (.cells #[.int .i64 0, .int .i64 0, .int .i64 0, .bool false, .slice none 0 0] 24 (0, 0))) := ⟨by (with_reducible repeat (first | refine blk_drewN ?_ _ | refine blk_drew ?_ | refine blk_alloc ?_ _)); refine blk_far ?_ NB328_332.out _; exact gb_ BK328⟩; have n1_ : Aside0 ((w77.setCell ⟨gb332, 0, none⟩ (.int .i64 t333)).heap[gb332]? = some (.cells #[.int .i64 t333, .int .i64 0, .int .i64 0] 58 (0, 0))) := ⟨by (with_reducible repeat (first | refine blk_drewN ?_ _ | refine blk_drew ?_ | refine blk_alloc ?_ _)); refine blk_put (cs := #[.int .i64 0, .int .i64 0, .int .i64 0]) ?_ 0 _ rfl; exact gb_ BK332⟩; have n2_ : Aside0 (Below w.heap.size w (w77.setCell ⟨gb332, 0, none⟩ (.int .i64 t333))) := ⟨gwl_ [gb328, gb332] HB ⟨GE328, GE332, ⟨⟩⟩⟩; (try clear BK328); (try clear BK332); (try clear HB); have BK328 := n0_; have BK332 := n1_; have HB := n2_; clear n0_ n1_ n2_))
    rw [rounds_succ]
    try go_wp2_with (first | ((with_reducible refine gate_callee (f := 27) rfl ?_); refine goesL_ (some 38) rfl rfl Try.func27 (by kernel_rfl) rfl #[.string (t329.extract ((ji7) : Int).toNat t329.size)] rfl (by (try simp only [List.map_toArray, List.map_cons, List.map_nil]); first | done | (simp only [hji7]; rfl) | rfl | (simp only [List.length_drop, List.length_take]; rfl)) ?_; (with_reducible refine (ravelinref3_TakeNum.calls k (t329.extract ((ji7) : Int).toNat t329.size) t336 t337 t338 _ A10.out).mono ?_); rintro e w' ⟨rfl, ⟨nd, rfl⟩⟩; refine ⟨_, rfl, ?_⟩; (try (rw [drewN_self (w77.setCell ⟨gb332, 0, none⟩ (.int .i64 t333))]; generalize hq_ : World.drewN (w77.setCell ⟨gb332, 0, none⟩ (.int .i64 t333)) _ = w80; have n0_ : Aside0 (w80.heap[gb328]? = some (.cells #[.int .i64 0, .int .i64 0, .int .i64 0, .bool false, .slice none 0 0] 24 (0, 0))) := ⟨by rw [← hq_]; exact (gb_ BK328)⟩; have n1_ : Aside0 (w80.heap[gb332]? = some (.cells #[.int .i64 t333, .int .i64 0, .int .i64 0] 58 (0, 0))) := ⟨by rw [← hq_]; exact (gb_ BK332)⟩; have n2_ : Aside0 (Below w.heap.size w w80) := ⟨by rw [← hq_]; exact (gwl_ [gb328, gb332] HB ⟨GE328, GE332, ⟨⟩⟩)⟩; clear BK328 BK332 HB hq_; have BK328 := n0_; have BK332 := n1_; have HB := n2_; clear n0_ n1_ n2_)); have hcz81_0 := bc0 BK332; have hcz81_1 := bc1 BK332; have hcz81_2 := bc2 BK332; have hfz81_0 := bf_ BK332 0; have hfz81_1 := bf_ BK332 1; have hfz81_2 := bf_ BK332 2; have n0_ : Aside0 ((w80.setCell ⟨gb332, 1, none⟩ (.int .i64 t336)).heap[gb328]? = some (.cells #[.int .i64 0, .int .i64 0, .int .i64 0, .bool false, .slice none 0 0] 24 (0, 0))) := ⟨by (with_reducible repeat (first | refine blk_drewN ?_ _ | refine blk_drew ?_ | refine blk_alloc ?_ _)); refine blk_far ?_ NB328_332.out _; exact gb_ BK328⟩; have n1_ : Aside0 ((w80.setCell ⟨gb332, 1, none⟩ (.int .i64 t336)).heap[gb332]? = some (.cells #[.int .i64 t333, .int .i64 t336, .int .i64 0] 58 (0, 0))) := ⟨by (with_reducible repeat (first | refine blk_drewN ?_ _ | refine blk_drew ?_ | refine blk_alloc ?_ _)); refine blk_put (cs := #[.int .i64 t333, .int .i64 0, .int .i64 0]) ?_ 1 _ rfl; exact gb_ BK332⟩; have n2_ : Aside0 (Below w.heap.size w (w80.setCell ⟨gb332, 1, none⟩ (.int .i64 t336))) := ⟨gwl_ [gb328, gb332] HB ⟨GE328, GE332, ⟨⟩⟩⟩; (try clear BK328); (try clear BK332); (try clear HB); have BK328 := n0_; have BK332 := n1_; have HB := n2_; clear n0_ n1_ n2_))
    rw [rounds_succ]
    try go_wp2_with (first | ((with_reducible refine gate_callee (f := 27) rfl ?_); refine goesL_ (some 38) rfl rfl Try.func27 (by kernel_rfl) rfl #[.string (t329.extract ((ji12) : Int).toNat t329.size)] rfl (by (try simp only [List.map_toArray, List.map_cons, List.map_nil]); first | done | (simp only [hji12]; rfl) | rfl | (simp only [List.length_drop, List.length_take]; rfl)) ?_; (with_reducible refine (ravelinref3_TakeNum.calls k (t329.extract ((ji12) : Int).toNat t329.size) t339 t340 t341 _ A15.out).mono ?_); rintro e w' ⟨rfl, ⟨nd, rfl⟩⟩; refine ⟨_, rfl, ?_⟩; (try (rw [drewN_self (w80.setCell ⟨gb332, 1, none⟩ (.int .i64 t336))]; generalize hq_ : World.drewN (w80.setCell ⟨gb332, 1, none⟩ (.int .i64 t336)) _ = w82; have n0_ : Aside0 (w82.heap[gb328]? = some (.cells #[.int .i64 0, .int .i64 0, .int .i64 0, .bool false, .slice none 0 0] 24 (0, 0))) := ⟨by rw [← hq_]; exact (gb_ BK328)⟩; have n1_ : Aside0 (w82.heap[gb332]? = some (.cells #[.int .i64 t333, .int .i64 t336, .int .i64 0] 58 (0, 0))) := ⟨by rw [← hq_]; exact (gb_ BK332)⟩; have n2_ : Aside0 (Below w.heap.size w w82) := ⟨by rw [← hq_]; exact (gwl_ [gb328, gb332] HB ⟨GE328, GE332, ⟨⟩⟩)⟩; clear BK328 BK332 HB hq_; have BK328 := n0_; have BK332 := n1_; have HB := n2_; clear n0_ n1_ n2_)); have hcz83_0 := bc0 BK328; have hcz83_1 := bc1 BK328; have hcz83_2 := bc2 BK328; have hcz83_3 := bc3 BK328; have hcz83_4 := bc4 BK328; have hfz83_0 := bf_ BK328 0; have hfz83_1 := bf_ BK328 1; have hfz83_2 := bf_ BK328 2; have hfz83_3 := bf_ BK328 3; have hfz83_4 := bf_ BK328 4))
    refine bodyPost_ret (results_ctt rfl _ _ gb328 24 #[.int .i64 0, .int .i64 0, .int .i64 0, .bool false, .slice none 0 0] (0, 0) _ rfl (by (with_reducible repeat (first | refine blk_drewN ?_ _ | refine blk_drew ?_ | refine blk_alloc ?_ _)); refine blk_put (cs := #[.int .i64 0, .int .i64 0, .int .i64 0, .bool false, .slice none 0 0]) ?_ 4 _ rfl; refine blk_put (cs := #[.int .i64 0, .int .i64 0, .int .i64 0, .bool false, .slice none 0 0]) ?_ 3 _ rfl; refine blk_put (cs := #[.int .i64 0, .int .i64 0, .int .i64 0, .bool false, .slice none 0 0]) ?_ 2 _ rfl; refine blk_put (cs := #[.int .i64 0, .int .i64 0, .int .i64 0, .bool false, .slice none 0 0]) ?_ 1 _ rfl; refine blk_put (cs := #[.int .i64 0, .int .i64 0, .int .i64 0, .bool false, .slice none 0 0]) ?_ 0 _ rfl; exact gb_ BK328) Try.underlying24 rfl (by kernel_rfl)) rfl ?_
    exact ⟨_, by first | rfl | (simp [errW_none, errW_some] <;> rfl) | (simp only [← hji7, ← hji12]; first | rfl | (simp [errW_none, errW_some] <;> rfl)) | (simp [*, errW_none, errW_some] <;> rfl), by first | exact Kd.R_nil _ _ _ _ _ | exact Kd.N_nil _ _ _ _ _ | exact Kd.V_nil _ _ _ _ _ | exact Kd.Q_nil _ _ _ _ _ | exact Kd.S_nil _ _ _ _ _, gwl_ [gb328, gb332] HB ⟨GE328, GE332, ⟨⟩⟩⟩
  rw [if_pos c16] at H
  have c16b0 : (t341 == 0) = true := beq_iff_eq.mpr c16
  have c16b1 : (t341 != 0) = false := bne_eq_false_iff_eq.mpr c16
  clear c16
  by_cases c17 : (wrap64 ((ji12) + t340)) = (t329.size : Int)
  · rw [if_pos c17] at H
    have c17b0 : ((wrap64 ((ji12) + t340)) == (t329.size : Int)) = true := beq_iff_eq.mpr c17
    have c17b1 : ((wrap64 ((ji12) + t340)) != (t329.size : Int)) = false := bne_eq_false_iff_eq.mpr c17
    clear c17
    simp only [Option.some.injEq, Prod.mk.injEq] at H
    obtain ⟨rfl, rfl, rfl, rfl, rfl, rfl, rfl⟩ := H
    go_enter Try.func12, Try.ntmps12
    try go_wp2_with (first | ((with_reducible refine gate_dst (N := 2) rfl ?_); refine box_event ?hg (N := 2) ?hd (cs := #[.int .i64 0, .int .i64 0, .int .i64 0, .bool false, .slice none 0 0]) (t := 24) ?hr ?_; (case hd => rfl); (case hg => rfl); (case hr => first | (go_simp; done) | (go_simp; rfl)); intro gb328 hg w18 hbox hb; have n0_ := bs_ HB hb; have n1_ := Aside0.mk (hbox); have n2_ := gz_ HB hg; have n3_ := gz_ HB hg; clear HB; have HB := n0_; have BK328 := n1_; have GW328 := n2_; have GE328 := n3_; clear n0_ n1_ n2_ n3_; clear hb hbox hg) | ((with_reducible refine gate_callee (f := 26) rfl ?_); refine goesL_ (some 22) rfl rfl Try.func26 (by kernel_rfl) rfl #[.string a0] rfl (by (try simp only [maps_]); first | done | rfl) ?_; (with_reducible refine (ravelinref3_Open.calls k a0 t329 t330 t331 _ A2.out).mono ?_); rintro e w19 ⟨rfl, hb⟩; refine ⟨_, rfl, ?_⟩; have n0_ := bb_ BK328 hb; have n1_ := bl_ [gb328] HB ⟨GE328, ⟨⟩⟩ hb; clear BK328; clear HB; have BK328 := n0_; have HB := n1_; clear n0_ n1_; (try clear hb); (try clear hb2); (try clear hk); (try clear hi)) | ((with_reducible refine gate_dst (N := 8) rfl ?_); refine box_event ?hg (N := 8) ?hd (cs := #[.int .i64 0, .int .i64 0, .int .i64 0]) (t := 58) ?hr ?_; (case hd => rfl); (case hg => rfl); (case hr => first | (go_simp; done) | (go_simp; rfl)); intro gb332 hg w20 hbox hb; have n0_ := bb_ BK328 hb; have n1_ := bl_ [gb328] HB ⟨GE328, ⟨⟩⟩ hb; have n2_ := Aside0.mk (hbox); have n3_ := gl_ [gb328] HB ⟨GE328, ⟨⟩⟩ hg; have n4_ := gl_ [gb328] HB ⟨GE328, ⟨⟩⟩ hg; have n5_ := gn_ BK328 hg; have n6_ := Aside0.mk ((by rw [hg]; exact Nat.ne_of_gt (blk_lt (g := gb328) (o := .cells #[.int .i64 0, .int .i64 0, .int .i64 0, .bool false, .slice none 0 0] 24 (0, 0)) (gb_ BK328)) : gb332 ≠ gb328)); clear BK328; clear HB; have BK328 := n0_; have HB := n1_; have BK332 := n2_; have GW332 := n3_; have GE332 := n4_; have NB328_332 := n5_; have NB332_328 := n6_; clear n0_ n1_ n2_ n3_ n4_ n5_ n6_; clear hb hbox hg))
    refine wp_loop_rounds 4 ?_
    rw [rounds_succ]
    try go_wp2_with (first | ((with_reducible refine gate_callee (f := 27) rfl ?_); refine goesL_ (some 38) rfl rfl Try.func27 (by kernel_rfl) rfl #[.string t329] rfl (by (try simp only [maps_]); first | done | rfl) ?_; (with_reducible refine (ravelinref3_TakeNum.calls k t329 t333 t334 t335 _ A5.out).mono ?_); rintro e w' ⟨rfl, ⟨nd, rfl⟩⟩; refine ⟨_, rfl, ?_⟩; (try (rw [drewN_self w20]; generalize hq_ : World.drewN w20 _ = w20; have n0_ : Aside0 (w20.heap[gb328]? = some (.cells #[.int .i64 0, .int .i64 0, .int .i64 0, .bool false, .slice none 0 0] 24 (0, 0))) := ⟨by rw [← hq_]; exact (gb_ BK328)⟩; have n1_ : Aside0 (w20.heap[gb332]? = some (.cells #[.int .i64 0, .int .i64 0, .int .i64 0] 58 (0, 0))) := ⟨by rw [← hq_]; exact (gb_ BK332)⟩; have n2_ : Aside0 (Below w.heap.size w w20) := ⟨by rw [← hq_]; exact (gwl_ [gb328, gb332] HB ⟨GE328, GE332, ⟨⟩⟩)⟩; clear BK328 BK332 HB hq_; have BK328 := n0_; have BK332 := n1_; have HB := n2_; clear n0_ n1_ n2_)); have hnb21 := NB332_328.out; have hnc21 := NB328_332.out; have hcz22_0 := bc0 BK332; have hcz22_1 := bc1 BK332; have hcz22_2 := bc2 BK332; have hfz22_0 := bf_ BK332 0; have hfz22_1 := bf_ BK332 1; have hfz22_2 := bf_ BK332 2; have n0_ : Aside0 ((w20.setCell ⟨gb332, 0, none⟩ (.int .i64 t333)).heap[gb328]? = some (.cells #[.int .i64 0, .int .i64 0, .int .i64 0, .bool false, .slice none 0 0] 24 (0, 0))) := ⟨by (with_reducible repeat (first | refine blk_drewN ?_ _ | refine blk_drew ?_ | refine blk_alloc ?_ _)); refine blk_far ?_ NB328_332.out _; exact gb_ BK328⟩; have n1_ : Aside0 ((w20.setCell ⟨gb332, 0, none⟩ (.int .i64 t333)).heap[gb332]? = some (.cells #[.int .i64 t333, .int .i64 0, .int .i64 0] 58 (0, 0))) := ⟨by (with_reducible repeat (first | refine blk_drewN ?_ _ | refine blk_drew ?_ | refine blk_alloc ?_ _)); refine blk_put (cs := #[.int .i64 0, .int .i64 0, .int .i64 0]) ?_ 0 _ rfl; exact gb_ BK332⟩; have n2_ : Aside0 (Below w.heap.size w (w20.setCell ⟨gb332, 0, none⟩ (.int .i64 t333))) := ⟨gwl_ [gb328, gb332] HB ⟨GE328, GE332, ⟨⟩⟩⟩; (try clear BK328); (try clear BK332); (try clear HB); have BK328 := n0_; have BK332 := n1_; have HB := n2_; clear n0_ n1_ n2_))
    rw [rounds_succ]
    try go_wp2_with (first | ((with_reducible refine gate_callee (f := 27) rfl ?_); refine goesL_ (some 38) rfl rfl Try.func27 (by kernel_rfl) rfl #[.string (t329.extract ((ji7) : Int).toNat t329.size)] rfl (by (try simp only [List.map_toArray, List.map_cons, List.map_nil]); first | done | (simp only [hji7]; rfl) | rfl | (simp only [List.length_drop, List.length_take]; rfl)) ?_; (with_reducible refine (ravelinref3_TakeNum.calls k (t329.extract ((ji7) : Int).toNat t329.size) t336 t337 t338 _ A10.out).mono ?_); rintro e w' ⟨rfl, ⟨nd, rfl⟩⟩; refine ⟨_, rfl, ?_⟩; (try (rw [drewN_self (w20.setCell ⟨gb332, 0, none⟩ (.int .i64 t333))]; generalize hq_ : World.drewN (w20.setCell ⟨gb332, 0, none⟩ (.int .i64 t333)) _ = w23; have n0_ : Aside0 (w23.heap[gb328]? = some (.cells #[.int .i64 0, .int .i64 0, .int .i64 0, .bool false, .slice none 0 0] 24 (0, 0))) := ⟨by rw [← hq_]; exact (gb_ BK328)⟩; have n1_ : Aside0 (w23.heap[gb332]? = some (.cells #[.int .i64 t333, .int .i64 0, .int .i64 0] 58 (0, 0))) := ⟨by rw [← hq_]; exact (gb_ BK332)⟩; have n2_ : Aside0 (Below w.heap.size w w23) := ⟨by rw [← hq_]; exact (gwl_ [gb328, gb332] HB ⟨GE328, GE332, ⟨⟩⟩)⟩; clear BK328 BK332 HB hq_; have BK328 := n0_; have BK332 := n1_; have HB := n2_; clear n0_ n1_ n2_)); have hcz24_0 := bc0 BK332; have hcz24_1 := bc1 BK332; have hcz24_2 := bc2 BK332; have hfz24_0 := bf_ BK332 0; have hfz24_1 := bf_ BK332 1; have hfz24_2 := bf_ BK332 2; have n0_ : Aside0 ((w23.setCell ⟨gb332, 1, none⟩ (.int .i64 t336)).heap[gb328]? = some (.cells #[.int .i64 0, .int .i64 0, .int .i64 0, .bool false, .slice none 0 0] 24 (0, 0))) := ⟨by (with_reducible repeat (first | refine blk_drewN ?_ _ | refine blk_drew ?_ | refine blk_alloc ?_ _)); refine blk_far ?_ NB328_332.out _; exact gb_ BK328⟩; have n1_ : Aside0 ((w23.setCell ⟨gb332, 1, none⟩ (.int .i64 t336)).heap[gb332]? = some (.cells #[.int .i64 t333, .int .i64 t336, .int .i64 0] 58 (0, 0))) := ⟨by (with_reducible repeat (first | refine blk_drewN ?_ _ | refine blk_drew ?_ | refine blk_alloc ?_ _)); refine blk_put (cs := #[.int .i64 t333, .int .i64 0, .int .i64 0]) ?_ 1 _ rfl; exact gb_ BK332⟩; have n2_ : Aside0 (Below w.heap.size w (w23.setCell ⟨gb332, 1, none⟩ (.int .i64 t336))) := ⟨gwl_ [gb328, gb332] HB ⟨GE328, GE332, ⟨⟩⟩⟩; (try clear BK328); (try clear BK332); (try clear HB); have BK328 := n0_; have BK332 := n1_; have HB := n2_; clear n0_ n1_ n2_))
    rw [rounds_succ]
    try go_wp2_with (first | ((with_reducible refine gate_callee (f := 27) rfl ?_); refine goesL_ (some 38) rfl rfl Try.func27 (by kernel_rfl) rfl #[.string (t329.extract ((ji12) : Int).toNat t329.size)] rfl (by (try simp only [List.map_toArray, List.map_cons, List.map_nil]); first | done | (simp only [hji12]; rfl) | rfl | (simp only [List.length_drop, List.length_take]; rfl)) ?_; (with_reducible refine (ravelinref3_TakeNum.calls k (t329.extract ((ji12) : Int).toNat t329.size) t339 t340 t341 _ A15.out).mono ?_); rintro e w' ⟨rfl, ⟨nd, rfl⟩⟩; refine ⟨_, rfl, ?_⟩; (try (rw [drewN_self (w23.setCell ⟨gb332, 1, none⟩ (.int .i64 t336))]; generalize hq_ : World.drewN (w23.setCell ⟨gb332, 1, none⟩ (.int .i64 t336)) _ = w25; have n0_ : Aside0 (w25.heap[gb328]? = some (.cells #[.int .i64 0, .int .i64 0, .int .i64 0, .bool false, .slice none 0 0] 24 (0, 0))) := ⟨by rw [← hq_]; exact (gb_ BK328)⟩; have n1_ : Aside0 (w25.heap[gb332]? = some (.cells #[.int .i64 t333, .int .i64 t336, .int .i64 0] 58 (0, 0))) := ⟨by rw [← hq_]; exact (gb_ BK332)⟩; have n2_ : Aside0 (Below w.heap.size w w25) := ⟨by rw [← hq_]; exact (gwl_ [gb328, gb332] HB ⟨GE328, GE332, ⟨⟩⟩)⟩; clear BK328 BK332 HB hq_; have BK328 := n0_; have BK332 := n1_; have HB := n2_; clear n0_ n1_ n2_)); have hcz26_0 := bc0 BK332; have hcz26_1 := bc1 BK332; have hcz26_2 := bc2 BK332; have hfz26_0 := bf_ BK332 0; have hfz26_1 := bf_ BK332 1; have hfz26_2 := bf_ BK332 2; have n0_ : Aside0 ((w25.setCell ⟨gb332, 2, none⟩ (.int .i64 t339)).heap[gb328]? = some (.cells #[.int .i64 0, .int .i64 0, .int .i64 0, .bool false, .slice none 0 0] 24 (0, 0))) := ⟨by (with_reducible repeat (first | refine blk_drewN ?_ _ | refine blk_drew ?_ | refine blk_alloc ?_ _)); refine blk_far ?_ NB328_332.out _; exact gb_ BK328⟩; have n1_ : Aside0 ((w25.setCell ⟨gb332, 2, none⟩ (.int .i64 t339)).heap[gb332]? = some (.cells #[.int .i64 t333, .int .i64 t336, .int .i64 t339] 58 (0, 0))) := ⟨by (with_reducible repeat (first | refine blk_drewN ?_ _ | refine blk_drew ?_ | refine blk_alloc ?_ _)); refine blk_put (cs := #[.int .i64 t333, .int .i64 t336, .int .i64 0]) ?_ 2 _ rfl; exact gb_ BK332⟩; have n2_ : Aside0 (Below w.heap.size w (w25.setCell ⟨gb332, 2, none⟩ (.int .i64 t339))) := ⟨gwl_ [gb328, gb332] HB ⟨GE328, GE332, ⟨⟩⟩⟩; (try clear BK328); (try clear BK332); (try clear HB); have BK328 := n0_; have BK332 := n1_; have HB := n2_; clear n0_ n1_ n2_))
    rw [rounds_succ]
    have hcz28_0 := bc0 BK328
    have hcz28_1 := bc1 BK328
    have hcz28_2 := bc2 BK328
    have hcz28_3 := bc3 BK328
    have hcz28_4 := bc4 BK328
    have hfz28_0 := bf_ BK328 0
    have hfz28_1 := bf_ BK328 1
    have hfz28_2 := bf_ BK328 2
    have hfz28_3 := bf_ BK328 3
    have hfz28_4 := bf_ BK328 4
    try go_wp2
    refine bodyPost_ret (results_ctt rfl _ _ gb328 24 #[.int .i64 0, .int .i64 0, .int .i64 0, .bool false, .slice none 0 0] (0, 0) _ rfl (by (with_reducible repeat (first | refine blk_drewN ?_ _ | refine blk_drew ?_ | refine blk_alloc ?_ _)); refine blk_put (cs := #[.int .i64 0, .int .i64 0, .int .i64 0, .bool false, .slice none 0 0]) ?_ 4 _ rfl; refine blk_put (cs := #[.int .i64 0, .int .i64 0, .int .i64 0, .bool false, .slice none 0 0]) ?_ 3 _ rfl; refine blk_put (cs := #[.int .i64 0, .int .i64 0, .int .i64 0, .bool false, .slice none 0 0]) ?_ 2 _ rfl; refine blk_put (cs := #[.int .i64 0, .int .i64 0, .int .i64 0, .bool false, .slice none 0 0]) ?_ 1 _ rfl; refine blk_put (cs := #[.int .i64 0, .int .i64 0, .int .i64 0, .bool false, .slice none 0 0]) ?_ 0 _ rfl; exact gb_ BK328) Try.underlying24 rfl (by kernel_rfl)) rfl ?_
    exact ⟨_, by first | rfl | (simp [errW_none, errW_some] <;> rfl) | (simp only [← hji7, ← hji12]; first | rfl | (simp [errW_none, errW_some] <;> rfl)) | (simp [*, errW_none, errW_some] <;> rfl), by first | exact Kd.R_nil _ _ _ _ _ | exact Kd.N_nil _ _ _ _ _ | exact Kd.V_nil _ _ _ _ _ | exact Kd.Q_nil _ _ _ _ _ | exact Kd.S_nil _ _ _ _ _, gwl_ [gb328, gb332] HB ⟨GE328, GE332, ⟨⟩⟩⟩
  rw [if_neg c17] at H
  have c17b0 : ((wrap64 ((ji12) + t340)) == (t329.size : Int)) = false := beq_eq_false_iff_ne.mpr c17
  have c17b1 : ((wrap64 ((ji12) + t340)) != (t329.size : Int)) = true := bne_iff_ne.mpr c17
  obtain ⟨ji29, hji29⟩ : ∃ j_ : Int, (wrap64 ((wrap64 ((ji12) + t340)) + 1)) = j_ := ⟨_, rfl⟩
  replace H : (if 0 ≤ (ji29) then (if (ji29) ≤ (t329.size : Int) then ((ravelinref12_TakeRow.f k (t329.extract ((ji29) : Int).toNat t329.size)).bind fun bt342 => (if 0 ≤ (wrap64 ((ji12) + t340)) then (if (wrap64 ((ji12) + t340)) < (t329.size : Int) then ((ravelinref18_Bytes.f k t333 t336 t339 ((bt t329 (wrap64 ((ji12) + t340))) == 1) bt342.1).bind fun bt348 => (if bt342.2.2 = true then (if bt348.2 = true then (if 0 ≤ t330 then (if t330 ≤ (a0.size : Int) then (ravelinref18_Read.j0 k t330 (bt348.1.toList != (a0.extract 0 (t330 : Int).toNat).toList) t333 t336 t339 ((bt t329 (wrap64 ((ji12) + t340))) == 1) bt342.1) else (none)) else (none)) else (ravelinref18_Read.j0 k t330 true t333 t336 t339 ((bt t329 (wrap64 ((ji12) + t340))) == 1) bt342.1)) else (ravelinref18_Read.j0 k t330 true t333 t336 t339 ((bt t329 (wrap64 ((ji12) + t340))) == 1) bt342.1))) else (none)) else (none))) else (none)) else (none)) = some (r1, r2, r3, r4, r5, r6, r7) := by first | (rw [hji29] at H; exact H) | (simp only [hji29] at H ⊢; exact H)
  (try rw [hji29] at A2)
  (try rw [hji29] at A5)
  (try rw [hji29] at A10)
  (try rw [hji29] at A15)
  have hji29w : (IntKind.i64.wrap ((wrap64 ((ji12) + t340)) + 1)) = ji29 := (i64_w _).trans hji29
  by_cases c30 : 0 ≤ (ji29)
  rotate_left
  · rw [if_neg c30] at H
    exact absurd H (by simp)
  rw [if_pos c30] at H
  have c30b0 := eq_true c30
  have c30b1 : decide (0 ≤ (ji29)) = true := decide_eq_true c30
  clear c30
  by_cases c31 : (ji29) ≤ (t329.size : Int)
  rotate_left
  · rw [if_neg c31] at H
    exact absurd H (by simp)
  rw [if_pos c31] at H
  have c31b0 := eq_true c31
  have c31b1 : decide ((ji29) ≤ (t329.size : Int)) = true := decide_eq_true c31
  clear c31
  replace H := Option.bind_eq_some_iff.mp H
  obtain ⟨⟨t342, t343, t344⟩, A320, H⟩ := H
  try dsimp only at H
  have A32 := Aside0.mk A320
  clear A320
  obtain ⟨ji33, hji33⟩ : ∃ j_ : Int, (wrap64 ((ji12) + t340)) = j_ := ⟨_, rfl⟩
  replace H : (if 0 ≤ (ji33) then (if (ji33) < (t329.size : Int) then ((ravelinref18_Bytes.f k t333 t336 t339 ((bt t329 (ji33)) == 1) t342).bind fun bt348 => (if t344 = true then (if bt348.2 = true then (if 0 ≤ t330 then (if t330 ≤ (a0.size : Int) then (ravelinref18_Read.j0 k t330 (bt348.1.toList != (a0.extract 0 (t330 : Int).toNat).toList) t333 t336 t339 ((bt t329 (ji33)) == 1) t342) else (none)) else (none)) else (ravelinref18_Read.j0 k t330 true t333 t336 t339 ((bt t329 (ji33)) == 1) t342)) else (ravelinref18_Read.j0 k t330 true t333 t336 t339 ((bt t329 (ji33)) == 1) t342))) else (none)) else (none)) = some (r1, r2, r3, r4, r5, r6, r7) := by first | (rw [hji33] at H; exact H) | (simp only [hji33] at H ⊢; exact H)
  (try rw [hji33] at c17b0)
  (try rw [hji33] at c17b1)
  (try rw [hji33] at A2)
  (try rw [hji33] at A5)
  (try rw [hji33] at A10)
  (try rw [hji33] at A15)
  (try rw [hji33] at A32)
  (try (have c17b0ji33 := c17b0; rw [hji33] at c17b0ji33))
  (try (have c17b1ji33 := c17b1; rw [hji33] at c17b1ji33))
  (try (have c17b0ji33 := c17b0; rw [hji33] at c17b0ji33))
  (try (have c17b1ji33 := c17b1; rw [hji33] at c17b1ji33))
  (try (have hji29ji33 := hji29; rw [hji33] at hji29ji33))
  (try (have hji29wji33 := hji29w; rw [hji33] at hji29wji33))
  (try (have hji29_ji33 := hji29_; rw [hji33] at hji29_ji33))
  have hji33w : (IntKind.i64.wrap ((ji12) + t340)) = ji33 := (i64_w _).trans hji33
  by_cases c34 : 0 ≤ (ji33)
  rotate_left
  · rw [if_neg c34] at H
    exact absurd H (by simp)
  rw [if_pos c34] at H
  have c34b0 : decide (0 ≤ (ji33)) = true := decide_eq_true c34
  clear c34
  by_cases c35 : (ji33) < (t329.size : Int)
  rotate_left
  · rw [if_neg c35] at H
    exact absurd H (by simp)
  rw [if_pos c35] at H
  have c35b0 : decide ((ji33) < (t329.size : Int)) = true := decide_eq_true c35
  clear c35
  replace H := Option.bind_eq_some_iff.mp H
  obtain ⟨⟨t348, t349⟩, A370, H⟩ := H
  try dsimp only at H
  have A37 := Aside0.mk A370
  clear A370
  have HC38 := Aside0.mk H
  clear H
  go_enter Try.func12, Try.ntmps12
  try go_wp2_with (first | ((with_reducible refine gate_dst (N := 2) rfl ?_); refine box_event ?hg (N := 2) ?hd (cs := #[.int .i64 0, .int .i64 0, .int .i64 0, .bool false, .slice none 0 0]) (t := 24) ?hr ?_; (case hd => rfl); (case hg => rfl); (case hr => first | (go_simp; done) | (go_simp; rfl)); intro gb328 hg w39 hbox hb; have n0_ := bs_ HB hb; have n1_ := Aside0.mk (hbox); have n2_ := gz_ HB hg; have n3_ := gz_ HB hg; clear HB; have HB := n0_; have BK328 := n1_; have GW328 := n2_; have GE328 := n3_; clear n0_ n1_ n2_ n3_; clear hb hbox hg) | ((with_reducible refine gate_callee (f := 26) rfl ?_); refine goesL_ (some 22) rfl rfl Try.func26 (by kernel_rfl) rfl #[.string a0] rfl (by (try simp only [maps_]); first | done | rfl) ?_; (with_reducible refine (ravelinref3_Open.calls k a0 t329 t330 t331 _ A2.out).mono ?_); rintro e w40 ⟨rfl, hb⟩; refine ⟨_, rfl, ?_⟩; have n0_ := bb_ BK328 hb; have n1_ := bl_ [gb328] HB ⟨GE328, ⟨⟩⟩ hb; clear BK328; clear HB; have BK328 := n0_; have HB := n1_; clear n0_ n1_; (try clear hb); (try clear hb2); (try clear hk); (try clear hi)) | ((with_reducible refine gate_dst (N := 8) rfl ?_); refine box_event ?hg (N := 8) ?hd (cs := #[.int .i64 0, .int .i64 0, .int .i64 0]) (t := 58) ?hr ?_; (case hd => rfl); (case hg => rfl); (case hr => first | (go_simp; done) | (go_simp; rfl)); intro gb332 hg w41 hbox hb; have n0_ := bb_ BK328 hb; have n1_ := bl_ [gb328] HB ⟨GE328, ⟨⟩⟩ hb; have n2_ := Aside0.mk (hbox); have n3_ := gl_ [gb328] HB ⟨GE328, ⟨⟩⟩ hg; have n4_ := gl_ [gb328] HB ⟨GE328, ⟨⟩⟩ hg; have n5_ := gn_ BK328 hg; have n6_ := Aside0.mk ((by rw [hg]; exact Nat.ne_of_gt (blk_lt (g := gb328) (o := .cells #[.int .i64 0, .int .i64 0, .int .i64 0, .bool false, .slice none 0 0] 24 (0, 0)) (gb_ BK328)) : gb332 ≠ gb328)); clear BK328; clear HB; have BK328 := n0_; have HB := n1_; have BK332 := n2_; have GW332 := n3_; have GE332 := n4_; have NB328_332 := n5_; have NB332_328 := n6_; clear n0_ n1_ n2_ n3_ n4_ n5_ n6_; clear hb hbox hg))
  refine wp_loop_rounds 4 ?_
  rw [rounds_succ]
  try go_wp2_with (first | ((with_reducible refine gate_callee (f := 27) rfl ?_); refine goesL_ (some 38) rfl rfl Try.func27 (by kernel_rfl) rfl #[.string t329] rfl (by (try simp only [maps_]); first | done | rfl) ?_; (with_reducible refine (ravelinref3_TakeNum.calls k t329 t333 t334 t335 _ A5.out).mono ?_); rintro e w' ⟨rfl, ⟨nd, rfl⟩⟩; refine ⟨_, rfl, ?_⟩; (try (rw [drewN_self w41]; generalize hq_ : World.drewN w41 _ = w41; have n0_ : Aside0 (w41.heap[gb328]? = some (.cells #[.int .i64 0, .int .i64 0, .int .i64 0, .bool false, .slice none 0 0] 24 (0, 0))) := ⟨by rw [← hq_]; exact (gb_ BK328)⟩; have n1_ : Aside0 (w41.heap[gb332]? = some (.cells #[.int .i64 0, .int .i64 0, .int .i64 0] 58 (0, 0))) := ⟨by rw [← hq_]; exact (gb_ BK332)⟩; have n2_ : Aside0 (Below w.heap.size w w41) := ⟨by rw [← hq_]; exact (gwl_ [gb328, gb332] HB ⟨GE328, GE332, ⟨⟩⟩)⟩; clear BK328 BK332 HB hq_; have BK328 := n0_; have BK332 := n1_; have HB := n2_; clear n0_ n1_ n2_)); have hnb42 := NB332_328.out; have hnc42 := NB328_332.out; have hcz43_0 := bc0 BK332; have hcz43_1 := bc1 BK332; have hcz43_2 := bc2 BK332; have hfz43_0 := bf_ BK332 0; have hfz43_1 := bf_ BK332 1; have hfz43_2 := bf_ BK332 2; have n0_ : Aside0 ((w41.setCell ⟨gb332, 0, none⟩ (.int .i64 t333)).heap[gb328]? = some (.cells #[.int .i64 0, .int .i64 0, .int .i64 0, .bool false, .slice none 0 0] 24 (0, 0))) := ⟨by (with_reducible repeat (first | refine blk_drewN ?_ _ | refine blk_drew ?_ | refine blk_alloc ?_ _)); refine blk_far ?_ NB328_332.out _; exact gb_ BK328⟩; have n1_ : Aside0 ((w41.setCell ⟨gb332, 0, none⟩ (.int .i64 t333)).heap[gb332]? = some (.cells #[.int .i64 t333, .int .i64 0, .int .i64 0] 58 (0, 0))) := ⟨by (with_reducible repeat (first | refine blk_drewN ?_ _ | refine blk_drew ?_ | refine blk_alloc ?_ _)); refine blk_put (cs := #[.int .i64 0, .int .i64 0, .int .i64 0]) ?_ 0 _ rfl; exact gb_ BK332⟩; have n2_ : Aside0 (Below w.heap.size w (w41.setCell ⟨gb332, 0, none⟩ (.int .i64 t333))) := ⟨gwl_ [gb328, gb332] HB ⟨GE328, GE332, ⟨⟩⟩⟩; (try clear BK328); (try clear BK332); (try clear HB); have BK328 := n0_; have BK332 := n1_; have HB := n2_; clear n0_ n1_ n2_))
  rw [rounds_succ]
  try go_wp2_with (first | ((with_reducible refine gate_callee (f := 27) rfl ?_); refine goesL_ (some 38) rfl rfl Try.func27 (by kernel_rfl) rfl #[.string (t329.extract ((ji7) : Int).toNat t329.size)] rfl (by (try simp only [List.map_toArray, List.map_cons, List.map_nil]); first | done | (simp only [hji7]; rfl) | rfl | (simp only [List.length_drop, List.length_take]; rfl)) ?_; (with_reducible refine (ravelinref3_TakeNum.calls k (t329.extract ((ji7) : Int).toNat t329.size) t336 t337 t338 _ A10.out).mono ?_); rintro e w' ⟨rfl, ⟨nd, rfl⟩⟩; refine ⟨_, rfl, ?_⟩; (try (rw [drewN_self (w41.setCell ⟨gb332, 0, none⟩ (.int .i64 t333))]; generalize hq_ : World.drewN (w41.setCell ⟨gb332, 0, none⟩ (.int .i64 t333)) _ = w44; have n0_ : Aside0 (w44.heap[gb328]? = some (.cells #[.int .i64 0, .int .i64 0, .int .i64 0, .bool false, .slice none 0 0] 24 (0, 0))) := ⟨by rw [← hq_]; exact (gb_ BK328)⟩; have n1_ : Aside0 (w44.heap[gb332]? = some (.cells #[.int .i64 t333, .int .i64 0, .int .i64 0] 58 (0, 0))) := ⟨by rw [← hq_]; exact (gb_ BK332)⟩; have n2_ : Aside0 (Below w.heap.size w w44) := ⟨by rw [← hq_]; exact (gwl_ [gb328, gb332] HB ⟨GE328, GE332, ⟨⟩⟩)⟩; clear BK328 BK332 HB hq_; have BK328 := n0_; have BK332 := n1_; have HB := n2_; clear n0_ n1_ n2_)); have hcz45_0 := bc0 BK332; have hcz45_1 := bc1 BK332; have hcz45_2 := bc2 BK332; have hfz45_0 := bf_ BK332 0; have hfz45_1 := bf_ BK332 1; have hfz45_2 := bf_ BK332 2; have n0_ : Aside0 ((w44.setCell ⟨gb332, 1, none⟩ (.int .i64 t336)).heap[gb328]? = some (.cells #[.int .i64 0, .int .i64 0, .int .i64 0, .bool false, .slice none 0 0] 24 (0, 0))) := ⟨by (with_reducible repeat (first | refine blk_drewN ?_ _ | refine blk_drew ?_ | refine blk_alloc ?_ _)); refine blk_far ?_ NB328_332.out _; exact gb_ BK328⟩; have n1_ : Aside0 ((w44.setCell ⟨gb332, 1, none⟩ (.int .i64 t336)).heap[gb332]? = some (.cells #[.int .i64 t333, .int .i64 t336, .int .i64 0] 58 (0, 0))) := ⟨by (with_reducible repeat (first | refine blk_drewN ?_ _ | refine blk_drew ?_ | refine blk_alloc ?_ _)); refine blk_put (cs := #[.int .i64 t333, .int .i64 0, .int .i64 0]) ?_ 1 _ rfl; exact gb_ BK332⟩; have n2_ : Aside0 (Below w.heap.size w (w44.setCell ⟨gb332, 1, none⟩ (.int .i64 t336))) := ⟨gwl_ [gb328, gb332] HB ⟨GE328, GE332, ⟨⟩⟩⟩; (try clear BK328); (try clear BK332); (try clear HB); have BK328 := n0_; have BK332 := n1_; have HB := n2_; clear n0_ n1_ n2_))
  rw [rounds_succ]
  try go_wp2_with (first | ((with_reducible refine gate_callee (f := 27) rfl ?_); refine goesL_ (some 38) rfl rfl Try.func27 (by kernel_rfl) rfl #[.string (t329.extract ((ji12) : Int).toNat t329.size)] rfl (by (try simp only [List.map_toArray, List.map_cons, List.map_nil]); first | done | (simp only [hji12]; rfl) | rfl | (simp only [List.length_drop, List.length_take]; rfl)) ?_; (with_reducible refine (ravelinref3_TakeNum.calls k (t329.extract ((ji12) : Int).toNat t329.size) t339 t340 t341 _ A15.out).mono ?_); rintro e w' ⟨rfl, ⟨nd, rfl⟩⟩; refine ⟨_, rfl, ?_⟩; (try (rw [drewN_self (w44.setCell ⟨gb332, 1, none⟩ (.int .i64 t336))]; generalize hq_ : World.drewN (w44.setCell ⟨gb332, 1, none⟩ (.int .i64 t336)) _ = w46; have n0_ : Aside0 (w46.heap[gb328]? = some (.cells #[.int .i64 0, .int .i64 0, .int .i64 0, .bool false, .slice none 0 0] 24 (0, 0))) := ⟨by rw [← hq_]; exact (gb_ BK328)⟩; have n1_ : Aside0 (w46.heap[gb332]? = some (.cells #[.int .i64 t333, .int .i64 t336, .int .i64 0] 58 (0, 0))) := ⟨by rw [← hq_]; exact (gb_ BK332)⟩; have n2_ : Aside0 (Below w.heap.size w w46) := ⟨by rw [← hq_]; exact (gwl_ [gb328, gb332] HB ⟨GE328, GE332, ⟨⟩⟩)⟩; clear BK328 BK332 HB hq_; have BK328 := n0_; have BK332 := n1_; have HB := n2_; clear n0_ n1_ n2_)); have hcz47_0 := bc0 BK332; have hcz47_1 := bc1 BK332; have hcz47_2 := bc2 BK332; have hfz47_0 := bf_ BK332 0; have hfz47_1 := bf_ BK332 1; have hfz47_2 := bf_ BK332 2; have n0_ : Aside0 ((w46.setCell ⟨gb332, 2, none⟩ (.int .i64 t339)).heap[gb328]? = some (.cells #[.int .i64 0, .int .i64 0, .int .i64 0, .bool false, .slice none 0 0] 24 (0, 0))) := ⟨by (with_reducible repeat (first | refine blk_drewN ?_ _ | refine blk_drew ?_ | refine blk_alloc ?_ _)); refine blk_far ?_ NB328_332.out _; exact gb_ BK328⟩; have n1_ : Aside0 ((w46.setCell ⟨gb332, 2, none⟩ (.int .i64 t339)).heap[gb332]? = some (.cells #[.int .i64 t333, .int .i64 t336, .int .i64 t339] 58 (0, 0))) := ⟨by (with_reducible repeat (first | refine blk_drewN ?_ _ | refine blk_drew ?_ | refine blk_alloc ?_ _)); refine blk_put (cs := #[.int .i64 t333, .int .i64 t336, .int .i64 0]) ?_ 2 _ rfl; exact gb_ BK332⟩; have n2_ : Aside0 (Below w.heap.size w (w46.setCell ⟨gb332, 2, none⟩ (.int .i64 t339))) := ⟨gwl_ [gb328, gb332] HB ⟨GE328, GE332, ⟨⟩⟩⟩; (try clear BK328); (try clear BK332); (try clear HB); have BK328 := n0_; have BK332 := n1_; have HB := n2_; clear n0_ n1_ n2_))
  rw [rounds_succ]
  try go_wp2_with (first | ((with_reducible refine gate_callee (f := 28) rfl ?_); refine goesL_ (some 61) rfl rfl Try.func28 (by kernel_rfl) rfl #[.string (t329.extract ((ji29) : Int).toNat t329.size)] rfl (by (try simp only [List.map_toArray, List.map_cons, List.map_nil]); first | done | (simp only [hji29]; rfl) | rfl | (simp only [List.length_drop, List.length_take]; rfl)) ?_; (with_reducible refine (ravelinref12_TakeRow.calls k (t329.extract ((ji29) : Int).toNat t329.size) t342 t343 t344 _ A32.out).mono ?_); rintro e w49 ⟨v345, rfl, ho0, hb⟩; refine ⟨_, rfl, ?_⟩; have n0_ := Aside0.mk (Kd.R_lower ho0 (below_size (gwl_ [gb328, gb332] HB ⟨GE328, GE332, ⟨⟩⟩))); have n1_ := bb_ BK328 hb; have n2_ := bb_ BK332 hb; have n3_ := bl_ [gb328, gb332] HB ⟨GE328, GE332, ⟨⟩⟩ hb; clear BK328; clear BK332; clear HB; have HO346 := n0_; have BK328 := n1_; have BK332 := n2_; have HB := n3_; clear n0_ n1_ n2_ n3_; (try clear hb); (try clear hb2); (try clear hk); (try clear hi); (try clear ho0)))
  have n0_ := Aside0.mk (Kd.R_drew HO346.out)
  have n1_ := Aside0.mk (blk_drew BK328.out)
  have n2_ := Aside0.mk (blk_drew BK332.out)
  have n3_ := Aside0.mk (below_drew1 HB.out)
  clear HO346
  clear BK328
  clear BK332
  clear HB
  have HO346 := n0_
  have BK328 := n1_
  have BK332 := n2_
  have HB := n3_
  clear n0_ n1_ n2_ n3_
  have p36 : 0 ≤ ((ji33) : Int) := of_decide_eq_true (by assumption)
  have q36 : (ji33) < (t329.size : Int) := of_decide_eq_true (by assumption)
  have hx36 := bt_at t329 (ji33)
  replace p36 := eq_true p36
  replace q36 := eq_true q36
  obtain ⟨Ao51, co51, eo51⟩ := Kd.R_slice HO346.out
  (first | subst eo51 | (injection eo51 with f1_ f2_ f3_; have f4_ := f1_.symm; have f5_ := f3_.symm; clear f1_ f2_ f3_; subst f4_; subst f5_))
  refine start_ (n := 14) (S := fun w' => w'.cell? ⟨gb332, 0, none⟩ = some (.int .i64 t333) ∧ w'.cell? ⟨gb332, 1, none⟩ = some (.int .i64 t336) ∧ w'.cell? ⟨gb332, 2, none⟩ = some (.int .i64 t339)) (ds := []) mkPx16_0 (by kernel_rfl) rfl rfl ⟨bc0 BK332, bc1 BK332, bc2 BK332⟩ (fun hHeld => ?_); refine with_tabW ravelinref18_Read.tab17 ravelinref18_Read.bits17 (fun HT_ HW_ => ?_)
  generalize w49.drew = w50 at HO346 BK328 BK332 HB hHeld ⊢
  refine pu_ 0 (some 65) mkPx16_1 HT_ ?_ rfl rfl (by kernel_rfl) (fun _ _ _ h => h) (Or.inl ⟨by rfl, ?_⟩) ?_ ?_ ?_
  rotate_left
  · intro w'
    go_simp
    with_reducible rfl
  rotate_left
  · simp only [Act.put, lists_, i64_w, i32_w]
    rfl
  refine pu_ 2 (some 67) mkPx16_2 HT_ ?_ rfl rfl (by kernel_rfl) (fun _ _ _ h => h) (Or.inl ⟨by rfl, ?_⟩) ?_ ?_ ?_
  rotate_left
  · intro w'
    go_simp
    with_reducible rfl
  rotate_left
  · simp only [Act.put, lists_, i64_w, i32_w]
    rfl
  refine pu_ 4 (some 69) mkPx16_3 HT_ ?_ rfl rfl (by kernel_rfl) (fun _ _ _ h => h) (Or.inl ⟨by rfl, ?_⟩) ?_ ?_ ?_
  rotate_left
  · intro w'
    go_simp
    with_reducible rfl
  rotate_left
  · simp only [Act.put, lists_, i64_w, i32_w]
    rfl
  refine pu_ 6 (some 71) mkPx16_4 HT_ ?_ rfl rfl (by kernel_rfl) (fun _ _ _ h => h) (Or.inl ⟨by rfl, ?_⟩) ?_ ?_ ?_
  rotate_left
  · intro w'
    go_simp
    with_reducible rfl
  rotate_left
  · simp only [Act.put, lists_, i64_w, i32_w]
    rfl
  refine pu_ 7 (some 72) mkPx16_5 HT_ ?_ rfl rfl (by kernel_rfl) (fun _ _ _ h => h) (Or.inl ⟨by rfl, ?_⟩) ?_ ?_ ?_
  rotate_left
  · intro w'
    go_simp
    with_reducible rfl
  rotate_left
  · simp only [Act.put, lists_, i64_w, i32_w]
    rfl
  refine pu_ 10 (some 75) mkPx16_6 HT_ ?_ rfl rfl (by kernel_rfl) (fun _ _ _ h => h) (Or.inl ⟨by rfl, ?_⟩) ?_ ?_ ?_
  rotate_left
  · intro w'
    go_simp
    with_reducible rfl
  rotate_left
  · simp only [Act.put, lists_, i64_w, i32_w]
    rfl
  refine take_ (i := 1) (N := some 66) (v := ?_) (a' := ?_) mkPx16_7 rfl rfl (take_ofW HT_.out HW_.out (by kernel_rfl)) (fun _ _ _ h => h) (Or.inl ⟨by rfl, ?_⟩) hHeld ?_ ?_
  rotate_left
  · rintro w' ⟨s0, s1, s2⟩
    go_simp
    with_reducible rfl
  rotate_left
  · simp only [Act.put, lists_, i64_w, i32_w]
    rfl
  refine take_ (i := 3) (N := some 68) (v := ?_) (a' := ?_) mkPx16_8 rfl rfl (take_ofW HT_.out HW_.out (by kernel_rfl)) (fun _ _ _ h => h) (Or.inl ⟨by rfl, ?_⟩) hHeld ?_ ?_
  rotate_left
  · rintro w' ⟨s0, s1, s2⟩
    go_simp
    with_reducible rfl
  rotate_left
  · simp only [Act.put, lists_, i64_w, i32_w]
    rfl
  refine take_ (i := 5) (N := some 70) (v := ?_) (a' := ?_) mkPx16_9 rfl rfl (take_ofW HT_.out HW_.out (by kernel_rfl)) (fun _ _ _ h => h) (Or.inl ⟨by rfl, ?_⟩) hHeld ?_ ?_
  rotate_left
  · rintro w' ⟨s0, s1, s2⟩
    go_simp
    with_reducible rfl
  rotate_left
  · simp only [Act.put, lists_, i64_w, i32_w]
    rfl
  refine take_ (i := 8) (N := some 73) (v := ?_) (a' := ?_) mkPx16_10 rfl rfl (take_ofW HT_.out HW_.out (by kernel_rfl)) (fun _ _ _ h => h) (Or.inl ⟨by rfl, ?_⟩) hHeld ?_ ?_
  rotate_left
  · rintro w' ⟨s0, s1, s2⟩
    go_simp
    with_reducible rfl
  rotate_left
  · simp only [Act.put, lists_, i64_w, i32_w]
    rfl
  refine pu_ 9 (some 74) mkPx16_11 HT_ ?_ rfl rfl (by kernel_rfl) (fun _ _ _ h => h) (Or.inl ⟨by rfl, ?_⟩) ?_ ?_ ?_
  rotate_left
  · intro w'
    go_simp
    with_reducible rfl
  rotate_left
  · simp only [Act.put, lists_, i64_w, i32_w]
    rfl
  refine pu_ 11 (some 76) mkPx16_12 HT_ ?_ rfl rfl (by kernel_rfl) (fun _ _ _ h => h) (Or.inl ⟨by rfl, ?_⟩) ?_ ?_ ?_
  rotate_left
  · intro w'
    go_simp
    with_reducible rfl
  rotate_left
  · simp only [Act.put, lists_, i64_w, i32_w]
    rfl
  refine one_ (i := 12) (N := some 17) mkPx16_13 rfl rfl (one_of HT_.out (by kernel_rfl)) (by decide) (fun K hK => ?_)
  refine box_step ?hg (N := 17) ?hd (cs := #[.int .i64 0, .int .i64 0, .int .i64 0, .bool false, .slice none 0 0]) (t := 24) ?hr ?_; (case hd => rfl); (case hg => rfl); (case hr => first | (go_simp; done) | (go_simp; rfl))
  intro gb347 hg w52 hbox hb
  have n0_ := rb_ HO346 hb
  have n1_ := bb_ BK328 hb
  have n2_ := bb_ BK332 hb
  have n3_ := bl_ [gb328, gb332] HB ⟨GE328, GE332, ⟨⟩⟩ hb
  have n4_ := Aside0.mk (hbox)
  have n5_ := gl_ [gb328, gb332] HB ⟨GE328, GE332, ⟨⟩⟩ hg
  have n6_ := gl_ [gb328, gb332] HB ⟨GE328, GE332, ⟨⟩⟩ hg
  have n7_ := gn_ BK328 hg
  have n8_ := Aside0.mk ((by rw [hg]; exact Nat.ne_of_gt (blk_lt (g := gb328) (o := .cells #[.int .i64 0, .int .i64 0, .int .i64 0, .bool false, .slice none 0 0] 24 (0, 0)) (gb_ BK328)) : gb347 ≠ gb328))
  have n9_ := gn_ BK332 hg
  have n10_ := Aside0.mk ((by rw [hg]; exact Nat.ne_of_gt (blk_lt (g := gb332) (o := .cells #[.int .i64 t333, .int .i64 t336, .int .i64 t339] 58 (0, 0)) (gb_ BK332)) : gb347 ≠ gb332))
  clear HO346
  clear BK328
  clear BK332
  clear HB
  have HO346 := n0_
  have BK328 := n1_
  have BK332 := n2_
  have HB := n3_
  have BK347 := n4_
  have GW347 := n5_
  have GE347 := n6_
  have NB328_347 := n7_
  have NB347_328 := n8_
  have NB332_347 := n9_
  have NB347_332 := n10_
  clear n0_ n1_ n2_ n3_ n4_ n5_ n6_ n7_ n8_ n9_ n10_
  clear hb hbox hg
  refine hK.out _ _ ⟨bc0 BK332, bc1 BK332, bc2 BK332⟩ (fun hHeld => ?_)
  clear hK K
  refine norm_ (a' := ?_) ?_ ?_
  rotate_left
  · show Act.put _ (some 17) _ = _
    simp only [Act.put, lists_, i64_w, i32_w]
    rfl
  refine one_ (i := 13) (N := none) mkPx16_14 rfl rfl (one_of HT_.out (by kernel_rfl)) (by decide) (fun K hK => ?_)
  have hs53 : w52.cell? ⟨gb347, 0, none⟩ = some (.int .i64 0) := bc0 BK347
  have hfs53 := blk_frozen BK347.out 0
  have hns53_0 := NB328_347.out
  have hns53_1 := NB332_347.out
  have hms53_0 := NB347_328.out
  have hms53_1 := NB347_332.out
  have hs54 : w52.cell? ⟨gb347, 1, none⟩ = some (.int .i64 0) := bc1 BK347
  have hfs54 := blk_frozen BK347.out 1
  have hns54_0 := NB328_347.out
  have hns54_1 := NB332_347.out
  have hms54_0 := NB347_328.out
  have hms54_1 := NB347_332.out
  have hs55 : w52.cell? ⟨gb347, 2, none⟩ = some (.int .i64 0) := bc2 BK347
  have hfs55 := blk_frozen BK347.out 2
  have hns55_0 := NB328_347.out
  have hns55_1 := NB332_347.out
  have hms55_0 := NB347_328.out
  have hms55_1 := NB347_332.out
  have hs56 : w52.cell? ⟨gb347, 3, none⟩ = some (.bool false) := bc3 BK347
  have hfs56 := blk_frozen BK347.out 3
  have hns56_0 := NB328_347.out
  have hns56_1 := NB332_347.out
  have hms56_0 := NB347_328.out
  have hms56_1 := NB347_332.out
  have hs57 : w52.cell? ⟨gb347, 4, none⟩ = some (.slice none 0 0) := bc4 BK347
  have hfs57 := blk_frozen BK347.out 4
  have hns57_0 := NB328_347.out
  have hns57_1 := NB332_347.out
  have hms57_0 := NB347_328.out
  have hms57_1 := NB347_332.out
  refine skip_ (w1 := ?_) (by rfl) rfl ?_ ?_
  rotate_left
  · go_simp
    rfl
  refine hK.out _ _ ⟨((cell_far (p := ⟨gb347, _, none⟩) NB332_347.out _).trans (((cell_far (p := ⟨gb347, _, none⟩) NB332_347.out _).trans (((cell_far (p := ⟨gb347, _, none⟩) NB332_347.out _).trans (((cell_far (p := ⟨gb347, _, none⟩) NB332_347.out _).trans (((cell_far (p := ⟨gb347, _, none⟩) NB332_347.out _).trans (hHeld.1)))))))))), ((cell_far (p := ⟨gb347, _, none⟩) NB332_347.out _).trans (((cell_far (p := ⟨gb347, _, none⟩) NB332_347.out _).trans (((cell_far (p := ⟨gb347, _, none⟩) NB332_347.out _).trans (((cell_far (p := ⟨gb347, _, none⟩) NB332_347.out _).trans (((cell_far (p := ⟨gb347, _, none⟩) NB332_347.out _).trans (hHeld.2.1)))))))))), ((cell_far (p := ⟨gb347, _, none⟩) NB332_347.out _).trans (((cell_far (p := ⟨gb347, _, none⟩) NB332_347.out _).trans (((cell_far (p := ⟨gb347, _, none⟩) NB332_347.out _).trans (((cell_far (p := ⟨gb347, _, none⟩) NB332_347.out _).trans (((cell_far (p := ⟨gb347, _, none⟩) NB332_347.out _).trans (hHeld.2.2))))))))))⟩ (fun hHeld => ?_)
  clear hK K
  refine done_ (done_of HT_.out (by kernel_rfl)) ?_
  have hnb58 := NB347_328.out
  have hnc58 := NB328_347.out
  have hnb59 := NB347_332.out
  have hnc59 := NB332_347.out
  have hcz60_0 := bc0 BK347
  have hcz60_1 := bc1 BK347
  have hcz60_2 := bc2 BK347
  have hcz60_3 := bc3 BK347
  have hcz60_4 := bc4 BK347
  have hfz60_0 := bf_ BK347 0
  have hfz60_1 := bf_ BK347 1
  have hfz60_2 := bf_ BK347 2
  have hfz60_3 := bf_ BK347 3
  have hfz60_4 := bf_ BK347 4
  go_upto_region 19 with (first | ((with_reducible refine gate_callee (f := 10) rfl ?_); refine goesL_ (some 79) rfl rfl Try.func10 (by kernel_rfl) rfl #[.agg #[.int .i64 t333, .int .i64 t336, .int .i64 t339, .bool ((bt t329 (ji33)) == 1), .slice Ao51 t342.length co51]] rfl (by (try simp only [List.map_toArray, List.map_cons, List.map_nil]); first | done | (simp only [hji33]; rfl) | rfl | (simp only [List.length_drop, List.length_take]; rfl)) ?_; (with_reducible refine (ravelinref18_Bytes.calls k t333 t336 t339 ((bt t329 (ji33)) == 1) _ _ t342 t348 t349 _ ?side1 ?side2 A37.out).mono ?_); (case side1 => refine (Kd.R_reads' (e := 39) (base := w.heap.size) (ok := fun k_ => True) (n := t342.length) (c := co51) ?_).2.2; exact (by (with_reducible repeat (first | apply Kd.R_alloc | apply Kd.R_drewN | apply Kd.R_drew)); exact (Kd.R_mono (Kd.R_far (p := ⟨gb347, 4, none⟩) (Kd.R_far (p := ⟨gb347, 3, none⟩) (Kd.R_far (p := ⟨gb347, 2, none⟩) (Kd.R_far (p := ⟨gb347, 1, none⟩) (Kd.R_far (p := ⟨gb347, 0, none⟩) (Kd.R_types HO346.out BK347.out (by decide)) (fun _ hk => hk.2) (.int .i64 t333)) (fun _ hk => hk.2) (.int .i64 t336)) (fun _ hk => hk.2) (.int .i64 t339)) (fun _ hk => hk.2) (.bool ((bt t329 (ji33)) == 1))) (fun _ hk => hk.2) (.slice Ao51 t342.length co51)) (fun _ h_ => h_.1)))); (case side2 => exact (Kd.R_reads' HO346.out).2.1); rintro e w61 ⟨rfl, hb⟩; refine ⟨_, rfl, ?_⟩; have n0_ := Aside0.mk (Kd.R_below (by (with_reducible repeat (first | apply Kd.R_alloc | apply Kd.R_drewN | apply Kd.R_drew)); exact (Kd.R_mono (Kd.R_far (p := ⟨gb347, 4, none⟩) (Kd.R_far (p := ⟨gb347, 3, none⟩) (Kd.R_far (p := ⟨gb347, 2, none⟩) (Kd.R_far (p := ⟨gb347, 1, none⟩) (Kd.R_far (p := ⟨gb347, 0, none⟩) (Kd.R_types HO346.out BK347.out (by decide)) (fun _ hk => hk.2) (.int .i64 t333)) (fun _ hk => hk.2) (.int .i64 t336)) (fun _ hk => hk.2) (.int .i64 t339)) (fun _ hk => hk.2) (.bool ((bt t329 (ji33)) == 1))) (fun _ hk => hk.2) (.slice Ao51 t342.length co51)) (fun _ h_ => h_.1))) hb); have n1_ := Aside0.mk (blk_below (g := gb328) (o := .cells #[.int .i64 0, .int .i64 0, .int .i64 0, .bool false, .slice none 0 0] 24 (0, 0)) (by (with_reducible repeat (first | refine blk_drewN ?_ _ | refine blk_drew ?_ | refine blk_alloc ?_ _)); refine blk_far ?_ NB328_347.out _; refine blk_far ?_ NB328_347.out _; refine blk_far ?_ NB328_347.out _; refine blk_far ?_ NB328_347.out _; refine blk_far ?_ NB328_347.out _; exact gb_ BK328) hb); have n2_ := Aside0.mk (blk_below (g := gb332) (o := .cells #[.int .i64 t333, .int .i64 t336, .int .i64 t339] 58 (0, 0)) (by (with_reducible repeat (first | refine blk_drewN ?_ _ | refine blk_drew ?_ | refine blk_alloc ?_ _)); refine blk_far ?_ NB332_347.out _; refine blk_far ?_ NB332_347.out _; refine blk_far ?_ NB332_347.out _; refine blk_far ?_ NB332_347.out _; refine blk_far ?_ NB332_347.out _; exact gb_ BK332) hb); have n3_ := Aside0.mk (blk_below (g := gb347) (o := .cells #[.int .i64 t333, .int .i64 t336, .int .i64 t339, .bool ((bt t329 (ji33)) == 1), .slice Ao51 t342.length co51] 24 (0, 0)) (by (with_reducible repeat (first | refine blk_drewN ?_ _ | refine blk_drew ?_ | refine blk_alloc ?_ _)); refine blk_put (cs := #[.int .i64 t333, .int .i64 t336, .int .i64 t339, .bool ((bt t329 (ji33)) == 1), .slice none 0 0]) ?_ 4 _ rfl; refine blk_put (cs := #[.int .i64 t333, .int .i64 t336, .int .i64 t339, .bool false, .slice none 0 0]) ?_ 3 _ rfl; refine blk_put (cs := #[.int .i64 t333, .int .i64 t336, .int .i64 0, .bool false, .slice none 0 0]) ?_ 2 _ rfl; refine blk_put (cs := #[.int .i64 t333, .int .i64 0, .int .i64 0, .bool false, .slice none 0 0]) ?_ 1 _ rfl; refine blk_put (cs := #[.int .i64 0, .int .i64 0, .int .i64 0, .bool false, .slice none 0 0]) ?_ 0 _ rfl; exact gb_ BK347) hb); have n4_ := bl_ [gb328, gb332, gb347] HB ⟨GE328, GE332, GE347, ⟨⟩⟩ hb; clear HO346; clear BK328; clear BK332; clear BK347; clear HB; have HO346 := n0_; have BK328 := n1_; have BK332 := n2_; have BK347 := n3_; have HB := n4_; clear n0_ n1_ n2_ n3_ n4_; (try clear hb); (try clear hb2); (try clear hk); (try clear hi)))
  (try simp only [Act.put, lists_])
  go_cut [94] (fun v94 wc => ∃ (kq : Nat) (x94_37 : Bool), v94 = .bool x94_37 ∧ Aside0 (ravelinref18_Read.j0 kq t330 x94_37 t333 t336 t339 ((bt t329 (ji33)) == 1) t342 = some (r1, r2, r3, r4, r5, r6, r7)) ∧ Aside0 (kq ≤ k) ∧ Aside0 (Kd.R k39 39 wc w.heap.size (fun _ => True) (.slice Ao51 t342.length co51) t342) ∧ Aside0 (wc.heap[gb328]? = some (.cells #[.int .i64 0, .int .i64 0, .int .i64 0, .bool false, (.slice none 0 0)] 24 (0, 0))) ∧ Aside0 (wc.heap[gb332]? = some (.cells #[.int .i64 t333, .int .i64 t336, .int .i64 t339] 58 (0, 0))) ∧ Aside0 (wc.heap[gb347]? = some (.cells #[.int .i64 t333, .int .i64 t336, .int .i64 t339, .bool ((bt t329 (ji33)) == 1), (.slice Ao51 t342.length co51)] 24 (0, 0))) ∧ Aside0 (Below w.heap.size w wc))
  case first =>
    have H := HC38.out
    clear HC38
    by_cases c62 : t344 = true
    rotate_left
    · replace c62 := Bool.eq_false_iff.mpr c62
      subst c62
      have H1 : (ravelinref18_Read.j0 k t330 true t333 t336 t339 ((bt t329 (ji33)) == 1) t342) = some (r1, r2, r3, r4, r5, r6, r7) := by rw [if_neg (show ¬ (false = true) by decide)] at H; exact H
      clear H
      have H := H1
      clear H1
      have H' := Aside0.mk H
      clear H
      go_wp2
      go_meet
      case rel => exact ⟨_, (true), (by first | rfl | (simp; done) | (simp [*]; done)), H', ⟨by first | omega | exact Nat.le_refl _⟩, ⟨by (with_reducible repeat (first | apply Kd.R_alloc | apply Kd.R_drewN | apply Kd.R_drew)); exact HO346.out⟩, ⟨gb_ BK328⟩, ⟨gb_ BK332⟩, ⟨gb_ BK347⟩, ⟨gwl_ [gb328, gb332, gb347] HB ⟨GE328, GE332, GE347, ⟨⟩⟩⟩⟩
    subst c62
    have H1 : (if t349 = true then (if 0 ≤ t330 then (if t330 ≤ (a0.size : Int) then (ravelinref18_Read.j0 k t330 (t348.toList != (a0.extract 0 (t330 : Int).toNat).toList) t333 t336 t339 ((bt t329 (ji33)) == 1) t342) else (none)) else (none)) else (ravelinref18_Read.j0 k t330 true t333 t336 t339 ((bt t329 (ji33)) == 1) t342)) = some (r1, r2, r3, r4, r5, r6, r7) := by rw [if_pos rfl] at H; exact H
    clear H
    have H := H1
    clear H1
    by_cases c63 : t349 = true
    rotate_left
    · replace c63 := Bool.eq_false_iff.mpr c63
      subst c63
      have H1 : (ravelinref18_Read.j0 k t330 true t333 t336 t339 ((bt t329 (ji33)) == 1) t342) = some (r1, r2, r3, r4, r5, r6, r7) := by rw [if_neg (show ¬ (false = true) by decide)] at H; exact H
      clear H
      have H := H1
      clear H1
      have H' := Aside0.mk H
      clear H
      go_wp2
      go_meet
      case rel => exact ⟨_, (true), (by first | rfl | (simp; done) | (simp [*]; done)), H', ⟨by first | omega | exact Nat.le_refl _⟩, ⟨by (with_reducible repeat (first | apply Kd.R_alloc | apply Kd.R_drewN | apply Kd.R_drew)); exact HO346.out⟩, ⟨gb_ BK328⟩, ⟨gb_ BK332⟩, ⟨gb_ BK347⟩, ⟨gwl_ [gb328, gb332, gb347] HB ⟨GE328, GE332, GE347, ⟨⟩⟩⟩⟩
    subst c63
    have H1 : (if 0 ≤ t330 then (if t330 ≤ (a0.size : Int) then (ravelinref18_Read.j0 k t330 (t348.toList != (a0.extract 0 (t330 : Int).toNat).toList) t333 t336 t339 ((bt t329 (ji33)) == 1) t342) else (none)) else (none)) = some (r1, r2, r3, r4, r5, r6, r7) := by rw [if_pos rfl] at H; exact H
    clear H
    have H := H1
    clear H1
    by_cases c64 : 0 ≤ t330
    rotate_left
    · rw [if_neg c64] at H
      exact absurd H (by simp)
    rw [if_pos c64] at H
    have c64b0 := eq_true c64
    have c64b1 : decide (0 ≤ t330) = true := decide_eq_true c64
    clear c64
    by_cases c65 : t330 ≤ (a0.size : Int)
    rotate_left
    · rw [if_neg c65] at H
      exact absurd H (by simp)
    rw [if_pos c65] at H
    have c65b0 := eq_true c65
    have c65b1 : decide (t330 ≤ (a0.size : Int)) = true := decide_eq_true c65
    clear c65
    have H' := Aside0.mk H
    clear H
    go_wp2
    go_meet
    case rel => exact ⟨_, ((t348.toList != (a0.extract 0 (t330 : Int).toNat).toList)), (by first | rfl | (simp; done) | (simp [*]; done)), H', ⟨by first | omega | exact Nat.le_refl _⟩, ⟨by (with_reducible repeat (first | apply Kd.R_alloc | apply Kd.R_drewN | apply Kd.R_drew)); exact HO346.out⟩, ⟨gb_ BK328⟩, ⟨gb_ BK332⟩, ⟨gb_ BK347⟩, ⟨gwl_ [gb328, gb332, gb347] HB ⟨GE328, GE332, GE347, ⟨⟩⟩⟩⟩
  clear HC38
  try clear c1
  try clear c2
  try clear p2
  try clear c3
  try clear c3b0
  try clear c3b1
  try clear p3
  try clear q3
  try clear hx3
  try clear c4
  try clear c4b0
  try clear c4b1
  try clear c5
  try clear c6
  try clear c6b0
  try clear c6b1
  try clear p6
  try clear c8
  try clear c8b0
  try clear c8b1
  try clear c9
  try clear c9b0
  try clear c9b1
  try clear c10
  try clear c11
  try clear c11b0
  try clear c11b1
  try clear c12
  try clear c13
  try clear c13b0
  try clear c13b1
  try clear c14
  try clear c14b0
  try clear c14b1
  try clear c16
  try clear c16b0
  try clear c16b1
  try clear c17
  try clear c17b0
  try clear c17b1
  try clear c21
  try clear c26
  try clear c27
  try clear c28
  try clear c30
  try clear c30b0
  try clear c30b1
  try clear c31
  try clear c31b0
  try clear c31b1
  try clear c34
  try clear c34b0
  try clear c35
  try clear c35b0
  try clear p36
  try clear q36
  try clear hx36
  try clear c42
  try clear c58
  try clear c59
  try clear c62
  try clear c63
  try clear c64
  try clear c64b0
  try clear c64b1
  try clear p64
  try clear c65
  try clear c65b0
  try clear c65b1
  try clear hcz22_0
  try clear hcz22_1
  try clear hcz22_2
  try clear hcz24_0
  try clear hcz24_1
  try clear hcz24_2
  try clear hcz26_0
  try clear hcz26_1
  try clear hcz26_2
  try clear hcz28_0
  try clear hcz28_1
  try clear hcz28_2
  try clear hcz28_3
  try clear hcz28_4
  try clear hcz43_0
  try clear hcz43_1
  try clear hcz43_2
  try clear hcz45_0
  try clear hcz45_1
  try clear hcz45_2
  try clear hcz47_0
  try clear hcz47_1
  try clear hcz47_2
  try clear hcz60_0
  try clear hcz60_1
  try clear hcz60_2
  try clear hcz60_3
  try clear hcz60_4
  try clear hfz22_0
  try clear hfz22_1
  try clear hfz22_2
  try clear hfz24_0
  try clear hfz24_1
  try clear hfz24_2
  try clear hfz26_0
  try clear hfz26_1
  try clear hfz26_2
  try clear hfz28_0
  try clear hfz28_1
  try clear hfz28_2
  try clear hfz28_3
  try clear hfz28_4
  try clear hfz43_0
  try clear hfz43_1
  try clear hfz43_2
  try clear hfz45_0
  try clear hfz45_1
  try clear hfz45_2
  try clear hfz47_0
  try clear hfz47_1
  try clear hfz47_2
  try clear hfz60_0
  try clear hfz60_1
  try clear hfz60_2
  try clear hfz60_3
  try clear hfz60_4
  try clear p36
  try clear q36
  obtain ⟨kq, x94_37, rfl, HA, HJ37, HO_348004, BK328, BK332, BK347, HB⟩ := hcut
  cases kq with
  | zero => exact absurd HA.out (by simp [ravelinref18_Read.j0])
  | succ kj37 => ?_
  have H := HA.out
  clear HA
  simp only [ravelinref18_Read.j0] at H
  by_cases c66 : x94_37 = true
  · subst c66
    have H1 : (some (0, 0, 0, false, ([] : List (S39)), 0, 10)) = some (r1, r2, r3, r4, r5, r6, r7) := by rw [if_pos rfl] at H; exact H
    clear H
    have H := H1
    clear H1
    simp only [Option.some.injEq, Prod.mk.injEq] at H
    obtain ⟨rfl, rfl, rfl, rfl, rfl, rfl, rfl⟩ := H
    have hnb67 := NB328_332.out
    have hnc67 := NB332_328.out
    have hnb68 := NB328_347.out
    have hnc68 := NB347_328.out
    have hcz69_0 := bc0 BK328
    have hcz69_1 := bc1 BK328
    have hcz69_2 := bc2 BK328
    have hcz69_3 := bc3 BK328
    have hcz69_4 := bc4 BK328
    have hfz69_0 := bf_ BK328 0
    have hfz69_1 := bf_ BK328 1
    have hfz69_2 := bf_ BK328 2
    have hfz69_3 := bf_ BK328 3
    have hfz69_4 := bf_ BK328 4
    go_wp2
    refine bodyPost_ret (results_ctt rfl _ _ gb328 24 #[.int .i64 0, .int .i64 0, .int .i64 0, .bool false, .slice none 0 0] (0, 0) _ rfl (by (with_reducible repeat (first | refine blk_drewN ?_ _ | refine blk_drew ?_ | refine blk_alloc ?_ _)); refine blk_put (cs := #[.int .i64 0, .int .i64 0, .int .i64 0, .bool false, .slice none 0 0]) ?_ 4 _ rfl; refine blk_put (cs := #[.int .i64 0, .int .i64 0, .int .i64 0, .bool false, .slice none 0 0]) ?_ 3 _ rfl; refine blk_put (cs := #[.int .i64 0, .int .i64 0, .int .i64 0, .bool false, .slice none 0 0]) ?_ 2 _ rfl; refine blk_put (cs := #[.int .i64 0, .int .i64 0, .int .i64 0, .bool false, .slice none 0 0]) ?_ 1 _ rfl; refine blk_put (cs := #[.int .i64 0, .int .i64 0, .int .i64 0, .bool false, .slice none 0 0]) ?_ 0 _ rfl; exact gb_ BK328) Try.underlying24 rfl (by kernel_rfl)) rfl ?_
    exact ⟨_, by first | rfl | (simp [errW_none, errW_some] <;> rfl) | (simp only [← hji7, ← hji12, ← hji29, ← hji33]; first | rfl | (simp [errW_none, errW_some] <;> rfl)) | (simp [*, errW_none, errW_some] <;> rfl), by first | exact Kd.R_nil _ _ _ _ _ | exact Kd.N_nil _ _ _ _ _ | exact Kd.V_nil _ _ _ _ _ | exact Kd.Q_nil _ _ _ _ _ | exact Kd.S_nil _ _ _ _ _, gwl_ [gb328, gb332, gb347] HB ⟨GE328, GE332, GE347, ⟨⟩⟩⟩
  replace c66 := Bool.eq_false_iff.mpr c66
  subst c66
  have H1 : (some (t333, t336, t339, ((bt t329 (ji33)) == 1), t342, t330, 0)) = some (r1, r2, r3, r4, r5, r6, r7) := by rw [if_neg (show ¬ (false = true) by decide)] at H; exact H
  clear H
  have H := H1
  clear H1
  simp only [Option.some.injEq, Prod.mk.injEq] at H
  obtain ⟨rfl, rfl, rfl, rfl, rfl, rfl, rfl⟩ := H
  have hnb70 := NB347_328.out
  have hnc70 := NB328_347.out
  have hnb71 := NB347_332.out
  have hnc71 := NB332_347.out
  have hcz72_0 := bc0 BK347
  have hcz72_1 := bc1 BK347
  have hcz72_2 := bc2 BK347
  have hcz72_3 := bc3 BK347
  have hcz72_4 := bc4 BK347
  have hfz72_0 := bf_ BK347 0
  have hfz72_1 := bf_ BK347 1
  have hfz72_2 := bf_ BK347 2
  have hfz72_3 := bf_ BK347 3
  have hfz72_4 := bf_ BK347 4
  have hnb73 := NB328_332.out
  have hnc73 := NB332_328.out
  have hcz74_0 := bc0 BK328
  have hcz74_1 := bc1 BK328
  have hcz74_2 := bc2 BK328
  have hcz74_3 := bc3 BK328
  have hcz74_4 := bc4 BK328
  have hfz74_0 := bf_ BK328 0
  have hfz74_1 := bf_ BK328 1
  have hfz74_2 := bf_ BK328 2
  have hfz74_3 := bf_ BK328 3
  have hfz74_4 := bf_ BK328 4
  go_wp2
  refine bodyPost_ret (results_ctt rfl _ _ gb328 24 #[.int .i64 t333, .int .i64 t336, .int .i64 t339, .bool ((bt t329 (ji33)) == 1), .slice Ao51 t342.length co51] (0, 0) _ rfl (by (with_reducible repeat (first | refine blk_drewN ?_ _ | refine blk_drew ?_ | refine blk_alloc ?_ _)); refine blk_put (cs := #[.int .i64 t333, .int .i64 t336, .int .i64 t339, .bool ((bt t329 (ji33)) == 1), .slice none 0 0]) ?_ 4 _ rfl; refine blk_put (cs := #[.int .i64 t333, .int .i64 t336, .int .i64 t339, .bool false, .slice none 0 0]) ?_ 3 _ rfl; refine blk_put (cs := #[.int .i64 t333, .int .i64 t336, .int .i64 0, .bool false, .slice none 0 0]) ?_ 2 _ rfl; refine blk_put (cs := #[.int .i64 t333, .int .i64 0, .int .i64 0, .bool false, .slice none 0 0]) ?_ 1 _ rfl; refine blk_put (cs := #[.int .i64 0, .int .i64 0, .int .i64 0, .bool false, .slice none 0 0]) ?_ 0 _ rfl; exact gb_ BK328) Try.underlying24 rfl (by kernel_rfl)) rfl ?_
  exact ⟨_, by first | rfl | (simp [errW_none, errW_some] <;> rfl) | (simp only [← hji7, ← hji12, ← hji29, ← hji33]; first | rfl | (simp [errW_none, errW_some] <;> rfl)) | (simp [*, errW_none, errW_some] <;> rfl), by (with_reducible repeat (first | apply Kd.R_alloc | apply Kd.R_drewN | apply Kd.R_drew)); exact Kd.R_mono (Kd.R_far (p := ⟨gb328, 4, none⟩) (Kd.R_far (p := ⟨gb328, 3, none⟩) (Kd.R_far (p := ⟨gb328, 2, none⟩) (Kd.R_far (p := ⟨gb328, 1, none⟩) (Kd.R_far (p := ⟨gb328, 0, none⟩) (Kd.R_types HO_348004.out BK328.out (by decide)) (fun _ hk => hk.2) (.int .i64 t333)) (fun _ hk => hk.2) (.int .i64 t336)) (fun _ hk => hk.2) (.int .i64 t339)) (fun _ hk => hk.2) (.bool ((bt t329 (ji33)) == 1))) (fun _ hk => hk.2) (.slice Ao51 t342.length co51)) (fun _ hk => trivial), gwl_ [gb328, gb332, gb347] HB ⟨GE328, GE332, GE347, ⟨⟩⟩⟩

end Go.Proofs.Ytkmbgihfdfgmgaa.P
