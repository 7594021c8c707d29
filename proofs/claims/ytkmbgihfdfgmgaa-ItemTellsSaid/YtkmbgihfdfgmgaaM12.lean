-- Printed by a changed copy of the kit's printer (wip/tools/ext.py); labels and more
import Derived.Test.YtkmbgihfdfgmgaaQShort
import Derived.Test.YtkmbgihfdfgmgaaM0
namespace Go.Proofs.Ytkmbgihfdfgmgaa.P
open Go.RowKit Go.Proofs.YtkmbgihfdfgmgaaW.PrintWords Go.Proofs.YtkmbgihfdfgmgaaW.PrintLast Go.Proofs.YtkmbgihfdfgmgaaW.PrintMore
attribute [local go_sem] max2_int min2_int max_two min_two max_three min_three max_four min_four   -- for this text's walks alone
attribute [local go_sem high] string_leq string_geq string_gtr
set_option linter.unusedVariables false
set_option linter.unusedSimpArgs false

attribute [local go_sem high] eqA39
/-! ### ravelinref12_Same: function 30 -/
def ravelinref12_Same.l0 : Nat → List (S39) → List (S39) → Int → Option (Bool)
  | 0, _, _, _ => none
  | k + 1, x0, x1, x5 => if x5 < (x0.length : Int) then (if 0 ≤ x5 then (if x5 < (x1.length : Int) then (if (!((((rd_T39 x0 x5).f0).toList) == (((rd_T39 x1 x5).f0).toList)) || (!(((rd_T39 x0 x5).f1) == ((rd_T39 x1 x5).f1)) || (!((((rd_T39 x0 x5).f2).toList) == (((rd_T39 x1 x5).f2).toList))))) = true then (some false) else (ravelinref12_Same.l0 k x0 x1 (wrap64 (x5 + 1)))) else (none)) else (none)) else (some true)
def ravelinref12_Same.f (k : Nat) (l0 : List (S39)) (l1 : List (S39)) : Option (Bool) := if (l0.length : Int) = (l1.length : Int) then (ravelinref12_Same.l0 k l0 l1 0) else (some false)
theorem ravelinref12_Same.mono_l : ∀ k, (∀ y0 y1 y2, LeO (ravelinref12_Same.l0 k y0 y1 y2) (ravelinref12_Same.l0 (k + 1) y0 y1 y2))
  | 0 => fun _ _ _ r h => by simp [ravelinref12_Same.l0] at h
  | k + 1 => by
    have ih0 := ravelinref12_Same.mono_l k
    · intro y0 y1 y2
      unfold ravelinref12_Same.l0
      repeat' first
      | (with_reducible exact ih0 _ _ _)
      | (with_reducible exact LeO.refl _)
      | (with_reducible exact LeO.none _)
      | (with_reducible refine LeO.ite ?_ ?_)
      | (with_reducible refine LeO.bind ?_ (fun _ => ?_))
      | exact ih0 _ _ _
      | exact LeO.none _
      | refine LeO.ite ?_ ?_
      | refine LeO.bind ?_ (fun _ => ?_)
theorem ravelinref12_Same.mono : ∀ a0 a1 k, LeO (ravelinref12_Same.f k a0 a1) (ravelinref12_Same.f (k + 1) a0 a1) := by
  intro a0 a1 k
  have ih0 := ravelinref12_Same.mono_l k
  unfold ravelinref12_Same.f
  repeat' first
      | (with_reducible exact ih0 _ _ _)
      | (with_reducible exact LeO.refl _)
      | (with_reducible exact LeO.none _)
      | (with_reducible refine LeO.ite ?_ ?_)
      | (with_reducible refine LeO.bind ?_ (fun _ => ?_))
      | exact ih0 _ _ _
      | exact LeO.none _
      | refine LeO.ite ?_ ?_
      | refine LeO.bind ?_ (fun _ => ?_)
set_option maxHeartbeats 8000000 in
set_option maxRecDepth 100000 in
theorem ravelinref12_Same.calls (k : Nat) (A0 : Option Addr) (c0 : Nat) (l0 : List (S39)) (A1 : Option Addr) (c1 : Nat) (l1 : List (S39)) (r : Bool) (w : World) (hr0 : Kd.C k39 w A0 l0.length l0) (hc0 : l0.length ≤ c0) (hr1 : Kd.C k39 w A1 l1.length l1) (hc1 : l1.length ≤ c1) (h : ravelinref12_Same.f k l0 l1 = some r) :
    Calls Try.prog 30 #[.slice A0 l0.length c0, .slice A1 l1.length c1] w fun e w' => e = .returned (.bool r) ∧ Drawn0 w w' := by
  have hu39 := Try.underlying39
  have HR0 := Aside0.mk hr0
  have HC0 := Aside0.mk hc0
  clear hr0 hc0
  have HR1 := Aside0.mk hr1
  have HC1 := Aside0.mk hc1
  clear hr1 hc1
  have H : (if (l0.length : Int) = (l1.length : Int) then (ravelinref12_Same.l0 k l0 l1 0) else (some false)) = some r := h
  clear h
  by_cases c3 : (l0.length : Int) = (l1.length : Int)
  rotate_left
  · rw [if_neg c3] at H
    have c3b0 : ((l0.length : Int) == (l1.length : Int)) = false := beq_eq_false_iff_ne.mpr c3
    have c3b1 : ((l0.length : Int) != (l1.length : Int)) = true := bne_iff_ne.mpr c3
    have c3b2 : (l0.length == l1.length) = false := by first | simpa using c3 | (simp at c3 ⊢; omega)
    obtain rfl := Option.some.inj H
    go_enter Try.func30, Try.ntmps30
    go_wp2
    repeat (go_quiet (fail); try go_wp2)
    go_ret
    exact ⟨by first | rfl | (simp; done) | (simp [*]; done), by repeat (first | exact Drawn0.refl _ | apply Drawn0.step)⟩
  rw [if_pos c3] at H
  have c3b0 : ((l0.length : Int) == (l1.length : Int)) = true := beq_iff_eq.mpr c3
  have c3b1 : ((l0.length : Int) != (l1.length : Int)) = false := bne_eq_false_iff_eq.mpr c3
  have c3b2 : (l0.length == l1.length) = true := by first | simpa using c3 | (simp at c3 ⊢; omega)
  clear c3
  have H' := Aside0.mk H
  clear H
  go_enter Try.func30, Try.ntmps30
  go_wp2
  repeat (go_quiet (fail); try go_wp2)
  go_loopg [5] k (fun kq v5 w' => ∃ (x5_1 : Int), v5 = .int .i64 x5_1 ∧ Aside0 (ravelinref12_Same.l0 kq l0 l1 x5_1 = some r) ∧ Aside0 (kq ≤ k) ∧ Drawn0 w w')
  case atStart => exact ⟨(0), (by first | rfl | (simp; done) | (simp [*]; done)), H', ⟨Nat.le_refl _⟩, by repeat (first | exact Drawn0.refl _ | apply Drawn0.step)⟩
  clear H'
  try clear c1
  try clear p2
  try clear c3
  try clear c3b0
  try clear c3b1
  try clear c3b2
  obtain ⟨x5_1, rfl, HA, HK1, ⟨m1, rfl⟩⟩ := hrel
  cases gk with
  | zero => exact absurd HA.out (by simp [ravelinref12_Same.l0])
  | succ k1 => ?_
  have H := HA.out
  clear HA
  simp only [ravelinref12_Same.l0] at H
  by_cases c4 : x5_1 < (l0.length : Int)
  rotate_left
  · rw [if_neg c4] at H
    have c4b0 : decide (x5_1 < (l0.length : Int)) = false := decide_eq_false c4
    clear c4
    obtain rfl := Option.some.inj H
    go_wp2
    repeat (go_quiet (fail); try go_wp2)
    go_ret
    exact ⟨by first | rfl | (simp; done) | (simp [*]; done), by repeat (first | exact Drawn0.refl _ | apply Drawn0.step)⟩
  rw [if_pos c4] at H
  have c4b0 : decide (x5_1 < (l0.length : Int)) = true := decide_eq_true c4
  clear c4
  by_cases c5 : 0 ≤ x5_1
  rotate_left
  · rw [if_neg c5] at H
    exact absurd H (by simp)
  rw [if_pos c5] at H
  have c5b0 : decide (0 ≤ x5_1) = true := decide_eq_true c5
  clear c5
  by_cases c6 : x5_1 < (l1.length : Int)
  rotate_left
  · rw [if_neg c6] at H
    exact absurd H (by simp)
  rw [if_pos c6] at H
  have c6b0 : decide (x5_1 < (l1.length : Int)) = true := decide_eq_true c6
  clear c6
  by_cases c7 : (!((((rd_T39 l0 x5_1).f0).toList) == (((rd_T39 l1 x5_1).f0).toList)) || (!(((rd_T39 l0 x5_1).f1) == ((rd_T39 l1 x5_1).f1)) || (!((((rd_T39 l0 x5_1).f2).toList) == (((rd_T39 l1 x5_1).f2).toList))))) = true
  · rw [if_pos c7] at H
    have c7b0 : (!((((rd_T39 l0 x5_1).f0).toList) == (((rd_T39 l1 x5_1).f0).toList)) || (!(((rd_T39 l0 x5_1).f1) == ((rd_T39 l1 x5_1).f1)) || (!((((rd_T39 l0 x5_1).f2).toList) == (((rd_T39 l1 x5_1).f2).toList))))) = true := c7
    clear c7
    obtain rfl := Option.some.inj H
    have p350 : 0 ≤ (x5_1 : Int) := of_decide_eq_true (by assumption)
    have q350 : x5_1 < (l0.length : Int) := of_decide_eq_true (by assumption)
    obtain ⟨ad350, e350, hx350_0, hx350_1, hx350_2⟩ := at_T39 HR0.out x5_1 p350 q350
    cases e350
    replace p350 := eq_true p350
    replace q350 := eq_true q350
    have p351 : 0 ≤ (x5_1 : Int) := of_decide_eq_true (by assumption)
    have q351 : x5_1 < (l1.length : Int) := of_decide_eq_true (by assumption)
    obtain ⟨ad351, e351, hx351_0, hx351_1, hx351_2⟩ := at_T39 HR1.out x5_1 p351 q351
    cases e351
    replace p351 := eq_true p351
    replace q351 := eq_true q351
    go_wp2
    repeat (go_quiet (fail); try go_wp2)
    go_ret
    exact ⟨by first | rfl | (simp; done) | (simp [*]; done), by repeat (first | exact Drawn0.refl _ | apply Drawn0.step)⟩
  rw [if_neg c7] at H
  have c7b0 : (!((((rd_T39 l0 x5_1).f0).toList) == (((rd_T39 l1 x5_1).f0).toList)) || (!(((rd_T39 l0 x5_1).f1) == ((rd_T39 l1 x5_1).f1)) || (!((((rd_T39 l0 x5_1).f2).toList) == (((rd_T39 l1 x5_1).f2).toList))))) = false := by simpa using c7
  clear c7
  have H' := Aside0.mk H
  clear H
  have p350 : 0 ≤ (x5_1 : Int) := of_decide_eq_true (by assumption)
  have q350 : x5_1 < (l0.length : Int) := of_decide_eq_true (by assumption)
  obtain ⟨ad350, e350, hx350_0, hx350_1, hx350_2⟩ := at_T39 HR0.out x5_1 p350 q350
  cases e350
  replace p350 := eq_true p350
  replace q350 := eq_true q350
  have p351 : 0 ≤ (x5_1 : Int) := of_decide_eq_true (by assumption)
  have q351 : x5_1 < (l1.length : Int) := of_decide_eq_true (by assumption)
  obtain ⟨ad351, e351, hx351_0, hx351_1, hx351_2⟩ := at_T39 HR1.out x5_1 p351 q351
  cases e351
  replace p351 := eq_true p351
  replace q351 := eq_true q351
  go_wp2
  repeat (go_quiet (fail); try go_wp2)
  go_roundg k1
  case measure => have := HK1.out; omega
  case rel => exact ⟨(wrap64 (x5_1 + 1)), (by first | rfl | (simp; done) | (simp [*]; done)), H', ⟨by have := HK1.out; omega⟩, by repeat (first | exact Drawn0.refl _ | apply Drawn0.step)⟩

/-! ### ravelinref18_Same: function 14 -/
def ravelinref18_Same.f (k : Nat) (a0_0 : Int) (a0_1 : Int) (a0_2 : Int) (a0_3 : Bool) (l0_4 : List (S39)) (a1_0 : Int) (a1_1 : Int) (a1_2 : Int) (a1_3 : Bool) (l1_4 : List (S39)) : Option (Bool) := if a0_0 = a1_0 then (if a0_1 = a1_1 then (if a0_2 = a1_2 then (if (a0_3 == a1_3) = true then ((ravelinref12_Same.f k l0_4 l1_4).bind fun t354 => (some t354)) else (some false)) else (some false)) else (some false)) else (some false)
theorem ravelinref18_Same.mono : ∀ a0 a1 a2 a3 a4 a5 a6 a7 a8 a9 k, LeO (ravelinref18_Same.f k a0 a1 a2 a3 a4 a5 a6 a7 a8 a9) (ravelinref18_Same.f (k + 1) a0 a1 a2 a3 a4 a5 a6 a7 a8 a9) := by
  intro a0 a1 a2 a3 a4 a5 a6 a7 a8 a9 k
  unfold ravelinref18_Same.f
  repeat' first
      | (with_reducible exact ravelinref12_Same.mono _ _ _)
      | (with_reducible exact LeO.refl _)
      | (with_reducible exact LeO.none _)
      | (with_reducible refine LeO.ite ?_ ?_)
      | (with_reducible refine LeO.bind ?_ (fun _ => ?_))
      | exact ravelinref12_Same.mono _ _ _
      | exact LeO.none _
      | refine LeO.ite ?_ ?_
      | refine LeO.bind ?_ (fun _ => ?_)
set_option maxHeartbeats 8000000 in
set_option maxRecDepth 100000 in
theorem ravelinref18_Same.calls (k : Nat) (a0_0 : Int) (a0_1 : Int) (a0_2 : Int) (a0_3 : Bool) (A0_4 : Option Addr) (c0_4 : Nat) (l0_4 : List (S39)) (a1_0 : Int) (a1_1 : Int) (a1_2 : Int) (a1_3 : Bool) (A1_4 : Option Addr) (c1_4 : Nat) (l1_4 : List (S39)) (r : Bool) (w : World) (hr0_4 : Kd.C k39 w A0_4 l0_4.length l0_4) (hc0_4 : l0_4.length ≤ c0_4) (hr1_4 : Kd.C k39 w A1_4 l1_4.length l1_4) (hc1_4 : l1_4.length ≤ c1_4) (h : ravelinref18_Same.f k a0_0 a0_1 a0_2 a0_3 l0_4 a1_0 a1_1 a1_2 a1_3 l1_4 = some r) :
    Calls Try.prog 14 #[.agg #[.int .i64 a0_0, .int .i64 a0_1, .int .i64 a0_2, .bool a0_3, .slice A0_4 l0_4.length c0_4], .agg #[.int .i64 a1_0, .int .i64 a1_1, .int .i64 a1_2, .bool a1_3, .slice A1_4 l1_4.length c1_4]] w fun e w' => e = .returned (.bool r) ∧ Below w.heap.size w w' := by
  have hu24 := Try.underlying24
  have HR0_4 := Aside0.mk hr0_4
  have HC0_4 := Aside0.mk hc0_4
  clear hr0_4 hc0_4
  have HR1_4 := Aside0.mk hr1_4
  have HC1_4 := Aside0.mk hc1_4
  clear hr1_4 hc1_4
  have HB := Aside0.mk (Below.refl w.heap.size w)
  have H : (if a0_0 = a1_0 then (if a0_1 = a1_1 then (if a0_2 = a1_2 then (if (a0_3 == a1_3) = true then ((ravelinref12_Same.f k l0_4 l1_4).bind fun t354 => (some t354)) else (some false)) else (some false)) else (some false)) else (some false)) = some r := h
  clear h
  by_cases c3 : a0_0 = a1_0
  rotate_left
  · rw [if_neg c3] at H
    have c3b0 : (a0_0 == a1_0) = false := beq_eq_false_iff_ne.mpr c3
    have c3b1 : (a0_0 != a1_0) = true := bne_iff_ne.mpr c3
    obtain rfl := Option.some.inj H
    go_enter Try.func14, Try.ntmps14
    go_wp2_with (first | ((with_reducible refine gate_dst (N := 2) rfl ?_); refine box_event ?hg (N := 2) ?hd (cs := #[.int .i64 a0_0, .int .i64 a0_1, .int .i64 a0_2, .bool a0_3, .slice A0_4 l0_4.length c0_4]) (t := 24) ?hr ?_; (case hd => rfl); (case hg => rfl); (case hr => first | (go_simp; done) | (go_simp; rfl)); intro gb352 hg w28 hbox hb; have n0_ := bs_ HB hb; have n1_ := Aside0.mk (hbox); have n2_ := gz_ HB hg; have n3_ := gz_ HB hg; clear HB; have HB := n0_; have BK352 := n1_; have GW352 := n2_; have GE352 := n3_; clear n0_ n1_ n2_ n3_; clear hb hbox hg) | ((with_reducible refine gate_dst (N := 3) rfl ?_); refine box_event ?hg (N := 3) ?hd (cs := #[.int .i64 a1_0, .int .i64 a1_1, .int .i64 a1_2, .bool a1_3, .slice A1_4 l1_4.length c1_4]) (t := 24) ?hr ?_; (case hd => rfl); (case hg => rfl); (case hr => first | (go_simp; done) | (go_simp; rfl)); intro gb353 hg w29 hbox hb; have n0_ := bb_ BK352 hb; have n1_ := bl_ [gb352] HB ⟨GE352, ⟨⟩⟩ hb; have n2_ := Aside0.mk (hbox); have n3_ := gl_ [gb352] HB ⟨GE352, ⟨⟩⟩ hg; have n4_ := gl_ [gb352] HB ⟨GE352, ⟨⟩⟩ hg; have n5_ := gn_ BK352 hg; have n6_ := Aside0.mk ((by rw [hg]; exact Nat.ne_of_gt (blk_lt (g := gb352) (o := .cells #[.int .i64 a0_0, .int .i64 a0_1, .int .i64 a0_2, .bool a0_3, .slice A0_4 l0_4.length c0_4] 24 (0, 0)) (gb_ BK352)) : gb353 ≠ gb352)); clear BK352; clear HB; have BK352 := n0_; have HB := n1_; have BK353 := n2_; have GW353 := n3_; have GE353 := n4_; have NB352_353 := n5_; have NB353_352 := n6_; clear n0_ n1_ n2_ n3_ n4_ n5_ n6_; clear hb hbox hg; have hnb30 := NB352_353.out; have hnc30 := NB353_352.out; have hcz31_0 := bc0 BK352; have hcz31_1 := bc1 BK352; have hcz31_2 := bc2 BK352; have hcz31_3 := bc3 BK352; have hcz31_4 := bc4 BK352; have hfz31_0 := bf_ BK352 0; have hfz31_1 := bf_ BK352 1; have hfz31_2 := bf_ BK352 2; have hfz31_3 := bf_ BK352 3; have hfz31_4 := bf_ BK352 4; have hcz32_0 := bc0 BK353; have hcz32_1 := bc1 BK353; have hcz32_2 := bc2 BK353; have hcz32_3 := bc3 BK353; have hcz32_4 := bc4 BK353; have hfz32_0 := bf_ BK353 0; have hfz32_1 := bf_ BK353 1; have hfz32_2 := bf_ BK353 2; have hfz32_3 := bf_ BK353 3; have hfz32_4 := bf_ BK353 4))
    go_ret
    exact ⟨by first | rfl | (simp [*, errW_none, errW_some] <;> rfl), gwl_ [gb352, gb353] HB ⟨GE352, GE353, ⟨⟩⟩⟩
  rw [if_pos c3] at H
  have c3b0 : (a0_0 == a1_0) = true := beq_iff_eq.mpr c3
  have c3b1 : (a0_0 != a1_0) = false := bne_eq_false_iff_eq.mpr c3
  clear c3
  by_cases c4 : a0_1 = a1_1
  rotate_left
  · rw [if_neg c4] at H
    have c4b0 : (a0_1 == a1_1) = false := beq_eq_false_iff_ne.mpr c4
    have c4b1 : (a0_1 != a1_1) = true := bne_iff_ne.mpr c4
    obtain rfl := Option.some.inj H
    go_enter Try.func14, Try.ntmps14
    go_wp2_with (first | ((with_reducible refine gate_dst (N := 2) rfl ?_); refine box_event ?hg (N := 2) ?hd (cs := #[.int .i64 a0_0, .int .i64 a0_1, .int .i64 a0_2, .bool a0_3, .slice A0_4 l0_4.length c0_4]) (t := 24) ?hr ?_; (case hd => rfl); (case hg => rfl); (case hr => first | (go_simp; done) | (go_simp; rfl)); intro gb352 hg w23 hbox hb; have n0_ := bs_ HB hb; have n1_ := Aside0.mk (hbox); have n2_ := gz_ HB hg; have n3_ := gz_ HB hg; clear HB; have HB := n0_; have BK352 := n1_; have GW352 := n2_; have GE352 := n3_; clear n0_ n1_ n2_ n3_; clear hb hbox hg) | ((with_reducible refine gate_dst (N := 3) rfl ?_); refine box_event ?hg (N := 3) ?hd (cs := #[.int .i64 a1_0, .int .i64 a1_1, .int .i64 a1_2, .bool a1_3, .slice A1_4 l1_4.length c1_4]) (t := 24) ?hr ?_; (case hd => rfl); (case hg => rfl); (case hr => first | (go_simp; done) | (go_simp; rfl)); intro gb353 hg w24 hbox hb; have n0_ := bb_ BK352 hb; have n1_ := bl_ [gb352] HB ⟨GE352, ⟨⟩⟩ hb; have n2_ := Aside0.mk (hbox); have n3_ := gl_ [gb352] HB ⟨GE352, ⟨⟩⟩ hg; have n4_ := gl_ [gb352] HB ⟨GE352, ⟨⟩⟩ hg; have n5_ := gn_ BK352 hg; have n6_ := Aside0.mk ((by rw [hg]; exact Nat.ne_of_gt (blk_lt (g := gb352) (o := .cells #[.int .i64 a0_0, .int .i64 a0_1, .int .i64 a0_2, .bool a0_3, .slice A0_4 l0_4.length c0_4] 24 (0, 0)) (gb_ BK352)) : gb353 ≠ gb352)); clear BK352; clear HB; have BK352 := n0_; have HB := n1_; have BK353 := n2_; have GW353 := n3_; have GE353 := n4_; have NB352_353 := n5_; have NB353_352 := n6_; clear n0_ n1_ n2_ n3_ n4_ n5_ n6_; clear hb hbox hg; have hnb25 := NB352_353.out; have hnc25 := NB353_352.out; have hcz26_0 := bc0 BK352; have hcz26_1 := bc1 BK352; have hcz26_2 := bc2 BK352; have hcz26_3 := bc3 BK352; have hcz26_4 := bc4 BK352; have hfz26_0 := bf_ BK352 0; have hfz26_1 := bf_ BK352 1; have hfz26_2 := bf_ BK352 2; have hfz26_3 := bf_ BK352 3; have hfz26_4 := bf_ BK352 4; have hcz27_0 := bc0 BK353; have hcz27_1 := bc1 BK353; have hcz27_2 := bc2 BK353; have hcz27_3 := bc3 BK353; have hcz27_4 := bc4 BK353; have hfz27_0 := bf_ BK353 0; have hfz27_1 := bf_ BK353 1; have hfz27_2 := bf_ BK353 2; have hfz27_3 := bf_ BK353 3; have hfz27_4 := bf_ BK353 4))
    go_ret
    exact ⟨by first | rfl | (simp [*, errW_none, errW_some] <;> rfl), gwl_ [gb352, gb353] HB ⟨GE352, GE353, ⟨⟩⟩⟩
  rw [if_pos c4] at H
  have c4b0 : (a0_1 == a1_1) = true := beq_iff_eq.mpr c4
  have c4b1 : (a0_1 != a1_1) = false := bne_eq_false_iff_eq.mpr c4
  clear c4
  by_cases c5 : a0_2 = a1_2
  rotate_left
  · rw [if_neg c5] at H
    have c5b0 : (a0_2 == a1_2) = false := beq_eq_false_iff_ne.mpr c5
    have c5b1 : (a0_2 != a1_2) = true := bne_iff_ne.mpr c5
    obtain rfl := Option.some.inj H
    go_enter Try.func14, Try.ntmps14
    go_wp2_with (first | ((with_reducible refine gate_dst (N := 2) rfl ?_); refine box_event ?hg (N := 2) ?hd (cs := #[.int .i64 a0_0, .int .i64 a0_1, .int .i64 a0_2, .bool a0_3, .slice A0_4 l0_4.length c0_4]) (t := 24) ?hr ?_; (case hd => rfl); (case hg => rfl); (case hr => first | (go_simp; done) | (go_simp; rfl)); intro gb352 hg w18 hbox hb; have n0_ := bs_ HB hb; have n1_ := Aside0.mk (hbox); have n2_ := gz_ HB hg; have n3_ := gz_ HB hg; clear HB; have HB := n0_; have BK352 := n1_; have GW352 := n2_; have GE352 := n3_; clear n0_ n1_ n2_ n3_; clear hb hbox hg) | ((with_reducible refine gate_dst (N := 3) rfl ?_); refine box_event ?hg (N := 3) ?hd (cs := #[.int .i64 a1_0, .int .i64 a1_1, .int .i64 a1_2, .bool a1_3, .slice A1_4 l1_4.length c1_4]) (t := 24) ?hr ?_; (case hd => rfl); (case hg => rfl); (case hr => first | (go_simp; done) | (go_simp; rfl)); intro gb353 hg w19 hbox hb; have n0_ := bb_ BK352 hb; have n1_ := bl_ [gb352] HB ⟨GE352, ⟨⟩⟩ hb; have n2_ := Aside0.mk (hbox); have n3_ := gl_ [gb352] HB ⟨GE352, ⟨⟩⟩ hg; have n4_ := gl_ [gb352] HB ⟨GE352, ⟨⟩⟩ hg; have n5_ := gn_ BK352 hg; have n6_ := Aside0.mk ((by rw [hg]; exact Nat.ne_of_gt (blk_lt (g := gb352) (o := .cells #[.int .i64 a0_0, .int .i64 a0_1, .int .i64 a0_2, .bool a0_3, .slice A0_4 l0_4.length c0_4] 24 (0, 0)) (gb_ BK352)) : gb353 ≠ gb352)); clear BK352; clear HB; have BK352 := n0_; have HB := n1_; have BK353 := n2_; have GW353 := n3_; have GE353 := n4_; have NB352_353 := n5_; have NB353_352 := n6_; clear n0_ n1_ n2_ n3_ n4_ n5_ n6_; clear hb hbox hg; have hnb20 := NB352_353.out; have hnc20 := NB353_352.out; have hcz21_0 := bc0 BK352; have hcz21_1 := bc1 BK352; have hcz21_2 := bc2 BK352; have hcz21_3 := bc3 BK352; have hcz21_4 := bc4 BK352; have hfz21_0 := bf_ BK352 0; have hfz21_1 := bf_ BK352 1; have hfz21_2 := bf_ BK352 2; have hfz21_3 := bf_ BK352 3; have hfz21_4 := bf_ BK352 4; have hcz22_0 := bc0 BK353; have hcz22_1 := bc1 BK353; have hcz22_2 := bc2 BK353; have hcz22_3 := bc3 BK353; have hcz22_4 := bc4 BK353; have hfz22_0 := bf_ BK353 0; have hfz22_1 := bf_ BK353 1; have hfz22_2 := bf_ BK353 2; have hfz22_3 := bf_ BK353 3; have hfz22_4 := bf_ BK353 4))
    go_ret
    exact ⟨by first | rfl | (simp [*, errW_none, errW_some] <;> rfl), gwl_ [gb352, gb353] HB ⟨GE352, GE353, ⟨⟩⟩⟩
  rw [if_pos c5] at H
  have c5b0 : (a0_2 == a1_2) = true := beq_iff_eq.mpr c5
  have c5b1 : (a0_2 != a1_2) = false := bne_eq_false_iff_eq.mpr c5
  clear c5
  by_cases c6 : (a0_3 == a1_3) = true
  rotate_left
  · rw [if_neg c6] at H
    have c6b0 : (a0_3 == a1_3) = false := by simpa using c6
    (try (have c6b1 : decide (a0_3 = a1_3) = false := by simpa using c6))
    (try (have c6b2 : (a0_3 == a1_3) = false := by simpa using c6))
    (try (have c6b3 : ¬ (a0_3 = a1_3) := by simpa using c6))
    (try (have c6b4 : (a1_3) = !a0_3 := by have h_ := c6; revert h_; generalize a0_3 = u_; generalize a1_3 = v_; cases u_ <;> cases v_ <;> simp))
    clear c6
    obtain rfl := Option.some.inj H
    go_enter Try.func14, Try.ntmps14
    go_wp2_with (first | ((with_reducible refine gate_dst (N := 2) rfl ?_); refine box_event ?hg (N := 2) ?hd (cs := #[.int .i64 a0_0, .int .i64 a0_1, .int .i64 a0_2, .bool a0_3, .slice A0_4 l0_4.length c0_4]) (t := 24) ?hr ?_; (case hd => rfl); (case hg => rfl); (case hr => first | (go_simp; done) | (go_simp; rfl)); intro gb352 hg w13 hbox hb; have n0_ := bs_ HB hb; have n1_ := Aside0.mk (hbox); have n2_ := gz_ HB hg; have n3_ := gz_ HB hg; clear HB; have HB := n0_; have BK352 := n1_; have GW352 := n2_; have GE352 := n3_; clear n0_ n1_ n2_ n3_; clear hb hbox hg) | ((with_reducible refine gate_dst (N := 3) rfl ?_); refine box_event ?hg (N := 3) ?hd (cs := #[.int .i64 a1_0, .int .i64 a1_1, .int .i64 a1_2, .bool a1_3, .slice A1_4 l1_4.length c1_4]) (t := 24) ?hr ?_; (case hd => rfl); (case hg => rfl); (case hr => first | (go_simp; done) | (go_simp; rfl)); intro gb353 hg w14 hbox hb; have n0_ := bb_ BK352 hb; have n1_ := bl_ [gb352] HB ⟨GE352, ⟨⟩⟩ hb; have n2_ := Aside0.mk (hbox); have n3_ := gl_ [gb352] HB ⟨GE352, ⟨⟩⟩ hg; have n4_ := gl_ [gb352] HB ⟨GE352, ⟨⟩⟩ hg; have n5_ := gn_ BK352 hg; have n6_ := Aside0.mk ((by rw [hg]; exact Nat.ne_of_gt (blk_lt (g := gb352) (o := .cells #[.int .i64 a0_0, .int .i64 a0_1, .int .i64 a0_2, .bool a0_3, .slice A0_4 l0_4.length c0_4] 24 (0, 0)) (gb_ BK352)) : gb353 ≠ gb352)); clear BK352; clear HB; have BK352 := n0_; have HB := n1_; have BK353 := n2_; have GW353 := n3_; have GE353 := n4_; have NB352_353 := n5_; have NB353_352 := n6_; clear n0_ n1_ n2_ n3_ n4_ n5_ n6_; clear hb hbox hg; have hnb15 := NB352_353.out; have hnc15 := NB353_352.out; have hcz16_0 := bc0 BK352; have hcz16_1 := bc1 BK352; have hcz16_2 := bc2 BK352; have hcz16_3 := bc3 BK352; have hcz16_4 := bc4 BK352; have hfz16_0 := bf_ BK352 0; have hfz16_1 := bf_ BK352 1; have hfz16_2 := bf_ BK352 2; have hfz16_3 := bf_ BK352 3; have hfz16_4 := bf_ BK352 4; have hcz17_0 := bc0 BK353; have hcz17_1 := bc1 BK353; have hcz17_2 := bc2 BK353; have hcz17_3 := bc3 BK353; have hcz17_4 := bc4 BK353; have hfz17_0 := bf_ BK353 0; have hfz17_1 := bf_ BK353 1; have hfz17_2 := bf_ BK353 2; have hfz17_3 := bf_ BK353 3; have hfz17_4 := bf_ BK353 4))
    go_ret
    exact ⟨by first | rfl | (simp [*, errW_none, errW_some] <;> rfl), gwl_ [gb352, gb353] HB ⟨GE352, GE353, ⟨⟩⟩⟩
  rw [if_pos c6] at H
  have c6b0 : (a0_3 == a1_3) = true := c6
  (try (have c6b1 : decide (a0_3 = a1_3) = true := by simpa using c6))
  (try (have c6b2 : (a0_3 == a1_3) = true := by simpa using c6))
  (try (have c6b3 : (a1_3) = a0_3 := by have h_ := c6; revert h_; generalize a0_3 = u_; generalize a1_3 = v_; cases u_ <;> cases v_ <;> simp))
  clear c6
  replace H := Option.bind_eq_some_iff.mp H
  obtain ⟨t354, A70, H⟩ := H
  try dsimp only at H
  have A7 := Aside0.mk A70
  clear A70
  obtain rfl := Option.some.inj H
  go_enter Try.func14, Try.ntmps14
  go_wp2_with (first | ((with_reducible refine gate_dst (N := 2) rfl ?_); refine box_event ?hg (N := 2) ?hd (cs := #[.int .i64 a0_0, .int .i64 a0_1, .int .i64 a0_2, .bool a0_3, .slice A0_4 l0_4.length c0_4]) (t := 24) ?hr ?_; (case hd => rfl); (case hg => rfl); (case hr => first | (go_simp; done) | (go_simp; rfl)); intro gb352 hg w8 hbox hb; have n0_ := bs_ HB hb; have n1_ := Aside0.mk (hbox); have n2_ := gz_ HB hg; have n3_ := gz_ HB hg; clear HB; have HB := n0_; have BK352 := n1_; have GW352 := n2_; have GE352 := n3_; clear n0_ n1_ n2_ n3_; clear hb hbox hg) | ((with_reducible refine gate_dst (N := 3) rfl ?_); refine box_event ?hg (N := 3) ?hd (cs := #[.int .i64 a1_0, .int .i64 a1_1, .int .i64 a1_2, .bool a1_3, .slice A1_4 l1_4.length c1_4]) (t := 24) ?hr ?_; (case hd => rfl); (case hg => rfl); (case hr => first | (go_simp; done) | (go_simp; rfl)); intro gb353 hg w9 hbox hb; have n0_ := bb_ BK352 hb; have n1_ := bl_ [gb352] HB ⟨GE352, ⟨⟩⟩ hb; have n2_ := Aside0.mk (hbox); have n3_ := gl_ [gb352] HB ⟨GE352, ⟨⟩⟩ hg; have n4_ := gl_ [gb352] HB ⟨GE352, ⟨⟩⟩ hg; have n5_ := gn_ BK352 hg; have n6_ := Aside0.mk ((by rw [hg]; exact Nat.ne_of_gt (blk_lt (g := gb352) (o := .cells #[.int .i64 a0_0, .int .i64 a0_1, .int .i64 a0_2, .bool a0_3, .slice A0_4 l0_4.length c0_4] 24 (0, 0)) (gb_ BK352)) : gb353 ≠ gb352)); clear BK352; clear HB; have BK352 := n0_; have HB := n1_; have BK353 := n2_; have GW353 := n3_; have GE353 := n4_; have NB352_353 := n5_; have NB353_352 := n6_; clear n0_ n1_ n2_ n3_ n4_ n5_ n6_; clear hb hbox hg; have hnb10 := NB352_353.out; have hnc10 := NB353_352.out; have hcz11_0 := bc0 BK352; have hcz11_1 := bc1 BK352; have hcz11_2 := bc2 BK352; have hcz11_3 := bc3 BK352; have hcz11_4 := bc4 BK352; have hfz11_0 := bf_ BK352 0; have hfz11_1 := bf_ BK352 1; have hfz11_2 := bf_ BK352 2; have hfz11_3 := bf_ BK352 3; have hfz11_4 := bf_ BK352 4; have hcz12_0 := bc0 BK353; have hcz12_1 := bc1 BK353; have hcz12_2 := bc2 BK353; have hcz12_3 := bc3 BK353; have hcz12_4 := bc4 BK353; have hfz12_0 := bf_ BK353 0; have hfz12_1 := bf_ BK353 1; have hfz12_2 := bf_ BK353 2; have hfz12_3 := bf_ BK353 3; have hfz12_4 := bf_ BK353 4) | (go_at_call 30; (with_reducible refine (ravelinref12_Same.calls k _ _ l0_4 _ _ l1_4 t354 _ ?side1 ?side2 ?side3 ?side4 A7.out).mono ?_); (case side1 => exact cb_ HR0_4 HB); (case side2 => exact HC0_4.out); (case side3 => exact cb_ HR1_4 HB); (case side4 => exact HC1_4.out); rintro e w' ⟨rfl, ⟨nd, rfl⟩⟩))
  go_ret
  exact ⟨by first | rfl | (simp [*, errW_none, errW_some] <;> rfl), gwl_ [gb352, gb353] HB ⟨GE352, GE353, ⟨⟩⟩⟩

end Go.Proofs.Ytkmbgihfdfgmgaa.P
