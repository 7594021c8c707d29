-- Printed by a changed copy of the kit's printer (wip/tools/ext.py); labels and more
import Derived.Test.YtmbedgopceigaaaQShort
import Derived.Test.YtmbedgopceigaaaM0
namespace Go.Proofs.Ytmbedgopceigaaa.P
open Go.RowKit Go.Proofs.YtmbedgopceigaaaW.PrintWords Go.Proofs.YtmbedgopceigaaaW.PrintLast Go.Proofs.YtmbedgopceigaaaW.PrintMore
attribute [local go_sem] max2_int min2_int max_two min_two max_three min_three max_four min_four   -- for this text's walks alone
attribute [local go_sem high] string_leq string_geq string_gtr
set_option linter.unusedVariables false
set_option linter.unusedSimpArgs false

abbrev mkM9_0 : Array Bool := #[false, false, false, false, false, false, false, false, false, false]
abbrev mkM9_1 : Array Bool := #[true, false, false, false, false, false, false, false, false, false]
abbrev mkM9_2 : Array Bool := #[true, true, false, false, false, false, false, false, false, false]
abbrev mkM9_3 : Array Bool := #[true, true, true, false, false, false, false, false, false, false]
abbrev mkM9_4 : Array Bool := #[true, true, true, true, false, false, false, false, false, false]
abbrev mkM9_5 : Array Bool := #[true, true, true, true, true, false, false, false, false, false]
abbrev mkM9_6 : Array Bool := #[true, true, true, true, true, true, false, false, false, false]
abbrev mkM9_7 : Array Bool := #[true, true, true, true, true, true, true, false, false, false]
abbrev mkM9_8 : Array Bool := #[true, true, true, true, true, true, true, true, false, false]
abbrev mkM9_9 : Array Bool := #[true, true, true, true, true, true, true, true, true, false]
abbrev mkM9_10 : Array Bool := #[true, true, true, true, true, true, true, true, true, true]
abbrev mkM9_11 : Array Bool := #[true, true, true, false, true, false, false, false, false, false]
abbrev mkM9_12 : Array Bool := #[true, true, true, false, true, true, false, false, false, false]
abbrev mkM9_13 : Array Bool := #[true, true, true, false, true, true, true, false, false, false]
/-! ### ravelinref9_gone: function 35 -/
def ravelinref9_gone.l0 : Nat → List Int → Int → Int → Option (Bool)
  | 0, _, _, _ => none
  | k + 1, x0, x1, x5 => if x5 < (x0.length : Int) then (if 0 ≤ x5 then (if (rd x0 x5) = x1 then (some true) else (ravelinref9_gone.l0 k x0 x1 (wrap64 (x5 + 1)))) else (none)) else (some false)
def ravelinref9_gone.f (k : Nat) (l0 : List Int) (a1 : Int) : Option (Bool) := ravelinref9_gone.l0 k l0 a1 0
theorem ravelinref9_gone.mono_l : ∀ k, (∀ y0 y1 y2, LeO (ravelinref9_gone.l0 k y0 y1 y2) (ravelinref9_gone.l0 (k + 1) y0 y1 y2))
  | 0 => fun _ _ _ r h => by simp [ravelinref9_gone.l0] at h
  | k + 1 => by
    have ih0 := ravelinref9_gone.mono_l k
    · intro y0 y1 y2
      unfold ravelinref9_gone.l0
      repeat' first
      | (with_reducible exact ih0 _ _ _)
      | (with_reducible exact LeO.refl _)
      | (with_reducible exact LeO.none _)
      | (with_reducible refine LeO.ite ?_ ?_)
      | (with_reducible refine LeO.bind ?_ (fun _ => ?_))
      | exact ih0 _ _ _
      | exact LeO.none _
      | refine LeO.ite ?_ ?_
      | refine LeO.bind ?_ (fun _ => ?_)
theorem ravelinref9_gone.mono : ∀ a0 a1 k, LeO (ravelinref9_gone.f k a0 a1) (ravelinref9_gone.f (k + 1) a0 a1) := by
  intro a0 a1 k
  have ih0 := ravelinref9_gone.mono_l k
  unfold ravelinref9_gone.f
  repeat' first
      | (with_reducible exact ih0 _ _ _)
      | (with_reducible exact LeO.refl _)
      | (with_reducible exact LeO.none _)
      | (with_reducible refine LeO.ite ?_ ?_)
      | (with_reducible refine LeO.bind ?_ (fun _ => ?_))
      | exact ih0 _ _ _
      | exact LeO.none _
      | refine LeO.ite ?_ ?_
      | refine LeO.bind ?_ (fun _ => ?_)
set_option maxHeartbeats 8000000 in
set_option maxRecDepth 100000 in
theorem ravelinref9_gone.calls (k : Nat) (A0 : Option Addr) (c0 : Nat) (l0 : List Int) (a1 : Int) (r : Bool) (w : World) (hr0 : Kd.C (Kd.int .i64) w A0 l0.length l0) (hc0 : l0.length ≤ c0) (h : ravelinref9_gone.f k l0 a1 = some r) :
    Calls Try.prog 35 #[.slice A0 l0.length c0, .int .i64 a1] w fun e w' => e = .returned (.bool r) ∧ Drawn0 w w' := by
  have HR0 := Aside0.mk hr0
  have HC0 := Aside0.mk hc0
  clear hr0 hc0
  have H : (ravelinref9_gone.l0 k l0 a1 0) = some r := h
  clear h
  have H' := Aside0.mk H
  clear H
  go_enter Try.func35, Try.ntmps35
  go_wp2
  go_loopg [5] k (fun kq v5 w' => ∃ (x5_1 : Int), v5 = .int .i64 x5_1 ∧ Aside0 (ravelinref9_gone.l0 kq l0 a1 x5_1 = some r) ∧ Aside0 (kq ≤ k) ∧ Drawn0 w w')
  case atStart => exact ⟨(0), (by first | rfl | (simp; done) | (simp [*]; done)), H', ⟨Nat.le_refl _⟩, by repeat (first | exact Drawn0.refl _ | apply Drawn0.step)⟩
  clear H'
  try clear p2
  obtain ⟨x5_1, rfl, HA, HK1, ⟨m1, rfl⟩⟩ := hrel
  cases gk with
  | zero => exact absurd HA.out (by simp [ravelinref9_gone.l0])
  | succ k1 => ?_
  have H := HA.out
  clear HA
  simp only [ravelinref9_gone.l0] at H
  by_cases c3 : x5_1 < (l0.length : Int)
  rotate_left
  · rw [if_neg c3] at H
    have c3b0 : decide (x5_1 < (l0.length : Int)) = false := decide_eq_false c3
    clear c3
    obtain rfl := Option.some.inj H
    go_wp2
    go_ret
    exact ⟨by first | rfl | (simp; done) | (simp [*]; done), by repeat (first | exact Drawn0.refl _ | apply Drawn0.step)⟩
  rw [if_pos c3] at H
  have c3b0 : decide (x5_1 < (l0.length : Int)) = true := decide_eq_true c3
  clear c3
  by_cases c4 : 0 ≤ x5_1
  rotate_left
  · rw [if_neg c4] at H
    exact absurd H (by simp)
  rw [if_pos c4] at H
  have c4b0 : decide (0 ≤ x5_1) = true := decide_eq_true c4
  clear c4
  by_cases c5 : (rd l0 x5_1) = a1
  · rw [if_pos c5] at H
    have c5b0 : ((rd l0 x5_1) == a1) = true := beq_iff_eq.mpr c5
    have c5b1 : ((rd l0 x5_1) != a1) = false := bne_eq_false_iff_eq.mpr c5
    clear c5
    obtain rfl := Option.some.inj H
    have p260 : 0 ≤ (x5_1 : Int) := of_decide_eq_true (by assumption)
    have q260 : x5_1 < (l0.length : Int) := of_decide_eq_true (by assumption)
    obtain ⟨ad260, e260, hx260_0⟩ := Kd.at_int HR0.out x5_1 p260 q260
    cases e260
    replace p260 := eq_true p260
    replace q260 := eq_true q260
    go_wp2
    go_ret
    exact ⟨by first | rfl | (simp; done) | (simp [*]; done), by repeat (first | exact Drawn0.refl _ | apply Drawn0.step)⟩
  rw [if_neg c5] at H
  have c5b0 : ((rd l0 x5_1) == a1) = false := beq_eq_false_iff_ne.mpr c5
  have c5b1 : ((rd l0 x5_1) != a1) = true := bne_iff_ne.mpr c5
  have H' := Aside0.mk H
  clear H
  have p260 : 0 ≤ (x5_1 : Int) := of_decide_eq_true (by assumption)
  have q260 : x5_1 < (l0.length : Int) := of_decide_eq_true (by assumption)
  obtain ⟨ad260, e260, hx260_0⟩ := Kd.at_int HR0.out x5_1 p260 q260
  cases e260
  replace p260 := eq_true p260
  replace q260 := eq_true q260
  go_wp2
  go_roundg k1
  case measure => have := HK1.out; omega
  case rel => exact ⟨(wrap64 (x5_1 + 1)), (by first | rfl | (simp; done) | (simp [*]; done)), H', ⟨by have := HK1.out; omega⟩, by repeat (first | exact Drawn0.refl _ | apply Drawn0.step)⟩

/-! ### ravelinref9_before: function 53 -/
def ravelinref9_before.f (a0_0 : Int) (a0_1 : Int) (a0_2 : ByteArray) (a0_3 : ByteArray) (a0_4 : Int) (a1_0 : Int) (a1_1 : Int) (a1_2 : ByteArray) (a1_3 : ByteArray) (a1_4 : Int) : Option (Bool) := if a0_1 = a1_1 then (if a0_1 = 0 then (some (decide (a0_0 > a1_0))) else (some (Op.bytesLess a0_2.toList a1_2.toList))) else (some (decide (a0_1 < a1_1)))
set_option maxHeartbeats 8000000 in
set_option maxRecDepth 100000 in
theorem ravelinref9_before.calls (a0_0 : Int) (a0_1 : Int) (a0_2 : ByteArray) (a0_3 : ByteArray) (a0_4 : Int) (a1_0 : Int) (a1_1 : Int) (a1_2 : ByteArray) (a1_3 : ByteArray) (a1_4 : Int) (r : Bool) (w : World) (h : ravelinref9_before.f a0_0 a0_1 a0_2 a0_3 a0_4 a1_0 a1_1 a1_2 a1_3 a1_4 = some r) :
    Calls Try.prog 53 #[.agg #[.int .i64 a0_0, .int .i64 a0_1, .string a0_2, .string a0_3, .int .i64 a0_4], .agg #[.int .i64 a1_0, .int .i64 a1_1, .string a1_2, .string a1_3, .int .i64 a1_4]] w fun e w' => e = .returned (.bool r) ∧ Below w.heap.size w w' := by
  have hu32 := Try.underlying32
  have HB := Aside0.mk (Below.refl w.heap.size w)
  have H : (if a0_1 = a1_1 then (if a0_1 = 0 then (some (decide (a0_0 > a1_0))) else (some (Op.bytesLess a0_2.toList a1_2.toList))) else (some (decide (a0_1 < a1_1)))) = some r := h
  clear h
  by_cases c3 : a0_1 = a1_1
  rotate_left
  · rw [if_neg c3] at H
    have c3b0 : (a0_1 == a1_1) = false := beq_eq_false_iff_ne.mpr c3
    have c3b1 : (a0_1 != a1_1) = true := bne_iff_ne.mpr c3
    obtain rfl := Option.some.inj H
    go_enter Try.func53, Try.ntmps53
    go_wp2_with (first | ((with_reducible refine gate_dst (N := 2) rfl ?_); refine box_event ?hg (N := 2) ?hd (cs := #[.int .i64 a0_0, .int .i64 a0_1, .string a0_2, .string a0_3, .int .i64 a0_4]) (t := 32) ?hr ?_; (case hd => rfl); (case hg => rfl); (case hr => first | (go_simp; done) | (go_simp; rfl)); intro gb261 hg w15 hbox hb; have n0_ := bs_ HB hb; have n1_ := Aside0.mk (hbox); have n2_ := gz_ HB hg; have n3_ := gz_ HB hg; clear HB; have HB := n0_; have BK261 := n1_; have GW261 := n2_; have GE261 := n3_; clear n0_ n1_ n2_ n3_; clear hb hbox hg) | ((with_reducible refine gate_dst (N := 3) rfl ?_); refine box_event ?hg (N := 3) ?hd (cs := #[.int .i64 a1_0, .int .i64 a1_1, .string a1_2, .string a1_3, .int .i64 a1_4]) (t := 32) ?hr ?_; (case hd => rfl); (case hg => rfl); (case hr => first | (go_simp; done) | (go_simp; rfl)); intro gb262 hg w16 hbox hb; have n0_ := bb_ BK261 hb; have n1_ := bl_ [gb261] HB ⟨GE261, ⟨⟩⟩ hb; have n2_ := Aside0.mk (hbox); have n3_ := gl_ [gb261] HB ⟨GE261, ⟨⟩⟩ hg; have n4_ := gl_ [gb261] HB ⟨GE261, ⟨⟩⟩ hg; have n5_ := gn_ BK261 hg; have n6_ := Aside0.mk ((by rw [hg]; exact Nat.ne_of_gt (blk_lt (g := gb261) (o := .cells #[.int .i64 a0_0, .int .i64 a0_1, .string a0_2, .string a0_3, .int .i64 a0_4] 32 (0, 0)) (gb_ BK261)) : gb262 ≠ gb261)); clear BK261; clear HB; have BK261 := n0_; have HB := n1_; have BK262 := n2_; have GW262 := n3_; have GE262 := n4_; have NB261_262 := n5_; have NB262_261 := n6_; clear n0_ n1_ n2_ n3_ n4_ n5_ n6_; clear hb hbox hg; have hnb17 := NB261_262.out; have hnc17 := NB262_261.out; have hcz18_0 := bc0 BK261; have hcz18_1 := bc1 BK261; have hcz18_2 := bc2 BK261; have hcz18_3 := bc3 BK261; have hcz18_4 := bc4 BK261; have hfz18_0 := bf_ BK261 0; have hfz18_1 := bf_ BK261 1; have hfz18_2 := bf_ BK261 2; have hfz18_3 := bf_ BK261 3; have hfz18_4 := bf_ BK261 4; have hcz19_0 := bc0 BK262; have hcz19_1 := bc1 BK262; have hcz19_2 := bc2 BK262; have hcz19_3 := bc3 BK262; have hcz19_4 := bc4 BK262; have hfz19_0 := bf_ BK262 0; have hfz19_1 := bf_ BK262 1; have hfz19_2 := bf_ BK262 2; have hfz19_3 := bf_ BK262 3; have hfz19_4 := bf_ BK262 4))
    go_ret
    exact ⟨by first | rfl | (simp [*, errW_none, errW_some] <;> rfl), gwl_ [gb261, gb262] HB ⟨GE261, GE262, ⟨⟩⟩⟩
  rw [if_pos c3] at H
  have c3b0 : (a0_1 == a1_1) = true := beq_iff_eq.mpr c3
  have c3b1 : (a0_1 != a1_1) = false := bne_eq_false_iff_eq.mpr c3
  clear c3
  by_cases c4 : a0_1 = 0
  · rw [if_pos c4] at H
    have c4b0 : (a0_1 == 0) = true := beq_iff_eq.mpr c4
    have c4b1 : (a0_1 != 0) = false := bne_eq_false_iff_eq.mpr c4
    clear c4
    obtain rfl := Option.some.inj H
    go_enter Try.func53, Try.ntmps53
    go_wp2_with (first | ((with_reducible refine gate_dst (N := 2) rfl ?_); refine box_event ?hg (N := 2) ?hd (cs := #[.int .i64 a0_0, .int .i64 a0_1, .string a0_2, .string a0_3, .int .i64 a0_4]) (t := 32) ?hr ?_; (case hd => rfl); (case hg => rfl); (case hr => first | (go_simp; done) | (go_simp; rfl)); intro gb261 hg w5 hbox hb; have n0_ := bs_ HB hb; have n1_ := Aside0.mk (hbox); have n2_ := gz_ HB hg; have n3_ := gz_ HB hg; clear HB; have HB := n0_; have BK261 := n1_; have GW261 := n2_; have GE261 := n3_; clear n0_ n1_ n2_ n3_; clear hb hbox hg) | ((with_reducible refine gate_dst (N := 3) rfl ?_); refine box_event ?hg (N := 3) ?hd (cs := #[.int .i64 a1_0, .int .i64 a1_1, .string a1_2, .string a1_3, .int .i64 a1_4]) (t := 32) ?hr ?_; (case hd => rfl); (case hg => rfl); (case hr => first | (go_simp; done) | (go_simp; rfl)); intro gb262 hg w6 hbox hb; have n0_ := bb_ BK261 hb; have n1_ := bl_ [gb261] HB ⟨GE261, ⟨⟩⟩ hb; have n2_ := Aside0.mk (hbox); have n3_ := gl_ [gb261] HB ⟨GE261, ⟨⟩⟩ hg; have n4_ := gl_ [gb261] HB ⟨GE261, ⟨⟩⟩ hg; have n5_ := gn_ BK261 hg; have n6_ := Aside0.mk ((by rw [hg]; exact Nat.ne_of_gt (blk_lt (g := gb261) (o := .cells #[.int .i64 a0_0, .int .i64 a0_1, .string a0_2, .string a0_3, .int .i64 a0_4] 32 (0, 0)) (gb_ BK261)) : gb262 ≠ gb261)); clear BK261; clear HB; have BK261 := n0_; have HB := n1_; have BK262 := n2_; have GW262 := n3_; have GE262 := n4_; have NB261_262 := n5_; have NB262_261 := n6_; clear n0_ n1_ n2_ n3_ n4_ n5_ n6_; clear hb hbox hg; have hnb7 := NB261_262.out; have hnc7 := NB262_261.out; have hcz8_0 := bc0 BK261; have hcz8_1 := bc1 BK261; have hcz8_2 := bc2 BK261; have hcz8_3 := bc3 BK261; have hcz8_4 := bc4 BK261; have hfz8_0 := bf_ BK261 0; have hfz8_1 := bf_ BK261 1; have hfz8_2 := bf_ BK261 2; have hfz8_3 := bf_ BK261 3; have hfz8_4 := bf_ BK261 4; have hcz9_0 := bc0 BK262; have hcz9_1 := bc1 BK262; have hcz9_2 := bc2 BK262; have hcz9_3 := bc3 BK262; have hcz9_4 := bc4 BK262; have hfz9_0 := bf_ BK262 0; have hfz9_1 := bf_ BK262 1; have hfz9_2 := bf_ BK262 2; have hfz9_3 := bf_ BK262 3; have hfz9_4 := bf_ BK262 4))
    go_ret
    exact ⟨by first | rfl | (simp [*, errW_none, errW_some] <;> rfl), gwl_ [gb261, gb262] HB ⟨GE261, GE262, ⟨⟩⟩⟩
  rw [if_neg c4] at H
  have c4b0 : (a0_1 == 0) = false := beq_eq_false_iff_ne.mpr c4
  have c4b1 : (a0_1 != 0) = true := bne_iff_ne.mpr c4
  obtain rfl := Option.some.inj H
  go_enter Try.func53, Try.ntmps53
  go_wp2_with (first | ((with_reducible refine gate_dst (N := 2) rfl ?_); refine box_event ?hg (N := 2) ?hd (cs := #[.int .i64 a0_0, .int .i64 a0_1, .string a0_2, .string a0_3, .int .i64 a0_4]) (t := 32) ?hr ?_; (case hd => rfl); (case hg => rfl); (case hr => first | (go_simp; done) | (go_simp; rfl)); intro gb261 hg w10 hbox hb; have n0_ := bs_ HB hb; have n1_ := Aside0.mk (hbox); have n2_ := gz_ HB hg; have n3_ := gz_ HB hg; clear HB; have HB := n0_; have BK261 := n1_; have GW261 := n2_; have GE261 := n3_; clear n0_ n1_ n2_ n3_; clear hb hbox hg) | ((with_reducible refine gate_dst (N := 3) rfl ?_); refine box_event ?hg (N := 3) ?hd (cs := #[.int .i64 a1_0, .int .i64 a1_1, .string a1_2, .string a1_3, .int .i64 a1_4]) (t := 32) ?hr ?_; (case hd => rfl); (case hg => rfl); (case hr => first | (go_simp; done) | (go_simp; rfl)); intro gb262 hg w11 hbox hb; have n0_ := bb_ BK261 hb; have n1_ := bl_ [gb261] HB ⟨GE261, ⟨⟩⟩ hb; have n2_ := Aside0.mk (hbox); have n3_ := gl_ [gb261] HB ⟨GE261, ⟨⟩⟩ hg; have n4_ := gl_ [gb261] HB ⟨GE261, ⟨⟩⟩ hg; have n5_ := gn_ BK261 hg; have n6_ := Aside0.mk ((by rw [hg]; exact Nat.ne_of_gt (blk_lt (g := gb261) (o := .cells #[.int .i64 a0_0, .int .i64 a0_1, .string a0_2, .string a0_3, .int .i64 a0_4] 32 (0, 0)) (gb_ BK261)) : gb262 ≠ gb261)); clear BK261; clear HB; have BK261 := n0_; have HB := n1_; have BK262 := n2_; have GW262 := n3_; have GE262 := n4_; have NB261_262 := n5_; have NB262_261 := n6_; clear n0_ n1_ n2_ n3_ n4_ n5_ n6_; clear hb hbox hg; have hnb12 := NB261_262.out; have hnc12 := NB262_261.out; have hcz13_0 := bc0 BK261; have hcz13_1 := bc1 BK261; have hcz13_2 := bc2 BK261; have hcz13_3 := bc3 BK261; have hcz13_4 := bc4 BK261; have hfz13_0 := bf_ BK261 0; have hfz13_1 := bf_ BK261 1; have hfz13_2 := bf_ BK261 2; have hfz13_3 := bf_ BK261 3; have hfz13_4 := bf_ BK261 4; have hcz14_0 := bc0 BK262; have hcz14_1 := bc1 BK262; have hcz14_2 := bc2 BK262; have hcz14_3 := bc3 BK262; have hcz14_4 := bc4 BK262; have hfz14_0 := bf_ BK262 0; have hfz14_1 := bf_ BK262 1; have hfz14_2 := bf_ BK262 2; have hfz14_3 := bf_ BK262 3; have hfz14_4 := bf_ BK262 4))
  go_ret
  exact ⟨by first | rfl | (simp [*, errW_none, errW_some] <;> rfl), gwl_ [gb261, gb262] HB ⟨GE261, GE262, ⟨⟩⟩⟩

/-! ### ravelinref9_put: function 36 -/
def ravelinref9_put.l0 : Nat → List (S32) → List (S32) → Bool → Int → Int → Int → ByteArray → ByteArray → Int → Option ((List (S32)))
  | 0, _, _, _, _, _, _, _, _, _ => none
  | k + 1, x0, x5, x6, x7, x264000, x264001, x264002, x264003, x264004 => if x7 < (x0.length : Int) then (if x6 = true then (if 0 ≤ x7 then (if x5.length < 2513169434916 then (ravelinref9_put.l0 k x0 (x5 ++ [(⟨(rd_T32 x0 x7).f0, (rd_T32 x0 x7).f1, (rd_T32 x0 x7).f2, (rd_T32 x0 x7).f3, (rd_T32 x0 x7).f4⟩ : S32)]) x6 (wrap64 (x7 + 1)) x264000 x264001 x264002 x264003 x264004) else (none)) else (none)) else (if 0 ≤ x7 then ((ravelinref9_before.f x264000 x264001 x264002 x264003 x264004 ((rd_T32 x0 x7).f0) ((rd_T32 x0 x7).f1) ((rd_T32 x0 x7).f2) ((rd_T32 x0 x7).f3) ((rd_T32 x0 x7).f4)).bind fun t269 => (if t269 = true then (if x5.length < 2513169434916 then ((some (x5 ++ [(⟨x264000, x264001, x264002, x264003, x264004⟩ : S32)] : List (S32))).bind fun y270 => (if y270.length < 2513169434916 then (ravelinref9_put.l0 k x0 (y270 ++ [(⟨(rd_T32 x0 x7).f0, (rd_T32 x0 x7).f1, (rd_T32 x0 x7).f2, (rd_T32 x0 x7).f3, (rd_T32 x0 x7).f4⟩ : S32)]) true (wrap64 (x7 + 1)) x264000 x264001 x264002 x264003 x264004) else (none))) else (none)) else (if x5.length < 2513169434916 then (ravelinref9_put.l0 k x0 (x5 ++ [(⟨(rd_T32 x0 x7).f0, (rd_T32 x0 x7).f1, (rd_T32 x0 x7).f2, (rd_T32 x0 x7).f3, (rd_T32 x0 x7).f4⟩ : S32)]) x6 (wrap64 (x7 + 1)) x264000 x264001 x264002 x264003 x264004) else (none)))) else (none))) else (if x6 = true then (some x5) else (if x5.length < 2513169434916 then (some (x5 ++ [(⟨x264000, x264001, x264002, x264003, x264004⟩ : S32)])) else (none)))
def ravelinref9_put.f (k : Nat) (l0 : List (S32)) (a1_0 : Int) (a1_1 : Int) (a1_2 : ByteArray) (a1_3 : ByteArray) (a1_4 : Int) : Option ((List (S32))) := ravelinref9_put.l0 k l0 ([] : List (S32)) false 0 a1_0 a1_1 a1_2 a1_3 a1_4
theorem ravelinref9_put.mono_l : ∀ k, (∀ y0 y1 y2 y3 y4 y5 y6 y7 y8, LeO (ravelinref9_put.l0 k y0 y1 y2 y3 y4 y5 y6 y7 y8) (ravelinref9_put.l0 (k + 1) y0 y1 y2 y3 y4 y5 y6 y7 y8))
  | 0 => fun _ _ _ _ _ _ _ _ _ r h => by simp [ravelinref9_put.l0] at h
  | k + 1 => by
    have ih0 := ravelinref9_put.mono_l k
    · intro y0 y1 y2 y3 y4 y5 y6 y7 y8
      unfold ravelinref9_put.l0
      repeat' first
      | (with_reducible exact ih0 _ _ _ _ _ _ _ _ _)
      | (with_reducible exact LeO.refl _)
      | (with_reducible exact LeO.none _)
      | (with_reducible refine LeO.ite ?_ ?_)
      | (with_reducible refine LeO.bind ?_ (fun _ => ?_))
      | exact ih0 _ _ _ _ _ _ _ _ _
      | exact LeO.none _
      | refine LeO.ite ?_ ?_
      | refine LeO.bind ?_ (fun _ => ?_)
theorem ravelinref9_put.mono : ∀ a0 a1 a2 a3 a4 a5 k, LeO (ravelinref9_put.f k a0 a1 a2 a3 a4 a5) (ravelinref9_put.f (k + 1) a0 a1 a2 a3 a4 a5) := by
  intro a0 a1 a2 a3 a4 a5 k
  have ih0 := ravelinref9_put.mono_l k
  unfold ravelinref9_put.f
  repeat' first
      | (with_reducible exact ih0 _ _ _ _ _ _ _ _ _)
      | (with_reducible exact LeO.refl _)
      | (with_reducible exact LeO.none _)
      | (with_reducible refine LeO.ite ?_ ?_)
      | (with_reducible refine LeO.bind ?_ (fun _ => ?_))
      | exact ih0 _ _ _ _ _ _ _ _ _
      | exact LeO.none _
      | refine LeO.ite ?_ ?_
      | refine LeO.bind ?_ (fun _ => ?_)
def ravelinref9_put.T6 : Bool × List (List Nat × List Nat) := (true, [([], []), ([0], [0]), ([1], [1]), ([2], [2]), ([2], [2]), ([2], [2]), ([4, 5, 2], [2, 4, 5]), ([6, 2], [2, 6]), ([3, 7, 2, 2], [2, 3, 7]), ([2, 8], [2, 8])])
def ravelinref9_put.B6 : List Nat := [0, 1, 3, 7, 7, 7, 55, 119, 255, 511]
theorem ravelinref9_put.tab6 : rtab .any (opsOf Try.f36 6) = ravelinref9_put.T6 := by kernel_rfl
theorem ravelinref9_put.bits6 : waitsOk ravelinref9_put.T6.2 ravelinref9_put.B6 = true := by kernel_rfl
set_option maxHeartbeats 8000000 in
set_option maxRecDepth 100000 in
theorem ravelinref9_put.calls (k : Nat) (A0 : Option Addr) (c0 : Nat) (l0 : List (S32)) (a1_0 : Int) (a1_1 : Int) (a1_2 : ByteArray) (a1_3 : ByteArray) (a1_4 : Int) (r : List (S32)) (w : World) (hr0 : Kd.C k32 w A0 l0.length l0) (hc0 : l0.length ≤ c0) (h : ravelinref9_put.f k l0 a1_0 a1_1 a1_2 a1_3 a1_4 = some r) :
    Calls Try.prog 36 #[.slice A0 l0.length c0, .agg #[.int .i64 a1_0, .int .i64 a1_1, .string a1_2, .string a1_3, .int .i64 a1_4]] w fun e w' => ∃ v0_ : Value, e = .returned (v0_) ∧ Kd.R k32 32 w' w.heap.size (fun _ => True) v0_ r ∧ Below w.heap.size w w' := by
  have hu32 := Try.underlying32
  have HR0 := Aside0.mk hr0
  have HC0 := Aside0.mk hc0
  clear hr0 hc0
  have HB := Aside0.mk (Below.refl w.heap.size w)
  have H : (ravelinref9_put.l0 k l0 ([] : List (S32)) false 0 a1_0 a1_1 a1_2 a1_3 a1_4) = some r := h
  clear h
  have H' := Aside0.mk H
  clear H
  go_enter Try.func36, Try.ntmps36
  go_wp2_with (first | ((with_reducible refine gate_dst (N := 3) rfl ?_); refine box_event ?hg (N := 3) ?hd (cs := #[.int .i64 a1_0, .int .i64 a1_1, .string a1_2, .string a1_3, .int .i64 a1_4]) (t := 32) ?hr ?_; (case hd => rfl); (case hg => rfl); (case hr => first | (go_simp; done) | (go_simp; rfl)); intro gb263 hg w3 hbox hb; have n0_ := bs_ HB hb; have n1_ := Aside0.mk (hbox); have n2_ := gz_ HB hg; have n3_ := gz_ HB hg; clear HB; have HB := n0_; have BK263 := n1_; have GW263 := n2_; have GE263 := n3_; clear n0_ n1_ n2_ n3_; clear hb hbox hg))
  go_loopg [5, 6, 7] k (fun kq v5 v6 v7 w' => ∃ (x5_1 : List (S32)) (x6_1 : Bool) (x7_1 : Int), v6 = .bool x6_1 ∧ v7 = .int .i64 x7_1 ∧ Aside0 (ravelinref9_put.l0 kq l0 x5_1 x6_1 x7_1 a1_0 a1_1 a1_2 a1_3 a1_4 = some r) ∧ Aside0 (kq ≤ k) ∧ Aside0 (Kd.R k32 32 w' w.heap.size (fun k_ => k_ ≠ gb263) v5 x5_1) ∧ Aside0 (w'.heap[gb263]? = some (.cells #[.int .i64 a1_0, .int .i64 a1_1, .string a1_2, .string a1_3, .int .i64 a1_4] 32 (0, 0))) ∧ Aside0 (Below w.heap.size w w'))
  case atStart => exact ⟨(([] : List (S32))), (false), (0), (by first | rfl | (simp; done) | (simp [*]; done)), (by first | rfl | (simp; done) | (simp [*]; done)), H', ⟨Nat.le_refl _⟩, ⟨by first | exact Kd.R_nil _ _ _ _ _ | exact Kd.N_nil _ _ _ _ _ | exact Kd.V_nil _ _ _ _ _ | exact Kd.Q_nil _ _ _ _ _ | exact Kd.S_nil _ _ _ _ _⟩, ⟨gb_ BK263⟩, ⟨gwl_ [gb263] HB ⟨GE263, ⟨⟩⟩⟩⟩
  clear H'
  try clear p2
  try clear c3
  obtain ⟨x5_1, x6_1, x7_1, rfl, rfl, HA, HK1, HO_5, BK263, HB⟩ := hrel
  cases gk with
  | zero => exact absurd HA.out (by simp [ravelinref9_put.l0])
  | succ k1 => ?_
  have H := HA.out
  clear HA
  simp only [ravelinref9_put.l0] at H
  by_cases c4 : x7_1 < (l0.length : Int)
  rotate_left
  · rw [if_neg c4] at H
    have c4b0 : decide (x7_1 < (l0.length : Int)) = false := decide_eq_false c4
    clear c4
    by_cases c24 : x6_1 = true
    · subst c24
      have H1 : (some x5_1) = some r := by rw [if_pos rfl] at H; exact H
      clear H
      have H := H1
      clear H1
      obtain rfl := Option.some.inj H
      go_wp2
      go_ret
      exact ⟨_, by first | rfl | (simp [*, errW_none, errW_some] <;> rfl), by (with_reducible repeat (first | apply Kd.R_alloc | apply Kd.R_drewN | apply Kd.R_drew)); exact Kd.R_mono HO_5.out (fun _ hk => trivial), gwl_ [gb263] HB ⟨GE263, ⟨⟩⟩⟩
    replace c24 := Bool.eq_false_iff.mpr c24
    subst c24
    have H1 : (if x5_1.length < 2513169434916 then (some (x5_1 ++ [(⟨a1_0, a1_1, a1_2, a1_3, a1_4⟩ : S32)])) else (none)) = some r := by rw [if_neg (show ¬ (false = true) by decide)] at H; exact H
    clear H
    have H := H1
    clear H1
    by_cases c25 : x5_1.length < 2513169434916
    rotate_left
    · rw [if_neg c25] at H
      exact absurd H (by simp)
    rw [if_pos c25] at H
    have LMc25 := Aside0.mk c25
    clear c25
    obtain ⟨y281, hy281⟩ : ∃ y_ : List (S32), y_ = (x5_1 ++ [(⟨a1_0, a1_1, a1_2, a1_3, a1_4⟩ : S32)]) := ⟨_, rfl⟩
    replace H : (some y281) = some r := by first | (rw [hy281]; with_reducible exact H) | (have H2_ := (Option.bind_some _ _).symm.trans H; rw [hy281]; with_reducible exact H2_) | (have H2_ := (Option.bind_some _ _).symm.trans H; with_reducible exact H2_) | with_reducible exact H | (rw [hy281]; exact H) | exact H
    have Ny281 := Aside0.mk hy281
    clear hy281
    obtain rfl := Option.some.inj H
    have hcz26_0 := bc0 BK263
    have hcz26_1 := bc1 BK263
    have hcz26_2 := bc2 BK263
    have hcz26_3 := bc3 BK263
    have hcz26_4 := bc4 BK263
    have hfz26_0 := bf_ BK263 0
    have hfz26_1 := bf_ BK263 1
    have hfz26_2 := bf_ BK263 2
    have hfz26_3 := bf_ BK263 3
    have hfz26_4 := bf_ BK263 4
    go_wp2_with (first | ((with_reducible refine gate_builtin (b := .append) (xs := #[.tmp 37, .tmp 39]) rfl ?_); at_builtin; refine Kd.R_append k32 (w0 := w) w.heap.size rfl (.tmp 37) (.tmp 39) 33 32 (.agg #[(.int .i64 0), (.int .i64 0), (.string ⟨#[]⟩), (.string ⟨#[]⟩), (.int .i64 0)]) 56 rfl Try.underlying33 info32 rfl (by decide) (by omega) u5 x5_1 (⟨a1_0, a1_1, a1_2, a1_3, a1_4⟩ : S32) [.int .i64 a1_0, .int .i64 a1_1, .string a1_2, .string a1_3, .int .i64 a1_4] (fun k_ => k_ ≠ gb263) (fun _ => False) rfl rfl ?aP (fun _ hk => hk.elim) ?aF ?aO ?aB ?aS ?aL ?_; (case aP => exact k32_mkM _ _ _ (⟨a1_0, a1_1, a1_2, a1_3, a1_4⟩ : S32)); (case aB => exact (gwl_ [gb263] HB ⟨GE263, ⟨⟩⟩)); (case aF => exact (fun k_ hk => Kd.freshB (g := gb263) (o := .cells #[.int .i64 a1_0, .int .i64 a1_1, .string a1_2, .string a1_3, .int .i64 a1_4] 32 (0, 0)) (gb_ BK263) k_ hk)); (case aO => exact (by (with_reducible repeat (first | apply Kd.R_alloc | apply Kd.R_drewN | apply Kd.R_drew)); exact HO_5.out)); (case aS => exact (below_size (gwl_ [gb263] HB ⟨GE263, ⟨⟩⟩))); (case aL => have := LMc25.out; omega); intro v282 w27 ho hb hg hat; rw [← Ny281.out] at ho; have n0_ := Aside0.mk (blk_grown (g := gb263) (o := .cells #[.int .i64 a1_0, .int .i64 a1_1, .string a1_2, .string a1_3, .int .i64 a1_4] 32 (0, 0)) (gb_ BK263) hg (Kd.R_away HO_5.out (fun _ hk => hk))); have n1_ := Aside0.mk (hb); have n2_ := Aside0.mk (ho); clear BK263; clear HB; clear HO_5; have BK263 := n0_; have HB := n1_; have HO283 := n2_; clear n0_ n1_ n2_; clear ho hb hg hat))
    go_ret
    exact ⟨_, by first | rfl | (simp [*, errW_none, errW_some] <;> rfl), by (with_reducible repeat (first | apply Kd.R_alloc | apply Kd.R_drewN | apply Kd.R_drew)); exact Kd.R_mono HO283.out (fun _ hk => trivial), gwl_ [gb263] HB ⟨GE263, ⟨⟩⟩⟩
  rw [if_pos c4] at H
  have c4b0 : decide (x7_1 < (l0.length : Int)) = true := decide_eq_true c4
  clear c4
  by_cases c5 : x6_1 = true
  · subst c5
    have H1 : (if 0 ≤ x7_1 then (if x5_1.length < 2513169434916 then (ravelinref9_put.l0 k1 l0 (x5_1 ++ [(⟨(rd_T32 l0 x7_1).f0, (rd_T32 l0 x7_1).f1, (rd_T32 l0 x7_1).f2, (rd_T32 l0 x7_1).f3, (rd_T32 l0 x7_1).f4⟩ : S32)]) true (wrap64 (x7_1 + 1)) a1_0 a1_1 a1_2 a1_3 a1_4) else (none)) else (none)) = some r := by rw [if_pos rfl] at H; exact H
    clear H
    have H := H1
    clear H1
    by_cases c6 : 0 ≤ x7_1
    rotate_left
    · rw [if_neg c6] at H
      exact absurd H (by simp)
    rw [if_pos c6] at H
    have c6b0 : decide (0 ≤ x7_1) = true := decide_eq_true c6
    clear c6
    by_cases c7 : x5_1.length < 2513169434916
    rotate_left
    · rw [if_neg c7] at H
      exact absurd H (by simp)
    rw [if_pos c7] at H
    have LMc7 := Aside0.mk c7
    clear c7
    obtain ⟨y265, hy265⟩ : ∃ y_ : List (S32), y_ = (x5_1 ++ [(⟨(rd_T32 l0 x7_1).f0, (rd_T32 l0 x7_1).f1, (rd_T32 l0 x7_1).f2, (rd_T32 l0 x7_1).f3, (rd_T32 l0 x7_1).f4⟩ : S32)]) := ⟨_, rfl⟩
    replace H : (ravelinref9_put.l0 k1 l0 y265 true (wrap64 (x7_1 + 1)) a1_0 a1_1 a1_2 a1_3 a1_4) = some r := by first | (rw [hy265]; with_reducible exact H) | (have H2_ := (Option.bind_some _ _).symm.trans H; rw [hy265]; with_reducible exact H2_) | (have H2_ := (Option.bind_some _ _).symm.trans H; with_reducible exact H2_) | with_reducible exact H | (rw [hy265]; exact H) | exact H
    have Ny265 := Aside0.mk hy265
    clear hy265
    have H' := Aside0.mk H
    clear H
    try go_wp2
    have n0_ := Aside0.mk (Kd.R_drew HO_5.out)
    have n1_ := Aside0.mk (blk_drew BK263.out)
    have n2_ := Aside0.mk (below_drew1 HB.out)
    clear HO_5
    clear BK263
    clear HB
    have HO_5 := n0_
    have BK263 := n1_
    have HB := n2_
    clear n0_ n1_ n2_
    refine start_ (n := 10) (S := fun w' => True) (ds := []) mkM9_0 (by kernel_rfl) rfl rfl trivial (fun hHeld => ?_); refine with_tabW ravelinref9_put.tab6 ravelinref9_put.bits6 (fun HT_ HW_ => ?_)
    generalize wr.drew = w8 at HO_5 BK263 HB hHeld ⊢
    refine pu_ 0 (some 14) mkM9_1 HT_ ?_ rfl rfl (by kernel_rfl) (fun _ _ _ h => h) (Or.inl ⟨by rfl, ?_⟩) ?_ ?_ ?_
    rotate_left
    · intro w'
      go_simp
      with_reducible rfl
    rotate_left
    · simp only [Act.put, lists_, i64_w, i32_w]
      rfl
    refine pu_ 1 (some 15) mkM9_2 HT_ ?_ rfl rfl (by kernel_rfl) (fun _ _ _ h => h) (Or.inl ⟨by rfl, ?_⟩) ?_ ?_ ?_
    rotate_left
    · intro w'
      go_simp
      with_reducible rfl
    rotate_left
    · simp only [Act.put, lists_, i64_w, i32_w]
      rfl
    refine pu_ 2 (some 16) mkM9_3 HT_ ?_ rfl rfl (by kernel_rfl) (fun _ _ _ h => h) (Or.inl ⟨by rfl, ?_⟩) ?_ ?_ ?_
    rotate_left
    · intro w'
      go_simp
      with_reducible rfl
    rotate_left
    · simp only [Act.put, lists_, i64_w, i32_w]
      rfl
    refine pu_ 3 (some 17) mkM9_4 HT_ undef rfl rfl (by kernel_rfl) (fun _ _ _ h => h) (Or.inr ⟨by rfl, rfl⟩) ?_ ?_ ?_
    rotate_left
    · simp only [Act.put, lists_, i64_w, i32_w]
      rfl
    refine pu_ 4 (some 18) mkM9_5 HT_ undef rfl rfl (by kernel_rfl) (fun _ _ _ h => h) (Or.inr ⟨by rfl, rfl⟩) ?_ ?_ ?_
    rotate_left
    · simp only [Act.put, lists_, i64_w, i32_w]
      rfl
    refine pu_ 5 (some 19) mkM9_6 HT_ undef rfl rfl (by kernel_rfl) (fun _ _ _ h => h) (Or.inr ⟨by rfl, rfl⟩) ?_ ?_ ?_
    rotate_left
    · simp only [Act.put, lists_, i64_w, i32_w]
      rfl
    refine pu_ 6 (some 20) mkM9_7 HT_ undef rfl rfl (by kernel_rfl) (fun _ _ _ h => h) (Or.inr ⟨by rfl, rfl⟩) ?_ ?_ ?_
    rotate_left
    · simp only [Act.put, lists_, i64_w, i32_w]
      rfl
    refine pu_ 7 (some 21) mkM9_8 HT_ undef rfl rfl (by kernel_rfl) (fun _ _ _ h => h) (Or.inr ⟨by rfl, rfl⟩) ?_ ?_ ?_
    rotate_left
    · simp only [Act.put, lists_, i64_w, i32_w]
      rfl
    refine pu_ 8 (some 22) mkM9_9 HT_ undef rfl rfl (by kernel_rfl) (fun _ _ _ h => h) (Or.inr ⟨by rfl, rfl⟩) ?_ ?_ ?_
    rotate_left
    · simp only [Act.put, lists_, i64_w, i32_w]
      rfl
    refine pu_ 9 (some 23) mkM9_10 HT_ ?_ rfl rfl (by kernel_rfl) (fun _ _ _ h => h) (Or.inl ⟨by rfl, ?_⟩) ?_ ?_ ?_
    rotate_left
    · intro w'
      go_simp
      with_reducible rfl
    rotate_left
    · simp only [Act.put, lists_, i64_w, i32_w]
      rfl
    refine done_ (done_of HT_.out (by kernel_rfl)) ?_
    have p264 : 0 ≤ (x7_1 : Int) := of_decide_eq_true (by assumption)
    have q264 : x7_1 < (l0.length : Int) := of_decide_eq_true (by assumption)
    obtain ⟨ad264, e264, hx264_0, hx264_1, hx264_2, hx264_3, hx264_4⟩ := at_T32 HR0.out x7_1 p264 q264
    cases e264
    replace hx264_0 := hc_ HB hx264_0
    replace hx264_1 := hc_ HB hx264_1
    replace hx264_2 := hc_ HB hx264_2
    replace hx264_3 := hc_ HB hx264_3
    replace hx264_4 := hc_ HB hx264_4
    replace p264 := eq_true p264
    replace q264 := eq_true q264
    try go_wp2_with (first | ((with_reducible refine gate_builtin (b := .append) (xs := #[.tmp 28, .tmp 33]) rfl ?_); at_builtin; refine Kd.R_append k32 (w0 := w) w.heap.size rfl (.tmp 28) (.tmp 33) 33 32 (.agg #[(.int .i64 0), (.int .i64 0), (.string ⟨#[]⟩), (.string ⟨#[]⟩), (.int .i64 0)]) 56 rfl Try.underlying33 info32 rfl (by decide) (by omega) u5 x5_1 (⟨(rd_T32 l0 x7_1).f0, (rd_T32 l0 x7_1).f1, (rd_T32 l0 x7_1).f2, (rd_T32 l0 x7_1).f3, (rd_T32 l0 x7_1).f4⟩ : S32) [.int .i64 ((rd_T32 l0 x7_1).f0), .int .i64 ((rd_T32 l0 x7_1).f1), .string ((rd_T32 l0 x7_1).f2), .string ((rd_T32 l0 x7_1).f3), .int .i64 ((rd_T32 l0 x7_1).f4)] (fun k_ => k_ ≠ gb263) (fun _ => False) rfl rfl ?aP (fun _ hk => hk.elim) ?aF ?aO ?aB ?aS ?aL ?_; (case aP => exact k32_mkM _ _ _ (⟨(rd_T32 l0 x7_1).f0, (rd_T32 l0 x7_1).f1, (rd_T32 l0 x7_1).f2, (rd_T32 l0 x7_1).f3, (rd_T32 l0 x7_1).f4⟩ : S32)); (case aB => exact (gwl_ [gb263] HB ⟨GE263, ⟨⟩⟩)); (case aF => exact (fun k_ hk => Kd.freshB (g := gb263) (o := .cells #[.int .i64 a1_0, .int .i64 a1_1, .string a1_2, .string a1_3, .int .i64 a1_4] 32 (0, 0)) (gb_ BK263) k_ hk)); (case aO => exact (by (with_reducible repeat (first | apply Kd.R_alloc | apply Kd.R_drewN | apply Kd.R_drew)); exact HO_5.out)); (case aS => exact (below_size (gwl_ [gb263] HB ⟨GE263, ⟨⟩⟩))); (case aL => have := LMc7.out; omega); intro v266 w9 ho hb hg hat; rw [← Ny265.out] at ho; have n0_ := Aside0.mk (blk_grown (g := gb263) (o := .cells #[.int .i64 a1_0, .int .i64 a1_1, .string a1_2, .string a1_3, .int .i64 a1_4] 32 (0, 0)) (gb_ BK263) hg (Kd.R_away HO_5.out (fun _ hk => hk))); have n1_ := Aside0.mk (hb); have n2_ := Aside0.mk (ho); clear BK263; clear HB; clear HO_5; have BK263 := n0_; have HB := n1_; have HO267 := n2_; clear n0_ n1_ n2_; clear ho hb hg hat))
    go_roundg k1
    case measure => have := HK1.out; omega
    case rel => exact ⟨(y265), (true), (wrap64 (x7_1 + 1)), (by first | rfl | (simp; done) | (simp [*]; done)), (by first | rfl | (simp; done) | (simp [*]; done)), H', ⟨by have := HK1.out; omega⟩, ⟨by (with_reducible repeat (first | apply Kd.R_alloc | apply Kd.R_drewN | apply Kd.R_drew)); exact HO267.out⟩, ⟨gb_ BK263⟩, ⟨gwl_ [gb263] HB ⟨GE263, ⟨⟩⟩⟩⟩
  replace c5 := Bool.eq_false_iff.mpr c5
  subst c5
  have H1 : (if 0 ≤ x7_1 then ((ravelinref9_before.f a1_0 a1_1 a1_2 a1_3 a1_4 ((rd_T32 l0 x7_1).f0) ((rd_T32 l0 x7_1).f1) ((rd_T32 l0 x7_1).f2) ((rd_T32 l0 x7_1).f3) ((rd_T32 l0 x7_1).f4)).bind fun t269 => (if t269 = true then (if x5_1.length < 2513169434916 then ((some (x5_1 ++ [(⟨a1_0, a1_1, a1_2, a1_3, a1_4⟩ : S32)] : List (S32))).bind fun y270 => (if y270.length < 2513169434916 then (ravelinref9_put.l0 k1 l0 (y270 ++ [(⟨(rd_T32 l0 x7_1).f0, (rd_T32 l0 x7_1).f1, (rd_T32 l0 x7_1).f2, (rd_T32 l0 x7_1).f3, (rd_T32 l0 x7_1).f4⟩ : S32)]) true (wrap64 (x7_1 + 1)) a1_0 a1_1 a1_2 a1_3 a1_4) else (none))) else (none)) else (if x5_1.length < 2513169434916 then (ravelinref9_put.l0 k1 l0 (x5_1 ++ [(⟨(rd_T32 l0 x7_1).f0, (rd_T32 l0 x7_1).f1, (rd_T32 l0 x7_1).f2, (rd_T32 l0 x7_1).f3, (rd_T32 l0 x7_1).f4⟩ : S32)]) false (wrap64 (x7_1 + 1)) a1_0 a1_1 a1_2 a1_3 a1_4) else (none)))) else (none)) = some r := by rw [if_neg (show ¬ (false = true) by decide)] at H; exact H
  clear H
  have H := H1
  clear H1
  by_cases c10 : 0 ≤ x7_1
  rotate_left
  · rw [if_neg c10] at H
    exact absurd H (by simp)
  rw [if_pos c10] at H
  have c10b0 : decide (0 ≤ x7_1) = true := decide_eq_true c10
  clear c10
  replace H := Option.bind_eq_some_iff.mp H
  obtain ⟨t269, A110, H⟩ := H
  try dsimp only at H
  have A11 := Aside0.mk A110
  clear A110
  by_cases c12 : t269 = true
  rotate_left
  · replace c12 := Bool.eq_false_iff.mpr c12
    subst c12
    have H1 : (if x5_1.length < 2513169434916 then (ravelinref9_put.l0 k1 l0 (x5_1 ++ [(⟨(rd_T32 l0 x7_1).f0, (rd_T32 l0 x7_1).f1, (rd_T32 l0 x7_1).f2, (rd_T32 l0 x7_1).f3, (rd_T32 l0 x7_1).f4⟩ : S32)]) false (wrap64 (x7_1 + 1)) a1_0 a1_1 a1_2 a1_3 a1_4) else (none)) = some r := by rw [if_neg (show ¬ (false = true) by decide)] at H; exact H
    clear H
    have H := H1
    clear H1
    by_cases c20 : x5_1.length < 2513169434916
    rotate_left
    · rw [if_neg c20] at H
      exact absurd H (by simp)
    rw [if_pos c20] at H
    have LMc20 := Aside0.mk c20
    clear c20
    obtain ⟨y278, hy278⟩ : ∃ y_ : List (S32), y_ = (x5_1 ++ [(⟨(rd_T32 l0 x7_1).f0, (rd_T32 l0 x7_1).f1, (rd_T32 l0 x7_1).f2, (rd_T32 l0 x7_1).f3, (rd_T32 l0 x7_1).f4⟩ : S32)]) := ⟨_, rfl⟩
    replace H : (ravelinref9_put.l0 k1 l0 y278 false (wrap64 (x7_1 + 1)) a1_0 a1_1 a1_2 a1_3 a1_4) = some r := by first | (rw [hy278]; with_reducible exact H) | (have H2_ := (Option.bind_some _ _).symm.trans H; rw [hy278]; with_reducible exact H2_) | (have H2_ := (Option.bind_some _ _).symm.trans H; with_reducible exact H2_) | with_reducible exact H | (rw [hy278]; exact H) | exact H
    have Ny278 := Aside0.mk hy278
    clear hy278
    have H' := Aside0.mk H
    clear H
    try go_wp2
    have n0_ := Aside0.mk (Kd.R_drew HO_5.out)
    have n1_ := Aside0.mk (blk_drew BK263.out)
    have n2_ := Aside0.mk (below_drew1 HB.out)
    clear HO_5
    clear BK263
    clear HB
    have HO_5 := n0_
    have BK263 := n1_
    have HB := n2_
    clear n0_ n1_ n2_
    have p268 : 0 ≤ (x7_1 : Int) := of_decide_eq_true (by assumption)
    have q268 : x7_1 < (l0.length : Int) := of_decide_eq_true (by assumption)
    obtain ⟨ad268, e268, hx268_0, hx268_1, hx268_2, hx268_3, hx268_4⟩ := at_T32 HR0.out x7_1 p268 q268
    have hw268_4 := hx268_4
    have hw268_3 := hx268_3
    have hw268_2 := hx268_2
    have hw268_1 := hx268_1
    have hw268_0 := hx268_0
    cases e268
    replace hx268_0 := hc_ HB hx268_0
    replace hx268_1 := hc_ HB hx268_1
    replace hx268_2 := hc_ HB hx268_2
    replace hx268_3 := hc_ HB hx268_3
    replace hx268_4 := hc_ HB hx268_4
    replace p268 := eq_true p268
    replace q268 := eq_true q268
    refine start_ (n := 10) (S := fun w' => w'.cell? ⟨gb263, 0, none⟩ = some (.int .i64 a1_0) ∧ w'.cell? ⟨gb263, 1, none⟩ = some (.int .i64 a1_1) ∧ w'.cell? ⟨gb263, 2, none⟩ = some (.string a1_2) ∧ w'.cell? ⟨gb263, 3, none⟩ = some (.string a1_3) ∧ w'.cell? ⟨gb263, 4, none⟩ = some (.int .i64 a1_4) ∧ w'.cell? (ad268.add ((x7_1).toNat * 5)) = some (.int .i64 ((rd_T32 l0 x7_1).f0)) ∧ w'.cell? ⟨(ad268.add ((x7_1).toNat * 5)).block, (ad268.add ((x7_1).toNat * 5)).off + 1, none⟩ = some (.int .i64 ((rd_T32 l0 x7_1).f1)) ∧ w'.cell? ⟨(ad268.add ((x7_1).toNat * 5)).block, (ad268.add ((x7_1).toNat * 5)).off + 2, none⟩ = some (.string ((rd_T32 l0 x7_1).f2)) ∧ w'.cell? ⟨(ad268.add ((x7_1).toNat * 5)).block, (ad268.add ((x7_1).toNat * 5)).off + 3, none⟩ = some (.string ((rd_T32 l0 x7_1).f3)) ∧ w'.cell? ⟨(ad268.add ((x7_1).toNat * 5)).block, (ad268.add ((x7_1).toNat * 5)).off + 4, none⟩ = some (.int .i64 ((rd_T32 l0 x7_1).f4))) (ds := []) mkM9_0 (by kernel_rfl) rfl rfl ⟨bc0 BK263, bc1 BK263, bc2 BK263, bc3 BK263, bc4 BK263, ((HB.out.cell (World.block_lt_of_cell? w _ hw268_0)).trans hw268_0), ((HB.out.cell (World.block_lt_of_cell? w _ hw268_1)).trans hw268_1), ((HB.out.cell (World.block_lt_of_cell? w _ hw268_2)).trans hw268_2), ((HB.out.cell (World.block_lt_of_cell? w _ hw268_3)).trans hw268_3), ((HB.out.cell (World.block_lt_of_cell? w _ hw268_4)).trans hw268_4)⟩ (fun hHeld => ?_); refine with_tabW ravelinref9_put.tab6 ravelinref9_put.bits6 (fun HT_ HW_ => ?_)
    generalize wr.drew = w21 at HO_5 BK263 HB hx268_0 hx268_1 hx268_2 hx268_3 hx268_4 hHeld ⊢
    refine pu_ 0 (some 14) mkM9_1 HT_ ?_ rfl rfl (by kernel_rfl) (fun _ _ _ h => h) (Or.inl ⟨by rfl, ?_⟩) ?_ ?_ ?_
    rotate_left
    · intro w'
      go_simp
      with_reducible rfl
    rotate_left
    · simp only [Act.put, lists_, i64_w, i32_w]
      rfl
    refine pu_ 1 (some 15) mkM9_2 HT_ ?_ rfl rfl (by kernel_rfl) (fun _ _ _ h => h) (Or.inl ⟨by rfl, ?_⟩) ?_ ?_ ?_
    rotate_left
    · intro w'
      go_simp
      with_reducible rfl
    rotate_left
    · simp only [Act.put, lists_, i64_w, i32_w]
      rfl
    refine pu_ 2 (some 16) mkM9_3 HT_ ?_ rfl rfl (by kernel_rfl) (fun _ _ _ h => h) (Or.inl ⟨by rfl, ?_⟩) ?_ ?_ ?_
    rotate_left
    · intro w'
      go_simp
      with_reducible rfl
    rotate_left
    · simp only [Act.put, lists_, i64_w, i32_w]
      rfl
    refine pu_ 4 (some 18) mkM9_11 HT_ ?_ rfl rfl (by kernel_rfl) (fun _ _ _ h => h) (Or.inl ⟨by rfl, ?_⟩) ?_ ?_ ?_
    rotate_left
    · intro w'
      go_simp
      with_reducible rfl
    rotate_left
    · simp only [Act.put, lists_, i64_w, i32_w]
      rfl
    refine pu_ 5 (some 19) mkM9_12 HT_ ?_ rfl rfl (by kernel_rfl) (fun _ _ _ h => h) (Or.inl ⟨by rfl, ?_⟩) ?_ ?_ ?_
    rotate_left
    · intro w'
      go_simp
      with_reducible rfl
    rotate_left
    · simp only [Act.put, lists_, i64_w, i32_w]
      rfl
    refine pu_ 6 (some 20) mkM9_13 HT_ ?_ rfl rfl (by kernel_rfl) (fun _ _ _ h => h) (Or.inl ⟨by rfl, ?_⟩) ?_ ?_ ?_
    rotate_left
    · intro w'
      go_simp
      with_reducible rfl
    rotate_left
    · simp only [Act.put, lists_, i64_w, i32_w]
      rfl
    refine take_ (i := 3) (N := some 17) (v := ?_) (a' := ?_) mkM9_7 rfl rfl (take_ofW HT_.out HW_.out (by kernel_rfl)) (fun _ _ _ h => h) (Or.inl ⟨by rfl, ?_⟩) hHeld ?_ ?_
    rotate_left
    · rintro w' ⟨s0, s1, s2, s3, s4, s5, s6, s7, s8, s9⟩
      go_simp
      with_reducible rfl
    rotate_left
    · simp only [Act.put, lists_, i64_w, i32_w]
      rfl
    refine take_ (i := 7) (N := some 21) (v := ?_) (a' := ?_) mkM9_8 rfl rfl (take_ofW HT_.out HW_.out (by kernel_rfl)) (fun _ _ _ h => h) (Or.inl ⟨by rfl, ?_⟩) hHeld ?_ ?_
    rotate_left
    · rintro w' ⟨s0, s1, s2, s3, s4, s5, s6, s7, s8, s9⟩
      go_simp
      with_reducible rfl
    rotate_left
    · simp only [Act.put, lists_, i64_w, i32_w]
      rfl
    refine one_ (i := 8) (N := some 22) mkM9_9 rfl rfl (one_of HT_.out (by kernel_rfl)) (by decide) (fun K hK => ?_)
    refine goes_ Try.func53 (by kernel_rfl) rfl #[.agg #[.int .i64 a1_0, .int .i64 a1_1, .string a1_2, .string a1_3, .int .i64 a1_4], .agg #[.int .i64 ((rd_T32 l0 x7_1).f0), .int .i64 ((rd_T32 l0 x7_1).f1), .string ((rd_T32 l0 x7_1).f2), .string ((rd_T32 l0 x7_1).f3), .int .i64 ((rd_T32 l0 x7_1).f4)]] (by rfl) rfl rfl (by (try simp only [maps_]); first | done | rfl) ?_
    with_reducible refine (ravelinref9_before.calls a1_0 a1_1 a1_2 a1_3 a1_4 ((rd_T32 l0 x7_1).f0) ((rd_T32 l0 x7_1).f1) ((rd_T32 l0 x7_1).f2) ((rd_T32 l0 x7_1).f3) ((rd_T32 l0 x7_1).f4) false _ A11.out).mono ?_
    rintro e w22 ⟨rfl, hb⟩
    refine ⟨_, rfl, ?_⟩
    have n0_ := rb_ HO_5 hb
    have n1_ := bb_ BK263 hb
    have n2_ := bl_ [gb263] HB ⟨GE263, ⟨⟩⟩ hb
    clear HO_5
    clear BK263
    clear HB
    have HO_5 := n0_
    have BK263 := n1_
    have HB := n2_
    clear n0_ n1_ n2_
    (try clear hb)
    (try clear hb2)
    (try clear hk)
    (try clear hi)
    refine hK.out _ _ ⟨bc0 BK263, bc1 BK263, bc2 BK263, bc3 BK263, bc4 BK263, ((HB.out.cell (World.block_lt_of_cell? w _ hw268_0)).trans hw268_0), ((HB.out.cell (World.block_lt_of_cell? w _ hw268_1)).trans hw268_1), ((HB.out.cell (World.block_lt_of_cell? w _ hw268_2)).trans hw268_2), ((HB.out.cell (World.block_lt_of_cell? w _ hw268_3)).trans hw268_3), ((HB.out.cell (World.block_lt_of_cell? w _ hw268_4)).trans hw268_4)⟩ (fun hHeld => ?_)
    clear hK K
    refine norm_ (a' := ?_) ?_ ?_
    rotate_left
    · show Act.put _ (some 22) _ = _
      simp only [Act.put, lists_, i64_w, i32_w]
      rfl
    refine pu_ 9 (some 23) mkM9_10 HT_ ?_ rfl rfl (by kernel_rfl) (fun _ _ _ h => h) (Or.inl ⟨by rfl, ?_⟩) ?_ ?_ ?_
    rotate_left
    · intro w'
      go_simp
      with_reducible rfl
    rotate_left
    · simp only [Act.put, lists_, i64_w, i32_w]
      rfl
    refine done_ (done_of HT_.out (by kernel_rfl)) ?_
    have p277 : 0 ≤ (x7_1 : Int) := of_decide_eq_true (by assumption)
    have q277 : x7_1 < (l0.length : Int) := of_decide_eq_true (by assumption)
    obtain ⟨ad277, e277, hx277_0, hx277_1, hx277_2, hx277_3, hx277_4⟩ := at_T32 HR0.out x7_1 p277 q277
    obtain rfl : ad268 = ad277 := (by injection e277)
    replace hx277_0 := hc_ HB hx277_0
    replace hx277_1 := hc_ HB hx277_1
    replace hx277_2 := hc_ HB hx277_2
    replace hx277_3 := hc_ HB hx277_3
    replace hx277_4 := hc_ HB hx277_4
    replace p277 := eq_true p277
    replace q277 := eq_true q277
    try go_wp2_with (first | ((with_reducible refine gate_builtin (b := .append) (xs := #[.tmp 28, .tmp 33]) rfl ?_); at_builtin; refine Kd.R_append k32 (w0 := w) w.heap.size rfl (.tmp 28) (.tmp 33) 33 32 (.agg #[(.int .i64 0), (.int .i64 0), (.string ⟨#[]⟩), (.string ⟨#[]⟩), (.int .i64 0)]) 56 rfl Try.underlying33 info32 rfl (by decide) (by omega) u5 x5_1 (⟨(rd_T32 l0 x7_1).f0, (rd_T32 l0 x7_1).f1, (rd_T32 l0 x7_1).f2, (rd_T32 l0 x7_1).f3, (rd_T32 l0 x7_1).f4⟩ : S32) [.int .i64 ((rd_T32 l0 x7_1).f0), .int .i64 ((rd_T32 l0 x7_1).f1), .string ((rd_T32 l0 x7_1).f2), .string ((rd_T32 l0 x7_1).f3), .int .i64 ((rd_T32 l0 x7_1).f4)] (fun k_ => k_ ≠ gb263) (fun _ => False) rfl rfl ?aP (fun _ hk => hk.elim) ?aF ?aO ?aB ?aS ?aL ?_; (case aP => exact k32_mkM _ _ _ (⟨(rd_T32 l0 x7_1).f0, (rd_T32 l0 x7_1).f1, (rd_T32 l0 x7_1).f2, (rd_T32 l0 x7_1).f3, (rd_T32 l0 x7_1).f4⟩ : S32)); (case aB => exact (gwl_ [gb263] HB ⟨GE263, ⟨⟩⟩)); (case aF => exact (fun k_ hk => Kd.freshB (g := gb263) (o := .cells #[.int .i64 a1_0, .int .i64 a1_1, .string a1_2, .string a1_3, .int .i64 a1_4] 32 (0, 0)) (gb_ BK263) k_ hk)); (case aO => exact (by (with_reducible repeat (first | apply Kd.R_alloc | apply Kd.R_drewN | apply Kd.R_drew)); exact HO_5.out)); (case aS => exact (below_size (gwl_ [gb263] HB ⟨GE263, ⟨⟩⟩))); (case aL => have := LMc20.out; omega); intro v279 w23 ho hb hg hat; rw [← Ny278.out] at ho; have n0_ := Aside0.mk (blk_grown (g := gb263) (o := .cells #[.int .i64 a1_0, .int .i64 a1_1, .string a1_2, .string a1_3, .int .i64 a1_4] 32 (0, 0)) (gb_ BK263) hg (Kd.R_away HO_5.out (fun _ hk => hk))); have n1_ := Aside0.mk (hb); have n2_ := Aside0.mk (ho); clear BK263; clear HB; clear HO_5; have BK263 := n0_; have HB := n1_; have HO280 := n2_; clear n0_ n1_ n2_; clear ho hb hg hat))
    go_roundg k1
    case measure => have := HK1.out; omega
    case rel => exact ⟨(y278), (false), (wrap64 (x7_1 + 1)), (by first | rfl | (simp; done) | (simp [*]; done)), (by first | rfl | (simp; done) | (simp [*]; done)), H', ⟨by have := HK1.out; omega⟩, ⟨by (with_reducible repeat (first | apply Kd.R_alloc | apply Kd.R_drewN | apply Kd.R_drew)); exact HO280.out⟩, ⟨gb_ BK263⟩, ⟨gwl_ [gb263] HB ⟨GE263, ⟨⟩⟩⟩⟩
  subst c12
  have H1 : (if x5_1.length < 2513169434916 then ((some (x5_1 ++ [(⟨a1_0, a1_1, a1_2, a1_3, a1_4⟩ : S32)] : List (S32))).bind fun y270 => (if y270.length < 2513169434916 then (ravelinref9_put.l0 k1 l0 (y270 ++ [(⟨(rd_T32 l0 x7_1).f0, (rd_T32 l0 x7_1).f1, (rd_T32 l0 x7_1).f2, (rd_T32 l0 x7_1).f3, (rd_T32 l0 x7_1).f4⟩ : S32)]) true (wrap64 (x7_1 + 1)) a1_0 a1_1 a1_2 a1_3 a1_4) else (none))) else (none)) = some r := by rw [if_pos rfl] at H; exact H
  clear H
  have H := H1
  clear H1
  by_cases c13 : x5_1.length < 2513169434916
  rotate_left
  · rw [if_neg c13] at H
    exact absurd H (by simp)
  rw [if_pos c13] at H
  have LMc13 := Aside0.mk c13
  clear c13
  obtain ⟨y270, hy270⟩ : ∃ y_ : List (S32), y_ = (x5_1 ++ [(⟨a1_0, a1_1, a1_2, a1_3, a1_4⟩ : S32)]) := ⟨_, rfl⟩
  replace H : (if y270.length < 2513169434916 then (ravelinref9_put.l0 k1 l0 (y270 ++ [(⟨(rd_T32 l0 x7_1).f0, (rd_T32 l0 x7_1).f1, (rd_T32 l0 x7_1).f2, (rd_T32 l0 x7_1).f3, (rd_T32 l0 x7_1).f4⟩ : S32)]) true (wrap64 (x7_1 + 1)) a1_0 a1_1 a1_2 a1_3 a1_4) else (none)) = some r := by first | (rw [hy270]; with_reducible exact H) | (have H2_ := (Option.bind_some _ _).symm.trans H; rw [hy270]; with_reducible exact H2_) | (have H2_ := (Option.bind_some _ _).symm.trans H; with_reducible exact H2_) | with_reducible exact H | (rw [hy270]; exact H) | exact H
  have Ny270 := Aside0.mk hy270
  clear hy270
  by_cases c14 : y270.length < 2513169434916
  rotate_left
  · rw [if_neg c14] at H
    exact absurd H (by simp)
  rw [if_pos c14] at H
  have LMc14 := Aside0.mk c14
  clear c14
  obtain ⟨y274, hy274⟩ : ∃ y_ : List (S32), y_ = (y270 ++ [(⟨(rd_T32 l0 x7_1).f0, (rd_T32 l0 x7_1).f1, (rd_T32 l0 x7_1).f2, (rd_T32 l0 x7_1).f3, (rd_T32 l0 x7_1).f4⟩ : S32)]) := ⟨_, rfl⟩
  replace H : (ravelinref9_put.l0 k1 l0 y274 true (wrap64 (x7_1 + 1)) a1_0 a1_1 a1_2 a1_3 a1_4) = some r := by first | (rw [hy274]; with_reducible exact H) | (have H2_ := (Option.bind_some _ _).symm.trans H; rw [hy274]; with_reducible exact H2_) | (have H2_ := (Option.bind_some _ _).symm.trans H; with_reducible exact H2_) | with_reducible exact H | (rw [hy274]; exact H) | exact H
  have Ny274 := Aside0.mk hy274
  clear hy274
  have H' := Aside0.mk H
  clear H
  try go_wp2
  have n0_ := Aside0.mk (Kd.R_drew HO_5.out)
  have n1_ := Aside0.mk (blk_drew BK263.out)
  have n2_ := Aside0.mk (below_drew1 HB.out)
  clear HO_5
  clear BK263
  clear HB
  have HO_5 := n0_
  have BK263 := n1_
  have HB := n2_
  clear n0_ n1_ n2_
  have p268 : 0 ≤ (x7_1 : Int) := of_decide_eq_true (by assumption)
  have q268 : x7_1 < (l0.length : Int) := of_decide_eq_true (by assumption)
  obtain ⟨ad268, e268, hx268_0, hx268_1, hx268_2, hx268_3, hx268_4⟩ := at_T32 HR0.out x7_1 p268 q268
  have hw268_4 := hx268_4
  have hw268_3 := hx268_3
  have hw268_2 := hx268_2
  have hw268_1 := hx268_1
  have hw268_0 := hx268_0
  cases e268
  replace hx268_0 := hc_ HB hx268_0
  replace hx268_1 := hc_ HB hx268_1
  replace hx268_2 := hc_ HB hx268_2
  replace hx268_3 := hc_ HB hx268_3
  replace hx268_4 := hc_ HB hx268_4
  replace p268 := eq_true p268
  replace q268 := eq_true q268
  refine start_ (n := 10) (S := fun w' => w'.cell? ⟨gb263, 0, none⟩ = some (.int .i64 a1_0) ∧ w'.cell? ⟨gb263, 1, none⟩ = some (.int .i64 a1_1) ∧ w'.cell? ⟨gb263, 2, none⟩ = some (.string a1_2) ∧ w'.cell? ⟨gb263, 3, none⟩ = some (.string a1_3) ∧ w'.cell? ⟨gb263, 4, none⟩ = some (.int .i64 a1_4) ∧ w'.cell? (ad268.add ((x7_1).toNat * 5)) = some (.int .i64 ((rd_T32 l0 x7_1).f0)) ∧ w'.cell? ⟨(ad268.add ((x7_1).toNat * 5)).block, (ad268.add ((x7_1).toNat * 5)).off + 1, none⟩ = some (.int .i64 ((rd_T32 l0 x7_1).f1)) ∧ w'.cell? ⟨(ad268.add ((x7_1).toNat * 5)).block, (ad268.add ((x7_1).toNat * 5)).off + 2, none⟩ = some (.string ((rd_T32 l0 x7_1).f2)) ∧ w'.cell? ⟨(ad268.add ((x7_1).toNat * 5)).block, (ad268.add ((x7_1).toNat * 5)).off + 3, none⟩ = some (.string ((rd_T32 l0 x7_1).f3)) ∧ w'.cell? ⟨(ad268.add ((x7_1).toNat * 5)).block, (ad268.add ((x7_1).toNat * 5)).off + 4, none⟩ = some (.int .i64 ((rd_T32 l0 x7_1).f4))) (ds := []) mkM9_0 (by kernel_rfl) rfl rfl ⟨bc0 BK263, bc1 BK263, bc2 BK263, bc3 BK263, bc4 BK263, ((HB.out.cell (World.block_lt_of_cell? w _ hw268_0)).trans hw268_0), ((HB.out.cell (World.block_lt_of_cell? w _ hw268_1)).trans hw268_1), ((HB.out.cell (World.block_lt_of_cell? w _ hw268_2)).trans hw268_2), ((HB.out.cell (World.block_lt_of_cell? w _ hw268_3)).trans hw268_3), ((HB.out.cell (World.block_lt_of_cell? w _ hw268_4)).trans hw268_4)⟩ (fun hHeld => ?_); refine with_tabW ravelinref9_put.tab6 ravelinref9_put.bits6 (fun HT_ HW_ => ?_)
  generalize wr.drew = w15 at HO_5 BK263 HB hx268_0 hx268_1 hx268_2 hx268_3 hx268_4 hHeld ⊢
  refine pu_ 0 (some 14) mkM9_1 HT_ ?_ rfl rfl (by kernel_rfl) (fun _ _ _ h => h) (Or.inl ⟨by rfl, ?_⟩) ?_ ?_ ?_
  rotate_left
  · intro w'
    go_simp
    with_reducible rfl
  rotate_left
  · simp only [Act.put, lists_, i64_w, i32_w]
    rfl
  refine pu_ 1 (some 15) mkM9_2 HT_ ?_ rfl rfl (by kernel_rfl) (fun _ _ _ h => h) (Or.inl ⟨by rfl, ?_⟩) ?_ ?_ ?_
  rotate_left
  · intro w'
    go_simp
    with_reducible rfl
  rotate_left
  · simp only [Act.put, lists_, i64_w, i32_w]
    rfl
  refine pu_ 2 (some 16) mkM9_3 HT_ ?_ rfl rfl (by kernel_rfl) (fun _ _ _ h => h) (Or.inl ⟨by rfl, ?_⟩) ?_ ?_ ?_
  rotate_left
  · intro w'
    go_simp
    with_reducible rfl
  rotate_left
  · simp only [Act.put, lists_, i64_w, i32_w]
    rfl
  refine pu_ 4 (some 18) mkM9_11 HT_ ?_ rfl rfl (by kernel_rfl) (fun _ _ _ h => h) (Or.inl ⟨by rfl, ?_⟩) ?_ ?_ ?_
  rotate_left
  · intro w'
    go_simp
    with_reducible rfl
  rotate_left
  · simp only [Act.put, lists_, i64_w, i32_w]
    rfl
  refine pu_ 5 (some 19) mkM9_12 HT_ ?_ rfl rfl (by kernel_rfl) (fun _ _ _ h => h) (Or.inl ⟨by rfl, ?_⟩) ?_ ?_ ?_
  rotate_left
  · intro w'
    go_simp
    with_reducible rfl
  rotate_left
  · simp only [Act.put, lists_, i64_w, i32_w]
    rfl
  refine pu_ 6 (some 20) mkM9_13 HT_ ?_ rfl rfl (by kernel_rfl) (fun _ _ _ h => h) (Or.inl ⟨by rfl, ?_⟩) ?_ ?_ ?_
  rotate_left
  · intro w'
    go_simp
    with_reducible rfl
  rotate_left
  · simp only [Act.put, lists_, i64_w, i32_w]
    rfl
  refine take_ (i := 3) (N := some 17) (v := ?_) (a' := ?_) mkM9_7 rfl rfl (take_ofW HT_.out HW_.out (by kernel_rfl)) (fun _ _ _ h => h) (Or.inl ⟨by rfl, ?_⟩) hHeld ?_ ?_
  rotate_left
  · rintro w' ⟨s0, s1, s2, s3, s4, s5, s6, s7, s8, s9⟩
    go_simp
    with_reducible rfl
  rotate_left
  · simp only [Act.put, lists_, i64_w, i32_w]
    rfl
  refine take_ (i := 7) (N := some 21) (v := ?_) (a' := ?_) mkM9_8 rfl rfl (take_ofW HT_.out HW_.out (by kernel_rfl)) (fun _ _ _ h => h) (Or.inl ⟨by rfl, ?_⟩) hHeld ?_ ?_
  rotate_left
  · rintro w' ⟨s0, s1, s2, s3, s4, s5, s6, s7, s8, s9⟩
    go_simp
    with_reducible rfl
  rotate_left
  · simp only [Act.put, lists_, i64_w, i32_w]
    rfl
  refine one_ (i := 8) (N := some 22) mkM9_9 rfl rfl (one_of HT_.out (by kernel_rfl)) (by decide) (fun K hK => ?_)
  refine goes_ Try.func53 (by kernel_rfl) rfl #[.agg #[.int .i64 a1_0, .int .i64 a1_1, .string a1_2, .string a1_3, .int .i64 a1_4], .agg #[.int .i64 ((rd_T32 l0 x7_1).f0), .int .i64 ((rd_T32 l0 x7_1).f1), .string ((rd_T32 l0 x7_1).f2), .string ((rd_T32 l0 x7_1).f3), .int .i64 ((rd_T32 l0 x7_1).f4)]] (by rfl) rfl rfl (by (try simp only [maps_]); first | done | rfl) ?_
  with_reducible refine (ravelinref9_before.calls a1_0 a1_1 a1_2 a1_3 a1_4 ((rd_T32 l0 x7_1).f0) ((rd_T32 l0 x7_1).f1) ((rd_T32 l0 x7_1).f2) ((rd_T32 l0 x7_1).f3) ((rd_T32 l0 x7_1).f4) true _ A11.out).mono ?_
  rintro e w16 ⟨rfl, hb⟩
  refine ⟨_, rfl, ?_⟩
  have n0_ := rb_ HO_5 hb
  have n1_ := bb_ BK263 hb
  have n2_ := bl_ [gb263] HB ⟨GE263, ⟨⟩⟩ hb
  clear HO_5
  clear BK263
  clear HB
  have HO_5 := n0_
  have BK263 := n1_
  have HB := n2_
  clear n0_ n1_ n2_
  (try clear hb)
  (try clear hb2)
  (try clear hk)
  (try clear hi)
  refine hK.out _ _ ⟨bc0 BK263, bc1 BK263, bc2 BK263, bc3 BK263, bc4 BK263, ((HB.out.cell (World.block_lt_of_cell? w _ hw268_0)).trans hw268_0), ((HB.out.cell (World.block_lt_of_cell? w _ hw268_1)).trans hw268_1), ((HB.out.cell (World.block_lt_of_cell? w _ hw268_2)).trans hw268_2), ((HB.out.cell (World.block_lt_of_cell? w _ hw268_3)).trans hw268_3), ((HB.out.cell (World.block_lt_of_cell? w _ hw268_4)).trans hw268_4)⟩ (fun hHeld => ?_)
  clear hK K
  refine norm_ (a' := ?_) ?_ ?_
  rotate_left
  · show Act.put _ (some 22) _ = _
    simp only [Act.put, lists_, i64_w, i32_w]
    rfl
  refine pu_ 9 (some 23) mkM9_10 HT_ ?_ rfl rfl (by kernel_rfl) (fun _ _ _ h => h) (Or.inl ⟨by rfl, ?_⟩) ?_ ?_ ?_
  rotate_left
  · intro w'
    go_simp
    with_reducible rfl
  rotate_left
  · simp only [Act.put, lists_, i64_w, i32_w]
    rfl
  refine done_ (done_of HT_.out (by kernel_rfl)) ?_
  have hcz17_0 := bc0 BK263
  have hcz17_1 := bc1 BK263
  have hcz17_2 := bc2 BK263
  have hcz17_3 := bc3 BK263
  have hcz17_4 := bc4 BK263
  have hfz17_0 := bf_ BK263 0
  have hfz17_1 := bf_ BK263 1
  have hfz17_2 := bf_ BK263 2
  have hfz17_3 := bf_ BK263 3
  have hfz17_4 := bf_ BK263 4
  try go_wp2_with (first | ((with_reducible refine gate_builtin (b := .append) (xs := #[.tmp 24, .tmp 26]) rfl ?_); at_builtin; refine Kd.R_append k32 (w0 := w) w.heap.size rfl (.tmp 24) (.tmp 26) 33 32 (.agg #[(.int .i64 0), (.int .i64 0), (.string ⟨#[]⟩), (.string ⟨#[]⟩), (.int .i64 0)]) 56 rfl Try.underlying33 info32 rfl (by decide) (by omega) u5 x5_1 (⟨a1_0, a1_1, a1_2, a1_3, a1_4⟩ : S32) [.int .i64 a1_0, .int .i64 a1_1, .string a1_2, .string a1_3, .int .i64 a1_4] (fun k_ => k_ ≠ gb263) (fun _ => False) rfl rfl ?aP (fun _ hk => hk.elim) ?aF ?aO ?aB ?aS ?aL ?_; (case aP => exact k32_mkM _ _ _ (⟨a1_0, a1_1, a1_2, a1_3, a1_4⟩ : S32)); (case aB => exact (gwl_ [gb263] HB ⟨GE263, ⟨⟩⟩)); (case aF => exact (fun k_ hk => Kd.freshB (g := gb263) (o := .cells #[.int .i64 a1_0, .int .i64 a1_1, .string a1_2, .string a1_3, .int .i64 a1_4] 32 (0, 0)) (gb_ BK263) k_ hk)); (case aO => exact (by (with_reducible repeat (first | apply Kd.R_alloc | apply Kd.R_drewN | apply Kd.R_drew)); exact HO_5.out)); (case aS => exact (below_size (gwl_ [gb263] HB ⟨GE263, ⟨⟩⟩))); (case aL => have := LMc13.out; omega); intro v271 w18 ho hb hg hat; rw [← Ny270.out] at ho; have n0_ := Aside0.mk (blk_grown (g := gb263) (o := .cells #[.int .i64 a1_0, .int .i64 a1_1, .string a1_2, .string a1_3, .int .i64 a1_4] 32 (0, 0)) (gb_ BK263) hg (Kd.R_away HO_5.out (fun _ hk => hk))); have n1_ := Aside0.mk (hb); have n2_ := Aside0.mk (ho); clear BK263; clear HB; clear HO_5; have BK263 := n0_; have HB := n1_; have HO272 := n2_; clear n0_ n1_ n2_; clear ho hb hg hat; have p273 : 0 ≤ (x7_1 : Int) := of_decide_eq_true (by assumption); have q273 : x7_1 < (l0.length : Int) := of_decide_eq_true (by assumption); obtain ⟨ad273, e273, hx273_0, hx273_1, hx273_2, hx273_3, hx273_4⟩ := at_T32 HR0.out x7_1 p273 q273; obtain rfl : ad268 = ad273 := (by injection e273); replace hx273_0 := hc_ HB hx273_0; replace hx273_1 := hc_ HB hx273_1; replace hx273_2 := hc_ HB hx273_2; replace hx273_3 := hc_ HB hx273_3; replace hx273_4 := hc_ HB hx273_4; replace p273 := eq_true p273; replace q273 := eq_true q273) | ((with_reducible refine gate_builtin (b := .append) (xs := #[.tmp 28, .tmp 33]) rfl ?_); at_builtin; refine Kd.R_append k32 (w0 := w) w.heap.size rfl (.tmp 28) (.tmp 33) 33 32 (.agg #[(.int .i64 0), (.int .i64 0), (.string ⟨#[]⟩), (.string ⟨#[]⟩), (.int .i64 0)]) 56 rfl Try.underlying33 info32 rfl (by decide) (by omega) v271 y270 (⟨(rd_T32 l0 x7_1).f0, (rd_T32 l0 x7_1).f1, (rd_T32 l0 x7_1).f2, (rd_T32 l0 x7_1).f3, (rd_T32 l0 x7_1).f4⟩ : S32) [.int .i64 ((rd_T32 l0 x7_1).f0), .int .i64 ((rd_T32 l0 x7_1).f1), .string ((rd_T32 l0 x7_1).f2), .string ((rd_T32 l0 x7_1).f3), .int .i64 ((rd_T32 l0 x7_1).f4)] (fun k_ => k_ ≠ gb263) (fun _ => False) rfl rfl ?aP (fun _ hk => hk.elim) ?aF ?aO ?aB ?aS ?aL ?_; (case aP => exact k32_mkM _ _ _ (⟨(rd_T32 l0 x7_1).f0, (rd_T32 l0 x7_1).f1, (rd_T32 l0 x7_1).f2, (rd_T32 l0 x7_1).f3, (rd_T32 l0 x7_1).f4⟩ : S32)); (case aB => exact (gwl_ [gb263] HB ⟨GE263, ⟨⟩⟩)); (case aF => exact (fun k_ hk => Kd.freshB (g := gb263) (o := .cells #[.int .i64 a1_0, .int .i64 a1_1, .string a1_2, .string a1_3, .int .i64 a1_4] 32 (0, 0)) (gb_ BK263) k_ hk)); (case aO => exact (by (with_reducible repeat (first | apply Kd.R_alloc | apply Kd.R_drewN | apply Kd.R_drew)); exact HO272.out)); (case aS => exact (below_size (gwl_ [gb263] HB ⟨GE263, ⟨⟩⟩))); (case aL => have := LMc14.out; omega); intro v275 w19 ho hb hg hat; rw [← Ny274.out] at ho; have n0_ := Aside0.mk (blk_grown (g := gb263) (o := .cells #[.int .i64 a1_0, .int .i64 a1_1, .string a1_2, .string a1_3, .int .i64 a1_4] 32 (0, 0)) (gb_ BK263) hg (Kd.R_away HO272.out (fun _ hk => hk))); have n1_ := Aside0.mk (hb); have n2_ := Aside0.mk (ho); clear BK263; clear HB; clear HO272; have BK263 := n0_; have HB := n1_; have HO276 := n2_; clear n0_ n1_ n2_; clear ho hb hg hat))
  go_roundg k1
  case measure => have := HK1.out; omega
  case rel => exact ⟨(y274), (true), (wrap64 (x7_1 + 1)), (by first | rfl | (simp; done) | (simp [*]; done)), (by first | rfl | (simp; done) | (simp [*]; done)), H', ⟨by have := HK1.out; omega⟩, ⟨by (with_reducible repeat (first | apply Kd.R_alloc | apply Kd.R_drewN | apply Kd.R_drew)); exact HO276.out⟩, ⟨gb_ BK263⟩, ⟨gwl_ [gb263] HB ⟨GE263, ⟨⟩⟩⟩⟩

end Go.Proofs.Ytmbedgopceigaaa.P
