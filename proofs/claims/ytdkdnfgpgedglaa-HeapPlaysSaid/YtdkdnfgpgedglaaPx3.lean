-- Printed by a changed copy of the kit's printer (wip/tools/ext.py); labels and more
import Derived.Test.YtdkdnfgpgedglaaQShort
import Derived.Test.YtdkdnfgpgedglaaPx0
import Derived.Test.YtdkdnfgpgedglaaPx2
namespace Go.Proofs.Ytdkdnfgpgedglaa.P
open Go.RowKit Go.Proofs.YtdkdnfgpgedglaaW.PrintWords Go.Proofs.YtdkdnfgpgedglaaW.PrintLast Go.Proofs.YtdkdnfgpgedglaaW.PrintMore
attribute [local go_sem] max2_int min2_int max_two min_two max_three min_three max_four min_four   -- for this text's walks alone
attribute [local go_sem high] string_leq string_geq string_gtr
set_option linter.unusedVariables false
set_option linter.unusedSimpArgs false

abbrev mkPx3_0 : Array Bool := #[false, false, false, false, false, false, false, false, false, false, false, false, false, false, false, false]
abbrev mkPx3_1 : Array Bool := #[true, false, false, false, false, false, false, false, false, false, false, false, false, false, false, false]
abbrev mkPx3_2 : Array Bool := #[true, true, false, false, false, false, false, false, false, false, false, false, false, false, false, false]
abbrev mkPx3_3 : Array Bool := #[true, true, true, false, false, false, false, false, false, false, false, false, false, false, false, false]
abbrev mkPx3_4 : Array Bool := #[true, true, true, true, false, false, false, false, false, false, false, false, false, false, false, false]
abbrev mkPx3_5 : Array Bool := #[true, true, true, true, true, false, false, false, false, false, false, false, false, false, false, false]
abbrev mkPx3_6 : Array Bool := #[true, true, true, true, true, true, false, false, false, false, false, false, false, false, false, false]
abbrev mkPx3_7 : Array Bool := #[true, true, true, true, true, true, true, false, false, false, false, false, false, false, false, false]
abbrev mkPx3_8 : Array Bool := #[true, true, true, true, true, true, true, false, true, false, false, false, false, false, false, false]
abbrev mkPx3_9 : Array Bool := #[true, true, true, true, true, true, true, false, true, true, false, false, false, false, false, false]
abbrev mkPx3_10 : Array Bool := #[true, true, true, true, true, true, true, false, true, true, true, false, false, false, false, false]
abbrev mkPx3_11 : Array Bool := #[true, true, true, true, true, true, true, true, true, true, true, false, false, false, false, false]
abbrev mkPx3_12 : Array Bool := #[true, true, true, true, true, true, true, true, true, true, true, true, false, false, false, false]
abbrev mkPx3_13 : Array Bool := #[true, true, true, true, true, true, true, true, true, true, true, true, true, false, false, false]
abbrev mkPx3_14 : Array Bool := #[true, true, true, true, true, true, true, true, true, true, true, true, true, true, false, false]
abbrev mkPx3_15 : Array Bool := #[true, true, true, true, true, true, true, true, true, true, true, true, true, true, true, false]
abbrev mkPx3_16 : Array Bool := #[true, true, true, true, true, true, true, true, true, true, true, true, true, true, true, true]
/-! ### heap_Heap_Len: function 20 -/
def heap_Heap_Len.f (s0_0 : List (S29)) (s0_1 : Int) : Option (Int × Int) := some ((s0_0.length : Int), s0_1)
set_option maxHeartbeats 8000000 in
set_option maxRecDepth 100000 in
theorem heap_Heap_Len.calls (g : Nat) (s0_0 : List (S29)) (s0_1 : Int) (r1 : Int) (r2 : Int) (w0 w : World) (hI : IsS49 w0 w g s0_0 s0_1) (hB : Below w0.heap.size w0 w) (h : heap_Heap_Len.f s0_0 s0_1 = some (r1, r2)) :
    Calls Try.prog 20 #[.pointer (some ⟨g, 0, none⟩)] w fun e w' => e = .returned (.int .i64 r1) ∧ IsS49 w0 w' g s0_0 r2 ∧ Below w0.heap.size w0 w' ∧ KeepBut w w' g none := by
  have HI0 := Aside0.mk hI
  have HK := Aside0.mk (KeepBut.refl w g none)
  have HL := Aside0.mk hB.size
  clear hI
  have HW0 := Aside0.mk hB.size
  have HB := Aside0.mk hB
  clear hB
  have H : (some ((s0_0.length : Int), s0_1)) = some (r1, r2) := h
  clear h
  simp only [Option.some.injEq, Prod.mk.injEq] at H
  obtain ⟨rfl, rfl⟩ := H
  obtain ⟨ASz2_0, cSz2_0, HGz2, hgz2, HSz2_0⟩ := HI0.out
  have hcz2_0 := cellS49_0 HGz2
  have hcz2_1 := cellS49_1 HGz2
  have hfz2_1 := blk_frozen HGz2 1
  clear HGz2 hgz2
  go_enter Try.func20, Try.ntmps20
  go_wp2
  go_ret
  exact ⟨by first | rfl | (simp [*, errW_none, errW_some] <;> rfl), by repeat (first | (with_reducible first | exact HI0.out | apply IsS49.alloc | apply IsS49.drewN | apply IsS49.drew | apply IsS49.set_1) | exact HI0.out), by repeat (first | (with_reducible first | exact HB.out | apply below_alloc | apply pw_below_drewN | apply below_drew1 | refine below_set ?_ (IsS49.ge HI0.out)) | exact HB.out), by repeat (first | (with_reducible first | exact HK.out | apply KeepBut.set_ | apply keep_drewN | apply keep_drew | apply keep_alloc) | exact HK.out)⟩

/-! ### heap_Heap_Bytes: function 21 -/
def heap_Heap_Bytes.f (s0_0 : List (S29)) (s0_1 : Int) : Option (Int × Int) := some (s0_1, s0_1)
set_option maxHeartbeats 8000000 in
set_option maxRecDepth 100000 in
theorem heap_Heap_Bytes.calls (g : Nat) (s0_0 : List (S29)) (s0_1 : Int) (r1 : Int) (r2 : Int) (w0 w : World) (hI : IsS49 w0 w g s0_0 s0_1) (hB : Below w0.heap.size w0 w) (h : heap_Heap_Bytes.f s0_0 s0_1 = some (r1, r2)) :
    Calls Try.prog 21 #[.pointer (some ⟨g, 0, none⟩)] w fun e w' => e = .returned (.int .i64 r1) ∧ IsS49 w0 w' g s0_0 r2 ∧ Below w0.heap.size w0 w' ∧ KeepBut w w' g none := by
  have HI0 := Aside0.mk hI
  have HK := Aside0.mk (KeepBut.refl w g none)
  have HL := Aside0.mk hB.size
  clear hI
  have HW0 := Aside0.mk hB.size
  have HB := Aside0.mk hB
  clear hB
  have H : (some (s0_1, s0_1)) = some (r1, r2) := h
  clear h
  simp only [Option.some.injEq, Prod.mk.injEq] at H
  obtain ⟨rfl, rfl⟩ := H
  obtain ⟨ASz2_0, cSz2_0, HGz2, hgz2, HSz2_0⟩ := HI0.out
  have hcz2_0 := cellS49_0 HGz2
  have hcz2_1 := cellS49_1 HGz2
  have hfz2_1 := blk_frozen HGz2 1
  clear HGz2 hgz2
  go_enter Try.func21, Try.ntmps21
  go_wp2
  go_ret
  exact ⟨by first | rfl | (simp [*, errW_none, errW_some] <;> rfl), by repeat (first | (with_reducible first | exact HI0.out | apply IsS49.alloc | apply IsS49.drewN | apply IsS49.drew | apply IsS49.set_1) | exact HI0.out), by repeat (first | (with_reducible first | exact HB.out | apply below_alloc | apply pw_below_drewN | apply below_drew1 | refine below_set ?_ (IsS49.ge HI0.out)) | exact HB.out), by repeat (first | (with_reducible first | exact HK.out | apply KeepBut.set_ | apply keep_drewN | apply keep_drew | apply keep_alloc) | exact HK.out)⟩

-- NOT PRINTED: function 8 (ravelinlaw10_known)

/-! ### ravelinlaw10_few: function 9 -/
def ravelinlaw10_few.l0 : Nat → List (S29) → Int → Option (Bool)
  | 0, _, _ => none
  | k + 1, x0, x3 => if x3 < (x0.length : Int) then (if 0 ≤ x3 then (if (((rd_T29 x0 x3).f0).size : Int) > 20 then (some false) else (if (((rd_T29 x0 x3).f3).size : Int) > 40 then (some false) else (ravelinlaw10_few.l0 k x0 (wrap64 (x3 + 1))))) else (none)) else (some (decide ((x0.length : Int) ≤ 60)))
def ravelinlaw10_few.f (k : Nat) (l0 : List (S29)) : Option (Bool) := ravelinlaw10_few.l0 k l0 0
theorem ravelinlaw10_few.mono_l : ∀ k, (∀ y0 y1, LeO (ravelinlaw10_few.l0 k y0 y1) (ravelinlaw10_few.l0 (k + 1) y0 y1))
  | 0 => fun _ _ r h => by simp [ravelinlaw10_few.l0] at h
  | k + 1 => by
    have ih0 := ravelinlaw10_few.mono_l k
    · intro y0 y1
      unfold ravelinlaw10_few.l0
      repeat' first
      | (with_reducible exact ih0 _ _)
      | (with_reducible exact LeO.refl _)
      | (with_reducible exact LeO.none _)
      | (with_reducible refine LeO.ite ?_ ?_)
      | (with_reducible refine LeO.bind ?_ (fun _ => ?_))
      | exact ih0 _ _
      | exact LeO.none _
      | refine LeO.ite ?_ ?_
      | refine LeO.bind ?_ (fun _ => ?_)
theorem ravelinlaw10_few.mono : ∀ a0 k, LeO (ravelinlaw10_few.f k a0) (ravelinlaw10_few.f (k + 1) a0) := by
  intro a0 k
  have ih0 := ravelinlaw10_few.mono_l k
  unfold ravelinlaw10_few.f
  repeat' first
      | (with_reducible exact ih0 _ _)
      | (with_reducible exact LeO.refl _)
      | (with_reducible exact LeO.none _)
      | (with_reducible refine LeO.ite ?_ ?_)
      | (with_reducible refine LeO.bind ?_ (fun _ => ?_))
      | exact ih0 _ _
      | exact LeO.none _
      | refine LeO.ite ?_ ?_
      | refine LeO.bind ?_ (fun _ => ?_)
set_option maxHeartbeats 8000000 in
set_option maxRecDepth 100000 in
theorem ravelinlaw10_few.calls (k : Nat) (A0 : Option Addr) (c0 : Nat) (l0 : List (S29)) (r : Bool) (w : World) (hr0 : Kd.C k29 w A0 l0.length l0) (hc0 : l0.length ≤ c0) (h : ravelinlaw10_few.f k l0 = some r) :
    Calls Try.prog 9 #[.slice A0 l0.length c0] w fun e w' => e = .returned (.bool r) ∧ Drawn0 w w' := by
  have HR0 := Aside0.mk hr0
  have HC0 := Aside0.mk hc0
  clear hr0 hc0
  have H : (ravelinlaw10_few.l0 k l0 0) = some r := h
  clear h
  have H' := Aside0.mk H
  clear H
  go_enter Try.func9, Try.ntmps9
  go_wp2
  go_loopg [3] k (fun kq v3 w' => ∃ (x3_1 : Int), v3 = .int .i64 x3_1 ∧ Aside0 (ravelinlaw10_few.l0 kq l0 x3_1 = some r) ∧ Aside0 (kq ≤ k) ∧ Drawn0 w w')
  case atStart => exact ⟨(0), (by first | rfl | (simp; done) | (simp [*]; done)), H', ⟨Nat.le_refl _⟩, by repeat (first | exact Drawn0.refl _ | apply Drawn0.step)⟩
  clear H'
  obtain ⟨x3_1, rfl, HA, HK1, ⟨m1, rfl⟩⟩ := hrel
  cases gk with
  | zero => exact absurd HA.out (by simp [ravelinlaw10_few.l0])
  | succ k1 => ?_
  have H := HA.out
  clear HA
  simp only [ravelinlaw10_few.l0] at H
  by_cases c2 : x3_1 < (l0.length : Int)
  rotate_left
  · rw [if_neg c2] at H
    have c2b0 : decide (x3_1 < (l0.length : Int)) = false := decide_eq_false c2
    clear c2
    obtain rfl := Option.some.inj H
    go_wp2
    go_ret
    exact ⟨by first | rfl | (simp; done) | (simp [*]; done), by repeat (first | exact Drawn0.refl _ | apply Drawn0.step)⟩
  rw [if_pos c2] at H
  have c2b0 : decide (x3_1 < (l0.length : Int)) = true := decide_eq_true c2
  clear c2
  by_cases c3 : 0 ≤ x3_1
  rotate_left
  · rw [if_neg c3] at H
    exact absurd H (by simp)
  rw [if_pos c3] at H
  have c3b0 : decide (0 ≤ x3_1) = true := decide_eq_true c3
  clear c3
  by_cases c4 : (((rd_T29 l0 x3_1).f0).size : Int) > 20
  · rw [if_pos c4] at H
    have c4b0 : decide (20 < (((rd_T29 l0 x3_1).f0).size : Int)) = true := decide_eq_true c4
    have c4b1 : decide (20 < ((rd_T29 l0 x3_1).f0).size) = true := decide_eq_true (by omega)
    clear c4
    obtain rfl := Option.some.inj H
    have p154 : 0 ≤ (x3_1 : Int) := of_decide_eq_true (by assumption)
    have q154 : x3_1 < (l0.length : Int) := of_decide_eq_true (by assumption)
    obtain ⟨ad154, e154, hx154_0, hx154_1, hx154_2, hx154_3⟩ := at_T29 HR0.out x3_1 p154 q154
    cases e154
    replace p154 := eq_true p154
    replace q154 := eq_true q154
    go_wp2
    go_ret
    exact ⟨by first | rfl | (simp; done) | (simp [*]; done), by repeat (first | exact Drawn0.refl _ | apply Drawn0.step)⟩
  rw [if_neg c4] at H
  have c4b0 : decide (20 < (((rd_T29 l0 x3_1).f0).size : Int)) = false := decide_eq_false c4
  have c4b1 : decide (20 < ((rd_T29 l0 x3_1).f0).size) = false := decide_eq_false (by omega)
  clear c4
  by_cases c5 : (((rd_T29 l0 x3_1).f3).size : Int) > 40
  · rw [if_pos c5] at H
    have c5b0 : decide (40 < (((rd_T29 l0 x3_1).f3).size : Int)) = true := decide_eq_true c5
    have c5b1 : decide (40 < ((rd_T29 l0 x3_1).f3).size) = true := decide_eq_true (by omega)
    clear c5
    obtain rfl := Option.some.inj H
    have p154 : 0 ≤ (x3_1 : Int) := of_decide_eq_true (by assumption)
    have q154 : x3_1 < (l0.length : Int) := of_decide_eq_true (by assumption)
    obtain ⟨ad154, e154, hx154_0, hx154_1, hx154_2, hx154_3⟩ := at_T29 HR0.out x3_1 p154 q154
    cases e154
    replace p154 := eq_true p154
    replace q154 := eq_true q154
    have p155 : 0 ≤ (x3_1 : Int) := of_decide_eq_true (by assumption)
    have q155 : x3_1 < (l0.length : Int) := of_decide_eq_true (by assumption)
    obtain ⟨ad155, e155, hx155_0, hx155_1, hx155_2, hx155_3⟩ := at_T29 HR0.out x3_1 p155 q155
    obtain rfl : ad154 = ad155 := (by injection e155)
    replace p155 := eq_true p155
    replace q155 := eq_true q155
    go_wp2
    go_ret
    exact ⟨by first | rfl | (simp; done) | (simp [*]; done), by repeat (first | exact Drawn0.refl _ | apply Drawn0.step)⟩
  rw [if_neg c5] at H
  have c5b0 : decide (40 < (((rd_T29 l0 x3_1).f3).size : Int)) = false := decide_eq_false c5
  have c5b1 : decide (40 < ((rd_T29 l0 x3_1).f3).size) = false := decide_eq_false (by omega)
  clear c5
  have H' := Aside0.mk H
  clear H
  have p154 : 0 ≤ (x3_1 : Int) := of_decide_eq_true (by assumption)
  have q154 : x3_1 < (l0.length : Int) := of_decide_eq_true (by assumption)
  obtain ⟨ad154, e154, hx154_0, hx154_1, hx154_2, hx154_3⟩ := at_T29 HR0.out x3_1 p154 q154
  cases e154
  replace p154 := eq_true p154
  replace q154 := eq_true q154
  have p155 : 0 ≤ (x3_1 : Int) := of_decide_eq_true (by assumption)
  have q155 : x3_1 < (l0.length : Int) := of_decide_eq_true (by assumption)
  obtain ⟨ad155, e155, hx155_0, hx155_1, hx155_2, hx155_3⟩ := at_T29 HR0.out x3_1 p155 q155
  obtain rfl : ad154 = ad155 := (by injection e155)
  replace p155 := eq_true p155
  replace q155 := eq_true q155
  go_wp2
  go_roundg k1
  case measure => have := HK1.out; omega
  case rel => exact ⟨(wrap64 (x3_1 + 1)), (by first | rfl | (simp; done) | (simp [*]; done)), H', ⟨by have := HK1.out; omega⟩, by repeat (first | exact Drawn0.refl _ | apply Drawn0.step)⟩

/-! ### ravelinref6_Less: function 22 -/
def ravelinref6_Less.f (a0_0 : ByteArray) (a0_1 : Int) (a0_2 : Bool) (a0_3 : ByteArray) (a1_0 : ByteArray) (a1_1 : Int) (a1_2 : Bool) (a1_3 : ByteArray) : Option (Bool) := if (Op.bytesLess a0_0.toList a1_0.toList) = true then (some true) else (if a0_0.toList = a1_0.toList then (some (decide (a0_1 > a1_1))) else (some false))
set_option maxHeartbeats 8000000 in
set_option maxRecDepth 100000 in
theorem ravelinref6_Less.calls (a0_0 : ByteArray) (a0_1 : Int) (a0_2 : Bool) (a0_3 : ByteArray) (a1_0 : ByteArray) (a1_1 : Int) (a1_2 : Bool) (a1_3 : ByteArray) (r : Bool) (w : World) (h : ravelinref6_Less.f a0_0 a0_1 a0_2 a0_3 a1_0 a1_1 a1_2 a1_3 = some r) :
    Calls Try.prog 22 #[.agg #[.string a0_0, .int .i64 a0_1, .bool a0_2, .string a0_3], .agg #[.string a1_0, .int .i64 a1_1, .bool a1_2, .string a1_3]] w fun e w' => e = .returned (.bool r) ∧ Below w.heap.size w w' := by
  have hu29 := Try.underlying29
  have HB := Aside0.mk (Below.refl w.heap.size w)
  have H : (if (Op.bytesLess a0_0.toList a1_0.toList) = true then (some true) else (if a0_0.toList = a1_0.toList then (some (decide (a0_1 > a1_1))) else (some false))) = some r := h
  clear h
  by_cases c3 : (Op.bytesLess a0_0.toList a1_0.toList) = true
  · rw [if_pos c3] at H
    have c3b0 : (Op.bytesLess a0_0.toList a1_0.toList) = true := c3
    clear c3
    obtain rfl := Option.some.inj H
    go_enter Try.func22, Try.ntmps22
    go_wp2_with (first | ((with_reducible refine gate_dst (N := 2) rfl ?_); refine box_event ?hg (N := 2) ?hd (cs := #[.string a0_0, .int .i64 a0_1, .bool a0_2, .string a0_3]) (t := 29) ?hr ?_; (case hd => rfl); (case hg => rfl); (case hr => first | (go_simp; done) | (go_simp; rfl)); intro gb156 hg w4 hbox hb; have n0_ := bs_ HB hb; have n1_ := Aside0.mk (hbox); have n2_ := gz_ HB hg; have n3_ := gz_ HB hg; clear HB; have HB := n0_; have BK156 := n1_; have GW156 := n2_; have GE156 := n3_; clear n0_ n1_ n2_ n3_; clear hb hbox hg) | ((with_reducible refine gate_dst (N := 3) rfl ?_); refine box_event ?hg (N := 3) ?hd (cs := #[.string a1_0, .int .i64 a1_1, .bool a1_2, .string a1_3]) (t := 29) ?hr ?_; (case hd => rfl); (case hg => rfl); (case hr => first | (go_simp; done) | (go_simp; rfl)); intro gb157 hg w5 hbox hb; have n0_ := bb_ BK156 hb; have n1_ := bl_ [gb156] HB ⟨GE156, ⟨⟩⟩ hb; have n2_ := Aside0.mk (hbox); have n3_ := gl_ [gb156] HB ⟨GE156, ⟨⟩⟩ hg; have n4_ := gl_ [gb156] HB ⟨GE156, ⟨⟩⟩ hg; have n5_ := gn_ BK156 hg; have n6_ := Aside0.mk ((by rw [hg]; exact Nat.ne_of_gt (blk_lt (g := gb156) (o := .cells #[.string a0_0, .int .i64 a0_1, .bool a0_2, .string a0_3] 29 (0, 0)) (gb_ BK156)) : gb157 ≠ gb156)); clear BK156; clear HB; have BK156 := n0_; have HB := n1_; have BK157 := n2_; have GW157 := n3_; have GE157 := n4_; have NB156_157 := n5_; have NB157_156 := n6_; clear n0_ n1_ n2_ n3_ n4_ n5_ n6_; clear hb hbox hg; have hnb6 := NB156_157.out; have hnc6 := NB157_156.out; have hcz7_0 := bc0 BK156; have hcz7_1 := bc1 BK156; have hcz7_2 := bc2 BK156; have hcz7_3 := bc3 BK156; have hfz7_0 := bf_ BK156 0; have hfz7_1 := bf_ BK156 1; have hfz7_2 := bf_ BK156 2; have hfz7_3 := bf_ BK156 3; have hcz8_0 := bc0 BK157; have hcz8_1 := bc1 BK157; have hcz8_2 := bc2 BK157; have hcz8_3 := bc3 BK157; have hfz8_0 := bf_ BK157 0; have hfz8_1 := bf_ BK157 1; have hfz8_2 := bf_ BK157 2; have hfz8_3 := bf_ BK157 3))
    go_ret
    exact ⟨by first | rfl | (simp [*, errW_none, errW_some] <;> rfl), gwl_ [gb156, gb157] HB ⟨GE156, GE157, ⟨⟩⟩⟩
  rw [if_neg c3] at H
  have c3b0 : (Op.bytesLess a0_0.toList a1_0.toList) = false := by simpa using c3
  clear c3
  by_cases c9 : a0_0.toList = a1_0.toList
  rotate_left
  · rw [if_neg c9] at H
    have c9b0 : (a0_0.toList == a1_0.toList) = false := beq_eq_false_iff_ne.mpr c9
    have c9b1 : (a0_0.toList != a1_0.toList) = true := bne_iff_ne.mpr c9
    obtain rfl := Option.some.inj H
    go_enter Try.func22, Try.ntmps22
    go_wp2_with (first | ((with_reducible refine gate_dst (N := 2) rfl ?_); refine box_event ?hg (N := 2) ?hd (cs := #[.string a0_0, .int .i64 a0_1, .bool a0_2, .string a0_3]) (t := 29) ?hr ?_; (case hd => rfl); (case hg => rfl); (case hr => first | (go_simp; done) | (go_simp; rfl)); intro gb156 hg w15 hbox hb; have n0_ := bs_ HB hb; have n1_ := Aside0.mk (hbox); have n2_ := gz_ HB hg; have n3_ := gz_ HB hg; clear HB; have HB := n0_; have BK156 := n1_; have GW156 := n2_; have GE156 := n3_; clear n0_ n1_ n2_ n3_; clear hb hbox hg) | ((with_reducible refine gate_dst (N := 3) rfl ?_); refine box_event ?hg (N := 3) ?hd (cs := #[.string a1_0, .int .i64 a1_1, .bool a1_2, .string a1_3]) (t := 29) ?hr ?_; (case hd => rfl); (case hg => rfl); (case hr => first | (go_simp; done) | (go_simp; rfl)); intro gb157 hg w16 hbox hb; have n0_ := bb_ BK156 hb; have n1_ := bl_ [gb156] HB ⟨GE156, ⟨⟩⟩ hb; have n2_ := Aside0.mk (hbox); have n3_ := gl_ [gb156] HB ⟨GE156, ⟨⟩⟩ hg; have n4_ := gl_ [gb156] HB ⟨GE156, ⟨⟩⟩ hg; have n5_ := gn_ BK156 hg; have n6_ := Aside0.mk ((by rw [hg]; exact Nat.ne_of_gt (blk_lt (g := gb156) (o := .cells #[.string a0_0, .int .i64 a0_1, .bool a0_2, .string a0_3] 29 (0, 0)) (gb_ BK156)) : gb157 ≠ gb156)); clear BK156; clear HB; have BK156 := n0_; have HB := n1_; have BK157 := n2_; have GW157 := n3_; have GE157 := n4_; have NB156_157 := n5_; have NB157_156 := n6_; clear n0_ n1_ n2_ n3_ n4_ n5_ n6_; clear hb hbox hg; have hnb17 := NB156_157.out; have hnc17 := NB157_156.out; have hcz18_0 := bc0 BK156; have hcz18_1 := bc1 BK156; have hcz18_2 := bc2 BK156; have hcz18_3 := bc3 BK156; have hfz18_0 := bf_ BK156 0; have hfz18_1 := bf_ BK156 1; have hfz18_2 := bf_ BK156 2; have hfz18_3 := bf_ BK156 3; have hcz19_0 := bc0 BK157; have hcz19_1 := bc1 BK157; have hcz19_2 := bc2 BK157; have hcz19_3 := bc3 BK157; have hfz19_0 := bf_ BK157 0; have hfz19_1 := bf_ BK157 1; have hfz19_2 := bf_ BK157 2; have hfz19_3 := bf_ BK157 3))
    go_ret
    exact ⟨by first | rfl | (simp [*, errW_none, errW_some] <;> rfl), gwl_ [gb156, gb157] HB ⟨GE156, GE157, ⟨⟩⟩⟩
  rw [if_pos c9] at H
  have c9b0 : (a0_0.toList == a1_0.toList) = true := beq_iff_eq.mpr c9
  have c9b1 : (a0_0.toList != a1_0.toList) = false := bne_eq_false_iff_eq.mpr c9
  clear c9
  obtain rfl := Option.some.inj H
  go_enter Try.func22, Try.ntmps22
  go_wp2_with (first | ((with_reducible refine gate_dst (N := 2) rfl ?_); refine box_event ?hg (N := 2) ?hd (cs := #[.string a0_0, .int .i64 a0_1, .bool a0_2, .string a0_3]) (t := 29) ?hr ?_; (case hd => rfl); (case hg => rfl); (case hr => first | (go_simp; done) | (go_simp; rfl)); intro gb156 hg w10 hbox hb; have n0_ := bs_ HB hb; have n1_ := Aside0.mk (hbox); have n2_ := gz_ HB hg; have n3_ := gz_ HB hg; clear HB; have HB := n0_; have BK156 := n1_; have GW156 := n2_; have GE156 := n3_; clear n0_ n1_ n2_ n3_; clear hb hbox hg) | ((with_reducible refine gate_dst (N := 3) rfl ?_); refine box_event ?hg (N := 3) ?hd (cs := #[.string a1_0, .int .i64 a1_1, .bool a1_2, .string a1_3]) (t := 29) ?hr ?_; (case hd => rfl); (case hg => rfl); (case hr => first | (go_simp; done) | (go_simp; rfl)); intro gb157 hg w11 hbox hb; have n0_ := bb_ BK156 hb; have n1_ := bl_ [gb156] HB ⟨GE156, ⟨⟩⟩ hb; have n2_ := Aside0.mk (hbox); have n3_ := gl_ [gb156] HB ⟨GE156, ⟨⟩⟩ hg; have n4_ := gl_ [gb156] HB ⟨GE156, ⟨⟩⟩ hg; have n5_ := gn_ BK156 hg; have n6_ := Aside0.mk ((by rw [hg]; exact Nat.ne_of_gt (blk_lt (g := gb156) (o := .cells #[.string a0_0, .int .i64 a0_1, .bool a0_2, .string a0_3] 29 (0, 0)) (gb_ BK156)) : gb157 ≠ gb156)); clear BK156; clear HB; have BK156 := n0_; have HB := n1_; have BK157 := n2_; have GW157 := n3_; have GE157 := n4_; have NB156_157 := n5_; have NB157_156 := n6_; clear n0_ n1_ n2_ n3_ n4_ n5_ n6_; clear hb hbox hg; have hnb12 := NB156_157.out; have hnc12 := NB157_156.out; have hcz13_0 := bc0 BK156; have hcz13_1 := bc1 BK156; have hcz13_2 := bc2 BK156; have hcz13_3 := bc3 BK156; have hfz13_0 := bf_ BK156 0; have hfz13_1 := bf_ BK156 1; have hfz13_2 := bf_ BK156 2; have hfz13_3 := bf_ BK156 3; have hcz14_0 := bc0 BK157; have hcz14_1 := bc1 BK157; have hcz14_2 := bc2 BK157; have hcz14_3 := bc3 BK157; have hfz14_0 := bf_ BK157 0; have hfz14_1 := bf_ BK157 1; have hfz14_2 := bf_ BK157 2; have hfz14_3 := bf_ BK157 3))
  go_ret
  exact ⟨by first | rfl | (simp [*, errW_none, errW_some] <;> rfl), gwl_ [gb156, gb157] HB ⟨GE156, GE157, ⟨⟩⟩⟩

/-! ### ravelinref6_IsWrite: function 35 -/
def ravelinref6_IsWrite.f (a0_0 : ByteArray) (a0_1 : Bool) (a0_2 : ByteArray) : Option (Bool) := if (a0_0.size : Int) ≥ 1 then (if (a0_0.size : Int) ≤ 13 then (if (a0_2.size : Int) ≤ 24 then (if a0_1 = true then (some (a0_2.toList == ([] : List UInt8))) else (some true)) else (some false)) else (some false)) else (some false)
set_option maxHeartbeats 8000000 in
set_option maxRecDepth 100000 in
theorem ravelinref6_IsWrite.calls (a0_0 : ByteArray) (a0_1 : Bool) (a0_2 : ByteArray) (r : Bool) (w : World) (h : ravelinref6_IsWrite.f a0_0 a0_1 a0_2 = some r) :
    Calls Try.prog 35 #[.agg #[.string a0_0, .bool a0_1, .string a0_2]] w fun e w' => e = .returned (.bool r) ∧ Below w.heap.size w w' := by
  have hu57 := Try.underlying57
  have HB := Aside0.mk (Below.refl w.heap.size w)
  have H : (if (a0_0.size : Int) ≥ 1 then (if (a0_0.size : Int) ≤ 13 then (if (a0_2.size : Int) ≤ 24 then (if a0_1 = true then (some (a0_2.toList == ([] : List UInt8))) else (some true)) else (some false)) else (some false)) else (some false)) = some r := h
  clear h
  by_cases c2 : (a0_0.size : Int) ≥ 1
  rotate_left
  · rw [if_neg c2] at H
    have c2b0 : decide (1 ≤ (a0_0.size : Int)) = false := decide_eq_false c2
    have c2b1 : decide (1 ≤ a0_0.size) = false := decide_eq_false (by omega)
    clear c2
    obtain rfl := Option.some.inj H
    go_enter Try.func35, Try.ntmps35
    go_wp2_with (first | ((with_reducible refine gate_dst (N := 1) rfl ?_); (try (refine gate_guard (by rfl) ?_; dsimp only)); refine box_event ?hg (N := 1) ?hd (cs := #[.string a0_0, .bool a0_1, .string a0_2]) (t := 57) ?hr ?_; (case hd => rfl); (case hg => rfl); (case hr => first | (go_simp; done) | (go_simp; rfl)); intro gb158 hg w14 hbox hb; have n0_ := bs_ HB hb; have n1_ := Aside0.mk (hbox); have n2_ := gz_ HB hg; have n3_ := gz_ HB hg; clear HB; have HB := n0_; have BK158 := n1_; have GW158 := n2_; have GE158 := n3_; clear n0_ n1_ n2_ n3_; clear hb hbox hg; have hcz15_0 := bc0 BK158; have hcz15_1 := bc1 BK158; have hcz15_2 := bc2 BK158; have hfz15_0 := bf_ BK158 0; have hfz15_1 := bf_ BK158 1; have hfz15_2 := bf_ BK158 2))
    go_ret
    exact ⟨by first | rfl | (simp [*, errW_none, errW_some] <;> rfl), gwl_ [gb158] HB ⟨GE158, ⟨⟩⟩⟩
  rw [if_pos c2] at H
  have c2b0 : decide (1 ≤ (a0_0.size : Int)) = true := decide_eq_true c2
  have c2b1 : decide (1 ≤ a0_0.size) = true := decide_eq_true (by omega)
  clear c2
  by_cases c3 : (a0_0.size : Int) ≤ 13
  rotate_left
  · rw [if_neg c3] at H
    have c3b0 : decide ((a0_0.size : Int) ≤ 13) = false := decide_eq_false c3
    have c3b1 : decide (a0_0.size ≤ 13) = false := decide_eq_false (by omega)
    clear c3
    obtain rfl := Option.some.inj H
    go_enter Try.func35, Try.ntmps35
    go_wp2_with (first | ((with_reducible refine gate_dst (N := 1) rfl ?_); (try (refine gate_guard (by rfl) ?_; dsimp only)); refine box_event ?hg (N := 1) ?hd (cs := #[.string a0_0, .bool a0_1, .string a0_2]) (t := 57) ?hr ?_; (case hd => rfl); (case hg => rfl); (case hr => first | (go_simp; done) | (go_simp; rfl)); intro gb158 hg w12 hbox hb; have n0_ := bs_ HB hb; have n1_ := Aside0.mk (hbox); have n2_ := gz_ HB hg; have n3_ := gz_ HB hg; clear HB; have HB := n0_; have BK158 := n1_; have GW158 := n2_; have GE158 := n3_; clear n0_ n1_ n2_ n3_; clear hb hbox hg; have hcz13_0 := bc0 BK158; have hcz13_1 := bc1 BK158; have hcz13_2 := bc2 BK158; have hfz13_0 := bf_ BK158 0; have hfz13_1 := bf_ BK158 1; have hfz13_2 := bf_ BK158 2))
    go_ret
    exact ⟨by first | rfl | (simp [*, errW_none, errW_some] <;> rfl), gwl_ [gb158] HB ⟨GE158, ⟨⟩⟩⟩
  rw [if_pos c3] at H
  have c3b0 : decide ((a0_0.size : Int) ≤ 13) = true := decide_eq_true c3
  have c3b1 : decide (a0_0.size ≤ 13) = true := decide_eq_true (by omega)
  clear c3
  by_cases c4 : (a0_2.size : Int) ≤ 24
  rotate_left
  · rw [if_neg c4] at H
    have c4b0 : decide ((a0_2.size : Int) ≤ 24) = false := decide_eq_false c4
    have c4b1 : decide (a0_2.size ≤ 24) = false := decide_eq_false (by omega)
    clear c4
    obtain rfl := Option.some.inj H
    go_enter Try.func35, Try.ntmps35
    go_wp2_with (first | ((with_reducible refine gate_dst (N := 1) rfl ?_); (try (refine gate_guard (by rfl) ?_; dsimp only)); refine box_event ?hg (N := 1) ?hd (cs := #[.string a0_0, .bool a0_1, .string a0_2]) (t := 57) ?hr ?_; (case hd => rfl); (case hg => rfl); (case hr => first | (go_simp; done) | (go_simp; rfl)); intro gb158 hg w10 hbox hb; have n0_ := bs_ HB hb; have n1_ := Aside0.mk (hbox); have n2_ := gz_ HB hg; have n3_ := gz_ HB hg; clear HB; have HB := n0_; have BK158 := n1_; have GW158 := n2_; have GE158 := n3_; clear n0_ n1_ n2_ n3_; clear hb hbox hg; have hcz11_0 := bc0 BK158; have hcz11_1 := bc1 BK158; have hcz11_2 := bc2 BK158; have hfz11_0 := bf_ BK158 0; have hfz11_1 := bf_ BK158 1; have hfz11_2 := bf_ BK158 2))
    go_ret
    exact ⟨by first | rfl | (simp [*, errW_none, errW_some] <;> rfl), gwl_ [gb158] HB ⟨GE158, ⟨⟩⟩⟩
  rw [if_pos c4] at H
  have c4b0 : decide ((a0_2.size : Int) ≤ 24) = true := decide_eq_true c4
  have c4b1 : decide (a0_2.size ≤ 24) = true := decide_eq_true (by omega)
  clear c4
  by_cases c5 : a0_1 = true
  · subst c5
    have H1 : (some (a0_2.toList == ([] : List UInt8))) = some r := by rw [if_pos rfl] at H; exact H
    clear H
    have H := H1
    clear H1
    obtain rfl := Option.some.inj H
    go_enter Try.func35, Try.ntmps35
    go_wp2_with (first | ((with_reducible refine gate_dst (N := 1) rfl ?_); (try (refine gate_guard (by rfl) ?_; dsimp only)); refine box_event ?hg (N := 1) ?hd (cs := #[.string a0_0, .bool true, .string a0_2]) (t := 57) ?hr ?_; (case hd => rfl); (case hg => rfl); (case hr => first | (go_simp; done) | (go_simp; rfl)); intro gb158 hg w6 hbox hb; have n0_ := bs_ HB hb; have n1_ := Aside0.mk (hbox); have n2_ := gz_ HB hg; have n3_ := gz_ HB hg; clear HB; have HB := n0_; have BK158 := n1_; have GW158 := n2_; have GE158 := n3_; clear n0_ n1_ n2_ n3_; clear hb hbox hg; have hcz7_0 := bc0 BK158; have hcz7_1 := bc1 BK158; have hcz7_2 := bc2 BK158; have hfz7_0 := bf_ BK158 0; have hfz7_1 := bf_ BK158 1; have hfz7_2 := bf_ BK158 2))
    go_ret
    exact ⟨by first | rfl | (simp [*, errW_none, errW_some] <;> rfl), gwl_ [gb158] HB ⟨GE158, ⟨⟩⟩⟩
  replace c5 := Bool.eq_false_iff.mpr c5
  subst c5
  have H1 : (some true) = some r := by rw [if_neg (show ¬ (false = true) by decide)] at H; exact H
  clear H
  have H := H1
  clear H1
  obtain rfl := Option.some.inj H
  go_enter Try.func35, Try.ntmps35
  go_wp2_with (first | ((with_reducible refine gate_dst (N := 1) rfl ?_); (try (refine gate_guard (by rfl) ?_; dsimp only)); refine box_event ?hg (N := 1) ?hd (cs := #[.string a0_0, .bool false, .string a0_2]) (t := 57) ?hr ?_; (case hd => rfl); (case hg => rfl); (case hr => first | (go_simp; done) | (go_simp; rfl)); intro gb158 hg w8 hbox hb; have n0_ := bs_ HB hb; have n1_ := Aside0.mk (hbox); have n2_ := gz_ HB hg; have n3_ := gz_ HB hg; clear HB; have HB := n0_; have BK158 := n1_; have GW158 := n2_; have GE158 := n3_; clear n0_ n1_ n2_ n3_; clear hb hbox hg; have hcz9_0 := bc0 BK158; have hcz9_1 := bc1 BK158; have hcz9_2 := bc2 BK158; have hfz9_0 := bf_ BK158 0; have hfz9_1 := bf_ BK158 1; have hfz9_2 := bf_ BK158 2))
  go_ret
  exact ⟨by first | rfl | (simp [*, errW_none, errW_some] <;> rfl), gwl_ [gb158] HB ⟨GE158, ⟨⟩⟩⟩

/-! ### ravelinref6_Is: function 27 -/
def ravelinref6_Is.f (a0_0 : ByteArray) (a0_1 : Int) (a0_2 : Bool) (a0_3 : ByteArray) : Option (Bool) := if a0_1 ≥ 1 then (if a0_1 ≤ 1000000 then ((ravelinref6_IsWrite.f a0_0 a0_2 a0_3).bind fun t160 => (some t160)) else (some false)) else (some false)
set_option maxHeartbeats 8000000 in
set_option maxRecDepth 100000 in
theorem ravelinref6_Is.calls (a0_0 : ByteArray) (a0_1 : Int) (a0_2 : Bool) (a0_3 : ByteArray) (r : Bool) (w : World) (h : ravelinref6_Is.f a0_0 a0_1 a0_2 a0_3 = some r) :
    Calls Try.prog 27 #[.agg #[.string a0_0, .int .i64 a0_1, .bool a0_2, .string a0_3]] w fun e w' => e = .returned (.bool r) ∧ Below w.heap.size w w' := by
  have hu29 := Try.underlying29
  have hu57 := Try.underlying57
  have HB := Aside0.mk (Below.refl w.heap.size w)
  have H : (if a0_1 ≥ 1 then (if a0_1 ≤ 1000000 then ((ravelinref6_IsWrite.f a0_0 a0_2 a0_3).bind fun t160 => (some t160)) else (some false)) else (some false)) = some r := h
  clear h
  by_cases c2 : a0_1 ≥ 1
  rotate_left
  · rw [if_neg c2] at H
    have c2b0 : decide (1 ≤ a0_1) = false := decide_eq_false c2
    clear c2
    obtain rfl := Option.some.inj H
    go_enter Try.func27, Try.ntmps27
    go_wp2_with (first | ((with_reducible refine gate_dst (N := 1) rfl ?_); refine box_event ?hg (N := 1) ?hd (cs := #[.string a0_0, .int .i64 a0_1, .bool a0_2, .string a0_3]) (t := 29) ?hr ?_; (case hd => rfl); (case hg => rfl); (case hr => first | (go_simp; done) | (go_simp; rfl)); intro gb159 hg w10 hbox hb; have n0_ := bs_ HB hb; have n1_ := Aside0.mk (hbox); have n2_ := gz_ HB hg; have n3_ := gz_ HB hg; clear HB; have HB := n0_; have BK159 := n1_; have GW159 := n2_; have GE159 := n3_; clear n0_ n1_ n2_ n3_; clear hb hbox hg; have hcz11_0 := bc0 BK159; have hcz11_1 := bc1 BK159; have hcz11_2 := bc2 BK159; have hcz11_3 := bc3 BK159; have hfz11_0 := bf_ BK159 0; have hfz11_1 := bf_ BK159 1; have hfz11_2 := bf_ BK159 2; have hfz11_3 := bf_ BK159 3))
    go_ret
    exact ⟨by first | rfl | (simp [*, errW_none, errW_some] <;> rfl), gwl_ [gb159] HB ⟨GE159, ⟨⟩⟩⟩
  rw [if_pos c2] at H
  have c2b0 : decide (1 ≤ a0_1) = true := decide_eq_true c2
  clear c2
  by_cases c3 : a0_1 ≤ 1000000
  rotate_left
  · rw [if_neg c3] at H
    have c3b0 : decide (a0_1 ≤ 1000000) = false := decide_eq_false c3
    clear c3
    obtain rfl := Option.some.inj H
    go_enter Try.func27, Try.ntmps27
    go_wp2_with (first | ((with_reducible refine gate_dst (N := 1) rfl ?_); refine box_event ?hg (N := 1) ?hd (cs := #[.string a0_0, .int .i64 a0_1, .bool a0_2, .string a0_3]) (t := 29) ?hr ?_; (case hd => rfl); (case hg => rfl); (case hr => first | (go_simp; done) | (go_simp; rfl)); intro gb159 hg w8 hbox hb; have n0_ := bs_ HB hb; have n1_ := Aside0.mk (hbox); have n2_ := gz_ HB hg; have n3_ := gz_ HB hg; clear HB; have HB := n0_; have BK159 := n1_; have GW159 := n2_; have GE159 := n3_; clear n0_ n1_ n2_ n3_; clear hb hbox hg; have hcz9_0 := bc0 BK159; have hcz9_1 := bc1 BK159; have hcz9_2 := bc2 BK159; have hcz9_3 := bc3 BK159; have hfz9_0 := bf_ BK159 0; have hfz9_1 := bf_ BK159 1; have hfz9_2 := bf_ BK159 2; have hfz9_3 := bf_ BK159 3))
    go_ret
    exact ⟨by first | rfl | (simp [*, errW_none, errW_some] <;> rfl), gwl_ [gb159] HB ⟨GE159, ⟨⟩⟩⟩
  rw [if_pos c3] at H
  have c3b0 : decide (a0_1 ≤ 1000000) = true := decide_eq_true c3
  clear c3
  replace H := Option.bind_eq_some_iff.mp H
  obtain ⟨t160, A40, H⟩ := H
  try dsimp only at H
  have A4 := Aside0.mk A40
  clear A40
  obtain rfl := Option.some.inj H
  go_enter Try.func27, Try.ntmps27
  go_wp2_with (first | ((with_reducible refine gate_dst (N := 1) rfl ?_); refine box_event ?hg (N := 1) ?hd (cs := #[.string a0_0, .int .i64 a0_1, .bool a0_2, .string a0_3]) (t := 29) ?hr ?_; (case hd => rfl); (case hg => rfl); (case hr => first | (go_simp; done) | (go_simp; rfl)); intro gb159 hg w5 hbox hb; have n0_ := bs_ HB hb; have n1_ := Aside0.mk (hbox); have n2_ := gz_ HB hg; have n3_ := gz_ HB hg; clear HB; have HB := n0_; have BK159 := n1_; have GW159 := n2_; have GE159 := n3_; clear n0_ n1_ n2_ n3_; clear hb hbox hg; have hcz6_0 := bc0 BK159; have hcz6_1 := bc1 BK159; have hcz6_2 := bc2 BK159; have hcz6_3 := bc3 BK159; have hfz6_0 := bf_ BK159 0; have hfz6_1 := bf_ BK159 1; have hfz6_2 := bf_ BK159 2; have hfz6_3 := bf_ BK159 3) | (go_at_call 35; (with_reducible refine (ravelinref6_IsWrite.calls a0_0 a0_2 a0_3 t160 _ A4.out).mono ?_); rintro e w7 ⟨rfl, hb⟩; have n0_ := bb_ BK159 hb; have n1_ := bl_ [gb159] HB ⟨GE159, ⟨⟩⟩ hb; clear BK159; clear HB; have BK159 := n0_; have HB := n1_; clear n0_ n1_; (try clear hb); (try clear hb2); (try clear hk); (try clear hi)))
  go_ret
  exact ⟨by first | rfl | (simp [*, errW_none, errW_some] <;> rfl), gwl_ [gb159] HB ⟨GE159, ⟨⟩⟩⟩

end Go.Proofs.Ytdkdnfgpgedglaa.P
