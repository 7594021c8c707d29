-- Printed by a changed copy of the kit's printer (wip/tools/ext.py); labels and more
import Derived.Test.YthohfmfgijckhaaM0
import Derived.Test.YthohfmfgijckhaaM2
import Derived.Test.YthohfmfgijckhaaM3
import Derived.Test.YthohfmfgijckhaaM5
namespace Go.Proofs.Ythohfmfgijckhaa.P
open Go.RowKit Go.Proofs.YthohfmfgijckhaaW.PrintWords Go.Proofs.YthohfmfgijckhaaW.PrintLast Go.Proofs.YthohfmfgijckhaaW.PrintMore
attribute [local go_sem] max2_int min2_int max_two min_two max_three min_three max_four min_four   -- for this text's walks alone
set_option linter.unusedVariables false
set_option linter.unusedSimpArgs false

attribute [local go_sem high] eqA45
/-! ### ravelinref6_Same: function 13 -/
def ravelinref6_Same.l0 : Nat → List (S45) → List (S45) → Int → Option (Bool)
  | 0, _, _, _ => none
  | k + 1, x0, x1, x5 => if x5 < (x0.length : Int) then (if 0 ≤ x5 then (if x5 < (x1.length : Int) then (if (!((((rd_T45 x0 x5).f0).toList) == (((rd_T45 x1 x5).f0).toList)) || (!(((rd_T45 x0 x5).f1) == ((rd_T45 x1 x5).f1)) || (!(((rd_T45 x0 x5).f2) == ((rd_T45 x1 x5).f2)) || (!((((rd_T45 x0 x5).f3).toList) == (((rd_T45 x1 x5).f3).toList)))))) = true then (some false) else (ravelinref6_Same.l0 k x0 x1 (wrap64 (x5 + 1)))) else (none)) else (none)) else (some true)
def ravelinref6_Same.f (k : Nat) (l0 : List (S45)) (l1 : List (S45)) : Option (Bool) := if (l0.length : Int) = (l1.length : Int) then (ravelinref6_Same.l0 k l0 l1 0) else (some false)
theorem ravelinref6_Same.mono_l : ∀ k, (∀ y0 y1 y2, LeO (ravelinref6_Same.l0 k y0 y1 y2) (ravelinref6_Same.l0 (k + 1) y0 y1 y2))
  | 0 => fun _ _ _ r h => by simp [ravelinref6_Same.l0] at h
  | k + 1 => by
    have ih0 := ravelinref6_Same.mono_l k
    · intro y0 y1 y2
      unfold ravelinref6_Same.l0
      repeat' first
      | (with_reducible exact ih0 _ _ _)
      | (with_reducible exact LeO.refl _)
      | (with_reducible exact LeO.none _)
      | (with_reducible refine LeO.ite ?_ ?_)
      | (with_reducible refine LeO.bind ?_ (fun _ => ?_))
      | exact ih0 _ _ _
      | exact LeO.none _
      | refine LeO.ite ?_ ?_
      | refine LeO.bind ?_ (fun _ => ?_)
theorem ravelinref6_Same.mono : ∀ a0 a1 k, LeO (ravelinref6_Same.f k a0 a1) (ravelinref6_Same.f (k + 1) a0 a1) := by
  intro a0 a1 k
  have ih0 := ravelinref6_Same.mono_l k
  unfold ravelinref6_Same.f
  repeat' first
      | (with_reducible exact ih0 _ _ _)
      | (with_reducible exact LeO.refl _)
      | (with_reducible exact LeO.none _)
      | (with_reducible refine LeO.ite ?_ ?_)
      | (with_reducible refine LeO.bind ?_ (fun _ => ?_))
      | exact ih0 _ _ _
      | exact LeO.none _
      | refine LeO.ite ?_ ?_
      | refine LeO.bind ?_ (fun _ => ?_)
set_option maxHeartbeats 8000000 in
set_option maxRecDepth 100000 in
theorem ravelinref6_Same.calls (k : Nat) (A0 : Option Addr) (c0 : Nat) (l0 : List (S45)) (A1 : Option Addr) (c1 : Nat) (l1 : List (S45)) (r : Bool) (w : World) (hr0 : Kd.C k45 w A0 l0.length l0) (hc0 : l0.length ≤ c0) (hr1 : Kd.C k45 w A1 l1.length l1) (hc1 : l1.length ≤ c1) (h : ravelinref6_Same.f k l0 l1 = some r) :
    Calls Try.prog 13 #[.slice A0 l0.length c0, .slice A1 l1.length c1] w fun e w' => e = .returned (.bool r) ∧ Drawn0 w w' := by
  have hu45 := Try.underlying45
  have HR0 := Aside0.mk hr0
  have HC0 := Aside0.mk hc0
  clear hr0 hc0
  have HR1 := Aside0.mk hr1
  have HC1 := Aside0.mk hc1
  clear hr1 hc1
  have H : (if (l0.length : Int) = (l1.length : Int) then (ravelinref6_Same.l0 k l0 l1 0) else (some false)) = some r := h
  clear h
  by_cases c3 : (l0.length : Int) = (l1.length : Int)
  · rw [if_pos c3] at H
    have c3b0 : ((l0.length : Int) == (l1.length : Int)) = true := beq_iff_eq.mpr c3
    have c3b1 : ((l0.length : Int) != (l1.length : Int)) = false := bne_eq_false_iff_eq.mpr c3
    have c3b2 : (l0.length == l1.length) = true := by first | simpa using c3 | (simp at c3 ⊢; omega)
    clear c3
    have H' := Aside0.mk H
    clear H
    go_enter Try.func13, Try.ntmps13
    go_wp2
    repeat (go_quiet (fail); try go_wp2)
    go_loopg [5] k (fun kq v5 w' => ∃ (x5_1 : Int), v5 = .int .i64 x5_1 ∧ Aside0 (ravelinref6_Same.l0 kq l0 l1 x5_1 = some r) ∧ Aside0 (kq ≤ k) ∧ Drawn0 w w')
    case atStart => exact ⟨(0), (by first | rfl | (simp; done) | (simp [*]; done)), H', ⟨Nat.le_refl _⟩, by repeat (first | exact Drawn0.refl _ | apply Drawn0.step)⟩
    case round =>
      clear H'
      try clear c1
      try clear p2
      try clear c3
      try clear c3b0
      try clear c3b1
      try clear c3b2
      obtain ⟨x5_1, rfl, HA, HK1, ⟨m1, rfl⟩⟩ := hrel
      cases gk with
      | zero => exact absurd HA.out (by simp [ravelinref6_Same.l0])
      | succ k1 =>
        have H := HA.out
        clear HA
        simp only [ravelinref6_Same.l0] at H
        by_cases c4 : x5_1 < (l0.length : Int)
        · rw [if_pos c4] at H
          have c4b0 : decide (x5_1 < (l0.length : Int)) = true := decide_eq_true c4
          clear c4
          by_cases c5 : 0 ≤ x5_1
          · rw [if_pos c5] at H
            have c5b0 : decide (0 ≤ x5_1) = true := decide_eq_true c5
            clear c5
            by_cases c6 : x5_1 < (l1.length : Int)
            · rw [if_pos c6] at H
              have c6b0 : decide (x5_1 < (l1.length : Int)) = true := decide_eq_true c6
              clear c6
              by_cases c7 : (!((((rd_T45 l0 x5_1).f0).toList) == (((rd_T45 l1 x5_1).f0).toList)) || (!(((rd_T45 l0 x5_1).f1) == ((rd_T45 l1 x5_1).f1)) || (!(((rd_T45 l0 x5_1).f2) == ((rd_T45 l1 x5_1).f2)) || (!((((rd_T45 l0 x5_1).f3).toList) == (((rd_T45 l1 x5_1).f3).toList)))))) = true
              · rw [if_pos c7] at H
                have c7b0 : (!((((rd_T45 l0 x5_1).f0).toList) == (((rd_T45 l1 x5_1).f0).toList)) || (!(((rd_T45 l0 x5_1).f1) == ((rd_T45 l1 x5_1).f1)) || (!(((rd_T45 l0 x5_1).f2) == ((rd_T45 l1 x5_1).f2)) || (!((((rd_T45 l0 x5_1).f3).toList) == (((rd_T45 l1 x5_1).f3).toList)))))) = true := c7
                clear c7
                obtain rfl := Option.some.inj H
                have p203 : 0 ≤ (x5_1 : Int) := of_decide_eq_true (by first | (with_reducible assumption) | assumption)
                have q203 : x5_1 < (l0.length : Int) := of_decide_eq_true (by first | (with_reducible assumption) | assumption)
                obtain ⟨ad203, e203, hx203_0, hx203_1, hx203_2, hx203_3⟩ := at_T45 HR0.out x5_1 p203 q203
                cases e203
                replace p203 := eq_true p203
                replace q203 := eq_true q203
                have p204 : 0 ≤ (x5_1 : Int) := of_decide_eq_true (by first | (with_reducible assumption) | assumption)
                have q204 : x5_1 < (l1.length : Int) := of_decide_eq_true (by first | (with_reducible assumption) | assumption)
                obtain ⟨ad204, e204, hx204_0, hx204_1, hx204_2, hx204_3⟩ := at_T45 HR1.out x5_1 p204 q204
                cases e204
                replace p204 := eq_true p204
                replace q204 := eq_true q204
                go_wp2
                repeat (go_quiet (fail); try go_wp2)
                go_ret
                exact ⟨by first | rfl | (simp; done) | (simp [*]; done), by repeat (first | exact Drawn0.refl _ | apply Drawn0.step)⟩
              · rw [if_neg c7] at H
                have c7b0 : (!((((rd_T45 l0 x5_1).f0).toList) == (((rd_T45 l1 x5_1).f0).toList)) || (!(((rd_T45 l0 x5_1).f1) == ((rd_T45 l1 x5_1).f1)) || (!(((rd_T45 l0 x5_1).f2) == ((rd_T45 l1 x5_1).f2)) || (!((((rd_T45 l0 x5_1).f3).toList) == (((rd_T45 l1 x5_1).f3).toList)))))) = false := by simpa using c7
                clear c7
                have H' := Aside0.mk H
                clear H
                have p203 : 0 ≤ (x5_1 : Int) := of_decide_eq_true (by first | (with_reducible assumption) | assumption)
                have q203 : x5_1 < (l0.length : Int) := of_decide_eq_true (by first | (with_reducible assumption) | assumption)
                obtain ⟨ad203, e203, hx203_0, hx203_1, hx203_2, hx203_3⟩ := at_T45 HR0.out x5_1 p203 q203
                cases e203
                replace p203 := eq_true p203
                replace q203 := eq_true q203
                have p204 : 0 ≤ (x5_1 : Int) := of_decide_eq_true (by first | (with_reducible assumption) | assumption)
                have q204 : x5_1 < (l1.length : Int) := of_decide_eq_true (by first | (with_reducible assumption) | assumption)
                obtain ⟨ad204, e204, hx204_0, hx204_1, hx204_2, hx204_3⟩ := at_T45 HR1.out x5_1 p204 q204
                cases e204
                replace p204 := eq_true p204
                replace q204 := eq_true q204
                go_wp2
                repeat (go_quiet (fail); try go_wp2)
                go_roundg k1
                case measure => have := HK1.out; omega
                case rel => exact ⟨(wrap64 (x5_1 + 1)), (by first | rfl | (simp; done) | (simp [*]; done)), H', ⟨by have := HK1.out; omega⟩, by repeat (first | exact Drawn0.refl _ | apply Drawn0.step)⟩
            · rw [if_neg c6] at H
              exact absurd H (by simp)
          · rw [if_neg c5] at H
            exact absurd H (by simp)
        · rw [if_neg c4] at H
          have c4b0 : decide (x5_1 < (l0.length : Int)) = false := decide_eq_false c4
          clear c4
          obtain rfl := Option.some.inj H
          go_wp2
          repeat (go_quiet (fail); try go_wp2)
          go_ret
          exact ⟨by first | rfl | (simp; done) | (simp [*]; done), by repeat (first | exact Drawn0.refl _ | apply Drawn0.step)⟩
  · rw [if_neg c3] at H
    have c3b0 : ((l0.length : Int) == (l1.length : Int)) = false := beq_eq_false_iff_ne.mpr c3
    have c3b1 : ((l0.length : Int) != (l1.length : Int)) = true := bne_iff_ne.mpr c3
    have c3b2 : (l0.length == l1.length) = false := by first | simpa using c3 | (simp at c3 ⊢; omega)
    obtain rfl := Option.some.inj H
    go_enter Try.func13, Try.ntmps13
    go_wp2
    repeat (go_quiet (fail); try go_wp2)
    go_ret
    exact ⟨by first | rfl | (simp; done) | (simp [*]; done), by repeat (first | exact Drawn0.refl _ | apply Drawn0.step)⟩

/-! ### ravelinlaw8_known: function 7 -/
def ravelinlaw8_known.f (k : Nat)  : Option (Bool) := (some (([(⟨(⟨#[97, 98]⟩ : ByteArray), 2, false, (⟨#[120]⟩ : ByteArray)⟩ : S45), (⟨(⟨#[97, 99]⟩ : ByteArray), 1, true, (⟨#[]⟩ : ByteArray)⟩ : S45)] : List (S45)) : List (S45))).bind fun y205 => ((block_Make.f k y205).bind fun bt208 => ((block_Read.f k bt208.1).bind fun bt210 => ((block_Make.f k ([] : List (S45))).bind fun bt214 => (if 1 < (y205.length : Int) then (if 0 < (y205.length : Int) then ((block_Make.f k (([(⟨(rd_T45 y205 1).f0, (rd_T45 y205 1).f1, (rd_T45 y205 1).f2, (rd_T45 y205 1).f3⟩ : S45), (⟨(rd_T45 y205 0).f0, (rd_T45 y205 0).f1, (rd_T45 y205 0).f2, (rd_T45 y205 0).f3⟩ : S45)] : List (S45)))).bind fun bt221 => (if bt208.1.size + 1 ≤ 9223372036854775807 then ((block_Read.f k (bt208.1 ++ (⟨#[120]⟩ : ByteArray))).bind fun bt223 => (if bt208.2 = 0 then (if bt210.2 = 0 then ((ravelinref6_Same.f k bt210.1 y205).bind fun t227 => (if t227 = true then (if bt214.2 = 10 then (if bt221.2 = 16 then (if bt223.2 = 13 then ((block_Shared.f k (⟨#[97, 98, 99]⟩ : ByteArray) (⟨#[97, 98, 100]⟩ : ByteArray)).bind fun t228 => (some (t228 == 2))) else (some false)) else (some false)) else (some false)) else (some false))) else (some false)) else (some false))) else (none))) else (none)) else (none)))))
theorem ravelinlaw8_known.mono : ∀ k, LeO (ravelinlaw8_known.f k ) (ravelinlaw8_known.f (k + 1) ) := by
  intro  k
  unfold ravelinlaw8_known.f
  repeat' first
      | (with_reducible exact block_Make.mono _ _)
      | (with_reducible exact block_Read.mono _ _)
      | (with_reducible exact block_Shared.mono _ _ _)
      | (with_reducible exact ravelinref6_Same.mono _ _ _)
      | (with_reducible exact LeO.refl _)
      | (with_reducible exact LeO.none _)
      | (with_reducible refine LeO.ite ?_ ?_)
      | (with_reducible refine LeO.bind ?_ (fun _ => ?_))
      | exact block_Make.mono _ _
      | exact block_Read.mono _ _
      | exact block_Shared.mono _ _ _
      | exact ravelinref6_Same.mono _ _ _
      | exact LeO.none _
      | refine LeO.ite ?_ ?_
      | refine LeO.bind ?_ (fun _ => ?_)
def ravelinlaw8_known.T5 : Bool × List (List Nat × List Nat) := (true, [([], []), ([0], [0]), ([1], [1]), ([], []), ([3], [3]), ([4], [4]), ([2, 5], [2, 5]), ([6], [6]), ([7], [7]), ([8], [8]), ([8], [8]), ([9, 7, 0, 1, 2, 3, 4, 5, 6, 7, 8, 9], [9]), ([10, 11, 0, 1, 2, 3, 4, 5, 6, 7, 8, 9, 10, 11], [10])])
def ravelinlaw8_known.B5 : List Nat := [0, 1, 3, 0, 8, 24, 63, 127, 255, 511, 511, 1023, 4095]
theorem ravelinlaw8_known.tab5 : rtab .any (opsOf Try.f7 5) = ravelinlaw8_known.T5 := by kernel_rfl
theorem ravelinlaw8_known.bits5 : waitsOk ravelinlaw8_known.T5.2 ravelinlaw8_known.B5 = true := by kernel_rfl
set_option maxHeartbeats 8000000 in
set_option maxRecDepth 100000 in
theorem ravelinlaw8_known.calls (k : Nat)  (r : Bool) (w : World) (h : ravelinlaw8_known.f k  = some r) (hr_ : r = true) :
    Calls Try.prog 7 #[] w fun e w' => e = .returned (.bool r) ∧ Below w.heap.size w w' := by
  have hu45 := Try.underlying45
  have HB := Aside0.mk (Below.refl w.heap.size w)
  have H : ((some (([(⟨(⟨#[97, 98]⟩ : ByteArray), 2, false, (⟨#[120]⟩ : ByteArray)⟩ : S45), (⟨(⟨#[97, 99]⟩ : ByteArray), 1, true, (⟨#[]⟩ : ByteArray)⟩ : S45)] : List (S45)) : List (S45))).bind fun y205 => ((block_Make.f k y205).bind fun bt208 => ((block_Read.f k bt208.1).bind fun bt210 => ((block_Make.f k ([] : List (S45))).bind fun bt214 => (if 1 < (y205.length : Int) then (if 0 < (y205.length : Int) then ((block_Make.f k (([(⟨(rd_T45 y205 1).f0, (rd_T45 y205 1).f1, (rd_T45 y205 1).f2, (rd_T45 y205 1).f3⟩ : S45), (⟨(rd_T45 y205 0).f0, (rd_T45 y205 0).f1, (rd_T45 y205 0).f2, (rd_T45 y205 0).f3⟩ : S45)] : List (S45)))).bind fun bt221 => (if bt208.1.size + 1 ≤ 9223372036854775807 then ((block_Read.f k (bt208.1 ++ (⟨#[120]⟩ : ByteArray))).bind fun bt223 => (if bt208.2 = 0 then (if bt210.2 = 0 then ((ravelinref6_Same.f k bt210.1 y205).bind fun t227 => (if t227 = true then (if bt214.2 = 10 then (if bt221.2 = 16 then (if bt223.2 = 13 then ((block_Shared.f k (⟨#[97, 98, 99]⟩ : ByteArray) (⟨#[97, 98, 100]⟩ : ByteArray)).bind fun t228 => (some (t228 == 2))) else (some false)) else (some false)) else (some false)) else (some false))) else (some false)) else (some false))) else (none))) else (none)) else (none)))))) = some r := h
  clear h
  have HR_ := Aside0.mk hr_
  clear hr_
  obtain ⟨y205, hy205⟩ : ∃ y_ : List (S45), y_ = (([(⟨(⟨#[97, 98]⟩ : ByteArray), 2, false, (⟨#[120]⟩ : ByteArray)⟩ : S45), (⟨(⟨#[97, 99]⟩ : ByteArray), 1, true, (⟨#[]⟩ : ByteArray)⟩ : S45)] : List (S45))) := ⟨_, rfl⟩
  replace H : ((block_Make.f k y205).bind fun bt208 => ((block_Read.f k bt208.1).bind fun bt210 => ((block_Make.f k ([] : List (S45))).bind fun bt214 => (if 1 < (y205.length : Int) then (if 0 < (y205.length : Int) then ((block_Make.f k (([(⟨(rd_T45 y205 1).f0, (rd_T45 y205 1).f1, (rd_T45 y205 1).f2, (rd_T45 y205 1).f3⟩ : S45), (⟨(rd_T45 y205 0).f0, (rd_T45 y205 0).f1, (rd_T45 y205 0).f2, (rd_T45 y205 0).f3⟩ : S45)] : List (S45)))).bind fun bt221 => (if bt208.1.size + 1 ≤ 9223372036854775807 then ((block_Read.f k (bt208.1 ++ (⟨#[120]⟩ : ByteArray))).bind fun bt223 => (if bt208.2 = 0 then (if bt210.2 = 0 then ((ravelinref6_Same.f k bt210.1 y205).bind fun t227 => (if t227 = true then (if bt214.2 = 10 then (if bt221.2 = 16 then (if bt223.2 = 13 then ((block_Shared.f k (⟨#[97, 98, 99]⟩ : ByteArray) (⟨#[97, 98, 100]⟩ : ByteArray)).bind fun t228 => (some (t228 == 2))) else (some false)) else (some false)) else (some false)) else (some false))) else (some false)) else (some false))) else (none))) else (none)) else (none))))) = some r := by first | (rw [hy205]; with_reducible exact H) | (have H2_ := (Option.bind_some _ _).symm.trans H; rw [hy205]; with_reducible exact H2_) | (have H2_ := (Option.bind_some _ _).symm.trans H; with_reducible exact H2_) | with_reducible exact H | (rw [hy205]; exact H) | exact H
  have Ny205 := Aside0.mk hy205
  clear hy205
  replace H := Option.bind_eq_some_iff.mp H
  obtain ⟨⟨t208, t209⟩, A10, H⟩ := H
  replace H : ((block_Read.f k t208).bind fun bt210 => ((block_Make.f k ([] : List (S45))).bind fun bt214 => (if 1 < (y205.length : Int) then (if 0 < (y205.length : Int) then ((block_Make.f k (([(⟨(rd_T45 y205 1).f0, (rd_T45 y205 1).f1, (rd_T45 y205 1).f2, (rd_T45 y205 1).f3⟩ : S45), (⟨(rd_T45 y205 0).f0, (rd_T45 y205 0).f1, (rd_T45 y205 0).f2, (rd_T45 y205 0).f3⟩ : S45)] : List (S45)))).bind fun bt221 => (if t208.size + 1 ≤ 9223372036854775807 then ((block_Read.f k (t208 ++ (⟨#[120]⟩ : ByteArray))).bind fun bt223 => (if t209 = 0 then (if bt210.2 = 0 then ((ravelinref6_Same.f k bt210.1 y205).bind fun t227 => (if t227 = true then (if bt214.2 = 10 then (if bt221.2 = 16 then (if bt223.2 = 13 then ((block_Shared.f k (⟨#[97, 98, 99]⟩ : ByteArray) (⟨#[97, 98, 100]⟩ : ByteArray)).bind fun t228 => (some (t228 == 2))) else (some false)) else (some false)) else (some false)) else (some false))) else (some false)) else (some false))) else (none))) else (none)) else (none)))) = some r := H
  have A1 := Aside0.mk A10
  clear A10
  replace H := Option.bind_eq_some_iff.mp H
  obtain ⟨⟨t210, t211⟩, A20, H⟩ := H
  replace H : ((block_Make.f k ([] : List (S45))).bind fun bt214 => (if 1 < (y205.length : Int) then (if 0 < (y205.length : Int) then ((block_Make.f k (([(⟨(rd_T45 y205 1).f0, (rd_T45 y205 1).f1, (rd_T45 y205 1).f2, (rd_T45 y205 1).f3⟩ : S45), (⟨(rd_T45 y205 0).f0, (rd_T45 y205 0).f1, (rd_T45 y205 0).f2, (rd_T45 y205 0).f3⟩ : S45)] : List (S45)))).bind fun bt221 => (if t208.size + 1 ≤ 9223372036854775807 then ((block_Read.f k (t208 ++ (⟨#[120]⟩ : ByteArray))).bind fun bt223 => (if t209 = 0 then (if t211 = 0 then ((ravelinref6_Same.f k t210 y205).bind fun t227 => (if t227 = true then (if bt214.2 = 10 then (if bt221.2 = 16 then (if bt223.2 = 13 then ((block_Shared.f k (⟨#[97, 98, 99]⟩ : ByteArray) (⟨#[97, 98, 100]⟩ : ByteArray)).bind fun t228 => (some (t228 == 2))) else (some false)) else (some false)) else (some false)) else (some false))) else (some false)) else (some false))) else (none))) else (none)) else (none))) = some r := H
  have A2 := Aside0.mk A20
  clear A20
  replace H := Option.bind_eq_some_iff.mp H
  obtain ⟨⟨t214, t215⟩, A30, H⟩ := H
  replace H : (if 1 < (y205.length : Int) then (if 0 < (y205.length : Int) then ((block_Make.f k (([(⟨(rd_T45 y205 1).f0, (rd_T45 y205 1).f1, (rd_T45 y205 1).f2, (rd_T45 y205 1).f3⟩ : S45), (⟨(rd_T45 y205 0).f0, (rd_T45 y205 0).f1, (rd_T45 y205 0).f2, (rd_T45 y205 0).f3⟩ : S45)] : List (S45)))).bind fun bt221 => (if t208.size + 1 ≤ 9223372036854775807 then ((block_Read.f k (t208 ++ (⟨#[120]⟩ : ByteArray))).bind fun bt223 => (if t209 = 0 then (if t211 = 0 then ((ravelinref6_Same.f k t210 y205).bind fun t227 => (if t227 = true then (if t215 = 10 then (if bt221.2 = 16 then (if bt223.2 = 13 then ((block_Shared.f k (⟨#[97, 98, 99]⟩ : ByteArray) (⟨#[97, 98, 100]⟩ : ByteArray)).bind fun t228 => (some (t228 == 2))) else (some false)) else (some false)) else (some false)) else (some false))) else (some false)) else (some false))) else (none))) else (none)) else (none)) = some r := H
  have A3 := Aside0.mk A30
  clear A30
  by_cases c4 : 1 < (y205.length : Int)
  · rw [if_pos c4] at H
    have c4b0 : decide (1 < (y205.length : Int)) = true := decide_eq_true c4
    have c4b1 : decide (1 < y205.length) = true := decide_eq_true (by omega)
    clear c4
    by_cases c5 : 0 < (y205.length : Int)
    · rw [if_pos c5] at H
      have c5b0 : decide (0 < (y205.length : Int)) = true := decide_eq_true c5
      have c5b1 : decide (0 < y205.length) = true := decide_eq_true (by omega)
      clear c5
      obtain ⟨y218, hy218⟩ : ∃ y_ : List (S45), y_ = (([(⟨(rd_T45 y205 1).f0, (rd_T45 y205 1).f1, (rd_T45 y205 1).f2, (rd_T45 y205 1).f3⟩ : S45), (⟨(rd_T45 y205 0).f0, (rd_T45 y205 0).f1, (rd_T45 y205 0).f2, (rd_T45 y205 0).f3⟩ : S45)] : List (S45))) := ⟨_, rfl⟩
      replace H : ((block_Make.f k y218).bind fun bt221 => (if t208.size + 1 ≤ 9223372036854775807 then ((block_Read.f k (t208 ++ (⟨#[120]⟩ : ByteArray))).bind fun bt223 => (if t209 = 0 then (if t211 = 0 then ((ravelinref6_Same.f k t210 y205).bind fun t227 => (if t227 = true then (if t215 = 10 then (if bt221.2 = 16 then (if bt223.2 = 13 then ((block_Shared.f k (⟨#[97, 98, 99]⟩ : ByteArray) (⟨#[97, 98, 100]⟩ : ByteArray)).bind fun t228 => (some (t228 == 2))) else (some false)) else (some false)) else (some false)) else (some false))) else (some false)) else (some false))) else (none))) = some r := by first | (rw [hy218]; with_reducible exact H) | (have H2_ := (Option.bind_some _ _).symm.trans H; rw [hy218]; with_reducible exact H2_) | (have H2_ := (Option.bind_some _ _).symm.trans H; with_reducible exact H2_) | with_reducible exact H | (rw [hy218]; exact H) | exact H
      have Ny218 := Aside0.mk hy218
      clear hy218
      replace H := Option.bind_eq_some_iff.mp H
      obtain ⟨⟨t221, t222⟩, A60, H⟩ := H
      replace H : (if t208.size + 1 ≤ 9223372036854775807 then ((block_Read.f k (t208 ++ (⟨#[120]⟩ : ByteArray))).bind fun bt223 => (if t209 = 0 then (if t211 = 0 then ((ravelinref6_Same.f k t210 y205).bind fun t227 => (if t227 = true then (if t215 = 10 then (if t222 = 16 then (if bt223.2 = 13 then ((block_Shared.f k (⟨#[97, 98, 99]⟩ : ByteArray) (⟨#[97, 98, 100]⟩ : ByteArray)).bind fun t228 => (some (t228 == 2))) else (some false)) else (some false)) else (some false)) else (some false))) else (some false)) else (some false))) else (none)) = some r := H
      have A6 := Aside0.mk A60
      clear A60
      by_cases c7 : t208.size + 1 ≤ 9223372036854775807
      · rw [if_pos c7] at H
        have c7b0 := eq_true c7
        have c7b1 : decide (t208.size + 1 ≤ 9223372036854775807) = true := decide_eq_true c7
        try have c7b2 : (9223372036854775807 < t208.size + 1) = False := eq_false (Nat.not_lt.2 c7)
        replace H := Option.bind_eq_some_iff.mp H
        obtain ⟨⟨t223, t224⟩, A80, H⟩ := H
        replace H : (if t209 = 0 then (if t211 = 0 then ((ravelinref6_Same.f k t210 y205).bind fun t227 => (if t227 = true then (if t215 = 10 then (if t222 = 16 then (if t224 = 13 then ((block_Shared.f k (⟨#[97, 98, 99]⟩ : ByteArray) (⟨#[97, 98, 100]⟩ : ByteArray)).bind fun t228 => (some (t228 == 2))) else (some false)) else (some false)) else (some false)) else (some false))) else (some false)) else (some false)) = some r := H
        have A8 := Aside0.mk A80
        clear A80
        by_cases c9 : t209 = 0
        · rw [if_pos c9] at H
          have c9b0 : (t209 == 0) = true := beq_iff_eq.mpr c9
          have c9b1 : (t209 != 0) = false := bne_eq_false_iff_eq.mpr c9
          clear c9
          by_cases c10 : t211 = 0
          · rw [if_pos c10] at H
            have c10b0 : (t211 == 0) = true := beq_iff_eq.mpr c10
            have c10b1 : (t211 != 0) = false := bne_eq_false_iff_eq.mpr c10
            clear c10
            replace H := Option.bind_eq_some_iff.mp H
            obtain ⟨t227, A110, H⟩ := H
            replace H : (if t227 = true then (if t215 = 10 then (if t222 = 16 then (if t224 = 13 then ((block_Shared.f k (⟨#[97, 98, 99]⟩ : ByteArray) (⟨#[97, 98, 100]⟩ : ByteArray)).bind fun t228 => (some (t228 == 2))) else (some false)) else (some false)) else (some false)) else (some false)) = some r := H
            have A11 := Aside0.mk A110
            clear A110
            by_cases c12 : t227 = true
            · subst c12
              have H1 : (if t215 = 10 then (if t222 = 16 then (if t224 = 13 then ((block_Shared.f k (⟨#[97, 98, 99]⟩ : ByteArray) (⟨#[97, 98, 100]⟩ : ByteArray)).bind fun t228 => (some (t228 == 2))) else (some false)) else (some false)) else (some false)) = some r := by rw [if_pos rfl] at H; exact H
              clear H
              have H := H1
              clear H1
              by_cases c13 : t215 = 10
              · rw [if_pos c13] at H
                have c13b0 : (t215 == 10) = true := beq_iff_eq.mpr c13
                have c13b1 : (t215 != 10) = false := bne_eq_false_iff_eq.mpr c13
                clear c13
                by_cases c14 : t222 = 16
                · rw [if_pos c14] at H
                  have c14b0 : (t222 == 16) = true := beq_iff_eq.mpr c14
                  have c14b1 : (t222 != 16) = false := bne_eq_false_iff_eq.mpr c14
                  clear c14
                  by_cases c15 : t224 = 13
                  · rw [if_pos c15] at H
                    have c15b0 : (t224 == 13) = true := beq_iff_eq.mpr c15
                    have c15b1 : (t224 != 13) = false := bne_eq_false_iff_eq.mpr c15
                    clear c15
                    replace H := Option.bind_eq_some_iff.mp H
                    obtain ⟨t228, A160, H⟩ := H
                    replace H : (some (t228 == 2)) = some r := H
                    have A16 := Aside0.mk A160
                    clear A160
                    obtain rfl := Option.some.inj H
                    go_enter Try.func7, Try.ntmps7
                    try go_wp2_with (first | ((with_reducible refine gate_dst (N := 14) rfl ?_); refine Kd.R_lit k45 _ 45 ?hg (N := 14) ?hd (xs := ([(⟨(⟨#[97, 98]⟩ : ByteArray), 2, false, (⟨#[120]⟩ : ByteArray)⟩ : S45), (⟨(⟨#[97, 99]⟩ : ByteArray), 1, true, (⟨#[]⟩ : ByteArray)⟩ : S45)] : List (S45))) (inner := [.string (⟨#[97, 98]⟩ : ByteArray), .int .i64 2, .bool false, .string (⟨#[120]⟩ : ByteArray), .string (⟨#[97, 99]⟩ : ByteArray), .int .i64 1, .bool true, .string (⟨#[]⟩ : ByteArray)]) (ok := fun _ => True) (okp := fun _ => True) ?hr ?hp (fun _ hk => hk) trivial (Below.refl _ _) (Nat.le_refl _) (by simp) ?_; (case hd => rfl); (case hg => rfl); (case hr => first | (go_simp; done) | (go_simp; rfl)); (case hp => exact (Reps.c4 (show Kd.M k45 _ _ _ (⟨(⟨#[97, 98]⟩ : ByteArray), 2, false, (⟨#[120]⟩ : ByteArray)⟩ : S45) [.string (⟨#[97, 98]⟩ : ByteArray), .int .i64 2, .bool false, .string (⟨#[120]⟩ : ByteArray)] from (k45_mkM _ _ _ (⟨(⟨#[97, 98]⟩ : ByteArray), 2, false, (⟨#[120]⟩ : ByteArray)⟩ : S45) )) (Reps.c4 (show Kd.M k45 _ _ _ (⟨(⟨#[97, 99]⟩ : ByteArray), 1, true, (⟨#[]⟩ : ByteArray)⟩ : S45) [.string (⟨#[97, 99]⟩ : ByteArray), .int .i64 1, .bool true, .string (⟨#[]⟩ : ByteArray)] from (k45_mkM _ _ _ (⟨(⟨#[97, 99]⟩ : ByteArray), 1, true, (⟨#[]⟩ : ByteArray)⟩ : S45) )) (Reps.none _ _)))); intro v206 w17 ho18 hb hg_ hnew_; clear hg_ hnew_; (first | rw [← Ny205.out] at ho18 | (simp only [Int.reduceToNat] at ho18; rw [← Ny205.out] at ho18)); have n0_ := Aside0.mk (Kd.R_lower ho18 (below_size (by repeat (first | (with_reducible first | exact HB.out | apply below_alloc | apply pw_below_drewN | apply below_drew1) | exact HB.out)))); have n1_ := Aside0.mk (below_step (by repeat (first | (with_reducible first | exact HB.out | apply below_alloc | apply pw_below_drewN | apply below_drew1) | exact HB.out)) hb); clear HB; have HO207 := n0_; have HB := n1_; clear n0_ n1_; clear hb ho18; obtain ⟨Ao19, co19, eo19⟩ := Kd.R_slice HO207.out; subst eo19) | ((with_reducible refine gate_callee (f := 9) rfl ?_); refine goesL_ (some 17) rfl rfl Try.func9 (by kernel_rfl) rfl #[.slice Ao19 y205.length co19] rfl (by (try simp only [List.map_toArray, List.map_cons, List.map_nil]); first | done | rfl | (simp only [List.length_drop, List.length_take]; rfl)) ?_; (with_reducible refine (block_Make.calls k _ _ y205 t208 t209 _ ?side1 ?side2 A1.out).mono ?_); (case side1 => repeat (first | exact (Kd.R_reads' HO207.out).2.2 | (with_reducible refine Kd.C_alloc ?_ _) | (with_reducible refine Kd.C_drewN ?_ _) | (with_reducible refine Kd.C_drew ?_))); (case side2 => exact (Kd.R_reads' HO207.out).2.1); rintro e w20 ⟨rfl, hb⟩; refine ⟨_, rfl, ?_⟩; have n0_ := Aside0.mk (Kd.R_below (by (with_reducible repeat (first | apply Kd.R_alloc | apply Kd.R_drewN | apply Kd.R_drew)); exact HO207.out) hb); have n1_ := Aside0.mk (below_step (by repeat (first | (with_reducible first | exact HB.out | apply below_alloc | apply pw_below_drewN | apply below_drew1) | exact HB.out)) hb); clear HO207; clear HB; have HO207 := n0_; have HB := n1_; clear n0_ n1_; (try clear hb); (try clear hb2); (try clear hk); (try clear hi)) | ((with_reducible refine gate_callee (f := 11) rfl ?_); refine goesL_ (some 22) rfl rfl Try.func11 (by kernel_rfl) rfl #[.string t208] rfl (by (try simp only [List.map_toArray, List.map_cons, List.map_nil]); first | done | rfl | (simp only [List.length_drop, List.length_take]; rfl)) ?_; (with_reducible refine (block_Read.calls k t208 t210 t211 _ A2.out).mono ?_); rintro e w21 ⟨v212, rfl, ho0, hb⟩; refine ⟨_, rfl, ?_⟩; have n0_ := Aside0.mk (Kd.R_elder' (by (with_reducible repeat (first | apply Kd.R_alloc | apply Kd.R_drewN | apply Kd.R_drew)); exact HO207.out) (Kd.R_base ho0) hb); have n1_ := Aside0.mk (Kd.R_lower (Kd.R_new' ho0 (Kd.R_lt (by (with_reducible repeat (first | apply Kd.R_alloc | apply Kd.R_drewN | apply Kd.R_drew)); exact HO207.out))) (below_size (by repeat (first | (with_reducible first | exact HB.out | apply below_alloc | apply pw_below_drewN | apply below_drew1) | exact HB.out)))); have n2_ := Aside0.mk (below_step (by repeat (first | (with_reducible first | exact HB.out | apply below_alloc | apply pw_below_drewN | apply below_drew1) | exact HB.out)) hb); clear HO207; clear HB; have HO207 := n0_; have HO213 := n1_; have HB := n2_; clear n0_ n1_ n2_; (try clear hb); (try clear hb2); (try clear hk); (try clear hi); (try clear ho0)) | ((with_reducible refine gate_callee (f := 9) rfl ?_); refine goesL_ (some 26) rfl rfl Try.func9 (by kernel_rfl) rfl #[.slice none 0 0] rfl (by (try simp only [List.map_toArray, List.map_cons, List.map_nil]); first | done | rfl | (simp only [List.length_drop, List.length_take]; rfl)) ?_; (refine (block_Make.calls k _ _ ([] : List (S45)) t214 t215 _ ?side1 ?side2 A3.out).mono ?_); (case side1 => exact Kd.C_nil _ _); (case side2 => exact Nat.le_refl _); rintro e w22 ⟨rfl, hb⟩; refine ⟨_, rfl, ?_⟩; have n0_ := Aside0.mk (Kd.R_below (by (with_reducible repeat (first | apply Kd.R_alloc | apply Kd.R_drewN | apply Kd.R_drew)); exact HO207.out) hb); have n1_ := Aside0.mk (Kd.R_below (by (with_reducible repeat (first | apply Kd.R_alloc | apply Kd.R_drewN | apply Kd.R_drew)); exact HO213.out) hb); have n2_ := Aside0.mk (below_step (by repeat (first | (with_reducible first | exact HB.out | apply below_alloc | apply pw_below_drewN | apply below_drew1) | exact HB.out)) hb); clear HO207; clear HO213; clear HB; have HO207 := n0_; have HO213 := n1_; have HB := n2_; clear n0_ n1_ n2_; (try clear hb); (try clear hb2); (try clear hk); (try clear hi)))
                    have n0_ := Aside0.mk (Kd.R_drew HO207.out)
                    have n1_ := Aside0.mk (Kd.R_drew HO213.out)
                    have n2_ := Aside0.mk (below_drew1 HB.out)
                    clear HO207
                    clear HO213
                    clear HB
                    have HO207 := n0_
                    have HO213 := n1_
                    have HB := n2_
                    clear n0_ n1_ n2_
                    have p216 : 0 ≤ (1 : Int) := (by omega)
                    have q216 : 1 < (y205.length : Int) := of_decide_eq_true (by first | (with_reducible assumption) | assumption)
                    obtain ⟨ad216, e216, hx216_0, hx216_1, hx216_2, hx216_3⟩ := at_T45 (Kd.R_reads' HO207.out).2.2 1 p216 q216
                    cases e216
                    (try simp only [show (1 : Int).toNat = 1 from rfl, Nat.reduceMul, Nat.reduceEqDiff, Go.Addr.add, ↓reduceIte] at hx216_0)
                    (try simp only [show (1 : Int).toNat = 1 from rfl, Nat.reduceMul, Nat.reduceEqDiff, Go.Addr.add, ↓reduceIte] at hx216_1)
                    (try simp only [show (1 : Int).toNat = 1 from rfl, Nat.reduceMul, Nat.reduceEqDiff, Go.Addr.add, ↓reduceIte] at hx216_2)
                    (try simp only [show (1 : Int).toNat = 1 from rfl, Nat.reduceMul, Nat.reduceEqDiff, Go.Addr.add, ↓reduceIte] at hx216_3)
                    have qi216 : (1 < y205.length) = True := eq_true (by omega)
                    (try rw [show ((1 : Int)).toNat = 1 from rfl] at hx216_0)
                    (try rw [show 1 * 4 = 4 from rfl] at hx216_0)
                    (try rw [show ((1 : Int)).toNat = 1 from rfl] at hx216_1)
                    (try rw [show 1 * 4 = 4 from rfl] at hx216_1)
                    (try rw [show ((1 : Int)).toNat = 1 from rfl] at hx216_2)
                    (try rw [show 1 * 4 = 4 from rfl] at hx216_2)
                    (try rw [show ((1 : Int)).toNat = 1 from rfl] at hx216_3)
                    (try rw [show 1 * 4 = 4 from rfl] at hx216_3)
                    replace p216 := eq_true p216
                    replace q216 := eq_true q216
                    have p217 : 0 ≤ (0 : Int) := (by omega)
                    have q217 : 0 < (y205.length : Int) := of_decide_eq_true (by first | (with_reducible assumption) | assumption)
                    obtain ⟨ad217, e217, hx217_0, hx217_1, hx217_2, hx217_3⟩ := at_T45 (Kd.R_reads' HO207.out).2.2 0 p217 q217
                    obtain rfl : ad216 = ad217 := (by injection e217)
                    have qi217 : (0 < y205.length) = True := eq_true (by omega)
                    (try rw [show ((0 : Int)).toNat = 0 from rfl] at hx217_0)
                    (try rw [show 0 * 4 = 0 from rfl] at hx217_0)
                    (try rw [Addr.add_zero'] at hx217_0)
                    (try rw [show ((0 : Int)).toNat = 0 from rfl] at hx217_1)
                    (try rw [show 0 * 4 = 0 from rfl] at hx217_1)
                    (try rw [Addr.add_zero'] at hx217_1)
                    (try rw [show ((0 : Int)).toNat = 0 from rfl] at hx217_2)
                    (try rw [show 0 * 4 = 0 from rfl] at hx217_2)
                    (try rw [Addr.add_zero'] at hx217_2)
                    (try rw [show ((0 : Int)).toNat = 0 from rfl] at hx217_3)
                    (try rw [show 0 * 4 = 0 from rfl] at hx217_3)
                    (try rw [Addr.add_zero'] at hx217_3)
                    replace p217 := eq_true p217
                    replace q217 := eq_true q217
                    refine start_ (n := 13) (S := fun w' => w'.cell? ⟨ad216.block, ad216.off + 4, none⟩ = some (.string ((rd_T45 y205 1).f0)) ∧ w'.cell? ⟨ad216.block, ad216.off + 4 + 1, none⟩ = some (.int .i64 ((rd_T45 y205 1).f1)) ∧ w'.cell? ⟨ad216.block, ad216.off + 4 + 2, none⟩ = some (.bool ((rd_T45 y205 1).f2)) ∧ w'.cell? ⟨ad216.block, ad216.off + 4 + 3, none⟩ = some (.string ((rd_T45 y205 1).f3)) ∧ w'.cell? ad216 = some (.string ((rd_T45 y205 0).f0)) ∧ w'.cell? ⟨ad216.block, ad216.off + 1, none⟩ = some (.int .i64 ((rd_T45 y205 0).f1)) ∧ w'.cell? ⟨ad216.block, ad216.off + 2, none⟩ = some (.bool ((rd_T45 y205 0).f2)) ∧ w'.cell? ⟨ad216.block, ad216.off + 3, none⟩ = some (.string ((rd_T45 y205 0).f3))) (ds := []) #[false, false, false, false, false, false, false, false, false, false, false, false, false] (by kernel_rfl) rfl rfl ⟨hx216_0, hx216_1, hx216_2, hx216_3, hx217_0, hx217_1, hx217_2, hx217_3⟩ (fun hHeld => ?_); refine with_tabW ravelinlaw8_known.tab5 ravelinlaw8_known.bits5 (fun HT_ HW_ => ?_)
                    generalize w22.drew = w23 at HO207 HO213 HB hx216_0 hx216_1 hx216_2 hx216_3 hx217_0 hx217_1 hx217_2 hx217_3 hHeld ⊢
                    refine pure_ (i := 0) (N := some 30) (v := ?_) (a' := ?_) #[true, false, false, false, false, false, false, false, false, false, false, false, false] rfl rfl (any_of HT_.out (by kernel_rfl)) (fun _ _ _ h => h) (Or.inl ⟨by rfl, ?_⟩) ?_ ?_
                    rotate_left
                    · intro w'
                      go_simp
                      with_reducible rfl
                    rotate_left
                    · simp only [Act.put, List.setIfInBounds_toArray, List.set_cons_zero, List.set_cons_succ, i64_w, i32_w]
                      rfl
                    refine pure_ (i := 1) (N := some 31) (v := ?_) (a' := ?_) #[true, true, false, false, false, false, false, false, false, false, false, false, false] rfl rfl (any_of HT_.out (by kernel_rfl)) (fun _ _ _ h => h) (Or.inl ⟨by rfl, ?_⟩) ?_ ?_
                    rotate_left
                    · intro w'
                      go_simp
                      with_reducible rfl
                    rotate_left
                    · simp only [Act.put, List.setIfInBounds_toArray, List.set_cons_zero, List.set_cons_succ, i64_w, i32_w]
                      rfl
                    refine pure_ (i := 3) (N := some 33) (v := ?_) (a' := ?_) #[true, true, false, true, false, false, false, false, false, false, false, false, false] rfl rfl (any_of HT_.out (by kernel_rfl)) (fun _ _ _ h => h) (Or.inl ⟨by rfl, ?_⟩) ?_ ?_
                    rotate_left
                    · intro w'
                      go_simp
                      with_reducible rfl
                    rotate_left
                    · simp only [Act.put, List.setIfInBounds_toArray, List.set_cons_zero, List.set_cons_succ, i64_w, i32_w]
                      rfl
                    refine pure_ (i := 4) (N := some 34) (v := ?_) (a' := ?_) #[true, true, false, true, true, false, false, false, false, false, false, false, false] rfl rfl (any_of HT_.out (by kernel_rfl)) (fun _ _ _ h => h) (Or.inl ⟨by rfl, ?_⟩) ?_ ?_
                    rotate_left
                    · intro w'
                      go_simp
                      with_reducible rfl
                    rotate_left
                    · simp only [Act.put, List.setIfInBounds_toArray, List.set_cons_zero, List.set_cons_succ, i64_w, i32_w]
                      rfl
                    refine take_ (i := 2) (N := some 32) (v := ?_) (a' := ?_) #[true, true, true, true, true, false, false, false, false, false, false, false, false] rfl rfl (take_ofW HT_.out HW_.out (by kernel_rfl)) (fun _ _ _ h => h) (Or.inl ⟨by rfl, ?_⟩) hHeld ?_ ?_
                    rotate_left
                    · rintro w' ⟨s0, s1, s2, s3, s4, s5, s6, s7⟩
                      go_simp
                      with_reducible rfl
                    rotate_left
                    · simp only [Act.put, List.setIfInBounds_toArray, List.set_cons_zero, List.set_cons_succ, i64_w, i32_w]
                      rfl
                    refine take_ (i := 5) (N := some 35) (v := ?_) (a' := ?_) #[true, true, true, true, true, true, false, false, false, false, false, false, false] rfl rfl (take_ofW HT_.out HW_.out (by kernel_rfl)) (fun _ _ _ h => h) (Or.inl ⟨by rfl, ?_⟩) hHeld ?_ ?_
                    rotate_left
                    · rintro w' ⟨s0, s1, s2, s3, s4, s5, s6, s7⟩
                      go_simp
                      with_reducible rfl
                    rotate_left
                    · simp only [Act.put, List.setIfInBounds_toArray, List.set_cons_zero, List.set_cons_succ, i64_w, i32_w]
                      rfl
                    refine one_ (i := 6) (N := some 36) #[true, true, true, true, true, true, true, false, false, false, false, false, false] rfl rfl (one_of HT_.out (by kernel_rfl)) (by decide) (fun K hK => ?_)
                    refine Kd.R_lit_step k45 _ 45 ?hg (N := 36) ?hd (xs := ([(⟨(rd_T45 y205 1).f0, (rd_T45 y205 1).f1, (rd_T45 y205 1).f2, (rd_T45 y205 1).f3⟩ : S45), (⟨(rd_T45 y205 0).f0, (rd_T45 y205 0).f1, (rd_T45 y205 0).f2, (rd_T45 y205 0).f3⟩ : S45)] : List (S45))) (inner := [.string ((rd_T45 y205 1).f0), .int .i64 ((rd_T45 y205 1).f1), .bool ((rd_T45 y205 1).f2), .string ((rd_T45 y205 1).f3), .string ((rd_T45 y205 0).f0), .int .i64 ((rd_T45 y205 0).f1), .bool ((rd_T45 y205 0).f2), .string ((rd_T45 y205 0).f3)]) (ok := fun _ => True) (okp := fun _ => True) ?hr ?hp (fun _ hk => hk) trivial (Below.refl _ _) (Nat.le_refl _) (by simp) ?_; (case hd => rfl); (case hg => rfl); (case hr => first | (go_simp; done) | (go_simp; rfl)); (case hp => exact (Reps.c4 (show Kd.M k45 _ _ _ (⟨(rd_T45 y205 1).f0, (rd_T45 y205 1).f1, (rd_T45 y205 1).f2, (rd_T45 y205 1).f3⟩ : S45) [.string ((rd_T45 y205 1).f0), .int .i64 ((rd_T45 y205 1).f1), .bool ((rd_T45 y205 1).f2), .string ((rd_T45 y205 1).f3)] from (k45_mkM _ _ _ (⟨(rd_T45 y205 1).f0, (rd_T45 y205 1).f1, (rd_T45 y205 1).f2, (rd_T45 y205 1).f3⟩ : S45) )) (Reps.c4 (show Kd.M k45 _ _ _ (⟨(rd_T45 y205 0).f0, (rd_T45 y205 0).f1, (rd_T45 y205 0).f2, (rd_T45 y205 0).f3⟩ : S45) [.string ((rd_T45 y205 0).f0), .int .i64 ((rd_T45 y205 0).f1), .bool ((rd_T45 y205 0).f2), .string ((rd_T45 y205 0).f3)] from (k45_mkM _ _ _ (⟨(rd_T45 y205 0).f0, (rd_T45 y205 0).f1, (rd_T45 y205 0).f2, (rd_T45 y205 0).f3⟩ : S45) )) (Reps.none _ _))))
                    intro v219 w24 ho25 hb hg_ hnew_
                    have HS0_ := (hb.cell (World.block_lt_of_cell? _ _ (hHeld.1))).trans (hHeld.1)
                    have HS1_ := (hb.cell (World.block_lt_of_cell? _ _ (hHeld.2.1))).trans (hHeld.2.1)
                    have HS2_ := (hb.cell (World.block_lt_of_cell? _ _ (hHeld.2.2.1))).trans (hHeld.2.2.1)
                    have HS3_ := (hb.cell (World.block_lt_of_cell? _ _ (hHeld.2.2.2.1))).trans (hHeld.2.2.2.1)
                    have HS4_ := (hb.cell (World.block_lt_of_cell? _ _ (hHeld.2.2.2.2.1))).trans (hHeld.2.2.2.2.1)
                    have HS5_ := (hb.cell (World.block_lt_of_cell? _ _ (hHeld.2.2.2.2.2.1))).trans (hHeld.2.2.2.2.2.1)
                    have HS6_ := (hb.cell (World.block_lt_of_cell? _ _ (hHeld.2.2.2.2.2.2.1))).trans (hHeld.2.2.2.2.2.2.1)
                    have HS7_ := (hb.cell (World.block_lt_of_cell? _ _ (hHeld.2.2.2.2.2.2.2))).trans (hHeld.2.2.2.2.2.2.2)
                    clear hg_ hnew_
                    (first | rw [← Ny218.out] at ho25 | (simp only [Int.reduceToNat] at ho25; rw [← Ny218.out] at ho25))
                    have n0_ := Aside0.mk (Kd.R_elder' (by (with_reducible repeat (first | apply Kd.R_alloc | apply Kd.R_drewN | apply Kd.R_drew)); exact HO207.out) (Kd.R_base ho25) hb)
                    have n1_ := Aside0.mk (Kd.R_elder' (by (with_reducible repeat (first | apply Kd.R_alloc | apply Kd.R_drewN | apply Kd.R_drew)); exact HO213.out) (Kd.R_base ho25) hb)
                    have n2_ := Aside0.mk (Kd.R_lower (Kd.R_new' (Kd.R_new' ho25 (Kd.R_lt (by (with_reducible repeat (first | apply Kd.R_alloc | apply Kd.R_drewN | apply Kd.R_drew)); exact HO207.out))) (Kd.R_lt (by (with_reducible repeat (first | apply Kd.R_alloc | apply Kd.R_drewN | apply Kd.R_drew)); exact HO213.out))) (below_size (by repeat (first | (with_reducible first | exact HB.out | apply below_alloc | apply pw_below_drewN | apply below_drew1) | exact HB.out))))
                    have n3_ := Aside0.mk (below_step (by repeat (first | (with_reducible first | exact HB.out | apply below_alloc | apply pw_below_drewN | apply below_drew1) | exact HB.out)) hb)
                    clear HO207
                    clear HO213
                    clear HB
                    have HO207 := n0_
                    have HO213 := n1_
                    have HO220 := n2_
                    have HB := n3_
                    clear n0_ n1_ n2_ n3_
                    clear hb ho25
                    obtain ⟨Ao26, co26, eo26⟩ := Kd.R_slice HO220.out
                    (first | subst eo26 | (injection eo26 with f1_ f2_ f3_; have f4_ := f1_.symm; have f5_ := f3_.symm; clear f1_ f2_ f3_; subst f4_; subst f5_))
                    refine hK.out _ _ ⟨HS0_, HS1_, HS2_, HS3_, HS4_, HS5_, HS6_, HS7_⟩ (fun hHeld => ?_)
                    clear hK K
                    refine norm_ (a' := ?_) ?_ ?_
                    rotate_left
                    · show Act.put _ (some 36) _ = _
                      simp only [Act.put, List.setIfInBounds_toArray, List.set_cons_zero, List.set_cons_succ, i64_w, i32_w]
                      rfl
                    refine one_ (i := 7) (N := some 37) #[true, true, true, true, true, true, true, true, false, false, false, false, false] rfl rfl (one_of HT_.out (by kernel_rfl)) (by decide) (fun K hK => ?_)
                    refine goes_ Try.func9 (by kernel_rfl) rfl #[.slice Ao26 y218.length co26] (by rfl) rfl rfl (by (try simp only [List.map_toArray, List.map_cons, List.map_nil]); first | done | rfl | (simp only [List.length_drop, List.length_take]; rfl)) ?_
                    with_reducible refine (block_Make.calls k _ _ y218 t221 t222 _ ?side1 ?side2 A6.out).mono ?_
                    (case side1 => repeat (first | exact (Kd.R_reads' HO220.out).2.2 | (with_reducible refine Kd.C_alloc ?_ _) | (with_reducible refine Kd.C_drewN ?_ _) | (with_reducible refine Kd.C_drew ?_)))
                    (case side2 => exact (Kd.R_reads' HO220.out).2.1)
                    rintro e w27 ⟨rfl, hb⟩
                    have HS0_ := (hb.cell (World.block_lt_of_cell? _ _ (hHeld.1))).trans (hHeld.1)
                    have HS1_ := (hb.cell (World.block_lt_of_cell? _ _ (hHeld.2.1))).trans (hHeld.2.1)
                    have HS2_ := (hb.cell (World.block_lt_of_cell? _ _ (hHeld.2.2.1))).trans (hHeld.2.2.1)
                    have HS3_ := (hb.cell (World.block_lt_of_cell? _ _ (hHeld.2.2.2.1))).trans (hHeld.2.2.2.1)
                    have HS4_ := (hb.cell (World.block_lt_of_cell? _ _ (hHeld.2.2.2.2.1))).trans (hHeld.2.2.2.2.1)
                    have HS5_ := (hb.cell (World.block_lt_of_cell? _ _ (hHeld.2.2.2.2.2.1))).trans (hHeld.2.2.2.2.2.1)
                    have HS6_ := (hb.cell (World.block_lt_of_cell? _ _ (hHeld.2.2.2.2.2.2.1))).trans (hHeld.2.2.2.2.2.2.1)
                    have HS7_ := (hb.cell (World.block_lt_of_cell? _ _ (hHeld.2.2.2.2.2.2.2))).trans (hHeld.2.2.2.2.2.2.2)
                    refine ⟨_, rfl, ?_⟩
                    have n0_ := Aside0.mk (Kd.R_below (by (with_reducible repeat (first | apply Kd.R_alloc | apply Kd.R_drewN | apply Kd.R_drew)); exact HO207.out) hb)
                    have n1_ := Aside0.mk (Kd.R_below (by (with_reducible repeat (first | apply Kd.R_alloc | apply Kd.R_drewN | apply Kd.R_drew)); exact HO213.out) hb)
                    have n2_ := Aside0.mk (Kd.R_below (by (with_reducible repeat (first | apply Kd.R_alloc | apply Kd.R_drewN | apply Kd.R_drew)); exact HO220.out) hb)
                    have n3_ := Aside0.mk (below_step (by repeat (first | (with_reducible first | exact HB.out | apply below_alloc | apply pw_below_drewN | apply below_drew1) | exact HB.out)) hb)
                    clear HO207
                    clear HO213
                    clear HO220
                    clear HB
                    have HO207 := n0_
                    have HO213 := n1_
                    have HO220 := n2_
                    have HB := n3_
                    clear n0_ n1_ n2_ n3_
                    (try clear hb)
                    (try clear hb2)
                    (try clear hk)
                    (try clear hi)
                    refine hK.out _ _ ⟨HS0_, HS1_, HS2_, HS3_, HS4_, HS5_, HS6_, HS7_⟩ (fun hHeld => ?_)
                    clear hK K
                    refine norm_ (a' := ?_) ?_ ?_
                    rotate_left
                    · show Act.put _ (some 37) _ = _
                      simp only [Act.put, List.setIfInBounds_toArray, List.set_cons_zero, List.set_cons_succ, i64_w, i32_w]
                      rfl
                    refine pure_ (i := 8) (N := some 29) (v := ?_) (a' := ?_) #[true, true, true, true, true, true, true, true, true, false, false, false, false] rfl rfl (any_of HT_.out (by kernel_rfl)) (fun _ _ _ h => h) (Or.inl ⟨by rfl, ?_⟩) ?_ ?_
                    rotate_left
                    · intro w'
                      go_simp
                      with_reducible rfl
                    rotate_left
                    · simp only [Act.put, List.setIfInBounds_toArray, List.set_cons_zero, List.set_cons_succ, i64_w, i32_w]
                      rfl
                    refine pure_ (i := 9) (N := some 38) (v := ?_) (a' := ?_) #[true, true, true, true, true, true, true, true, true, true, false, false, false] rfl rfl (any_of HT_.out (by kernel_rfl)) (fun _ _ _ h => h) (Or.inl ⟨by rfl, ?_⟩) ?_ ?_
                    rotate_left
                    · intro w'
                      go_simp
                      with_reducible rfl
                    rotate_left
                    · simp only [Act.put, List.setIfInBounds_toArray, List.set_cons_zero, List.set_cons_succ, i64_w, i32_w]
                      rfl
                    refine pure_ (i := 10) (N := some 39) (v := ?_) (a' := ?_) #[true, true, true, true, true, true, true, true, true, true, true, false, false] rfl rfl (any_of HT_.out (by kernel_rfl)) (fun _ _ _ h => h) (Or.inl ⟨by rfl, ?_⟩) ?_ ?_
                    rotate_left
                    · intro w'
                      go_simp
                      with_reducible rfl
                    rotate_left
                    · simp only [Act.put, List.setIfInBounds_toArray, List.set_cons_zero, List.set_cons_succ, i64_w, i32_w]
                      rfl
                    refine pure_ (i := 11) (N := some 8) (v := ?_) (a' := ?_) #[true, true, true, true, true, true, true, true, true, true, true, true, false] rfl rfl (any_of HT_.out (by kernel_rfl)) (fun _ _ _ h => h) (Or.inl ⟨by rfl, ?_⟩) ?_ ?_
                    rotate_left
                    · intro w'
                      go_simp
                      with_reducible rfl
                    rotate_left
                    · simp only [Act.put, List.setIfInBounds_toArray, List.set_cons_zero, List.set_cons_succ, i64_w, i32_w]
                      rfl
                    refine pure_ (i := 12) (N := some 9) (v := ?_) (a' := ?_) #[true, true, true, true, true, true, true, true, true, true, true, true, true] rfl rfl (any_of HT_.out (by kernel_rfl)) (fun _ _ _ h => h) (Or.inl ⟨by rfl, ?_⟩) ?_ ?_
                    rotate_left
                    · intro w'
                      go_simp
                      with_reducible rfl
                    rotate_left
                    · simp only [Act.put, List.setIfInBounds_toArray, List.set_cons_zero, List.set_cons_succ, i64_w, i32_w]
                      rfl
                    refine done_ (done_of HT_.out (by kernel_rfl)) ?_
                    try go_wp2_with (first | ((with_reducible refine gate_callee (f := 11) rfl ?_); refine goesL_ (some 43) rfl rfl Try.func11 (by kernel_rfl) rfl #[.string (t208 ++ (⟨#[120]⟩ : ByteArray))] rfl (by (try simp only [List.map_toArray, List.map_cons, List.map_nil]); first | done | rfl | (simp only [List.length_drop, List.length_take]; rfl)) ?_; (with_reducible refine (block_Read.calls k (t208 ++ (⟨#[120]⟩ : ByteArray)) t223 t224 _ A8.out).mono ?_); rintro e w28 ⟨v225, rfl, ho0, hb⟩; refine ⟨_, rfl, ?_⟩; have n0_ := Aside0.mk (Kd.R_elder' (by (with_reducible repeat (first | apply Kd.R_alloc | apply Kd.R_drewN | apply Kd.R_drew)); exact HO207.out) (Kd.R_base ho0) hb); have n1_ := Aside0.mk (Kd.R_elder' (by (with_reducible repeat (first | apply Kd.R_alloc | apply Kd.R_drewN | apply Kd.R_drew)); exact HO213.out) (Kd.R_base ho0) hb); have n2_ := Aside0.mk (Kd.R_elder' (by (with_reducible repeat (first | apply Kd.R_alloc | apply Kd.R_drewN | apply Kd.R_drew)); exact HO220.out) (Kd.R_base ho0) hb); have n3_ := Aside0.mk (Kd.R_lower (Kd.R_new' (Kd.R_new' (Kd.R_new' ho0 (Kd.R_lt (by (with_reducible repeat (first | apply Kd.R_alloc | apply Kd.R_drewN | apply Kd.R_drew)); exact HO207.out))) (Kd.R_lt (by (with_reducible repeat (first | apply Kd.R_alloc | apply Kd.R_drewN | apply Kd.R_drew)); exact HO213.out))) (Kd.R_lt (by (with_reducible repeat (first | apply Kd.R_alloc | apply Kd.R_drewN | apply Kd.R_drew)); exact HO220.out))) (below_size (by repeat (first | (with_reducible first | exact HB.out | apply below_alloc | apply pw_below_drewN | apply below_drew1) | exact HB.out)))); have n4_ := Aside0.mk (below_step (by repeat (first | (with_reducible first | exact HB.out | apply below_alloc | apply pw_below_drewN | apply below_drew1) | exact HB.out)) hb); clear HO207; clear HO213; clear HO220; clear HB; have HO207 := n0_; have HO213 := n1_; have HO220 := n2_; have HO226 := n3_; have HB := n4_; clear n0_ n1_ n2_ n3_ n4_; (try clear hb); (try clear hb2); (try clear hk); (try clear hi); (try clear ho0); obtain ⟨Ao29, co29, eo29⟩ := Kd.R_slice HO213.out; subst eo29) | (go_at_call 13; (with_reducible refine (ravelinref6_Same.calls k _ _ t210 _ _ y205 true _ ?side1 ?side2 ?side3 ?side4 A11.out).mono ?_); (case side1 => repeat (first | exact (Kd.R_reads' HO213.out).2.2 | (with_reducible refine Kd.C_alloc ?_ _) | (with_reducible refine Kd.C_drewN ?_ _) | (with_reducible refine Kd.C_drew ?_))); (case side2 => exact (Kd.R_reads' HO213.out).2.1); (case side3 => repeat (first | exact (Kd.R_reads' HO207.out).2.2 | (with_reducible refine Kd.C_alloc ?_ _) | (with_reducible refine Kd.C_drewN ?_ _) | (with_reducible refine Kd.C_drew ?_))); (case side4 => exact (Kd.R_reads' HO207.out).2.1); rintro e w' ⟨rfl, ⟨nd, rfl⟩⟩) | (go_at_call 14; (with_reducible refine (block_Shared.calls k (⟨#[97, 98, 99]⟩ : ByteArray) (⟨#[97, 98, 100]⟩ : ByteArray) t228 _ A16.out).mono ?_); rintro e w' ⟨rfl, ⟨nd, rfl⟩⟩))
                    go_ret
                    exact ⟨by first | rfl | (simp [errW_none, errW_some] <;> rfl) | (simp [*, errW_none, errW_some] <;> rfl), by repeat (first | (with_reducible first | exact HB.out | apply below_alloc | apply pw_below_drewN | apply below_drew1) | exact HB.out)⟩
                  · rw [if_neg c15] at H
                    have c15b0 : (t224 == 13) = false := beq_eq_false_iff_ne.mpr c15
                    have c15b1 : (t224 != 13) = true := bne_iff_ne.mpr c15
                    exact absurd ((Option.some.inj H).trans HR_.out) (by decide)
                · rw [if_neg c14] at H
                  have c14b0 : (t222 == 16) = false := beq_eq_false_iff_ne.mpr c14
                  have c14b1 : (t222 != 16) = true := bne_iff_ne.mpr c14
                  exact absurd ((Option.some.inj H).trans HR_.out) (by decide)
              · rw [if_neg c13] at H
                have c13b0 : (t215 == 10) = false := beq_eq_false_iff_ne.mpr c13
                have c13b1 : (t215 != 10) = true := bne_iff_ne.mpr c13
                exact absurd ((Option.some.inj H).trans HR_.out) (by decide)
            · replace c12 := Bool.eq_false_iff.mpr c12
              subst c12
              have H1 : (some false) = some r := by rw [if_neg (show ¬ (false = true) by decide)] at H; exact H
              clear H
              have H := H1
              clear H1
              exact absurd ((Option.some.inj H).trans HR_.out) (by decide)
          · rw [if_neg c10] at H
            have c10b0 : (t211 == 0) = false := beq_eq_false_iff_ne.mpr c10
            have c10b1 : (t211 != 0) = true := bne_iff_ne.mpr c10
            exact absurd ((Option.some.inj H).trans HR_.out) (by decide)
        · rw [if_neg c9] at H
          have c9b0 : (t209 == 0) = false := beq_eq_false_iff_ne.mpr c9
          have c9b1 : (t209 != 0) = true := bne_iff_ne.mpr c9
          exact absurd ((Option.some.inj H).trans HR_.out) (by decide)
      · rw [if_neg c7] at H
        exact absurd H (by simp)
    · rw [if_neg c5] at H
      exact absurd H (by simp)
  · rw [if_neg c4] at H
    exact absurd H (by simp)

/-! ### ravelinlaw8_few: function 8 -/
def ravelinlaw8_few.l0 : Nat → List (S45) → Int → Option (Bool)
  | 0, _, _ => none
  | k + 1, x0, x3 => if x3 < (x0.length : Int) then (if 0 ≤ x3 then (if (((rd_T45 x0 x3).f0).size : Int) > 20 then (some false) else (if (((rd_T45 x0 x3).f3).size : Int) > 40 then (some false) else (ravelinlaw8_few.l0 k x0 (wrap64 (x3 + 1))))) else (none)) else (some (decide ((x0.length : Int) ≤ 60)))
def ravelinlaw8_few.f (k : Nat) (l0 : List (S45)) : Option (Bool) := ravelinlaw8_few.l0 k l0 0
theorem ravelinlaw8_few.mono_l : ∀ k, (∀ y0 y1, LeO (ravelinlaw8_few.l0 k y0 y1) (ravelinlaw8_few.l0 (k + 1) y0 y1))
  | 0 => fun _ _ r h => by simp [ravelinlaw8_few.l0] at h
  | k + 1 => by
    have ih0 := ravelinlaw8_few.mono_l k
    · intro y0 y1
      unfold ravelinlaw8_few.l0
      repeat' first
      | (with_reducible exact ih0 _ _)
      | (with_reducible exact LeO.refl _)
      | (with_reducible exact LeO.none _)
      | (with_reducible refine LeO.ite ?_ ?_)
      | (with_reducible refine LeO.bind ?_ (fun _ => ?_))
      | exact ih0 _ _
      | exact LeO.none _
      | refine LeO.ite ?_ ?_
      | refine LeO.bind ?_ (fun _ => ?_)
theorem ravelinlaw8_few.mono : ∀ a0 k, LeO (ravelinlaw8_few.f k a0) (ravelinlaw8_few.f (k + 1) a0) := by
  intro a0 k
  have ih0 := ravelinlaw8_few.mono_l k
  unfold ravelinlaw8_few.f
  repeat' first
      | (with_reducible exact ih0 _ _)
      | (with_reducible exact LeO.refl _)
      | (with_reducible exact LeO.none _)
      | (with_reducible refine LeO.ite ?_ ?_)
      | (with_reducible refine LeO.bind ?_ (fun _ => ?_))
      | exact ih0 _ _
      | exact LeO.none _
      | refine LeO.ite ?_ ?_
      | refine LeO.bind ?_ (fun _ => ?_)
set_option maxHeartbeats 8000000 in
set_option maxRecDepth 100000 in
theorem ravelinlaw8_few.calls (k : Nat) (A0 : Option Addr) (c0 : Nat) (l0 : List (S45)) (r : Bool) (w : World) (hr0 : Kd.C k45 w A0 l0.length l0) (hc0 : l0.length ≤ c0) (h : ravelinlaw8_few.f k l0 = some r) :
    Calls Try.prog 8 #[.slice A0 l0.length c0] w fun e w' => e = .returned (.bool r) ∧ Drawn0 w w' := by
  have HR0 := Aside0.mk hr0
  have HC0 := Aside0.mk hc0
  clear hr0 hc0
  have H : (ravelinlaw8_few.l0 k l0 0) = some r := h
  clear h
  have H' := Aside0.mk H
  clear H
  go_enter Try.func8, Try.ntmps8
  go_wp2
  go_loopg [3] k (fun kq v3 w' => ∃ (x3_1 : Int), v3 = .int .i64 x3_1 ∧ Aside0 (ravelinlaw8_few.l0 kq l0 x3_1 = some r) ∧ Aside0 (kq ≤ k) ∧ Drawn0 w w')
  case atStart => exact ⟨(0), (by first | rfl | (simp; done) | (simp [*]; done)), H', ⟨Nat.le_refl _⟩, by repeat (first | exact Drawn0.refl _ | apply Drawn0.step)⟩
  case round =>
    clear H'
    obtain ⟨x3_1, rfl, HA, HK1, ⟨m1, rfl⟩⟩ := hrel
    cases gk with
    | zero => exact absurd HA.out (by simp [ravelinlaw8_few.l0])
    | succ k1 =>
      have H := HA.out
      clear HA
      simp only [ravelinlaw8_few.l0] at H
      by_cases c2 : x3_1 < (l0.length : Int)
      · rw [if_pos c2] at H
        have c2b0 : decide (x3_1 < (l0.length : Int)) = true := decide_eq_true c2
        clear c2
        by_cases c3 : 0 ≤ x3_1
        · rw [if_pos c3] at H
          have c3b0 : decide (0 ≤ x3_1) = true := decide_eq_true c3
          clear c3
          by_cases c4 : (((rd_T45 l0 x3_1).f0).size : Int) > 20
          · rw [if_pos c4] at H
            have c4b0 : decide (20 < (((rd_T45 l0 x3_1).f0).size : Int)) = true := decide_eq_true c4
            have c4b1 : decide (20 < ((rd_T45 l0 x3_1).f0).size) = true := decide_eq_true (by omega)
            clear c4
            obtain rfl := Option.some.inj H
            have p229 : 0 ≤ (x3_1 : Int) := of_decide_eq_true (by first | (with_reducible assumption) | assumption)
            have q229 : x3_1 < (l0.length : Int) := of_decide_eq_true (by first | (with_reducible assumption) | assumption)
            obtain ⟨ad229, e229, hx229_0, hx229_1, hx229_2, hx229_3⟩ := at_T45 HR0.out x3_1 p229 q229
            cases e229
            replace p229 := eq_true p229
            replace q229 := eq_true q229
            go_wp2
            go_ret
            exact ⟨by first | rfl | (simp; done) | (simp [*]; done), by repeat (first | exact Drawn0.refl _ | apply Drawn0.step)⟩
          · rw [if_neg c4] at H
            have c4b0 : decide (20 < (((rd_T45 l0 x3_1).f0).size : Int)) = false := decide_eq_false c4
            have c4b1 : decide (20 < ((rd_T45 l0 x3_1).f0).size) = false := decide_eq_false (by omega)
            clear c4
            by_cases c5 : (((rd_T45 l0 x3_1).f3).size : Int) > 40
            · rw [if_pos c5] at H
              have c5b0 : decide (40 < (((rd_T45 l0 x3_1).f3).size : Int)) = true := decide_eq_true c5
              have c5b1 : decide (40 < ((rd_T45 l0 x3_1).f3).size) = true := decide_eq_true (by omega)
              clear c5
              obtain rfl := Option.some.inj H
              have p229 : 0 ≤ (x3_1 : Int) := of_decide_eq_true (by first | (with_reducible assumption) | assumption)
              have q229 : x3_1 < (l0.length : Int) := of_decide_eq_true (by first | (with_reducible assumption) | assumption)
              obtain ⟨ad229, e229, hx229_0, hx229_1, hx229_2, hx229_3⟩ := at_T45 HR0.out x3_1 p229 q229
              cases e229
              replace p229 := eq_true p229
              replace q229 := eq_true q229
              have p230 : 0 ≤ (x3_1 : Int) := of_decide_eq_true (by first | (with_reducible assumption) | assumption)
              have q230 : x3_1 < (l0.length : Int) := of_decide_eq_true (by first | (with_reducible assumption) | assumption)
              obtain ⟨ad230, e230, hx230_0, hx230_1, hx230_2, hx230_3⟩ := at_T45 HR0.out x3_1 p230 q230
              obtain rfl : ad229 = ad230 := (by injection e230)
              replace p230 := eq_true p230
              replace q230 := eq_true q230
              go_wp2
              go_ret
              exact ⟨by first | rfl | (simp; done) | (simp [*]; done), by repeat (first | exact Drawn0.refl _ | apply Drawn0.step)⟩
            · rw [if_neg c5] at H
              have c5b0 : decide (40 < (((rd_T45 l0 x3_1).f3).size : Int)) = false := decide_eq_false c5
              have c5b1 : decide (40 < ((rd_T45 l0 x3_1).f3).size) = false := decide_eq_false (by omega)
              clear c5
              have H' := Aside0.mk H
              clear H
              have p229 : 0 ≤ (x3_1 : Int) := of_decide_eq_true (by first | (with_reducible assumption) | assumption)
              have q229 : x3_1 < (l0.length : Int) := of_decide_eq_true (by first | (with_reducible assumption) | assumption)
              obtain ⟨ad229, e229, hx229_0, hx229_1, hx229_2, hx229_3⟩ := at_T45 HR0.out x3_1 p229 q229
              cases e229
              replace p229 := eq_true p229
              replace q229 := eq_true q229
              have p230 : 0 ≤ (x3_1 : Int) := of_decide_eq_true (by first | (with_reducible assumption) | assumption)
              have q230 : x3_1 < (l0.length : Int) := of_decide_eq_true (by first | (with_reducible assumption) | assumption)
              obtain ⟨ad230, e230, hx230_0, hx230_1, hx230_2, hx230_3⟩ := at_T45 HR0.out x3_1 p230 q230
              obtain rfl : ad229 = ad230 := (by injection e230)
              replace p230 := eq_true p230
              replace q230 := eq_true q230
              go_wp2
              go_roundg k1
              case measure => have := HK1.out; omega
              case rel => exact ⟨(wrap64 (x3_1 + 1)), (by first | rfl | (simp; done) | (simp [*]; done)), H', ⟨by have := HK1.out; omega⟩, by repeat (first | exact Drawn0.refl _ | apply Drawn0.step)⟩
        · rw [if_neg c3] at H
          exact absurd H (by simp)
      · rw [if_neg c2] at H
        have c2b0 : decide (x3_1 < (l0.length : Int)) = false := decide_eq_false c2
        clear c2
        obtain rfl := Option.some.inj H
        go_wp2
        go_ret
        exact ⟨by first | rfl | (simp; done) | (simp [*]; done), by repeat (first | exact Drawn0.refl _ | apply Drawn0.step)⟩

/-! ### ravelinref6_Shared: function 15 -/
def ravelinref6_Shared.l0 : Nat → ByteArray → ByteArray → Int → Option (Int)
  | 0, _, _, _ => none
  | k + 1, x0, x1, x5 => if x5 < (x0.size : Int) then (if x5 < (x1.size : Int) then (if 0 ≤ x5 then (if (bt x0 x5) = (bt x1 x5) then (ravelinref6_Shared.l0 k x0 x1 (wrap64 (x5 + 1))) else (some x5)) else (none)) else (some x5)) else (some x5)
def ravelinref6_Shared.f (k : Nat) (a0 : ByteArray) (a1 : ByteArray) : Option (Int) := ravelinref6_Shared.l0 k a0 a1 0
theorem ravelinref6_Shared.mono_l : ∀ k, (∀ y0 y1 y2, LeO (ravelinref6_Shared.l0 k y0 y1 y2) (ravelinref6_Shared.l0 (k + 1) y0 y1 y2))
  | 0 => fun _ _ _ r h => by simp [ravelinref6_Shared.l0] at h
  | k + 1 => by
    have ih0 := ravelinref6_Shared.mono_l k
    · intro y0 y1 y2
      unfold ravelinref6_Shared.l0
      repeat' first
      | (with_reducible exact ih0 _ _ _)
      | (with_reducible exact LeO.refl _)
      | (with_reducible exact LeO.none _)
      | (with_reducible refine LeO.ite ?_ ?_)
      | (with_reducible refine LeO.bind ?_ (fun _ => ?_))
      | exact ih0 _ _ _
      | exact LeO.none _
      | refine LeO.ite ?_ ?_
      | refine LeO.bind ?_ (fun _ => ?_)
theorem ravelinref6_Shared.mono : ∀ a0 a1 k, LeO (ravelinref6_Shared.f k a0 a1) (ravelinref6_Shared.f (k + 1) a0 a1) := by
  intro a0 a1 k
  have ih0 := ravelinref6_Shared.mono_l k
  unfold ravelinref6_Shared.f
  repeat' first
      | (with_reducible exact ih0 _ _ _)
      | (with_reducible exact LeO.refl _)
      | (with_reducible exact LeO.none _)
      | (with_reducible refine LeO.ite ?_ ?_)
      | (with_reducible refine LeO.bind ?_ (fun _ => ?_))
      | exact ih0 _ _ _
      | exact LeO.none _
      | refine LeO.ite ?_ ?_
      | refine LeO.bind ?_ (fun _ => ?_)
set_option maxHeartbeats 8000000 in
set_option maxRecDepth 100000 in
theorem ravelinref6_Shared.calls (k : Nat) (a0 : ByteArray) (a1 : ByteArray) (r : Int) (w : World) (h : ravelinref6_Shared.f k a0 a1 = some r) :
    Calls Try.prog 15 #[.string a0, .string a1] w fun e w' => e = .returned (.int .i64 r) ∧ Drawn0 w w' := by
  have H : (ravelinref6_Shared.l0 k a0 a1 0) = some r := h
  clear h
  have H' := Aside0.mk H
  clear H
  go_enter Try.func15, Try.ntmps15
  go_wp2
  repeat (go_quiet (fail); try go_wp2)
  go_loopg [5] k (fun kq v5 w' => ∃ (x5_1 : Int), v5 = .int .i64 x5_1 ∧ Aside0 (ravelinref6_Shared.l0 kq a0 a1 x5_1 = some r) ∧ Aside0 (kq ≤ k) ∧ Drawn0 w w')
  case atStart => exact ⟨(0), (by first | rfl | (simp; done) | (simp [*]; done)), H', ⟨Nat.le_refl _⟩, by repeat (first | exact Drawn0.refl _ | apply Drawn0.step)⟩
  case round =>
    clear H'
    try clear c1
    try clear p2
    obtain ⟨x5_1, rfl, HA, HK1, ⟨m1, rfl⟩⟩ := hrel
    cases gk with
    | zero => exact absurd HA.out (by simp [ravelinref6_Shared.l0])
    | succ k1 =>
      have H := HA.out
      clear HA
      simp only [ravelinref6_Shared.l0] at H
      by_cases c3 : x5_1 < (a0.size : Int)
      · rw [if_pos c3] at H
        have c3b0 : decide (x5_1 < (a0.size : Int)) = true := decide_eq_true c3
        clear c3
        by_cases c4 : x5_1 < (a1.size : Int)
        · rw [if_pos c4] at H
          have c4b0 : decide (x5_1 < (a1.size : Int)) = true := decide_eq_true c4
          clear c4
          by_cases c5 : 0 ≤ x5_1
          · rw [if_pos c5] at H
            have c5b0 : decide (0 ≤ x5_1) = true := decide_eq_true c5
            clear c5
            by_cases c8 : (bt a0 x5_1) = (bt a1 x5_1)
            · rw [if_pos c8] at H
              have c8b0 : ((bt a0 x5_1) == (bt a1 x5_1)) = true := beq_iff_eq.mpr c8
              have c8b1 : ((bt a0 x5_1) != (bt a1 x5_1)) = false := bne_eq_false_iff_eq.mpr c8
              clear c8
              have H' := Aside0.mk H
              clear H
              have p6 : 0 ≤ (x5_1 : Int) := of_decide_eq_true (by first | (with_reducible assumption) | assumption)
              have q6 : x5_1 < (a0.size : Int) := of_decide_eq_true (by first | (with_reducible assumption) | assumption)
              have hx6 := bt_at a0 x5_1
              replace p6 := eq_true p6
              replace q6 := eq_true q6
              have p7 : 0 ≤ (x5_1 : Int) := of_decide_eq_true (by first | (with_reducible assumption) | assumption)
              have q7 : x5_1 < (a1.size : Int) := of_decide_eq_true (by first | (with_reducible assumption) | assumption)
              have hx7 := bt_at a1 x5_1
              replace p7 := eq_true p7
              replace q7 := eq_true q7
              go_wp2
              repeat (go_quiet (fail); try go_wp2)
              go_roundg k1
              case measure => have := HK1.out; omega
              case rel => exact ⟨(wrap64 (x5_1 + 1)), (by first | rfl | (simp; done) | (simp [*]; done)), H', ⟨by have := HK1.out; omega⟩, by repeat (first | exact Drawn0.refl _ | apply Drawn0.step)⟩
            · rw [if_neg c8] at H
              have c8b0 : ((bt a0 x5_1) == (bt a1 x5_1)) = false := beq_eq_false_iff_ne.mpr c8
              have c8b1 : ((bt a0 x5_1) != (bt a1 x5_1)) = true := bne_iff_ne.mpr c8
              obtain rfl := Option.some.inj H
              have p6 : 0 ≤ (x5_1 : Int) := of_decide_eq_true (by first | (with_reducible assumption) | assumption)
              have q6 : x5_1 < (a0.size : Int) := of_decide_eq_true (by first | (with_reducible assumption) | assumption)
              have hx6 := bt_at a0 x5_1
              replace p6 := eq_true p6
              replace q6 := eq_true q6
              have p7 : 0 ≤ (x5_1 : Int) := of_decide_eq_true (by first | (with_reducible assumption) | assumption)
              have q7 : x5_1 < (a1.size : Int) := of_decide_eq_true (by first | (with_reducible assumption) | assumption)
              have hx7 := bt_at a1 x5_1
              replace p7 := eq_true p7
              replace q7 := eq_true q7
              go_wp2
              repeat (go_quiet (fail); try go_wp2)
              go_ret
              exact ⟨by first | rfl | (simp; done) | (simp [*]; done), by repeat (first | exact Drawn0.refl _ | apply Drawn0.step)⟩
          · rw [if_neg c5] at H
            exact absurd H (by simp)
        · rw [if_neg c4] at H
          have c4b0 : decide (x5_1 < (a1.size : Int)) = false := decide_eq_false c4
          clear c4
          obtain rfl := Option.some.inj H
          go_wp2
          repeat (go_quiet (fail); try go_wp2)
          go_ret
          exact ⟨by first | rfl | (simp; done) | (simp [*]; done), by repeat (first | exact Drawn0.refl _ | apply Drawn0.step)⟩
      · rw [if_neg c3] at H
        have c3b0 : decide (x5_1 < (a0.size : Int)) = false := decide_eq_false c3
        clear c3
        obtain rfl := Option.some.inj H
        go_wp2
        repeat (go_quiet (fail); try go_wp2)
        go_ret
        exact ⟨by first | rfl | (simp; done) | (simp [*]; done), by repeat (first | exact Drawn0.refl _ | apply Drawn0.step)⟩

/-! ### ravelinref3_Num: function 24 -/
def ravelinref3_Num.l0 : Nat → ByteArray → Int → Option (ByteArray)
  | 0, _, _ => none
  | k + 1, x3, x4 => if x4 > 0 then ((some (([(Int.tmod x4 256) % 256] : List Int) : List Int)).bind fun y231 => (if (strOfNums y231).size + x3.size ≤ 9223372036854775807 then (ravelinref3_Num.l0 k ((strOfNums y231) ++ x3) (wrap64 (Int.tdiv x4 256))) else (none))) else ((some (([((x3.size : Int)) % 256] : List Int) : List Int)).bind fun y234 => (if (strOfNums y234).size + x3.size ≤ 9223372036854775807 then (some ((strOfNums y234) ++ x3)) else (none)))
def ravelinref3_Num.f (k : Nat) (a0 : Int) : Option (ByteArray) := ravelinref3_Num.l0 k (⟨#[]⟩ : ByteArray) (mx 0 a0)
theorem ravelinref3_Num.mono_l : ∀ k, (∀ y0 y1, LeO (ravelinref3_Num.l0 k y0 y1) (ravelinref3_Num.l0 (k + 1) y0 y1))
  | 0 => fun _ _ r h => by simp [ravelinref3_Num.l0] at h
  | k + 1 => by
    have ih0 := ravelinref3_Num.mono_l k
    · intro y0 y1
      unfold ravelinref3_Num.l0
      repeat' first
      | (with_reducible exact ih0 _ _)
      | (with_reducible exact LeO.refl _)
      | (with_reducible exact LeO.none _)
      | (with_reducible refine LeO.ite ?_ ?_)
      | (with_reducible refine LeO.bind ?_ (fun _ => ?_))
      | exact ih0 _ _
      | exact LeO.none _
      | refine LeO.ite ?_ ?_
      | refine LeO.bind ?_ (fun _ => ?_)
theorem ravelinref3_Num.mono : ∀ a0 k, LeO (ravelinref3_Num.f k a0) (ravelinref3_Num.f (k + 1) a0) := by
  intro a0 k
  have ih0 := ravelinref3_Num.mono_l k
  unfold ravelinref3_Num.f
  repeat' first
      | (with_reducible exact ih0 _ _)
      | (with_reducible exact LeO.refl _)
      | (with_reducible exact LeO.none _)
      | (with_reducible refine LeO.ite ?_ ?_)
      | (with_reducible refine LeO.bind ?_ (fun _ => ?_))
      | exact ih0 _ _
      | exact LeO.none _
      | refine LeO.ite ?_ ?_
      | refine LeO.bind ?_ (fun _ => ?_)
set_option maxHeartbeats 8000000 in
set_option maxRecDepth 100000 in
theorem ravelinref3_Num.calls (k : Nat) (a0 : Int) (r : ByteArray) (w : World) (h : ravelinref3_Num.f k a0 = some r) :
    Calls Try.prog 24 #[.int .i64 a0] w fun e w' => e = .returned (.string r) ∧ Below w.heap.size w w' := by
  have HB := Aside0.mk (Below.refl w.heap.size w)
  have H : (ravelinref3_Num.l0 k (⟨#[]⟩ : ByteArray) (mx 0 a0)) = some r := h
  clear h
  obtain ⟨ji2, hji2⟩ : ∃ j_ : Int, (mx 0 a0) = j_ := ⟨_, rfl⟩
  replace H : (ravelinref3_Num.l0 k (⟨#[]⟩ : ByteArray) ji2) = some r := by first | (rw [hji2] at H; exact H) | (simp only [hji2] at H ⊢; exact H)
  (try (have hji2l : 0 ≤ ji2 := by (rw [← hji2]; unfold mx; (repeat' split) <;> omega)))
  (try (have hji2m : 0 ≤ ji2 := by omega))
  have hji2_ : (if 0 < a0 then a0 else 0) = ji2 := hji2
  (try (have hji2_n := hji2_; simp only [Int.ofNat_lt] at hji2_n))
  have H' := Aside0.mk H
  clear H
  go_enter Try.func24, Try.ntmps24
  go_wp2
  go_loopg [3, 4] k (fun kq v3 v4 w' => ∃ (x3_1 : ByteArray) (x4_1 : Int), v3 = .string x3_1 ∧ v4 = .int .i64 x4_1 ∧ Aside0 (ravelinref3_Num.l0 kq x3_1 x4_1 = some r) ∧ Aside0 (kq ≤ k) ∧ Aside0 (Below w.heap.size w w'))
  case atStart => exact ⟨((⟨#[]⟩ : ByteArray)), (ji2), (by first | rfl | (simp; done) | (simp [*]; done)), (by first | rfl | (simp; done) | (simp only [← hji2] <;> (first | rfl | simp)) | (simp [*]; done)), H', ⟨Nat.le_refl _⟩, ⟨by repeat (first | (with_reducible first | exact HB.out | apply below_alloc | apply pw_below_drewN | apply below_drew1) | exact HB.out)⟩⟩
  case round =>
    clear H'
    try clear c2
    try clear p2
    obtain ⟨x3_1, x4_1, rfl, rfl, HA, HK1, HB⟩ := hrel
    cases gk with
    | zero => exact absurd HA.out (by simp [ravelinref3_Num.l0])
    | succ k1 =>
      have H := HA.out
      clear HA
      simp only [ravelinref3_Num.l0] at H
      by_cases c3 : x4_1 > 0
      · rw [if_pos c3] at H
        have c3b0 : decide (0 < x4_1) = true := decide_eq_true c3
        clear c3
        obtain ⟨y231, hy231⟩ : ∃ y_ : List Int, y_ = (([(Int.tmod x4_1 256) % 256] : List Int)) := ⟨_, rfl⟩
        replace H : (if (strOfNums y231).size + x3_1.size ≤ 9223372036854775807 then (ravelinref3_Num.l0 k1 ((strOfNums y231) ++ x3_1) (wrap64 (Int.tdiv x4_1 256))) else (none)) = some r := by first | (rw [hy231]; with_reducible exact H) | (have H2_ := (Option.bind_some _ _).symm.trans H; rw [hy231]; with_reducible exact H2_) | (have H2_ := (Option.bind_some _ _).symm.trans H; with_reducible exact H2_) | with_reducible exact H | (rw [hy231]; exact H) | exact H
        have Ny231 := Aside0.mk hy231
        clear hy231
        by_cases c4 : (strOfNums y231).size + x3_1.size ≤ 9223372036854775807
        · rw [if_pos c4] at H
          have c4b0 := eq_true c4
          have c4b1 : decide ((strOfNums y231).size + x3_1.size ≤ 9223372036854775807) = true := decide_eq_true c4
          try have c4b2 : (9223372036854775807 < (strOfNums y231).size + x3_1.size) = False := eq_false (Nat.not_lt.2 c4)
          have H' := Aside0.mk H
          clear H
          go_wp2_with (first | ((with_reducible refine gate_dst (N := 14) rfl ?_); refine Kd.R_lit (Kd.int .u8) _ 5 ?hg (N := 14) ?hd (xs := ([(Int.tmod x4_1 256) % 256] : List Int)) (inner := [.int .u8 ((Int.tmod x4_1 256) % 256)]) (ok := fun _ => True) (okp := fun _ => True) ?hr ?hp (fun _ hk => hk) trivial (Below.refl _ _) (Nat.le_refl _) (by simp) ?_; (case hd => rfl); (case hg => rfl); (case hr => first | (go_simp; done) | (go_simp; rfl)); (case hp => exact (Reps.one (show Kd.M (Kd.int .u8) _ _ _ ((Int.tmod x4_1 256) % 256) [.int .u8 ((Int.tmod x4_1 256) % 256)] from rfl) (Reps.none _ _))); intro v232 w5 ho6 hb hg_ hnew_; clear hg_ hnew_; (first | rw [← Ny231.out] at ho6 | (simp only [Int.reduceToNat] at ho6; rw [← Ny231.out] at ho6)); have n0_ := Aside0.mk (Kd.R_lower ho6 (below_size (by repeat (first | (with_reducible first | exact HB.out | apply below_alloc | apply pw_below_drewN | apply below_drew1) | exact HB.out)))); have n1_ := Aside0.mk (below_step (by repeat (first | (with_reducible first | exact HB.out | apply below_alloc | apply pw_below_drewN | apply below_drew1) | exact HB.out)) hb); clear HB; have HO233 := n0_; have HB := n1_; clear n0_ n1_; clear hb ho6; have hcv7 := own_string (P := Try.prog) Try.underlying38 Try.underlying5 Try.underlying9 (Kd.own_of_R HO233.out)))
          go_roundg k1
          case measure => have := HK1.out; omega
          case rel => exact ⟨((strOfNums y231) ++ x3_1), (wrap64 (Int.tdiv x4_1 256)), (by first | rfl | (simp; done) | (simp [*]; done)), (by first | rfl | (simp; done) | (simp [*]; done)), H', ⟨by have := HK1.out; omega⟩, ⟨by repeat (first | (with_reducible first | exact HB.out | apply below_alloc | apply pw_below_drewN | apply below_drew1) | exact HB.out)⟩⟩
        · rw [if_neg c4] at H
          exact absurd H (by simp)
      · rw [if_neg c3] at H
        have c3b0 : decide (0 < x4_1) = false := decide_eq_false c3
        clear c3
        obtain ⟨y234, hy234⟩ : ∃ y_ : List Int, y_ = (([((x3_1.size : Int)) % 256] : List Int)) := ⟨_, rfl⟩
        replace H : (if (strOfNums y234).size + x3_1.size ≤ 9223372036854775807 then (some ((strOfNums y234) ++ x3_1)) else (none)) = some r := by first | (rw [hy234]; with_reducible exact H) | (have H2_ := (Option.bind_some _ _).symm.trans H; rw [hy234]; with_reducible exact H2_) | (have H2_ := (Option.bind_some _ _).symm.trans H; with_reducible exact H2_) | with_reducible exact H | (rw [hy234]; exact H) | exact H
        have Ny234 := Aside0.mk hy234
        clear hy234
        by_cases c8 : (strOfNums y234).size + x3_1.size ≤ 9223372036854775807
        · rw [if_pos c8] at H
          have c8b0 := eq_true c8
          have c8b1 : decide ((strOfNums y234).size + x3_1.size ≤ 9223372036854775807) = true := decide_eq_true c8
          try have c8b2 : (9223372036854775807 < (strOfNums y234).size + x3_1.size) = False := eq_false (Nat.not_lt.2 c8)
          obtain rfl := Option.some.inj H
          go_wp2_with (first | ((with_reducible refine gate_dst (N := 21) rfl ?_); refine Kd.R_lit (Kd.int .u8) _ 5 ?hg (N := 21) ?hd (xs := ([((x3_1.size : Int)) % 256] : List Int)) (inner := [.int .u8 (((x3_1.size : Int)) % 256)]) (ok := fun _ => True) (okp := fun _ => True) ?hr ?hp (fun _ hk => hk) trivial (Below.refl _ _) (Nat.le_refl _) (by simp) ?_; (case hd => rfl); (case hg => rfl); (case hr => first | (go_simp; done) | (go_simp; rfl)); (case hp => exact (Reps.one (show Kd.M (Kd.int .u8) _ _ _ (((x3_1.size : Int)) % 256) [.int .u8 (((x3_1.size : Int)) % 256)] from rfl) (Reps.none _ _))); intro v235 w9 ho10 hb hg_ hnew_; clear hg_ hnew_; (first | rw [← Ny234.out] at ho10 | (simp only [Int.reduceToNat] at ho10; rw [← Ny234.out] at ho10)); have n0_ := Aside0.mk (Kd.R_lower ho10 (below_size (by repeat (first | (with_reducible first | exact HB.out | apply below_alloc | apply pw_below_drewN | apply below_drew1) | exact HB.out)))); have n1_ := Aside0.mk (below_step (by repeat (first | (with_reducible first | exact HB.out | apply below_alloc | apply pw_below_drewN | apply below_drew1) | exact HB.out)) hb); clear HB; have HO236 := n0_; have HB := n1_; clear n0_ n1_; clear hb ho10; have hcv11 := own_string (P := Try.prog) Try.underlying38 Try.underlying5 Try.underlying9 (Kd.own_of_R HO236.out)))
          go_ret
          exact ⟨by first | rfl | (simp [errW_none, errW_some] <;> rfl) | (simp only [← hji2]; first | rfl | (simp [errW_none, errW_some] <;> rfl)) | (simp [*, errW_none, errW_some] <;> rfl), by repeat (first | (with_reducible first | exact HB.out | apply below_alloc | apply pw_below_drewN | apply below_drew1) | exact HB.out)⟩
        · rw [if_neg c8] at H
          exact absurd H (by simp)

end Go.Proofs.Ythohfmfgijckhaa.P
