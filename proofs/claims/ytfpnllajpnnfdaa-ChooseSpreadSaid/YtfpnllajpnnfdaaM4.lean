-- Printed by a changed copy of the kit's printer (wip/tools/ext.py); labels and more
import Derived.Test.YtfpnllajpnnfdaaM0
namespace Go.Proofs.Ytfpnllajpnnfdaa.P
open Go.RowKit Go.Proofs.YtfpnllajpnnfdaaW.PrintWords Go.Proofs.YtfpnllajpnnfdaaW.PrintLast Go.Proofs.YtfpnllajpnnfdaaW.PrintMore
attribute [local go_sem] max2_int min2_int max_two min_two max_three min_three max_four min_four   -- for this text's walks alone
attribute [local go_sem high] string_leq string_geq string_gtr
set_option linter.unusedVariables false
set_option linter.unusedSimpArgs false

/-! ### ravelinlaw14_few: function 7 -/
mutual
def ravelinlaw14_few.l0 : Nat → List (S34) → Int → Option (Bool)
  | 0, _, _ => none
  | k + 1, x0, x3 => if x3 < (x0.length : Int) then (if 0 ≤ x3 then (if (((rd_T34 x0 x3).f0).length : Int) > 60 then (ravelinlaw14_few.j1 k x0 x3 true) else (ravelinlaw14_few.j1 k x0 x3 (decide ((((rd_T34 x0 x3).f1).length : Int) > 60)))) else (none)) else (some (decide ((x0.length : Int) ≤ 20)))
def ravelinlaw14_few.j1 : Nat → List (S34) → Int → Bool → Option (Bool)
  | 0, _, _, _ => none
  | k + 1, x0, x3, x26 => if x26 = true then (some false) else (ravelinlaw14_few.l1 k x0 x3 0)
def ravelinlaw14_few.l1 : Nat → List (S34) → Int → Int → Option (Bool)
  | 0, _, _, _ => none
  | k + 1, x0, x3, x4 => if 0 ≤ x3 then (if x3 < (x0.length : Int) then (if x4 < (((rd_T34 x0 x3).f1).length : Int) then (if 0 ≤ x4 then (if (((rd_T46 ((rd_T34 x0 x3).f1) x4).f2).size : Int) > 20 then (some false) else (if (((rd_T46 ((rd_T34 x0 x3).f1) x4).f3).size : Int) > 20 then (some false) else (ravelinlaw14_few.l1 k x0 x3 (wrap64 (x4 + 1))))) else (none)) else (ravelinlaw14_few.l0 k x0 (wrap64 (x3 + 1)))) else (none)) else (none)
end
def ravelinlaw14_few.f (k : Nat) (l0 : List (S34)) : Option (Bool) := ravelinlaw14_few.l0 k l0 0
theorem ravelinlaw14_few.mono_l : ∀ k, (∀ y0 y1, LeO (ravelinlaw14_few.l0 k y0 y1) (ravelinlaw14_few.l0 (k + 1) y0 y1)) ∧ (∀ y0 y1 y2, LeO (ravelinlaw14_few.j1 k y0 y1 y2) (ravelinlaw14_few.j1 (k + 1) y0 y1 y2)) ∧ (∀ y0 y1 y2, LeO (ravelinlaw14_few.l1 k y0 y1 y2) (ravelinlaw14_few.l1 (k + 1) y0 y1 y2))
  | 0 => ⟨fun _ _ r h => by simp [ravelinlaw14_few.l0] at h, fun _ _ _ r h => by simp [ravelinlaw14_few.j1] at h, fun _ _ _ r h => by simp [ravelinlaw14_few.l1] at h⟩
  | k + 1 => by
    obtain ⟨ih0, ih1, ih2⟩ := ravelinlaw14_few.mono_l k
    refine ⟨?_, ?_, ?_⟩
    · intro y0 y1
      unfold ravelinlaw14_few.l0
      repeat' first
      | (with_reducible exact ih0 _ _)
      | (with_reducible exact ih1 _ _ _)
      | (with_reducible exact ih2 _ _ _)
      | (with_reducible exact LeO.refl _)
      | (with_reducible exact LeO.none _)
      | (with_reducible refine LeO.ite ?_ ?_)
      | (with_reducible refine LeO.bind ?_ (fun _ => ?_))
      | exact ih0 _ _
      | exact ih1 _ _ _
      | exact ih2 _ _ _
      | exact LeO.none _
      | refine LeO.ite ?_ ?_
      | refine LeO.bind ?_ (fun _ => ?_)
    · intro y0 y1 y2
      unfold ravelinlaw14_few.j1
      repeat' first
      | (with_reducible exact ih0 _ _)
      | (with_reducible exact ih1 _ _ _)
      | (with_reducible exact ih2 _ _ _)
      | (with_reducible exact LeO.refl _)
      | (with_reducible exact LeO.none _)
      | (with_reducible refine LeO.ite ?_ ?_)
      | (with_reducible refine LeO.bind ?_ (fun _ => ?_))
      | exact ih0 _ _
      | exact ih1 _ _ _
      | exact ih2 _ _ _
      | exact LeO.none _
      | refine LeO.ite ?_ ?_
      | refine LeO.bind ?_ (fun _ => ?_)
    · intro y0 y1 y2
      unfold ravelinlaw14_few.l1
      repeat' first
      | (with_reducible exact ih0 _ _)
      | (with_reducible exact ih1 _ _ _)
      | (with_reducible exact ih2 _ _ _)
      | (with_reducible exact LeO.refl _)
      | (with_reducible exact LeO.none _)
      | (with_reducible refine LeO.ite ?_ ?_)
      | (with_reducible refine LeO.bind ?_ (fun _ => ?_))
      | exact ih0 _ _
      | exact ih1 _ _ _
      | exact ih2 _ _ _
      | exact LeO.none _
      | refine LeO.ite ?_ ?_
      | refine LeO.bind ?_ (fun _ => ?_)
theorem ravelinlaw14_few.mono : ∀ a0 k, LeO (ravelinlaw14_few.f k a0) (ravelinlaw14_few.f (k + 1) a0) := by
  intro a0 k
  obtain ⟨ih0, ih1, ih2⟩ := ravelinlaw14_few.mono_l k
  unfold ravelinlaw14_few.f
  repeat' first
      | (with_reducible exact ih0 _ _)
      | (with_reducible exact ih1 _ _ _)
      | (with_reducible exact ih2 _ _ _)
      | (with_reducible exact LeO.refl _)
      | (with_reducible exact LeO.none _)
      | (with_reducible refine LeO.ite ?_ ?_)
      | (with_reducible refine LeO.bind ?_ (fun _ => ?_))
      | exact ih0 _ _
      | exact ih1 _ _ _
      | exact ih2 _ _ _
      | exact LeO.none _
      | refine LeO.ite ?_ ?_
      | refine LeO.bind ?_ (fun _ => ?_)
set_option maxHeartbeats 8000000 in
set_option maxRecDepth 100000 in
theorem ravelinlaw14_few.calls (k : Nat) (A0 : Option Addr) (c0 : Nat) (l0 : List (S34)) (r : Bool) (w : World) (hr0 : Kd.C k34 w A0 l0.length l0) (hc0 : l0.length ≤ c0) (h : ravelinlaw14_few.f k l0 = some r) :
    Calls Try.prog 7 #[.slice A0 l0.length c0] w fun e w' => e = .returned (.bool r) ∧ Drawn0 w w' := by
  have HR0 := Aside0.mk hr0
  have HC0 := Aside0.mk hc0
  clear hr0 hc0
  have H : (ravelinlaw14_few.l0 k l0 0) = some r := h
  clear h
  have H' := Aside0.mk H
  clear H
  go_enter Try.func7, Try.ntmps7
  go_wp2
  go_loopg [3] k (fun kq v3 w' => ∃ (x3_1 : Int), v3 = .int .i64 x3_1 ∧ Aside0 (ravelinlaw14_few.l0 kq l0 x3_1 = some r) ∧ Aside0 (kq ≤ k) ∧ Drawn0 w w')
  case atStart => exact ⟨(0), (by first | rfl | (simp; done) | (simp [*]; done)), H', ⟨Nat.le_refl _⟩, by repeat (first | exact Drawn0.refl _ | apply Drawn0.step)⟩
  clear H'
  obtain ⟨x3_1, rfl, HA, HK1, ⟨m1, rfl⟩⟩ := hrel
  cases gk with
  | zero => exact absurd HA.out (by simp [ravelinlaw14_few.l0])
  | succ k1 => ?_
  have H := HA.out
  clear HA
  simp only [ravelinlaw14_few.l0] at H
  by_cases c2 : x3_1 < (l0.length : Int)
  rotate_left
  · rw [if_neg c2] at H
    have c2b0 : decide (x3_1 < (l0.length : Int)) = false := decide_eq_false c2
    clear c2
    obtain rfl := Option.some.inj H
    go_wp2
    go_ret
    exact ⟨by first | rfl | (simp; done) | (simp [*]; done), by repeat (first | exact Drawn0.refl _ | apply Drawn0.step)⟩
  rw [if_pos c2] at H
  have c2b0 : decide (x3_1 < (l0.length : Int)) = true := decide_eq_true c2
  clear c2
  have HC3 := Aside0.mk H
  clear H
  go_upto_region 4 with (fail)
  go_cut [26] (fun v26 wc => ∃ (kq : Nat) (x26_2 : Bool), v26 = .bool x26_2 ∧ Aside0 (ravelinlaw14_few.j1 kq l0 x3_1 x26_2 = some r) ∧ Aside0 (kq ≤ k1) ∧ Drawn0 w wc)
  case first =>
    have H := HC3.out
    clear HC3
    by_cases c4 : 0 ≤ x3_1
    rotate_left
    · rw [if_neg c4] at H
      exact absurd H (by simp)
    rw [if_pos c4] at H
    have c4b0 : decide (0 ≤ x3_1) = true := decide_eq_true c4
    clear c4
    (first | rw [c4b0] | (simp only [i64_w, i32_w]; rw [c4b0]) | skip)
    by_cases c5 : (((rd_T34 l0 x3_1).f0).length : Int) > 60
    · rw [if_pos c5] at H
      have c5b0 : decide (60 < (((rd_T34 l0 x3_1).f0).length : Int)) = true := decide_eq_true c5
      have c5b1 : decide (60 < ((rd_T34 l0 x3_1).f0).length) = true := decide_eq_true (by omega)
      clear c5
      have H' := Aside0.mk H
      clear H
      have p159 : 0 ≤ (x3_1 : Int) := of_decide_eq_true (by first | (with_reducible assumption) | assumption)
      have q159 : x3_1 < (l0.length : Int) := of_decide_eq_true (by first | (with_reducible assumption) | assumption)
      obtain ⟨ad159, A159_0, c159_0, A159_1, c159_1, e159, hx159_0, hx159_1, hx159_2, hx159_3, hl159_0, hi159_0, hl159_1, hi159_1⟩ := at_T34 HR0.out x3_1 p159 q159
      cases e159
      have HR159_0 := Aside0.mk hi159_0
      have HC159_0 := Aside0.mk hl159_0
      clear hi159_0 hl159_0
      have HR159_1 := Aside0.mk hi159_1
      have HC159_1 := Aside0.mk hl159_1
      clear hi159_1 hl159_1
      replace p159 := eq_true p159
      replace q159 := eq_true q159
      go_wp2
      go_meet
      case rel => exact ⟨_, (true), (by first | rfl | (simp; done) | (simp [*]; done)), H', ⟨by have := HK1.out; first | omega | exact Nat.le_refl _⟩, by repeat (first | exact Drawn0.refl _ | apply Drawn0.step)⟩
    rw [if_neg c5] at H
    have c5b0 : decide (60 < (((rd_T34 l0 x3_1).f0).length : Int)) = false := decide_eq_false c5
    have c5b1 : decide (60 < ((rd_T34 l0 x3_1).f0).length) = false := decide_eq_false (by omega)
    clear c5
    have H' := Aside0.mk H
    clear H
    have p159 : 0 ≤ (x3_1 : Int) := of_decide_eq_true (by first | (with_reducible assumption) | assumption)
    have q159 : x3_1 < (l0.length : Int) := of_decide_eq_true (by first | (with_reducible assumption) | assumption)
    obtain ⟨ad159, A159_0, c159_0, A159_1, c159_1, e159, hx159_0, hx159_1, hx159_2, hx159_3, hl159_0, hi159_0, hl159_1, hi159_1⟩ := at_T34 HR0.out x3_1 p159 q159
    cases e159
    have HR159_0 := Aside0.mk hi159_0
    have HC159_0 := Aside0.mk hl159_0
    clear hi159_0 hl159_0
    have HR159_1 := Aside0.mk hi159_1
    have HC159_1 := Aside0.mk hl159_1
    clear hi159_1 hl159_1
    replace p159 := eq_true p159
    replace q159 := eq_true q159
    have p160 : 0 ≤ (x3_1 : Int) := of_decide_eq_true (by first | (with_reducible assumption) | assumption)
    have q160 : x3_1 < (l0.length : Int) := of_decide_eq_true (by first | (with_reducible assumption) | assumption)
    obtain ⟨ad160, A160_0, c160_0, A160_1, c160_1, e160, hx160_0, hx160_1, hx160_2, hx160_3, hl160_0, hi160_0, hl160_1, hi160_1⟩ := at_T34 HR0.out x3_1 p160 q160
    obtain rfl : ad159 = ad160 := (by injection e160)
    have HR160_0 := Aside0.mk hi160_0
    have HC160_0 := Aside0.mk hl160_0
    clear hi160_0 hl160_0
    have HR160_1 := Aside0.mk hi160_1
    have HC160_1 := Aside0.mk hl160_1
    clear hi160_1 hl160_1
    replace p160 := eq_true p160
    replace q160 := eq_true q160
    have ea_ := Option.some.inj (hx159_0.symm.trans hx160_0)
    injection ea_ with ea_ en_ ec_
    subst ea_
    subst ec_
    clear en_
    have ea_ := Option.some.inj (hx159_1.symm.trans hx160_1)
    injection ea_ with ea_ en_ ec_
    subst ea_
    subst ec_
    clear en_
    go_wp2
    go_meet
    case rel => exact ⟨_, (decide ((((rd_T34 l0 x3_1).f1).length : Int) > 60)), (by first | rfl | (simp; done) | (simp [*]; done)), H', ⟨by have := HK1.out; first | omega | exact Nat.le_refl _⟩, by repeat (first | exact Drawn0.refl _ | apply Drawn0.step)⟩
  clear HC3
  try clear c1
  try clear p1
  try clear q1
  try clear hx1
  try clear c2
  try clear c2b0
  try clear p2
  try clear c4
  try clear c4b0
  try clear c5
  try clear c5b0
  try clear c5b1
  try clear hx159_0
  try clear hx159_1
  try clear hx159_2
  try clear hx159_3
  try clear hx160_0
  try clear hx160_1
  try clear hx160_2
  try clear hx160_3
  try clear p159
  try clear p160
  try clear q159
  try clear q160
  obtain ⟨kq, x26_2, rfl, HA, HJ2, ⟨mc2, rfl⟩⟩ := hcut
  cases kq with
  | zero => exact absurd HA.out (by simp [ravelinlaw14_few.j1])
  | succ kj2 => ?_
  have H := HA.out
  clear HA
  simp only [ravelinlaw14_few.j1] at H
  by_cases c6 : x26_2 = true
  · subst c6
    have H1 : (some false) = some r := by rw [if_pos rfl] at H; exact H
    clear H
    have H := H1
    clear H1
    obtain rfl := Option.some.inj H
    go_wp2
    go_ret
    exact ⟨by first | rfl | (simp; done) | (simp [*]; done), by repeat (first | exact Drawn0.refl _ | apply Drawn0.step)⟩
  replace c6 := Bool.eq_false_iff.mpr c6
  subst c6
  have H1 : (ravelinlaw14_few.l1 kj2 l0 x3_1 0) = some r := by rw [if_neg (show ¬ (false = true) by decide)] at H; exact H
  clear H
  have H := H1
  clear H1
  have H' := Aside0.mk H
  clear H
  go_wp2
  go_loopg [4] kj2 (fun kq v4 w' => ∃ (x4_3 : Int), v4 = .int .i64 x4_3 ∧ Aside0 (ravelinlaw14_few.l1 kq l0 x3_1 x4_3 = some r) ∧ Aside0 (kq ≤ kj2) ∧ Drawn0 w w')
  case atStart => exact ⟨(0), (by first | rfl | (simp; done) | (simp [*]; done)), H', ⟨Nat.le_refl _⟩, by repeat (first | exact Drawn0.refl _ | apply Drawn0.step)⟩
  clear H'
  try clear c1
  try clear p1
  try clear q1
  try clear hx1
  try clear c2
  try clear c2b0
  try clear p2
  try clear c4
  try clear c4b0
  try clear c5
  try clear c5b0
  try clear c5b1
  try clear c6
  try clear hx159_0
  try clear hx159_1
  try clear hx159_2
  try clear hx159_3
  try clear hx160_0
  try clear hx160_1
  try clear hx160_2
  try clear hx160_3
  try clear p1
  try clear p159
  try clear p160
  try clear p2
  try clear q1
  try clear q159
  try clear q160
  obtain ⟨x4_3, rfl, HA, HK3, ⟨m3, rfl⟩⟩ := hrel
  cases gk with
  | zero => exact absurd HA.out (by simp [ravelinlaw14_few.l1])
  | succ k3 => ?_
  have H := HA.out
  clear HA
  simp only [ravelinlaw14_few.l1] at H
  by_cases c7 : 0 ≤ x3_1
  rotate_left
  · rw [if_neg c7] at H
    exact absurd H (by simp)
  rw [if_pos c7] at H
  have c7b0 : decide (0 ≤ x3_1) = true := decide_eq_true c7
  clear c7
  by_cases c8 : x3_1 < (l0.length : Int)
  rotate_left
  · rw [if_neg c8] at H
    exact absurd H (by simp)
  rw [if_pos c8] at H
  have c8b0 : decide (x3_1 < (l0.length : Int)) = true := decide_eq_true c8
  clear c8
  by_cases c9 : x4_3 < (((rd_T34 l0 x3_1).f1).length : Int)
  rotate_left
  · rw [if_neg c9] at H
    have c9b0 : decide (x4_3 < (((rd_T34 l0 x3_1).f1).length : Int)) = false := decide_eq_false c9
    clear c9
    have H' := Aside0.mk H
    clear H
    have p161 : 0 ≤ (x3_1 : Int) := of_decide_eq_true (by first | (with_reducible assumption) | assumption)
    have q161 : x3_1 < (l0.length : Int) := of_decide_eq_true (by first | (with_reducible assumption) | assumption)
    obtain ⟨ad161, A161_0, c161_0, A161_1, c161_1, e161, hx161_0, hx161_1, hx161_2, hx161_3, hl161_0, hi161_0, hl161_1, hi161_1⟩ := at_T34 HR0.out x3_1 p161 q161
    cases e161
    have HR161_0 := Aside0.mk hi161_0
    have HC161_0 := Aside0.mk hl161_0
    clear hi161_0 hl161_0
    have HR161_1 := Aside0.mk hi161_1
    have HC161_1 := Aside0.mk hl161_1
    clear hi161_1 hl161_1
    replace p161 := eq_true p161
    replace q161 := eq_true q161
    go_wp2
    go_roundg k3
    case measure => have := HK1.out; have := HJ2.out; have := HK3.out; omega
    case rel => exact ⟨(wrap64 (x3_1 + 1)), (by first | rfl | (simp; done) | (simp [*]; done)), H', ⟨by have := HK1.out; have := HJ2.out; have := HK3.out; omega⟩, by repeat (first | exact Drawn0.refl _ | apply Drawn0.step)⟩
  rw [if_pos c9] at H
  have c9b0 : decide (x4_3 < (((rd_T34 l0 x3_1).f1).length : Int)) = true := decide_eq_true c9
  clear c9
  by_cases c10 : 0 ≤ x4_3
  rotate_left
  · rw [if_neg c10] at H
    exact absurd H (by simp)
  rw [if_pos c10] at H
  have c10b0 : decide (0 ≤ x4_3) = true := decide_eq_true c10
  clear c10
  by_cases c11 : (((rd_T46 ((rd_T34 l0 x3_1).f1) x4_3).f2).size : Int) > 20
  · rw [if_pos c11] at H
    have c11b0 : decide (20 < (((rd_T46 ((rd_T34 l0 x3_1).f1) x4_3).f2).size : Int)) = true := decide_eq_true c11
    have c11b1 : decide (20 < ((rd_T46 ((rd_T34 l0 x3_1).f1) x4_3).f2).size) = true := decide_eq_true (by omega)
    clear c11
    obtain rfl := Option.some.inj H
    have p161 : 0 ≤ (x3_1 : Int) := of_decide_eq_true (by first | (with_reducible assumption) | assumption)
    have q161 : x3_1 < (l0.length : Int) := of_decide_eq_true (by first | (with_reducible assumption) | assumption)
    obtain ⟨ad161, A161_0, c161_0, A161_1, c161_1, e161, hx161_0, hx161_1, hx161_2, hx161_3, hl161_0, hi161_0, hl161_1, hi161_1⟩ := at_T34 HR0.out x3_1 p161 q161
    cases e161
    have HR161_0 := Aside0.mk hi161_0
    have HC161_0 := Aside0.mk hl161_0
    clear hi161_0 hl161_0
    have HR161_1 := Aside0.mk hi161_1
    have HC161_1 := Aside0.mk hl161_1
    clear hi161_1 hl161_1
    replace p161 := eq_true p161
    replace q161 := eq_true q161
    have p162 : 0 ≤ (x3_1 : Int) := of_decide_eq_true (by first | (with_reducible assumption) | assumption)
    have q162 : x3_1 < (l0.length : Int) := of_decide_eq_true (by first | (with_reducible assumption) | assumption)
    obtain ⟨ad162, A162_0, c162_0, A162_1, c162_1, e162, hx162_0, hx162_1, hx162_2, hx162_3, hl162_0, hi162_0, hl162_1, hi162_1⟩ := at_T34 HR0.out x3_1 p162 q162
    obtain rfl : ad161 = ad162 := (by injection e162)
    have HR162_0 := Aside0.mk hi162_0
    have HC162_0 := Aside0.mk hl162_0
    clear hi162_0 hl162_0
    have HR162_1 := Aside0.mk hi162_1
    have HC162_1 := Aside0.mk hl162_1
    clear hi162_1 hl162_1
    replace p162 := eq_true p162
    replace q162 := eq_true q162
    have ea_ := Option.some.inj (hx161_0.symm.trans hx162_0)
    injection ea_ with ea_ en_ ec_
    subst ea_
    subst ec_
    clear en_
    have ea_ := Option.some.inj (hx161_1.symm.trans hx162_1)
    injection ea_ with ea_ en_ ec_
    subst ea_
    subst ec_
    clear en_
    have p163 : 0 ≤ (x4_3 : Int) := of_decide_eq_true (by first | (with_reducible assumption) | assumption)
    have q163 : x4_3 < (((rd_T34 l0 x3_1).f1).length : Int) := of_decide_eq_true (by first | (with_reducible assumption) | assumption)
    obtain ⟨ad163, e163, hx163_0, hx163_1, hx163_2, hx163_3, hx163_4⟩ := at_T46 HR162_1.out x4_3 p163 q163
    cases e163
    replace p163 := eq_true p163
    replace q163 := eq_true q163
    go_wp2
    go_ret
    exact ⟨by first | rfl | (simp; done) | (simp [*]; done), by repeat (first | exact Drawn0.refl _ | apply Drawn0.step)⟩
  rw [if_neg c11] at H
  have c11b0 : decide (20 < (((rd_T46 ((rd_T34 l0 x3_1).f1) x4_3).f2).size : Int)) = false := decide_eq_false c11
  have c11b1 : decide (20 < ((rd_T46 ((rd_T34 l0 x3_1).f1) x4_3).f2).size) = false := decide_eq_false (by omega)
  clear c11
  by_cases c12 : (((rd_T46 ((rd_T34 l0 x3_1).f1) x4_3).f3).size : Int) > 20
  · rw [if_pos c12] at H
    have c12b0 : decide (20 < (((rd_T46 ((rd_T34 l0 x3_1).f1) x4_3).f3).size : Int)) = true := decide_eq_true c12
    have c12b1 : decide (20 < ((rd_T46 ((rd_T34 l0 x3_1).f1) x4_3).f3).size) = true := decide_eq_true (by omega)
    clear c12
    obtain rfl := Option.some.inj H
    have p161 : 0 ≤ (x3_1 : Int) := of_decide_eq_true (by first | (with_reducible assumption) | assumption)
    have q161 : x3_1 < (l0.length : Int) := of_decide_eq_true (by first | (with_reducible assumption) | assumption)
    obtain ⟨ad161, A161_0, c161_0, A161_1, c161_1, e161, hx161_0, hx161_1, hx161_2, hx161_3, hl161_0, hi161_0, hl161_1, hi161_1⟩ := at_T34 HR0.out x3_1 p161 q161
    cases e161
    have HR161_0 := Aside0.mk hi161_0
    have HC161_0 := Aside0.mk hl161_0
    clear hi161_0 hl161_0
    have HR161_1 := Aside0.mk hi161_1
    have HC161_1 := Aside0.mk hl161_1
    clear hi161_1 hl161_1
    replace p161 := eq_true p161
    replace q161 := eq_true q161
    have p162 : 0 ≤ (x3_1 : Int) := of_decide_eq_true (by first | (with_reducible assumption) | assumption)
    have q162 : x3_1 < (l0.length : Int) := of_decide_eq_true (by first | (with_reducible assumption) | assumption)
    obtain ⟨ad162, A162_0, c162_0, A162_1, c162_1, e162, hx162_0, hx162_1, hx162_2, hx162_3, hl162_0, hi162_0, hl162_1, hi162_1⟩ := at_T34 HR0.out x3_1 p162 q162
    obtain rfl : ad161 = ad162 := (by injection e162)
    have HR162_0 := Aside0.mk hi162_0
    have HC162_0 := Aside0.mk hl162_0
    clear hi162_0 hl162_0
    have HR162_1 := Aside0.mk hi162_1
    have HC162_1 := Aside0.mk hl162_1
    clear hi162_1 hl162_1
    replace p162 := eq_true p162
    replace q162 := eq_true q162
    have ea_ := Option.some.inj (hx161_0.symm.trans hx162_0)
    injection ea_ with ea_ en_ ec_
    subst ea_
    subst ec_
    clear en_
    have ea_ := Option.some.inj (hx161_1.symm.trans hx162_1)
    injection ea_ with ea_ en_ ec_
    subst ea_
    subst ec_
    clear en_
    have p163 : 0 ≤ (x4_3 : Int) := of_decide_eq_true (by first | (with_reducible assumption) | assumption)
    have q163 : x4_3 < (((rd_T34 l0 x3_1).f1).length : Int) := of_decide_eq_true (by first | (with_reducible assumption) | assumption)
    obtain ⟨ad163, e163, hx163_0, hx163_1, hx163_2, hx163_3, hx163_4⟩ := at_T46 HR162_1.out x4_3 p163 q163
    cases e163
    replace p163 := eq_true p163
    replace q163 := eq_true q163
    have p164 : 0 ≤ (x3_1 : Int) := of_decide_eq_true (by first | (with_reducible assumption) | assumption)
    have q164 : x3_1 < (l0.length : Int) := of_decide_eq_true (by first | (with_reducible assumption) | assumption)
    obtain ⟨ad164, A164_0, c164_0, A164_1, c164_1, e164, hx164_0, hx164_1, hx164_2, hx164_3, hl164_0, hi164_0, hl164_1, hi164_1⟩ := at_T34 HR0.out x3_1 p164 q164
    obtain rfl : ad161 = ad164 := (by injection e164)
    have HR164_0 := Aside0.mk hi164_0
    have HC164_0 := Aside0.mk hl164_0
    clear hi164_0 hl164_0
    have HR164_1 := Aside0.mk hi164_1
    have HC164_1 := Aside0.mk hl164_1
    clear hi164_1 hl164_1
    replace p164 := eq_true p164
    replace q164 := eq_true q164
    have ea_ := Option.some.inj (hx161_0.symm.trans hx164_0)
    injection ea_ with ea_ en_ ec_
    subst ea_
    subst ec_
    clear en_
    have ea_ := Option.some.inj (hx161_1.symm.trans hx164_1)
    injection ea_ with ea_ en_ ec_
    subst ea_
    subst ec_
    clear en_
    have p165 : 0 ≤ (x4_3 : Int) := of_decide_eq_true (by first | (with_reducible assumption) | assumption)
    have q165 : x4_3 < (((rd_T34 l0 x3_1).f1).length : Int) := of_decide_eq_true (by first | (with_reducible assumption) | assumption)
    obtain ⟨ad165, e165, hx165_0, hx165_1, hx165_2, hx165_3, hx165_4⟩ := at_T46 HR164_1.out x4_3 p165 q165
    cases e165
    replace p165 := eq_true p165
    replace q165 := eq_true q165
    go_wp2
    go_ret
    exact ⟨by first | rfl | (simp; done) | (simp [*]; done), by repeat (first | exact Drawn0.refl _ | apply Drawn0.step)⟩
  rw [if_neg c12] at H
  have c12b0 : decide (20 < (((rd_T46 ((rd_T34 l0 x3_1).f1) x4_3).f3).size : Int)) = false := decide_eq_false c12
  have c12b1 : decide (20 < ((rd_T46 ((rd_T34 l0 x3_1).f1) x4_3).f3).size) = false := decide_eq_false (by omega)
  clear c12
  have H' := Aside0.mk H
  clear H
  have p161 : 0 ≤ (x3_1 : Int) := of_decide_eq_true (by first | (with_reducible assumption) | assumption)
  have q161 : x3_1 < (l0.length : Int) := of_decide_eq_true (by first | (with_reducible assumption) | assumption)
  obtain ⟨ad161, A161_0, c161_0, A161_1, c161_1, e161, hx161_0, hx161_1, hx161_2, hx161_3, hl161_0, hi161_0, hl161_1, hi161_1⟩ := at_T34 HR0.out x3_1 p161 q161
  cases e161
  have HR161_0 := Aside0.mk hi161_0
  have HC161_0 := Aside0.mk hl161_0
  clear hi161_0 hl161_0
  have HR161_1 := Aside0.mk hi161_1
  have HC161_1 := Aside0.mk hl161_1
  clear hi161_1 hl161_1
  replace p161 := eq_true p161
  replace q161 := eq_true q161
  have p162 : 0 ≤ (x3_1 : Int) := of_decide_eq_true (by first | (with_reducible assumption) | assumption)
  have q162 : x3_1 < (l0.length : Int) := of_decide_eq_true (by first | (with_reducible assumption) | assumption)
  obtain ⟨ad162, A162_0, c162_0, A162_1, c162_1, e162, hx162_0, hx162_1, hx162_2, hx162_3, hl162_0, hi162_0, hl162_1, hi162_1⟩ := at_T34 HR0.out x3_1 p162 q162
  obtain rfl : ad161 = ad162 := (by injection e162)
  have HR162_0 := Aside0.mk hi162_0
  have HC162_0 := Aside0.mk hl162_0
  clear hi162_0 hl162_0
  have HR162_1 := Aside0.mk hi162_1
  have HC162_1 := Aside0.mk hl162_1
  clear hi162_1 hl162_1
  replace p162 := eq_true p162
  replace q162 := eq_true q162
  have ea_ := Option.some.inj (hx161_0.symm.trans hx162_0)
  injection ea_ with ea_ en_ ec_
  subst ea_
  subst ec_
  clear en_
  have ea_ := Option.some.inj (hx161_1.symm.trans hx162_1)
  injection ea_ with ea_ en_ ec_
  subst ea_
  subst ec_
  clear en_
  have p163 : 0 ≤ (x4_3 : Int) := of_decide_eq_true (by first | (with_reducible assumption) | assumption)
  have q163 : x4_3 < (((rd_T34 l0 x3_1).f1).length : Int) := of_decide_eq_true (by first | (with_reducible assumption) | assumption)
  obtain ⟨ad163, e163, hx163_0, hx163_1, hx163_2, hx163_3, hx163_4⟩ := at_T46 HR162_1.out x4_3 p163 q163
  cases e163
  replace p163 := eq_true p163
  replace q163 := eq_true q163
  have p164 : 0 ≤ (x3_1 : Int) := of_decide_eq_true (by first | (with_reducible assumption) | assumption)
  have q164 : x3_1 < (l0.length : Int) := of_decide_eq_true (by first | (with_reducible assumption) | assumption)
  obtain ⟨ad164, A164_0, c164_0, A164_1, c164_1, e164, hx164_0, hx164_1, hx164_2, hx164_3, hl164_0, hi164_0, hl164_1, hi164_1⟩ := at_T34 HR0.out x3_1 p164 q164
  obtain rfl : ad161 = ad164 := (by injection e164)
  have HR164_0 := Aside0.mk hi164_0
  have HC164_0 := Aside0.mk hl164_0
  clear hi164_0 hl164_0
  have HR164_1 := Aside0.mk hi164_1
  have HC164_1 := Aside0.mk hl164_1
  clear hi164_1 hl164_1
  replace p164 := eq_true p164
  replace q164 := eq_true q164
  have ea_ := Option.some.inj (hx161_0.symm.trans hx164_0)
  injection ea_ with ea_ en_ ec_
  subst ea_
  subst ec_
  clear en_
  have ea_ := Option.some.inj (hx161_1.symm.trans hx164_1)
  injection ea_ with ea_ en_ ec_
  subst ea_
  subst ec_
  clear en_
  have p165 : 0 ≤ (x4_3 : Int) := of_decide_eq_true (by first | (with_reducible assumption) | assumption)
  have q165 : x4_3 < (((rd_T34 l0 x3_1).f1).length : Int) := of_decide_eq_true (by first | (with_reducible assumption) | assumption)
  obtain ⟨ad165, e165, hx165_0, hx165_1, hx165_2, hx165_3, hx165_4⟩ := at_T46 HR164_1.out x4_3 p165 q165
  cases e165
  replace p165 := eq_true p165
  replace q165 := eq_true q165
  go_wp2
  go_roundg k3
  case measure => have := HK1.out; have := HJ2.out; have := HK3.out; omega
  case rel => exact ⟨(wrap64 (x4_3 + 1)), (by first | rfl | (simp; done) | (simp [*]; done)), H', ⟨by have := HK1.out; have := HJ2.out; have := HK3.out; omega⟩, by repeat (first | exact Drawn0.refl _ | apply Drawn0.step)⟩

/-- A state of type 53 at block g of W; what its slices lead to came in by w0. -/
def IsS53 (w0 W : World) (g : Nat) (f0 : List (S46)) (f1 : Int) (f2 : Int) (f3 : Int) : Prop := ∃ A0 c0, W.heap[g]? = some (.cells #[.slice A0 f0.length c0, .int .i64 f1, .int .i64 f2, .int .i64 f3] 53 (0, 0)) ∧ w0.heap.size ≤ g ∧ Kd.C k46 w0 A0 f0.length f0
theorem IsS53.grown {w0 W : World} {g : Nat} {f0 : List (S46)} {f1 : Int} {f2 : Int} {f3 : Int} {W1 : World} {row : Option Nat} (h : IsS53 w0 W g f0 f1 f2 f3) (hw : W.grownBy W1 row) (hne : some g ≠ row) : IsS53 w0 W1 g f0 f1 f2 f3 := by
  obtain ⟨A0, c0, hb, hg, hr0⟩ := h
  exact ⟨A0, c0, blk_grown hb hw hne, hg, hr0⟩
theorem IsS53.own_neN {w0 W : World} {g : Nat} {f0 : List (S46)} {f1 : Int} {f2 : Int} {f3 : Int} {α : Type} {d : Kd α} {e : Nat} {base : Nat} {ok : Nat → Prop} {v : Value} {xs : List α} (h : IsS53 w0 W g f0 f1 f2 f3) (ho : Kd.N d e W base ok v xs) (ht : e ≠ 53) : some g ≠ v.ownBlock := by
  obtain ⟨A0, c0, hb, hg, hr0⟩ := h
  exact Kd.N_ne ho hb ht
theorem IsS53.fresh {w0 W : World} {g : Nat} {f0 : List (S46)} {f1 : Int} {f2 : Int} {f3 : Int} (h : IsS53 w0 W g f0 f1 f2 f3) : ∀ k, W.heap.size ≤ k → k ≠ g := by
  obtain ⟨A0, c0, hb, hg, hr0⟩ := h
  exact Kd.freshB hb
theorem IsS53.kept {w0 W : World} {g : Nat} {f0 : List (S46)} {f1 : Int} {f2 : Int} {f3 : Int} {W1 : World} {S : Nat → Prop} (h : IsS53 w0 W g f0 f1 f2 f3) (hk : Kept W W1 S) (hne : ¬ S g) : IsS53 w0 W1 g f0 f1 f2 f3 := by
  obtain ⟨A0, c0, hb, hg, hr0⟩ := h
  exact ⟨A0, c0, blk_kept hb hk hne, hg, hr0⟩
theorem IsS53.below {w0 W : World} {g : Nat} {f0 : List (S46)} {f1 : Int} {f2 : Int} {f3 : Int} {W1 : World} (h : IsS53 w0 W g f0 f1 f2 f3) (hw : Below W.heap.size W W1) : IsS53 w0 W1 g f0 f1 f2 f3 := h.grown (grown_of_below hw none) (by simp)
theorem IsS53.alloc {w0 W : World} {g : Nat} {f0 : List (S46)} {f1 : Int} {f2 : Int} {f3 : Int} (h : IsS53 w0 W g f0 f1 f2 f3) (o : Obj) : IsS53 w0 (W.alloc o) g f0 f1 f2 f3 := h.below (below_alloc (Below.refl _ _) o)
theorem IsS53.drewN {w0 W : World} {g : Nat} {f0 : List (S46)} {f1 : Int} {f2 : Int} {f3 : Int} (h : IsS53 w0 W g f0 f1 f2 f3) (m : Nat) : IsS53 w0 (W.drewN m) g f0 f1 f2 f3 := h
theorem IsS53.drew {w0 W : World} {g : Nat} {f0 : List (S46)} {f1 : Int} {f2 : Int} {f3 : Int} (h : IsS53 w0 W g f0 f1 f2 f3) : IsS53 w0 W.drew g f0 f1 f2 f3 := h
theorem IsS53.at_ {w0 W : World} {g : Nat} {f0 : List (S46)} {f1 : Int} {f2 : Int} {f3 : Int} {w' : World} {m : Nat} (hq : W.drewN m = w') (h : IsS53 w0 W g f0 f1 f2 f3) : IsS53 w0 w' g f0 f1 f2 f3 := by subst hq; exact IsS53.drewN h m
theorem IsS53.apart {w0 W : World} {g : Nat} {f0 : List (S46)} {f1 : Int} {f2 : Int} {f3 : Int} {α : Type} {d : Kd α} {e : Nat} {base : Nat} {ok : Nat → Prop} {v : Value} {xs : List α} (h : IsS53 w0 W g f0 f1 f2 f3) (ho : d.R e W base ok v xs) (ht : ∀ q, q ∈ e :: d.E → q ≠ 53) : d.R e W base (fun k => ok k ∧ k ≠ g) v xs := by
  obtain ⟨A0, c0, hb, hg, hr0⟩ := h
  exact Kd.R_types ho hb ht
theorem IsS53.own_ne {w0 W : World} {g : Nat} {f0 : List (S46)} {f1 : Int} {f2 : Int} {f3 : Int} {α : Type} {d : Kd α} {e : Nat} {base : Nat} {ok : Nat → Prop} {v : Value} {xs : List α} (h : IsS53 w0 W g f0 f1 f2 f3) (ho : d.R e W base ok v xs) (ht : e ≠ 53) : some g ≠ v.ownBlock := by
  obtain ⟨A0, c0, hb, hg, hr0⟩ := h
  exact Kd.R_ne ho hb ht
theorem IsS53.apartQ {w0 W : World} {g : Nat} {f0 : List (S46)} {f1 : Int} {f2 : Int} {f3 : Int} {α : Type} {d : Kd α} {e : Nat} {base : Nat} {ok : Nat → Prop} {v : Value} {xs : List α} (h : IsS53 w0 W g f0 f1 f2 f3) (ho : d.Q e W base ok v xs) (ht : ∀ q, q ∈ e :: d.E → q ≠ 53) : d.Q e W base (fun k => ok k ∧ k ≠ g) v xs := by
  obtain ⟨A0, c0, hb, hg, hr0⟩ := h
  exact Kd.Q_types ho hb ht
theorem IsS53.own_neQ {w0 W : World} {g : Nat} {f0 : List (S46)} {f1 : Int} {f2 : Int} {f3 : Int} {α : Type} {d : Kd α} {e : Nat} {base : Nat} {ok : Nat → Prop} {v : Value} {xs : List α} (h : IsS53 w0 W g f0 f1 f2 f3) (ho : d.Q e W base ok v xs) (ht : e ≠ 53) : some g ≠ v.ownBlock := by
  obtain ⟨A0, c0, hb, hg, hr0⟩ := h
  exact Kd.Q_ne ho hb ht
theorem IsS53.apartS {w0 W : World} {g : Nat} {f0 : List (S46)} {f1 : Int} {f2 : Int} {f3 : Int} {α : Type} {d : Kd α} {e : Nat} {base : Nat} {ok : Nat → Prop} {v : Value} {xs : List α} (h : IsS53 w0 W g f0 f1 f2 f3) (ho : d.S e W base ok v xs) (ht : ∀ q, q ∈ e :: d.E → q ≠ 53) : d.S e W base (fun k => ok k ∧ k ≠ g) v xs := by
  obtain ⟨A0, c0, hb, hg, hr0⟩ := h
  exact Kd.S_types ho hb ht
theorem IsS53.own_neS {w0 W : World} {g : Nat} {f0 : List (S46)} {f1 : Int} {f2 : Int} {f3 : Int} {α : Type} {d : Kd α} {e : Nat} {base : Nat} {ok : Nat → Prop} {v : Value} {xs : List α} (h : IsS53 w0 W g f0 f1 f2 f3) (ho : d.S e W base ok v xs) (ht : e ≠ 53) : some g ≠ v.ownBlock := by
  obtain ⟨A0, c0, hb, hg, hr0⟩ := h
  exact Kd.S_ne ho hb ht
theorem IsS53.lt {w0 W : World} {g : Nat} {f0 : List (S46)} {f1 : Int} {f2 : Int} {f3 : Int} (h : IsS53 w0 W g f0 f1 f2 f3) : g < W.heap.size := by
  obtain ⟨A0, c0, hb, hg, hr0⟩ := h
  exact blk_lt hb
theorem IsS53.ge {w0 W : World} {g : Nat} {f0 : List (S46)} {f1 : Int} {f2 : Int} {f3 : Int} (h : IsS53 w0 W g f0 f1 f2 f3) : w0.heap.size ≤ g := by
  obtain ⟨A0, c0, hb, hg, hr0⟩ := h
  exact hg
theorem IsS53.ne_blk {w0 W : World} {g : Nat} {f0 : List (S46)} {f1 : Int} {f2 : Int} {f3 : Int} {a : Nat} {cs : Array Value} {t : TypeId} {fr : Nat × Nat} (h : IsS53 w0 W g f0 f1 f2 f3) (hb2 : W.heap[a]? = some (.cells cs t fr)) (ht : t ≠ 53) : g ≠ a := by
  obtain ⟨A0, c0, hb, hg, hr0⟩ := h
  rintro rfl
  rw [hb] at hb2
  injection hb2 with hb2
  injection hb2 with _ ht2
  exact ht ht2.symm
theorem IsS53.far {w0 W : World} {g : Nat} {f0 : List (S46)} {f1 : Int} {f2 : Int} {f3 : Int} {p : Addr} (h : IsS53 w0 W g f0 f1 f2 f3) (hne : g ≠ p.block) (u : Value) : IsS53 w0 (W.setCell p u) g f0 f1 f2 f3 := by
  obtain ⟨A0, c0, hb, hg, hr0⟩ := h
  exact ⟨A0, c0, blk_far hb hne u, hg, hr0⟩
theorem cellS53_0 {W : World} {g : Nat} {A0 : Option Addr} {c0 : Nat} {f0 : List (S46)} {f1 : Int} {f2 : Int} {f3 : Int} (h : W.heap[g]? = some (.cells #[.slice A0 f0.length c0, .int .i64 f1, .int .i64 f2, .int .i64 f3] 53 (0, 0))) : W.cell? ⟨g, 0, none⟩ = some (.slice A0 f0.length c0) := (blk_cell h 0).trans rfl
theorem cellS53_1 {W : World} {g : Nat} {A0 : Option Addr} {c0 : Nat} {f0 : List (S46)} {f1 : Int} {f2 : Int} {f3 : Int} (h : W.heap[g]? = some (.cells #[.slice A0 f0.length c0, .int .i64 f1, .int .i64 f2, .int .i64 f3] 53 (0, 0))) : W.cell? ⟨g, 1, none⟩ = some (.int .i64 f1) := (blk_cell h 1).trans rfl
theorem IsS53.set_1 {w0 W : World} {g : Nat} {f0 : List (S46)} {f1 : Int} {f2 : Int} {f3 : Int} (h : IsS53 w0 W g f0 f1 f2 f3) (x : Int) : IsS53 w0 (W.setCell ⟨g, 1, none⟩ (.int .i64 x)) g f0 x f2 f3 := by
  obtain ⟨A0, c0, hb, hg, hr0⟩ := h
  exact ⟨A0, c0, by simpa using blk_set hb 1 (.int .i64 x), hg, hr0⟩
theorem cellS53_2 {W : World} {g : Nat} {A0 : Option Addr} {c0 : Nat} {f0 : List (S46)} {f1 : Int} {f2 : Int} {f3 : Int} (h : W.heap[g]? = some (.cells #[.slice A0 f0.length c0, .int .i64 f1, .int .i64 f2, .int .i64 f3] 53 (0, 0))) : W.cell? ⟨g, 2, none⟩ = some (.int .i64 f2) := (blk_cell h 2).trans rfl
theorem IsS53.set_2 {w0 W : World} {g : Nat} {f0 : List (S46)} {f1 : Int} {f2 : Int} {f3 : Int} (h : IsS53 w0 W g f0 f1 f2 f3) (x : Int) : IsS53 w0 (W.setCell ⟨g, 2, none⟩ (.int .i64 x)) g f0 f1 x f3 := by
  obtain ⟨A0, c0, hb, hg, hr0⟩ := h
  exact ⟨A0, c0, by simpa using blk_set hb 2 (.int .i64 x), hg, hr0⟩
theorem cellS53_3 {W : World} {g : Nat} {A0 : Option Addr} {c0 : Nat} {f0 : List (S46)} {f1 : Int} {f2 : Int} {f3 : Int} (h : W.heap[g]? = some (.cells #[.slice A0 f0.length c0, .int .i64 f1, .int .i64 f2, .int .i64 f3] 53 (0, 0))) : W.cell? ⟨g, 3, none⟩ = some (.int .i64 f3) := (blk_cell h 3).trans rfl
theorem IsS53.set_3 {w0 W : World} {g : Nat} {f0 : List (S46)} {f1 : Int} {f2 : Int} {f3 : Int} (h : IsS53 w0 W g f0 f1 f2 f3) (x : Int) : IsS53 w0 (W.setCell ⟨g, 3, none⟩ (.int .i64 x)) g f0 f1 f2 x := by
  obtain ⟨A0, c0, hb, hg, hr0⟩ := h
  exact ⟨A0, c0, by simpa using blk_set hb 3 (.int .i64 x), hg, hr0⟩
theorem IsS53.new (w0 W : World) (A0 : Option Addr) (c0 : Nat) (f0 : List (S46)) (f1 : Int) (f2 : Int) (f3 : Int) (hB : Below w0.heap.size w0 W) (hr0 : Kd.C k46 w0 A0 f0.length f0) : IsS53 w0 (W.alloc (.cells #[.slice A0 f0.length c0, .int .i64 f1, .int .i64 f2, .int .i64 f3] 53)) W.heap.size f0 f1 f2 f3 := ⟨A0, c0, by simpa using heap_alloc_new W _, hB.size, hr0⟩

/-! ### ravelinref9_New: function 9 -/
def ravelinref9_New.f  : Option ((List (S46)) × Int × Int × Int) := some (([] : List (S46)), 1, 0, 1)
set_option maxHeartbeats 8000000 in
set_option maxRecDepth 100000 in
theorem ravelinref9_New.calls  (r1 : List (S46)) (r2 : Int) (r3 : Int) (r4 : Int) (w0 w : World) (hB : Below w0.heap.size w0 w) (h : ravelinref9_New.f  = some (r1, r2, r3, r4)) :
    Calls Try.prog 9 #[] w fun e w' => ∃ g_ : Nat, e = .returned (.pointer (some ⟨g_, 0, none⟩)) ∧ IsS53 w0 w' g_ r1 r2 r3 r4 ∧ Below w0.heap.size w0 w' ∧ Below w.heap.size w w' := by
  have hu53 := Try.underlying53
  have HBW := Aside0.mk (Below.refl w.heap.size w)
  have HW0 := Aside0.mk hB.size
  have HB := Aside0.mk hB
  clear hB
  have H : (some (([] : List (S46)), 1, 0, 1)) = some (r1, r2, r3, r4) := h
  clear h
  simp only [Option.some.injEq, Prod.mk.injEq] at H
  obtain ⟨rfl, rfl, rfl, rfl⟩ := H
  go_enter Try.func9, Try.ntmps9
  go_wp2_with (first | ((with_reducible refine gate_dst (N := 2) rfl ?_); refine box_event ?hg (N := 2) ?hd (cs := #[.slice none 0 0, .int .i64 1, .int .i64 0, .int .i64 1]) (t := 53) ?hr ?_; (case hd => rfl); (case hg => rfl); (case hr => first | (go_simp; done) | (go_simp; rfl)); intro gb166 hg w1 hbox hb; have n0_ := Aside0.mk (below_step HBW.out hb); have n1_ := Aside0.mk (below_step (by repeat (first | (with_reducible first | exact HB.out | apply below_alloc | apply pw_below_drewN | apply below_drew1) | exact HB.out)) hb); have n2_ := Aside0.mk (hbox); have n3_ := Aside0.mk ((by rw [hg]; exact (below_size (by repeat (first | (with_reducible first | exact HBW.out | apply below_alloc | apply pw_below_drewN | apply below_drew1) | exact HBW.out))) : w.heap.size ≤ gb166)); have n4_ := Aside0.mk ((Nat.le_trans HW0.out (by rw [hg]; exact (below_size (by repeat (first | (with_reducible first | exact HBW.out | apply below_alloc | apply pw_below_drewN | apply below_drew1) | exact HBW.out))) : w.heap.size ≤ gb166) : w0.heap.size ≤ gb166)); clear HBW; clear HB; have HBW := n0_; have HB := n1_; have BK166 := n2_; have GW166 := n3_; have GE166 := n4_; clear n0_ n1_ n2_ n3_ n4_; clear hb hbox hg))
  go_ret
  exact ⟨_, rfl, (show IsS53 w0 _ gb166 ([] : List (S46)) 1 0 1 from ⟨none, 0, by (with_reducible repeat (first | refine blk_drewN ?_ _ | refine blk_drew ?_ | refine blk_alloc ?_ _)); exact BK166.out, GE166.out, (Kd.C_nil _ _)⟩), by repeat (first | (with_reducible first | exact HB.out | apply below_alloc | apply pw_below_drewN | apply below_drew1 | refine below_set ?_ GE166.out) | exact HB.out), by repeat (first | (with_reducible first | exact HBW.out | apply below_alloc | apply pw_below_drewN | apply below_drew1 | refine below_set ?_ GW166.out) | exact HBW.out)⟩

/-! ### ravelinref9_IsTable: function 43 -/
def ravelinref9_IsTable.f (a0_0 : Int) (a0_1 : Int) (a0_2 : ByteArray) (a0_3 : ByteArray) (a0_4 : Int) : Option (Bool) := if a0_0 ≥ 1 then (if a0_0 ≤ 1000000 then (if a0_1 = 0 then (if (a0_2.size : Int) ≥ 1 then (if (a0_2.size : Int) ≤ 13 then (if (a0_3.size : Int) ≥ 1 then (if (a0_3.size : Int) ≤ 13 then (if ((Op.bytesLess a0_3.toList a0_2.toList) = true) then (some false) else (some (decide (a0_4 ≥ 1)))) else (some false)) else (some false)) else (some false)) else (some false)) else (if a0_1 = 1 then (if (a0_2.size : Int) ≥ 1 then (if (a0_2.size : Int) ≤ 13 then (if (a0_3.size : Int) ≥ 1 then (if (a0_3.size : Int) ≤ 13 then (if ((Op.bytesLess a0_3.toList a0_2.toList) = true) then (some false) else (some (decide (a0_4 ≥ 1)))) else (some false)) else (some false)) else (some false)) else (some false)) else (some false))) else (some false)) else (some false)
set_option maxHeartbeats 8000000 in
set_option maxRecDepth 100000 in
theorem ravelinref9_IsTable.calls (a0_0 : Int) (a0_1 : Int) (a0_2 : ByteArray) (a0_3 : ByteArray) (a0_4 : Int) (r : Bool) (w : World) (h : ravelinref9_IsTable.f a0_0 a0_1 a0_2 a0_3 a0_4 = some r) :
    Calls Try.prog 43 #[.agg #[.int .i64 a0_0, .int .i64 a0_1, .string a0_2, .string a0_3, .int .i64 a0_4]] w fun e w' => e = .returned (.bool r) ∧ Below w.heap.size w w' := by
  have hu46 := Try.underlying46
  have HB := Aside0.mk (Below.refl w.heap.size w)
  have H : (if a0_0 ≥ 1 then (if a0_0 ≤ 1000000 then (if a0_1 = 0 then (if (a0_2.size : Int) ≥ 1 then (if (a0_2.size : Int) ≤ 13 then (if (a0_3.size : Int) ≥ 1 then (if (a0_3.size : Int) ≤ 13 then (if ((Op.bytesLess a0_3.toList a0_2.toList) = true) then (some false) else (some (decide (a0_4 ≥ 1)))) else (some false)) else (some false)) else (some false)) else (some false)) else (if a0_1 = 1 then (if (a0_2.size : Int) ≥ 1 then (if (a0_2.size : Int) ≤ 13 then (if (a0_3.size : Int) ≥ 1 then (if (a0_3.size : Int) ≤ 13 then (if ((Op.bytesLess a0_3.toList a0_2.toList) = true) then (some false) else (some (decide (a0_4 ≥ 1)))) else (some false)) else (some false)) else (some false)) else (some false)) else (some false))) else (some false)) else (some false)) = some r := h
  clear h
  by_cases c2 : a0_0 ≥ 1
  rotate_left
  · rw [if_neg c2] at H
    have c2b0 : decide (1 ≤ a0_0) = false := decide_eq_false c2
    clear c2
    obtain rfl := Option.some.inj H
    go_enter Try.func43, Try.ntmps43
    go_wp2_with (first | ((with_reducible refine gate_dst (N := 1) rfl ?_); (try (refine gate_guard (by rfl) ?_; dsimp only)); refine box_event ?hg (N := 1) ?hd (cs := #[.int .i64 a0_0, .int .i64 a0_1, .string a0_2, .string a0_3, .int .i64 a0_4]) (t := 46) ?hr ?_; (case hd => rfl); (case hg => rfl); (case hr => first | (go_simp; done) | (go_simp; rfl)); intro gb167 hg w44 hbox hb; have n0_ := Aside0.mk (below_step (by repeat (first | (with_reducible first | exact HB.out | apply below_alloc | apply pw_below_drewN | apply below_drew1) | exact HB.out)) hb); have n1_ := Aside0.mk (hbox); have n2_ := Aside0.mk ((by rw [hg]; exact (below_size (by repeat (first | (with_reducible first | exact HB.out | apply below_alloc | apply pw_below_drewN | apply below_drew1) | exact HB.out))) : w.heap.size ≤ gb167)); have n3_ := Aside0.mk ((by rw [hg]; exact (below_size (by repeat (first | (with_reducible first | exact HB.out | apply below_alloc | apply pw_below_drewN | apply below_drew1) | exact HB.out))) : w.heap.size ≤ gb167)); clear HB; have HB := n0_; have BK167 := n1_; have GW167 := n2_; have GE167 := n3_; clear n0_ n1_ n2_ n3_; clear hb hbox hg; have hcz45_0 : w44.cell? ⟨gb167, 0, none⟩ = some (.int .i64 a0_0) := (blk_cell BK167.out 0).trans rfl; have hcz45_1 : w44.cell? ⟨gb167, 1, none⟩ = some (.int .i64 a0_1) := (blk_cell BK167.out 1).trans rfl; have hcz45_2 : w44.cell? ⟨gb167, 2, none⟩ = some (.string a0_2) := (blk_cell BK167.out 2).trans rfl; have hcz45_3 : w44.cell? ⟨gb167, 3, none⟩ = some (.string a0_3) := (blk_cell BK167.out 3).trans rfl; have hcz45_4 : w44.cell? ⟨gb167, 4, none⟩ = some (.int .i64 a0_4) := (blk_cell BK167.out 4).trans rfl; have hfz45_0 := blk_frozen BK167.out 0; have hfz45_1 := blk_frozen BK167.out 1; have hfz45_2 := blk_frozen BK167.out 2; have hfz45_3 := blk_frozen BK167.out 3; have hfz45_4 := blk_frozen BK167.out 4))
    go_ret
    exact ⟨by first | rfl | (simp [errW_none, errW_some] <;> rfl) | (simp [*, errW_none, errW_some] <;> rfl), by repeat (first | (with_reducible first | exact HB.out | apply below_alloc | apply pw_below_drewN | apply below_drew1 | refine below_set ?_ GE167.out) | exact HB.out)⟩
  rw [if_pos c2] at H
  have c2b0 : decide (1 ≤ a0_0) = true := decide_eq_true c2
  clear c2
  by_cases c3 : a0_0 ≤ 1000000
  rotate_left
  · rw [if_neg c3] at H
    have c3b0 : decide (a0_0 ≤ 1000000) = false := decide_eq_false c3
    clear c3
    obtain rfl := Option.some.inj H
    go_enter Try.func43, Try.ntmps43
    go_wp2_with (first | ((with_reducible refine gate_dst (N := 1) rfl ?_); (try (refine gate_guard (by rfl) ?_; dsimp only)); refine box_event ?hg (N := 1) ?hd (cs := #[.int .i64 a0_0, .int .i64 a0_1, .string a0_2, .string a0_3, .int .i64 a0_4]) (t := 46) ?hr ?_; (case hd => rfl); (case hg => rfl); (case hr => first | (go_simp; done) | (go_simp; rfl)); intro gb167 hg w42 hbox hb; have n0_ := Aside0.mk (below_step (by repeat (first | (with_reducible first | exact HB.out | apply below_alloc | apply pw_below_drewN | apply below_drew1) | exact HB.out)) hb); have n1_ := Aside0.mk (hbox); have n2_ := Aside0.mk ((by rw [hg]; exact (below_size (by repeat (first | (with_reducible first | exact HB.out | apply below_alloc | apply pw_below_drewN | apply below_drew1) | exact HB.out))) : w.heap.size ≤ gb167)); have n3_ := Aside0.mk ((by rw [hg]; exact (below_size (by repeat (first | (with_reducible first | exact HB.out | apply below_alloc | apply pw_below_drewN | apply below_drew1) | exact HB.out))) : w.heap.size ≤ gb167)); clear HB; have HB := n0_; have BK167 := n1_; have GW167 := n2_; have GE167 := n3_; clear n0_ n1_ n2_ n3_; clear hb hbox hg; have hcz43_0 : w42.cell? ⟨gb167, 0, none⟩ = some (.int .i64 a0_0) := (blk_cell BK167.out 0).trans rfl; have hcz43_1 : w42.cell? ⟨gb167, 1, none⟩ = some (.int .i64 a0_1) := (blk_cell BK167.out 1).trans rfl; have hcz43_2 : w42.cell? ⟨gb167, 2, none⟩ = some (.string a0_2) := (blk_cell BK167.out 2).trans rfl; have hcz43_3 : w42.cell? ⟨gb167, 3, none⟩ = some (.string a0_3) := (blk_cell BK167.out 3).trans rfl; have hcz43_4 : w42.cell? ⟨gb167, 4, none⟩ = some (.int .i64 a0_4) := (blk_cell BK167.out 4).trans rfl; have hfz43_0 := blk_frozen BK167.out 0; have hfz43_1 := blk_frozen BK167.out 1; have hfz43_2 := blk_frozen BK167.out 2; have hfz43_3 := blk_frozen BK167.out 3; have hfz43_4 := blk_frozen BK167.out 4))
    go_ret
    exact ⟨by first | rfl | (simp [errW_none, errW_some] <;> rfl) | (simp [*, errW_none, errW_some] <;> rfl), by repeat (first | (with_reducible first | exact HB.out | apply below_alloc | apply pw_below_drewN | apply below_drew1 | refine below_set ?_ GE167.out) | exact HB.out)⟩
  rw [if_pos c3] at H
  have c3b0 : decide (a0_0 ≤ 1000000) = true := decide_eq_true c3
  clear c3
  by_cases c4 : a0_1 = 0
  · rw [if_pos c4] at H
    have c4b0 : (a0_1 == 0) = true := beq_iff_eq.mpr c4
    have c4b1 : (a0_1 != 0) = false := bne_eq_false_iff_eq.mpr c4
    clear c4
    by_cases c5 : (a0_2.size : Int) ≥ 1
    rotate_left
    · rw [if_neg c5] at H
      have c5b0 : decide (1 ≤ (a0_2.size : Int)) = false := decide_eq_false c5
      have c5b1 : decide (1 ≤ a0_2.size) = false := decide_eq_false (by omega)
      clear c5
      obtain rfl := Option.some.inj H
      go_enter Try.func43, Try.ntmps43
      go_wp2_with (first | ((with_reducible refine gate_dst (N := 1) rfl ?_); (try (refine gate_guard (by rfl) ?_; dsimp only)); refine box_event ?hg (N := 1) ?hd (cs := #[.int .i64 a0_0, .int .i64 a0_1, .string a0_2, .string a0_3, .int .i64 a0_4]) (t := 46) ?hr ?_; (case hd => rfl); (case hg => rfl); (case hr => first | (go_simp; done) | (go_simp; rfl)); intro gb167 hg w20 hbox hb; have n0_ := Aside0.mk (below_step (by repeat (first | (with_reducible first | exact HB.out | apply below_alloc | apply pw_below_drewN | apply below_drew1) | exact HB.out)) hb); have n1_ := Aside0.mk (hbox); have n2_ := Aside0.mk ((by rw [hg]; exact (below_size (by repeat (first | (with_reducible first | exact HB.out | apply below_alloc | apply pw_below_drewN | apply below_drew1) | exact HB.out))) : w.heap.size ≤ gb167)); have n3_ := Aside0.mk ((by rw [hg]; exact (below_size (by repeat (first | (with_reducible first | exact HB.out | apply below_alloc | apply pw_below_drewN | apply below_drew1) | exact HB.out))) : w.heap.size ≤ gb167)); clear HB; have HB := n0_; have BK167 := n1_; have GW167 := n2_; have GE167 := n3_; clear n0_ n1_ n2_ n3_; clear hb hbox hg; have hcz21_0 : w20.cell? ⟨gb167, 0, none⟩ = some (.int .i64 a0_0) := (blk_cell BK167.out 0).trans rfl; have hcz21_1 : w20.cell? ⟨gb167, 1, none⟩ = some (.int .i64 a0_1) := (blk_cell BK167.out 1).trans rfl; have hcz21_2 : w20.cell? ⟨gb167, 2, none⟩ = some (.string a0_2) := (blk_cell BK167.out 2).trans rfl; have hcz21_3 : w20.cell? ⟨gb167, 3, none⟩ = some (.string a0_3) := (blk_cell BK167.out 3).trans rfl; have hcz21_4 : w20.cell? ⟨gb167, 4, none⟩ = some (.int .i64 a0_4) := (blk_cell BK167.out 4).trans rfl; have hfz21_0 := blk_frozen BK167.out 0; have hfz21_1 := blk_frozen BK167.out 1; have hfz21_2 := blk_frozen BK167.out 2; have hfz21_3 := blk_frozen BK167.out 3; have hfz21_4 := blk_frozen BK167.out 4))
      go_ret
      exact ⟨by first | rfl | (simp [errW_none, errW_some] <;> rfl) | (simp [*, errW_none, errW_some] <;> rfl), by repeat (first | (with_reducible first | exact HB.out | apply below_alloc | apply pw_below_drewN | apply below_drew1 | refine below_set ?_ GE167.out) | exact HB.out)⟩
    rw [if_pos c5] at H
    have c5b0 : decide (1 ≤ (a0_2.size : Int)) = true := decide_eq_true c5
    have c5b1 : decide (1 ≤ a0_2.size) = true := decide_eq_true (by omega)
    clear c5
    by_cases c6 : (a0_2.size : Int) ≤ 13
    rotate_left
    · rw [if_neg c6] at H
      have c6b0 : decide ((a0_2.size : Int) ≤ 13) = false := decide_eq_false c6
      have c6b1 : decide (a0_2.size ≤ 13) = false := decide_eq_false (by omega)
      clear c6
      obtain rfl := Option.some.inj H
      go_enter Try.func43, Try.ntmps43
      go_wp2_with (first | ((with_reducible refine gate_dst (N := 1) rfl ?_); (try (refine gate_guard (by rfl) ?_; dsimp only)); refine box_event ?hg (N := 1) ?hd (cs := #[.int .i64 a0_0, .int .i64 a0_1, .string a0_2, .string a0_3, .int .i64 a0_4]) (t := 46) ?hr ?_; (case hd => rfl); (case hg => rfl); (case hr => first | (go_simp; done) | (go_simp; rfl)); intro gb167 hg w18 hbox hb; have n0_ := Aside0.mk (below_step (by repeat (first | (with_reducible first | exact HB.out | apply below_alloc | apply pw_below_drewN | apply below_drew1) | exact HB.out)) hb); have n1_ := Aside0.mk (hbox); have n2_ := Aside0.mk ((by rw [hg]; exact (below_size (by repeat (first | (with_reducible first | exact HB.out | apply below_alloc | apply pw_below_drewN | apply below_drew1) | exact HB.out))) : w.heap.size ≤ gb167)); have n3_ := Aside0.mk ((by rw [hg]; exact (below_size (by repeat (first | (with_reducible first | exact HB.out | apply below_alloc | apply pw_below_drewN | apply below_drew1) | exact HB.out))) : w.heap.size ≤ gb167)); clear HB; have HB := n0_; have BK167 := n1_; have GW167 := n2_; have GE167 := n3_; clear n0_ n1_ n2_ n3_; clear hb hbox hg; have hcz19_0 : w18.cell? ⟨gb167, 0, none⟩ = some (.int .i64 a0_0) := (blk_cell BK167.out 0).trans rfl; have hcz19_1 : w18.cell? ⟨gb167, 1, none⟩ = some (.int .i64 a0_1) := (blk_cell BK167.out 1).trans rfl; have hcz19_2 : w18.cell? ⟨gb167, 2, none⟩ = some (.string a0_2) := (blk_cell BK167.out 2).trans rfl; have hcz19_3 : w18.cell? ⟨gb167, 3, none⟩ = some (.string a0_3) := (blk_cell BK167.out 3).trans rfl; have hcz19_4 : w18.cell? ⟨gb167, 4, none⟩ = some (.int .i64 a0_4) := (blk_cell BK167.out 4).trans rfl; have hfz19_0 := blk_frozen BK167.out 0; have hfz19_1 := blk_frozen BK167.out 1; have hfz19_2 := blk_frozen BK167.out 2; have hfz19_3 := blk_frozen BK167.out 3; have hfz19_4 := blk_frozen BK167.out 4))
      go_ret
      exact ⟨by first | rfl | (simp [errW_none, errW_some] <;> rfl) | (simp [*, errW_none, errW_some] <;> rfl), by repeat (first | (with_reducible first | exact HB.out | apply below_alloc | apply pw_below_drewN | apply below_drew1 | refine below_set ?_ GE167.out) | exact HB.out)⟩
    rw [if_pos c6] at H
    have c6b0 : decide ((a0_2.size : Int) ≤ 13) = true := decide_eq_true c6
    have c6b1 : decide (a0_2.size ≤ 13) = true := decide_eq_true (by omega)
    clear c6
    by_cases c7 : (a0_3.size : Int) ≥ 1
    rotate_left
    · rw [if_neg c7] at H
      have c7b0 : decide (1 ≤ (a0_3.size : Int)) = false := decide_eq_false c7
      have c7b1 : decide (1 ≤ a0_3.size) = false := decide_eq_false (by omega)
      clear c7
      obtain rfl := Option.some.inj H
      go_enter Try.func43, Try.ntmps43
      go_wp2_with (first | ((with_reducible refine gate_dst (N := 1) rfl ?_); (try (refine gate_guard (by rfl) ?_; dsimp only)); refine box_event ?hg (N := 1) ?hd (cs := #[.int .i64 a0_0, .int .i64 a0_1, .string a0_2, .string a0_3, .int .i64 a0_4]) (t := 46) ?hr ?_; (case hd => rfl); (case hg => rfl); (case hr => first | (go_simp; done) | (go_simp; rfl)); intro gb167 hg w16 hbox hb; have n0_ := Aside0.mk (below_step (by repeat (first | (with_reducible first | exact HB.out | apply below_alloc | apply pw_below_drewN | apply below_drew1) | exact HB.out)) hb); have n1_ := Aside0.mk (hbox); have n2_ := Aside0.mk ((by rw [hg]; exact (below_size (by repeat (first | (with_reducible first | exact HB.out | apply below_alloc | apply pw_below_drewN | apply below_drew1) | exact HB.out))) : w.heap.size ≤ gb167)); have n3_ := Aside0.mk ((by rw [hg]; exact (below_size (by repeat (first | (with_reducible first | exact HB.out | apply below_alloc | apply pw_below_drewN | apply below_drew1) | exact HB.out))) : w.heap.size ≤ gb167)); clear HB; have HB := n0_; have BK167 := n1_; have GW167 := n2_; have GE167 := n3_; clear n0_ n1_ n2_ n3_; clear hb hbox hg; have hcz17_0 : w16.cell? ⟨gb167, 0, none⟩ = some (.int .i64 a0_0) := (blk_cell BK167.out 0).trans rfl; have hcz17_1 : w16.cell? ⟨gb167, 1, none⟩ = some (.int .i64 a0_1) := (blk_cell BK167.out 1).trans rfl; have hcz17_2 : w16.cell? ⟨gb167, 2, none⟩ = some (.string a0_2) := (blk_cell BK167.out 2).trans rfl; have hcz17_3 : w16.cell? ⟨gb167, 3, none⟩ = some (.string a0_3) := (blk_cell BK167.out 3).trans rfl; have hcz17_4 : w16.cell? ⟨gb167, 4, none⟩ = some (.int .i64 a0_4) := (blk_cell BK167.out 4).trans rfl; have hfz17_0 := blk_frozen BK167.out 0; have hfz17_1 := blk_frozen BK167.out 1; have hfz17_2 := blk_frozen BK167.out 2; have hfz17_3 := blk_frozen BK167.out 3; have hfz17_4 := blk_frozen BK167.out 4))
      go_ret
      exact ⟨by first | rfl | (simp [errW_none, errW_some] <;> rfl) | (simp [*, errW_none, errW_some] <;> rfl), by repeat (first | (with_reducible first | exact HB.out | apply below_alloc | apply pw_below_drewN | apply below_drew1 | refine below_set ?_ GE167.out) | exact HB.out)⟩
    rw [if_pos c7] at H
    have c7b0 : decide (1 ≤ (a0_3.size : Int)) = true := decide_eq_true c7
    have c7b1 : decide (1 ≤ a0_3.size) = true := decide_eq_true (by omega)
    clear c7
    by_cases c8 : (a0_3.size : Int) ≤ 13
    rotate_left
    · rw [if_neg c8] at H
      have c8b0 : decide ((a0_3.size : Int) ≤ 13) = false := decide_eq_false c8
      have c8b1 : decide (a0_3.size ≤ 13) = false := decide_eq_false (by omega)
      clear c8
      obtain rfl := Option.some.inj H
      go_enter Try.func43, Try.ntmps43
      go_wp2_with (first | ((with_reducible refine gate_dst (N := 1) rfl ?_); (try (refine gate_guard (by rfl) ?_; dsimp only)); refine box_event ?hg (N := 1) ?hd (cs := #[.int .i64 a0_0, .int .i64 a0_1, .string a0_2, .string a0_3, .int .i64 a0_4]) (t := 46) ?hr ?_; (case hd => rfl); (case hg => rfl); (case hr => first | (go_simp; done) | (go_simp; rfl)); intro gb167 hg w14 hbox hb; have n0_ := Aside0.mk (below_step (by repeat (first | (with_reducible first | exact HB.out | apply below_alloc | apply pw_below_drewN | apply below_drew1) | exact HB.out)) hb); have n1_ := Aside0.mk (hbox); have n2_ := Aside0.mk ((by rw [hg]; exact (below_size (by repeat (first | (with_reducible first | exact HB.out | apply below_alloc | apply pw_below_drewN | apply below_drew1) | exact HB.out))) : w.heap.size ≤ gb167)); have n3_ := Aside0.mk ((by rw [hg]; exact (below_size (by repeat (first | (with_reducible first | exact HB.out | apply below_alloc | apply pw_below_drewN | apply below_drew1) | exact HB.out))) : w.heap.size ≤ gb167)); clear HB; have HB := n0_; have BK167 := n1_; have GW167 := n2_; have GE167 := n3_; clear n0_ n1_ n2_ n3_; clear hb hbox hg; have hcz15_0 : w14.cell? ⟨gb167, 0, none⟩ = some (.int .i64 a0_0) := (blk_cell BK167.out 0).trans rfl; have hcz15_1 : w14.cell? ⟨gb167, 1, none⟩ = some (.int .i64 a0_1) := (blk_cell BK167.out 1).trans rfl; have hcz15_2 : w14.cell? ⟨gb167, 2, none⟩ = some (.string a0_2) := (blk_cell BK167.out 2).trans rfl; have hcz15_3 : w14.cell? ⟨gb167, 3, none⟩ = some (.string a0_3) := (blk_cell BK167.out 3).trans rfl; have hcz15_4 : w14.cell? ⟨gb167, 4, none⟩ = some (.int .i64 a0_4) := (blk_cell BK167.out 4).trans rfl; have hfz15_0 := blk_frozen BK167.out 0; have hfz15_1 := blk_frozen BK167.out 1; have hfz15_2 := blk_frozen BK167.out 2; have hfz15_3 := blk_frozen BK167.out 3; have hfz15_4 := blk_frozen BK167.out 4))
      go_ret
      exact ⟨by first | rfl | (simp [errW_none, errW_some] <;> rfl) | (simp [*, errW_none, errW_some] <;> rfl), by repeat (first | (with_reducible first | exact HB.out | apply below_alloc | apply pw_below_drewN | apply below_drew1 | refine below_set ?_ GE167.out) | exact HB.out)⟩
    rw [if_pos c8] at H
    have c8b0 : decide ((a0_3.size : Int) ≤ 13) = true := decide_eq_true c8
    have c8b1 : decide (a0_3.size ≤ 13) = true := decide_eq_true (by omega)
    clear c8
    by_cases c9 : ((Op.bytesLess a0_3.toList a0_2.toList) = true)
    · rw [if_pos c9] at H
      have c9b0 : (Op.bytesLess a0_3.toList a0_2.toList) = true := c9
      clear c9
      obtain rfl := Option.some.inj H
      go_enter Try.func43, Try.ntmps43
      go_wp2_with (first | ((with_reducible refine gate_dst (N := 1) rfl ?_); (try (refine gate_guard (by rfl) ?_; dsimp only)); refine box_event ?hg (N := 1) ?hd (cs := #[.int .i64 a0_0, .int .i64 a0_1, .string a0_2, .string a0_3, .int .i64 a0_4]) (t := 46) ?hr ?_; (case hd => rfl); (case hg => rfl); (case hr => first | (go_simp; done) | (go_simp; rfl)); intro gb167 hg w10 hbox hb; have n0_ := Aside0.mk (below_step (by repeat (first | (with_reducible first | exact HB.out | apply below_alloc | apply pw_below_drewN | apply below_drew1) | exact HB.out)) hb); have n1_ := Aside0.mk (hbox); have n2_ := Aside0.mk ((by rw [hg]; exact (below_size (by repeat (first | (with_reducible first | exact HB.out | apply below_alloc | apply pw_below_drewN | apply below_drew1) | exact HB.out))) : w.heap.size ≤ gb167)); have n3_ := Aside0.mk ((by rw [hg]; exact (below_size (by repeat (first | (with_reducible first | exact HB.out | apply below_alloc | apply pw_below_drewN | apply below_drew1) | exact HB.out))) : w.heap.size ≤ gb167)); clear HB; have HB := n0_; have BK167 := n1_; have GW167 := n2_; have GE167 := n3_; clear n0_ n1_ n2_ n3_; clear hb hbox hg; have hcz11_0 : w10.cell? ⟨gb167, 0, none⟩ = some (.int .i64 a0_0) := (blk_cell BK167.out 0).trans rfl; have hcz11_1 : w10.cell? ⟨gb167, 1, none⟩ = some (.int .i64 a0_1) := (blk_cell BK167.out 1).trans rfl; have hcz11_2 : w10.cell? ⟨gb167, 2, none⟩ = some (.string a0_2) := (blk_cell BK167.out 2).trans rfl; have hcz11_3 : w10.cell? ⟨gb167, 3, none⟩ = some (.string a0_3) := (blk_cell BK167.out 3).trans rfl; have hcz11_4 : w10.cell? ⟨gb167, 4, none⟩ = some (.int .i64 a0_4) := (blk_cell BK167.out 4).trans rfl; have hfz11_0 := blk_frozen BK167.out 0; have hfz11_1 := blk_frozen BK167.out 1; have hfz11_2 := blk_frozen BK167.out 2; have hfz11_3 := blk_frozen BK167.out 3; have hfz11_4 := blk_frozen BK167.out 4))
      go_ret
      exact ⟨by first | rfl | (simp [errW_none, errW_some] <;> rfl) | (simp [*, errW_none, errW_some] <;> rfl), by repeat (first | (with_reducible first | exact HB.out | apply below_alloc | apply pw_below_drewN | apply below_drew1 | refine below_set ?_ GE167.out) | exact HB.out)⟩
    rw [if_neg c9] at H
    have c9b0 : (Op.bytesLess a0_3.toList a0_2.toList) = false := by simpa using c9
    clear c9
    obtain rfl := Option.some.inj H
    go_enter Try.func43, Try.ntmps43
    go_wp2_with (first | ((with_reducible refine gate_dst (N := 1) rfl ?_); (try (refine gate_guard (by rfl) ?_; dsimp only)); refine box_event ?hg (N := 1) ?hd (cs := #[.int .i64 a0_0, .int .i64 a0_1, .string a0_2, .string a0_3, .int .i64 a0_4]) (t := 46) ?hr ?_; (case hd => rfl); (case hg => rfl); (case hr => first | (go_simp; done) | (go_simp; rfl)); intro gb167 hg w12 hbox hb; have n0_ := Aside0.mk (below_step (by repeat (first | (with_reducible first | exact HB.out | apply below_alloc | apply pw_below_drewN | apply below_drew1) | exact HB.out)) hb); have n1_ := Aside0.mk (hbox); have n2_ := Aside0.mk ((by rw [hg]; exact (below_size (by repeat (first | (with_reducible first | exact HB.out | apply below_alloc | apply pw_below_drewN | apply below_drew1) | exact HB.out))) : w.heap.size ≤ gb167)); have n3_ := Aside0.mk ((by rw [hg]; exact (below_size (by repeat (first | (with_reducible first | exact HB.out | apply below_alloc | apply pw_below_drewN | apply below_drew1) | exact HB.out))) : w.heap.size ≤ gb167)); clear HB; have HB := n0_; have BK167 := n1_; have GW167 := n2_; have GE167 := n3_; clear n0_ n1_ n2_ n3_; clear hb hbox hg; have hcz13_0 : w12.cell? ⟨gb167, 0, none⟩ = some (.int .i64 a0_0) := (blk_cell BK167.out 0).trans rfl; have hcz13_1 : w12.cell? ⟨gb167, 1, none⟩ = some (.int .i64 a0_1) := (blk_cell BK167.out 1).trans rfl; have hcz13_2 : w12.cell? ⟨gb167, 2, none⟩ = some (.string a0_2) := (blk_cell BK167.out 2).trans rfl; have hcz13_3 : w12.cell? ⟨gb167, 3, none⟩ = some (.string a0_3) := (blk_cell BK167.out 3).trans rfl; have hcz13_4 : w12.cell? ⟨gb167, 4, none⟩ = some (.int .i64 a0_4) := (blk_cell BK167.out 4).trans rfl; have hfz13_0 := blk_frozen BK167.out 0; have hfz13_1 := blk_frozen BK167.out 1; have hfz13_2 := blk_frozen BK167.out 2; have hfz13_3 := blk_frozen BK167.out 3; have hfz13_4 := blk_frozen BK167.out 4))
    go_ret
    exact ⟨by first | rfl | (simp [errW_none, errW_some] <;> rfl) | (simp [*, errW_none, errW_some] <;> rfl), by repeat (first | (with_reducible first | exact HB.out | apply below_alloc | apply pw_below_drewN | apply below_drew1 | refine below_set ?_ GE167.out) | exact HB.out)⟩
  rw [if_neg c4] at H
  have c4b0 : (a0_1 == 0) = false := beq_eq_false_iff_ne.mpr c4
  have c4b1 : (a0_1 != 0) = true := bne_iff_ne.mpr c4
  by_cases c22 : a0_1 = 1
  rotate_left
  · rw [if_neg c22] at H
    have c22b0 : (a0_1 == 1) = false := beq_eq_false_iff_ne.mpr c22
    have c22b1 : (a0_1 != 1) = true := bne_iff_ne.mpr c22
    obtain rfl := Option.some.inj H
    go_enter Try.func43, Try.ntmps43
    go_wp2_with (first | ((with_reducible refine gate_dst (N := 1) rfl ?_); (try (refine gate_guard (by rfl) ?_; dsimp only)); refine box_event ?hg (N := 1) ?hd (cs := #[.int .i64 a0_0, .int .i64 a0_1, .string a0_2, .string a0_3, .int .i64 a0_4]) (t := 46) ?hr ?_; (case hd => rfl); (case hg => rfl); (case hr => first | (go_simp; done) | (go_simp; rfl)); intro gb167 hg w40 hbox hb; have n0_ := Aside0.mk (below_step (by repeat (first | (with_reducible first | exact HB.out | apply below_alloc | apply pw_below_drewN | apply below_drew1) | exact HB.out)) hb); have n1_ := Aside0.mk (hbox); have n2_ := Aside0.mk ((by rw [hg]; exact (below_size (by repeat (first | (with_reducible first | exact HB.out | apply below_alloc | apply pw_below_drewN | apply below_drew1) | exact HB.out))) : w.heap.size ≤ gb167)); have n3_ := Aside0.mk ((by rw [hg]; exact (below_size (by repeat (first | (with_reducible first | exact HB.out | apply below_alloc | apply pw_below_drewN | apply below_drew1) | exact HB.out))) : w.heap.size ≤ gb167)); clear HB; have HB := n0_; have BK167 := n1_; have GW167 := n2_; have GE167 := n3_; clear n0_ n1_ n2_ n3_; clear hb hbox hg; have hcz41_0 : w40.cell? ⟨gb167, 0, none⟩ = some (.int .i64 a0_0) := (blk_cell BK167.out 0).trans rfl; have hcz41_1 : w40.cell? ⟨gb167, 1, none⟩ = some (.int .i64 a0_1) := (blk_cell BK167.out 1).trans rfl; have hcz41_2 : w40.cell? ⟨gb167, 2, none⟩ = some (.string a0_2) := (blk_cell BK167.out 2).trans rfl; have hcz41_3 : w40.cell? ⟨gb167, 3, none⟩ = some (.string a0_3) := (blk_cell BK167.out 3).trans rfl; have hcz41_4 : w40.cell? ⟨gb167, 4, none⟩ = some (.int .i64 a0_4) := (blk_cell BK167.out 4).trans rfl; have hfz41_0 := blk_frozen BK167.out 0; have hfz41_1 := blk_frozen BK167.out 1; have hfz41_2 := blk_frozen BK167.out 2; have hfz41_3 := blk_frozen BK167.out 3; have hfz41_4 := blk_frozen BK167.out 4))
    go_ret
    exact ⟨by first | rfl | (simp [errW_none, errW_some] <;> rfl) | (simp [*, errW_none, errW_some] <;> rfl), by repeat (first | (with_reducible first | exact HB.out | apply below_alloc | apply pw_below_drewN | apply below_drew1 | refine below_set ?_ GE167.out) | exact HB.out)⟩
  rw [if_pos c22] at H
  have c22b0 : (a0_1 == 1) = true := beq_iff_eq.mpr c22
  have c22b1 : (a0_1 != 1) = false := bne_eq_false_iff_eq.mpr c22
  clear c22
  by_cases c23 : (a0_2.size : Int) ≥ 1
  rotate_left
  · rw [if_neg c23] at H
    have c23b0 : decide (1 ≤ (a0_2.size : Int)) = false := decide_eq_false c23
    have c23b1 : decide (1 ≤ a0_2.size) = false := decide_eq_false (by omega)
    clear c23
    obtain rfl := Option.some.inj H
    go_enter Try.func43, Try.ntmps43
    go_wp2_with (first | ((with_reducible refine gate_dst (N := 1) rfl ?_); (try (refine gate_guard (by rfl) ?_; dsimp only)); refine box_event ?hg (N := 1) ?hd (cs := #[.int .i64 a0_0, .int .i64 a0_1, .string a0_2, .string a0_3, .int .i64 a0_4]) (t := 46) ?hr ?_; (case hd => rfl); (case hg => rfl); (case hr => first | (go_simp; done) | (go_simp; rfl)); intro gb167 hg w38 hbox hb; have n0_ := Aside0.mk (below_step (by repeat (first | (with_reducible first | exact HB.out | apply below_alloc | apply pw_below_drewN | apply below_drew1) | exact HB.out)) hb); have n1_ := Aside0.mk (hbox); have n2_ := Aside0.mk ((by rw [hg]; exact (below_size (by repeat (first | (with_reducible first | exact HB.out | apply below_alloc | apply pw_below_drewN | apply below_drew1) | exact HB.out))) : w.heap.size ≤ gb167)); have n3_ := Aside0.mk ((by rw [hg]; exact (below_size (by repeat (first | (with_reducible first | exact HB.out | apply below_alloc | apply pw_below_drewN | apply below_drew1) | exact HB.out))) : w.heap.size ≤ gb167)); clear HB; have HB := n0_; have BK167 := n1_; have GW167 := n2_; have GE167 := n3_; clear n0_ n1_ n2_ n3_; clear hb hbox hg; have hcz39_0 : w38.cell? ⟨gb167, 0, none⟩ = some (.int .i64 a0_0) := (blk_cell BK167.out 0).trans rfl; have hcz39_1 : w38.cell? ⟨gb167, 1, none⟩ = some (.int .i64 a0_1) := (blk_cell BK167.out 1).trans rfl; have hcz39_2 : w38.cell? ⟨gb167, 2, none⟩ = some (.string a0_2) := (blk_cell BK167.out 2).trans rfl; have hcz39_3 : w38.cell? ⟨gb167, 3, none⟩ = some (.string a0_3) := (blk_cell BK167.out 3).trans rfl; have hcz39_4 : w38.cell? ⟨gb167, 4, none⟩ = some (.int .i64 a0_4) := (blk_cell BK167.out 4).trans rfl; have hfz39_0 := blk_frozen BK167.out 0; have hfz39_1 := blk_frozen BK167.out 1; have hfz39_2 := blk_frozen BK167.out 2; have hfz39_3 := blk_frozen BK167.out 3; have hfz39_4 := blk_frozen BK167.out 4))
    go_ret
    exact ⟨by first | rfl | (simp [errW_none, errW_some] <;> rfl) | (simp [*, errW_none, errW_some] <;> rfl), by repeat (first | (with_reducible first | exact HB.out | apply below_alloc | apply pw_below_drewN | apply below_drew1 | refine below_set ?_ GE167.out) | exact HB.out)⟩
  rw [if_pos c23] at H
  have c23b0 : decide (1 ≤ (a0_2.size : Int)) = true := decide_eq_true c23
  have c23b1 : decide (1 ≤ a0_2.size) = true := decide_eq_true (by omega)
  clear c23
  by_cases c24 : (a0_2.size : Int) ≤ 13
  rotate_left
  · rw [if_neg c24] at H
    have c24b0 : decide ((a0_2.size : Int) ≤ 13) = false := decide_eq_false c24
    have c24b1 : decide (a0_2.size ≤ 13) = false := decide_eq_false (by omega)
    clear c24
    obtain rfl := Option.some.inj H
    go_enter Try.func43, Try.ntmps43
    go_wp2_with (first | ((with_reducible refine gate_dst (N := 1) rfl ?_); (try (refine gate_guard (by rfl) ?_; dsimp only)); refine box_event ?hg (N := 1) ?hd (cs := #[.int .i64 a0_0, .int .i64 a0_1, .string a0_2, .string a0_3, .int .i64 a0_4]) (t := 46) ?hr ?_; (case hd => rfl); (case hg => rfl); (case hr => first | (go_simp; done) | (go_simp; rfl)); intro gb167 hg w36 hbox hb; have n0_ := Aside0.mk (below_step (by repeat (first | (with_reducible first | exact HB.out | apply below_alloc | apply pw_below_drewN | apply below_drew1) | exact HB.out)) hb); have n1_ := Aside0.mk (hbox); have n2_ := Aside0.mk ((by rw [hg]; exact (below_size (by repeat (first | (with_reducible first | exact HB.out | apply below_alloc | apply pw_below_drewN | apply below_drew1) | exact HB.out))) : w.heap.size ≤ gb167)); have n3_ := Aside0.mk ((by rw [hg]; exact (below_size (by repeat (first | (with_reducible first | exact HB.out | apply below_alloc | apply pw_below_drewN | apply below_drew1) | exact HB.out))) : w.heap.size ≤ gb167)); clear HB; have HB := n0_; have BK167 := n1_; have GW167 := n2_; have GE167 := n3_; clear n0_ n1_ n2_ n3_; clear hb hbox hg; have hcz37_0 : w36.cell? ⟨gb167, 0, none⟩ = some (.int .i64 a0_0) := (blk_cell BK167.out 0).trans rfl; have hcz37_1 : w36.cell? ⟨gb167, 1, none⟩ = some (.int .i64 a0_1) := (blk_cell BK167.out 1).trans rfl; have hcz37_2 : w36.cell? ⟨gb167, 2, none⟩ = some (.string a0_2) := (blk_cell BK167.out 2).trans rfl; have hcz37_3 : w36.cell? ⟨gb167, 3, none⟩ = some (.string a0_3) := (blk_cell BK167.out 3).trans rfl; have hcz37_4 : w36.cell? ⟨gb167, 4, none⟩ = some (.int .i64 a0_4) := (blk_cell BK167.out 4).trans rfl; have hfz37_0 := blk_frozen BK167.out 0; have hfz37_1 := blk_frozen BK167.out 1; have hfz37_2 := blk_frozen BK167.out 2; have hfz37_3 := blk_frozen BK167.out 3; have hfz37_4 := blk_frozen BK167.out 4))
    go_ret
    exact ⟨by first | rfl | (simp [errW_none, errW_some] <;> rfl) | (simp [*, errW_none, errW_some] <;> rfl), by repeat (first | (with_reducible first | exact HB.out | apply below_alloc | apply pw_below_drewN | apply below_drew1 | refine below_set ?_ GE167.out) | exact HB.out)⟩
  rw [if_pos c24] at H
  have c24b0 : decide ((a0_2.size : Int) ≤ 13) = true := decide_eq_true c24
  have c24b1 : decide (a0_2.size ≤ 13) = true := decide_eq_true (by omega)
  clear c24
  by_cases c25 : (a0_3.size : Int) ≥ 1
  rotate_left
  · rw [if_neg c25] at H
    have c25b0 : decide (1 ≤ (a0_3.size : Int)) = false := decide_eq_false c25
    have c25b1 : decide (1 ≤ a0_3.size) = false := decide_eq_false (by omega)
    clear c25
    obtain rfl := Option.some.inj H
    go_enter Try.func43, Try.ntmps43
    go_wp2_with (first | ((with_reducible refine gate_dst (N := 1) rfl ?_); (try (refine gate_guard (by rfl) ?_; dsimp only)); refine box_event ?hg (N := 1) ?hd (cs := #[.int .i64 a0_0, .int .i64 a0_1, .string a0_2, .string a0_3, .int .i64 a0_4]) (t := 46) ?hr ?_; (case hd => rfl); (case hg => rfl); (case hr => first | (go_simp; done) | (go_simp; rfl)); intro gb167 hg w34 hbox hb; have n0_ := Aside0.mk (below_step (by repeat (first | (with_reducible first | exact HB.out | apply below_alloc | apply pw_below_drewN | apply below_drew1) | exact HB.out)) hb); have n1_ := Aside0.mk (hbox); have n2_ := Aside0.mk ((by rw [hg]; exact (below_size (by repeat (first | (with_reducible first | exact HB.out | apply below_alloc | apply pw_below_drewN | apply below_drew1) | exact HB.out))) : w.heap.size ≤ gb167)); have n3_ := Aside0.mk ((by rw [hg]; exact (below_size (by repeat (first | (with_reducible first | exact HB.out | apply below_alloc | apply pw_below_drewN | apply below_drew1) | exact HB.out))) : w.heap.size ≤ gb167)); clear HB; have HB := n0_; have BK167 := n1_; have GW167 := n2_; have GE167 := n3_; clear n0_ n1_ n2_ n3_; clear hb hbox hg; have hcz35_0 : w34.cell? ⟨gb167, 0, none⟩ = some (.int .i64 a0_0) := (blk_cell BK167.out 0).trans rfl; have hcz35_1 : w34.cell? ⟨gb167, 1, none⟩ = some (.int .i64 a0_1) := (blk_cell BK167.out 1).trans rfl; have hcz35_2 : w34.cell? ⟨gb167, 2, none⟩ = some (.string a0_2) := (blk_cell BK167.out 2).trans rfl; have hcz35_3 : w34.cell? ⟨gb167, 3, none⟩ = some (.string a0_3) := (blk_cell BK167.out 3).trans rfl; have hcz35_4 : w34.cell? ⟨gb167, 4, none⟩ = some (.int .i64 a0_4) := (blk_cell BK167.out 4).trans rfl; have hfz35_0 := blk_frozen BK167.out 0; have hfz35_1 := blk_frozen BK167.out 1; have hfz35_2 := blk_frozen BK167.out 2; have hfz35_3 := blk_frozen BK167.out 3; have hfz35_4 := blk_frozen BK167.out 4))
    go_ret
    exact ⟨by first | rfl | (simp [errW_none, errW_some] <;> rfl) | (simp [*, errW_none, errW_some] <;> rfl), by repeat (first | (with_reducible first | exact HB.out | apply below_alloc | apply pw_below_drewN | apply below_drew1 | refine below_set ?_ GE167.out) | exact HB.out)⟩
  rw [if_pos c25] at H
  have c25b0 : decide (1 ≤ (a0_3.size : Int)) = true := decide_eq_true c25
  have c25b1 : decide (1 ≤ a0_3.size) = true := decide_eq_true (by omega)
  clear c25
  by_cases c26 : (a0_3.size : Int) ≤ 13
  rotate_left
  · rw [if_neg c26] at H
    have c26b0 : decide ((a0_3.size : Int) ≤ 13) = false := decide_eq_false c26
    have c26b1 : decide (a0_3.size ≤ 13) = false := decide_eq_false (by omega)
    clear c26
    obtain rfl := Option.some.inj H
    go_enter Try.func43, Try.ntmps43
    go_wp2_with (first | ((with_reducible refine gate_dst (N := 1) rfl ?_); (try (refine gate_guard (by rfl) ?_; dsimp only)); refine box_event ?hg (N := 1) ?hd (cs := #[.int .i64 a0_0, .int .i64 a0_1, .string a0_2, .string a0_3, .int .i64 a0_4]) (t := 46) ?hr ?_; (case hd => rfl); (case hg => rfl); (case hr => first | (go_simp; done) | (go_simp; rfl)); intro gb167 hg w32 hbox hb; have n0_ := Aside0.mk (below_step (by repeat (first | (with_reducible first | exact HB.out | apply below_alloc | apply pw_below_drewN | apply below_drew1) | exact HB.out)) hb); have n1_ := Aside0.mk (hbox); have n2_ := Aside0.mk ((by rw [hg]; exact (below_size (by repeat (first | (with_reducible first | exact HB.out | apply below_alloc | apply pw_below_drewN | apply below_drew1) | exact HB.out))) : w.heap.size ≤ gb167)); have n3_ := Aside0.mk ((by rw [hg]; exact (below_size (by repeat (first | (with_reducible first | exact HB.out | apply below_alloc | apply pw_below_drewN | apply below_drew1) | exact HB.out))) : w.heap.size ≤ gb167)); clear HB; have HB := n0_; have BK167 := n1_; have GW167 := n2_; have GE167 := n3_; clear n0_ n1_ n2_ n3_; clear hb hbox hg; have hcz33_0 : w32.cell? ⟨gb167, 0, none⟩ = some (.int .i64 a0_0) := (blk_cell BK167.out 0).trans rfl; have hcz33_1 : w32.cell? ⟨gb167, 1, none⟩ = some (.int .i64 a0_1) := (blk_cell BK167.out 1).trans rfl; have hcz33_2 : w32.cell? ⟨gb167, 2, none⟩ = some (.string a0_2) := (blk_cell BK167.out 2).trans rfl; have hcz33_3 : w32.cell? ⟨gb167, 3, none⟩ = some (.string a0_3) := (blk_cell BK167.out 3).trans rfl; have hcz33_4 : w32.cell? ⟨gb167, 4, none⟩ = some (.int .i64 a0_4) := (blk_cell BK167.out 4).trans rfl; have hfz33_0 := blk_frozen BK167.out 0; have hfz33_1 := blk_frozen BK167.out 1; have hfz33_2 := blk_frozen BK167.out 2; have hfz33_3 := blk_frozen BK167.out 3; have hfz33_4 := blk_frozen BK167.out 4))
    go_ret
    exact ⟨by first | rfl | (simp [errW_none, errW_some] <;> rfl) | (simp [*, errW_none, errW_some] <;> rfl), by repeat (first | (with_reducible first | exact HB.out | apply below_alloc | apply pw_below_drewN | apply below_drew1 | refine below_set ?_ GE167.out) | exact HB.out)⟩
  rw [if_pos c26] at H
  have c26b0 : decide ((a0_3.size : Int) ≤ 13) = true := decide_eq_true c26
  have c26b1 : decide (a0_3.size ≤ 13) = true := decide_eq_true (by omega)
  clear c26
  by_cases c27 : ((Op.bytesLess a0_3.toList a0_2.toList) = true)
  · rw [if_pos c27] at H
    have c27b0 : (Op.bytesLess a0_3.toList a0_2.toList) = true := c27
    clear c27
    obtain rfl := Option.some.inj H
    go_enter Try.func43, Try.ntmps43
    go_wp2_with (first | ((with_reducible refine gate_dst (N := 1) rfl ?_); (try (refine gate_guard (by rfl) ?_; dsimp only)); refine box_event ?hg (N := 1) ?hd (cs := #[.int .i64 a0_0, .int .i64 a0_1, .string a0_2, .string a0_3, .int .i64 a0_4]) (t := 46) ?hr ?_; (case hd => rfl); (case hg => rfl); (case hr => first | (go_simp; done) | (go_simp; rfl)); intro gb167 hg w28 hbox hb; have n0_ := Aside0.mk (below_step (by repeat (first | (with_reducible first | exact HB.out | apply below_alloc | apply pw_below_drewN | apply below_drew1) | exact HB.out)) hb); have n1_ := Aside0.mk (hbox); have n2_ := Aside0.mk ((by rw [hg]; exact (below_size (by repeat (first | (with_reducible first | exact HB.out | apply below_alloc | apply pw_below_drewN | apply below_drew1) | exact HB.out))) : w.heap.size ≤ gb167)); have n3_ := Aside0.mk ((by rw [hg]; exact (below_size (by repeat (first | (with_reducible first | exact HB.out | apply below_alloc | apply pw_below_drewN | apply below_drew1) | exact HB.out))) : w.heap.size ≤ gb167)); clear HB; have HB := n0_; have BK167 := n1_; have GW167 := n2_; have GE167 := n3_; clear n0_ n1_ n2_ n3_; clear hb hbox hg; have hcz29_0 : w28.cell? ⟨gb167, 0, none⟩ = some (.int .i64 a0_0) := (blk_cell BK167.out 0).trans rfl; have hcz29_1 : w28.cell? ⟨gb167, 1, none⟩ = some (.int .i64 a0_1) := (blk_cell BK167.out 1).trans rfl; have hcz29_2 : w28.cell? ⟨gb167, 2, none⟩ = some (.string a0_2) := (blk_cell BK167.out 2).trans rfl; have hcz29_3 : w28.cell? ⟨gb167, 3, none⟩ = some (.string a0_3) := (blk_cell BK167.out 3).trans rfl; have hcz29_4 : w28.cell? ⟨gb167, 4, none⟩ = some (.int .i64 a0_4) := (blk_cell BK167.out 4).trans rfl; have hfz29_0 := blk_frozen BK167.out 0; have hfz29_1 := blk_frozen BK167.out 1; have hfz29_2 := blk_frozen BK167.out 2; have hfz29_3 := blk_frozen BK167.out 3; have hfz29_4 := blk_frozen BK167.out 4))
    go_ret
    exact ⟨by first | rfl | (simp [errW_none, errW_some] <;> rfl) | (simp [*, errW_none, errW_some] <;> rfl), by repeat (first | (with_reducible first | exact HB.out | apply below_alloc | apply pw_below_drewN | apply below_drew1 | refine below_set ?_ GE167.out) | exact HB.out)⟩
  rw [if_neg c27] at H
  have c27b0 : (Op.bytesLess a0_3.toList a0_2.toList) = false := by simpa using c27
  clear c27
  obtain rfl := Option.some.inj H
  go_enter Try.func43, Try.ntmps43
  go_wp2_with (first | ((with_reducible refine gate_dst (N := 1) rfl ?_); (try (refine gate_guard (by rfl) ?_; dsimp only)); refine box_event ?hg (N := 1) ?hd (cs := #[.int .i64 a0_0, .int .i64 a0_1, .string a0_2, .string a0_3, .int .i64 a0_4]) (t := 46) ?hr ?_; (case hd => rfl); (case hg => rfl); (case hr => first | (go_simp; done) | (go_simp; rfl)); intro gb167 hg w30 hbox hb; have n0_ := Aside0.mk (below_step (by repeat (first | (with_reducible first | exact HB.out | apply below_alloc | apply pw_below_drewN | apply below_drew1) | exact HB.out)) hb); have n1_ := Aside0.mk (hbox); have n2_ := Aside0.mk ((by rw [hg]; exact (below_size (by repeat (first | (with_reducible first | exact HB.out | apply below_alloc | apply pw_below_drewN | apply below_drew1) | exact HB.out))) : w.heap.size ≤ gb167)); have n3_ := Aside0.mk ((by rw [hg]; exact (below_size (by repeat (first | (with_reducible first | exact HB.out | apply below_alloc | apply pw_below_drewN | apply below_drew1) | exact HB.out))) : w.heap.size ≤ gb167)); clear HB; have HB := n0_; have BK167 := n1_; have GW167 := n2_; have GE167 := n3_; clear n0_ n1_ n2_ n3_; clear hb hbox hg; have hcz31_0 : w30.cell? ⟨gb167, 0, none⟩ = some (.int .i64 a0_0) := (blk_cell BK167.out 0).trans rfl; have hcz31_1 : w30.cell? ⟨gb167, 1, none⟩ = some (.int .i64 a0_1) := (blk_cell BK167.out 1).trans rfl; have hcz31_2 : w30.cell? ⟨gb167, 2, none⟩ = some (.string a0_2) := (blk_cell BK167.out 2).trans rfl; have hcz31_3 : w30.cell? ⟨gb167, 3, none⟩ = some (.string a0_3) := (blk_cell BK167.out 3).trans rfl; have hcz31_4 : w30.cell? ⟨gb167, 4, none⟩ = some (.int .i64 a0_4) := (blk_cell BK167.out 4).trans rfl; have hfz31_0 := blk_frozen BK167.out 0; have hfz31_1 := blk_frozen BK167.out 1; have hfz31_2 := blk_frozen BK167.out 2; have hfz31_3 := blk_frozen BK167.out 3; have hfz31_4 := blk_frozen BK167.out 4))
  go_ret
  exact ⟨by first | rfl | (simp [errW_none, errW_some] <;> rfl) | (simp [*, errW_none, errW_some] <;> rfl), by repeat (first | (with_reducible first | exact HB.out | apply below_alloc | apply pw_below_drewN | apply below_drew1 | refine below_set ?_ GE167.out) | exact HB.out)⟩

end Go.Proofs.Ytfpnllajpnnfdaa.P
