-- Printed by a changed copy of the kit's printer (wip/tools/ext.py); labels and more
import Derived.Test.YtmbedgopceigaaaM0
import Derived.Test.YtmbedgopceigaaaM1
namespace Go.Proofs.Ytmbedgopceigaaa.P
open Go.RowKit Go.Proofs.YtmbedgopceigaaaW.PrintWords Go.Proofs.YtmbedgopceigaaaW.PrintLast Go.Proofs.YtmbedgopceigaaaW.PrintMore
attribute [local go_sem] max2_int min2_int max_two min_two max_three min_three max_four min_four   -- for this text's walks alone
attribute [local go_sem high] string_leq string_geq string_gtr
set_option linter.unusedVariables false
set_option linter.unusedSimpArgs false

/-! ### ravelinlaw13_few: function 9 -/
mutual
def ravelinlaw13_few.l0 : Nat → List (S36) → Int → Option (Bool)
  | 0, _, _ => none
  | k + 1, x0, x3 => if x3 < (x0.length : Int) then (if 0 ≤ x3 then (if (((rd_T36 x0 x3).f0).length : Int) > 60 then (ravelinlaw13_few.j1 k x0 x3 true) else (ravelinlaw13_few.j1 k x0 x3 (decide ((((rd_T36 x0 x3).f1).length : Int) > 60)))) else (none)) else (some (decide ((x0.length : Int) ≤ 20)))
def ravelinlaw13_few.j1 : Nat → List (S36) → Int → Bool → Option (Bool)
  | 0, _, _, _ => none
  | k + 1, x0, x3, x26 => if x26 = true then (some false) else (ravelinlaw13_few.l1 k x0 x3 0)
def ravelinlaw13_few.l1 : Nat → List (S36) → Int → Int → Option (Bool)
  | 0, _, _, _ => none
  | k + 1, x0, x3, x4 => if 0 ≤ x3 then (if x3 < (x0.length : Int) then (if x4 < (((rd_T36 x0 x3).f1).length : Int) then (if 0 ≤ x4 then (if (((rd_T32 ((rd_T36 x0 x3).f1) x4).f2).size : Int) > 20 then (some false) else (if (((rd_T32 ((rd_T36 x0 x3).f1) x4).f3).size : Int) > 20 then (some false) else (ravelinlaw13_few.l1 k x0 x3 (wrap64 (x4 + 1))))) else (none)) else (ravelinlaw13_few.l0 k x0 (wrap64 (x3 + 1)))) else (none)) else (none)
end
def ravelinlaw13_few.f (k : Nat) (l0 : List (S36)) : Option (Bool) := ravelinlaw13_few.l0 k l0 0
theorem ravelinlaw13_few.mono_l : ∀ k, (∀ y0 y1, LeO (ravelinlaw13_few.l0 k y0 y1) (ravelinlaw13_few.l0 (k + 1) y0 y1)) ∧ (∀ y0 y1 y2, LeO (ravelinlaw13_few.j1 k y0 y1 y2) (ravelinlaw13_few.j1 (k + 1) y0 y1 y2)) ∧ (∀ y0 y1 y2, LeO (ravelinlaw13_few.l1 k y0 y1 y2) (ravelinlaw13_few.l1 (k + 1) y0 y1 y2))
  | 0 => ⟨fun _ _ r h => by simp [ravelinlaw13_few.l0] at h, fun _ _ _ r h => by simp [ravelinlaw13_few.j1] at h, fun _ _ _ r h => by simp [ravelinlaw13_few.l1] at h⟩
  | k + 1 => by
    obtain ⟨ih0, ih1, ih2⟩ := ravelinlaw13_few.mono_l k
    refine ⟨?_, ?_, ?_⟩
    all_goals
      intros
      first | unfold ravelinlaw13_few.l0 | unfold ravelinlaw13_few.j1 | unfold ravelinlaw13_few.l1
      repeat' first
      | (with_reducible exact ih0 _ _)
      | (with_reducible exact ih1 _ _ _)
      | (with_reducible exact ih2 _ _ _)
      | (with_reducible exact LeO.refl _)
      | (with_reducible exact LeO.none _)
      | (with_reducible refine LeO.ite ?_ ?_)
      | (with_reducible refine LeO.bind ?_ (fun _ => ?_))
      | exact ih0 _ _
      | exact ih1 _ _ _
      | exact ih2 _ _ _
      | exact LeO.none _
      | refine LeO.ite ?_ ?_
      | refine LeO.bind ?_ (fun _ => ?_)
theorem ravelinlaw13_few.mono : ∀ a0 k, LeO (ravelinlaw13_few.f k a0) (ravelinlaw13_few.f (k + 1) a0) := by
  intro a0 k
  obtain ⟨ih0, ih1, ih2⟩ := ravelinlaw13_few.mono_l k
  unfold ravelinlaw13_few.f
  repeat' first
      | (with_reducible exact ih0 _ _)
      | (with_reducible exact ih1 _ _ _)
      | (with_reducible exact ih2 _ _ _)
      | (with_reducible exact LeO.refl _)
      | (with_reducible exact LeO.none _)
      | (with_reducible refine LeO.ite ?_ ?_)
      | (with_reducible refine LeO.bind ?_ (fun _ => ?_))
      | exact ih0 _ _
      | exact ih1 _ _ _
      | exact ih2 _ _ _
      | exact LeO.none _
      | refine LeO.ite ?_ ?_
      | refine LeO.bind ?_ (fun _ => ?_)
set_option maxHeartbeats 8000000 in
set_option maxRecDepth 100000 in
theorem ravelinlaw13_few.calls (k : Nat) (A0 : Option Addr) (c0 : Nat) (l0 : List (S36)) (r : Bool) (w : World) (hr0 : Kd.C k36 w A0 l0.length l0) (hc0 : l0.length ≤ c0) (h : ravelinlaw13_few.f k l0 = some r) :
    Calls Try.prog 9 #[.slice A0 l0.length c0] w fun e w' => e = .returned (.bool r) ∧ Drawn0 w w' := by
  have HR0 := Aside0.mk hr0
  have HC0 := Aside0.mk hc0
  clear hr0 hc0
  have H : (ravelinlaw13_few.l0 k l0 0) = some r := h
  clear h
  have H' := Aside0.mk H
  clear H
  go_enter Try.func9, Try.ntmps9
  go_wp2
  go_loopg [3] k (fun kq v3 w' => ∃ (x3_1 : Int), v3 = .int .i64 x3_1 ∧ Aside0 (ravelinlaw13_few.l0 kq l0 x3_1 = some r) ∧ Aside0 (kq ≤ k) ∧ Drawn0 w w')
  case atStart => exact ⟨(0), (by first | rfl | (simp; done) | (simp [*]; done)), H', ⟨Nat.le_refl _⟩, by repeat (first | exact Drawn0.refl _ | apply Drawn0.step)⟩
  clear H'
  obtain ⟨x3_1, rfl, HA, HK1, ⟨m1, rfl⟩⟩ := hrel
  cases gk with
  | zero => exact absurd HA.out (by simp [ravelinlaw13_few.l0])
  | succ k1 => ?_
  have H := HA.out
  clear HA
  simp only [ravelinlaw13_few.l0] at H
  by_cases c2 : x3_1 < (l0.length : Int)
  rotate_left
  · rw [if_neg c2] at H
    have c2b0 : decide (x3_1 < (l0.length : Int)) = false := decide_eq_false c2
    clear c2
    obtain rfl := Option.some.inj H
    go_wp2
    go_ret
    exact ⟨by first | rfl | (simp; done) | (simp [*]; done), by repeat (first | exact Drawn0.refl _ | apply Drawn0.step)⟩
  rw [if_pos c2] at H
  have c2b0 : decide (x3_1 < (l0.length : Int)) = true := decide_eq_true c2
  clear c2
  have HC3 := Aside0.mk H
  clear H
  go_upto_region 4 with (fail)
  go_cut [26] (fun v26 wc => ∃ (kq : Nat) (x26_2 : Bool), v26 = .bool x26_2 ∧ Aside0 (ravelinlaw13_few.j1 kq l0 x3_1 x26_2 = some r) ∧ Aside0 (kq ≤ k1) ∧ Drawn0 w wc)
  case first =>
    have H := HC3.out
    clear HC3
    by_cases c4 : 0 ≤ x3_1
    rotate_left
    · rw [if_neg c4] at H
      exact absurd H (by simp)
    rw [if_pos c4] at H
    have c4b0 : decide (0 ≤ x3_1) = true := decide_eq_true c4
    clear c4
    (first | rw [c4b0] | (simp only [i64_w, i32_w]; rw [c4b0]) | skip)
    by_cases c5 : (((rd_T36 l0 x3_1).f0).length : Int) > 60
    · rw [if_pos c5] at H
      have c5b0 : decide (60 < (((rd_T36 l0 x3_1).f0).length : Int)) = true := decide_eq_true c5
      have c5b1 : decide (60 < ((rd_T36 l0 x3_1).f0).length) = true := decide_eq_true (by omega)
      clear c5
      have H' := Aside0.mk H
      clear H
      have p246 : 0 ≤ (x3_1 : Int) := of_decide_eq_true (by first | (with_reducible assumption) | assumption)
      have q246 : x3_1 < (l0.length : Int) := of_decide_eq_true (by first | (with_reducible assumption) | assumption)
      obtain ⟨ad246, A246_0, c246_0, A246_1, c246_1, e246, hx246_0, hx246_1, hx246_2, hx246_3, hl246_0, hi246_0, hl246_1, hi246_1⟩ := at_T36 HR0.out x3_1 p246 q246
      cases e246
      have HR246_0 := Aside0.mk hi246_0
      have HC246_0 := Aside0.mk hl246_0
      clear hi246_0 hl246_0
      have HR246_1 := Aside0.mk hi246_1
      have HC246_1 := Aside0.mk hl246_1
      clear hi246_1 hl246_1
      replace p246 := eq_true p246
      replace q246 := eq_true q246
      go_wp2
      go_meet
      case rel => exact ⟨_, (true), (by first | rfl | (simp; done) | (simp [*]; done)), H', ⟨by have := HK1.out; first | omega | exact Nat.le_refl _⟩, by repeat (first | exact Drawn0.refl _ | apply Drawn0.step)⟩
    rw [if_neg c5] at H
    have c5b0 : decide (60 < (((rd_T36 l0 x3_1).f0).length : Int)) = false := decide_eq_false c5
    have c5b1 : decide (60 < ((rd_T36 l0 x3_1).f0).length) = false := decide_eq_false (by omega)
    clear c5
    have H' := Aside0.mk H
    clear H
    have p246 : 0 ≤ (x3_1 : Int) := of_decide_eq_true (by first | (with_reducible assumption) | assumption)
    have q246 : x3_1 < (l0.length : Int) := of_decide_eq_true (by first | (with_reducible assumption) | assumption)
    obtain ⟨ad246, A246_0, c246_0, A246_1, c246_1, e246, hx246_0, hx246_1, hx246_2, hx246_3, hl246_0, hi246_0, hl246_1, hi246_1⟩ := at_T36 HR0.out x3_1 p246 q246
    cases e246
    have HR246_0 := Aside0.mk hi246_0
    have HC246_0 := Aside0.mk hl246_0
    clear hi246_0 hl246_0
    have HR246_1 := Aside0.mk hi246_1
    have HC246_1 := Aside0.mk hl246_1
    clear hi246_1 hl246_1
    replace p246 := eq_true p246
    replace q246 := eq_true q246
    have p247 : 0 ≤ (x3_1 : Int) := of_decide_eq_true (by first | (with_reducible assumption) | assumption)
    have q247 : x3_1 < (l0.length : Int) := of_decide_eq_true (by first | (with_reducible assumption) | assumption)
    obtain ⟨ad247, A247_0, c247_0, A247_1, c247_1, e247, hx247_0, hx247_1, hx247_2, hx247_3, hl247_0, hi247_0, hl247_1, hi247_1⟩ := at_T36 HR0.out x3_1 p247 q247
    obtain rfl : ad246 = ad247 := (by injection e247)
    have HR247_0 := Aside0.mk hi247_0
    have HC247_0 := Aside0.mk hl247_0
    clear hi247_0 hl247_0
    have HR247_1 := Aside0.mk hi247_1
    have HC247_1 := Aside0.mk hl247_1
    clear hi247_1 hl247_1
    replace p247 := eq_true p247
    replace q247 := eq_true q247
    have ea_ := Option.some.inj (hx246_0.symm.trans hx247_0)
    injection ea_ with ea_ en_ ec_
    subst ea_
    subst ec_
    clear en_
    have ea_ := Option.some.inj (hx246_1.symm.trans hx247_1)
    injection ea_ with ea_ en_ ec_
    subst ea_
    subst ec_
    clear en_
    go_wp2
    go_meet
    case rel => exact ⟨_, (decide ((((rd_T36 l0 x3_1).f1).length : Int) > 60)), (by first | rfl | (simp; done) | (simp [*]; done)), H', ⟨by have := HK1.out; first | omega | exact Nat.le_refl _⟩, by repeat (first | exact Drawn0.refl _ | apply Drawn0.step)⟩
  clear HC3
  try clear c2
  try clear c2b0
  try clear p2
  try clear q2
  try clear hx2
  try clear c4
  try clear c4b0
  try clear c5
  try clear c5b0
  try clear c5b1
  try clear hx246_0
  try clear hx246_1
  try clear hx246_2
  try clear hx246_3
  try clear hx247_0
  try clear hx247_1
  try clear hx247_2
  try clear hx247_3
  try clear p246
  try clear p247
  try clear q246
  try clear q247
  obtain ⟨kq, x26_2, rfl, HA, HJ2, ⟨mc2, rfl⟩⟩ := hcut
  cases kq with
  | zero => exact absurd HA.out (by simp [ravelinlaw13_few.j1])
  | succ kj2 => ?_
  have H := HA.out
  clear HA
  simp only [ravelinlaw13_few.j1] at H
  by_cases c6 : x26_2 = true
  · subst c6
    have H1 : (some false) = some r := by rw [if_pos rfl] at H; exact H
    clear H
    have H := H1
    clear H1
    obtain rfl := Option.some.inj H
    go_wp2
    go_ret
    exact ⟨by first | rfl | (simp; done) | (simp [*]; done), by repeat (first | exact Drawn0.refl _ | apply Drawn0.step)⟩
  replace c6 := Bool.eq_false_iff.mpr c6
  subst c6
  have H1 : (ravelinlaw13_few.l1 kj2 l0 x3_1 0) = some r := by rw [if_neg (show ¬ (false = true) by decide)] at H; exact H
  clear H
  have H := H1
  clear H1
  have H' := Aside0.mk H
  clear H
  go_wp2
  go_loopg [4] kj2 (fun kq v4 w' => ∃ (x4_3 : Int), v4 = .int .i64 x4_3 ∧ Aside0 (ravelinlaw13_few.l1 kq l0 x3_1 x4_3 = some r) ∧ Aside0 (kq ≤ kj2) ∧ Drawn0 w w')
  case atStart => exact ⟨(0), (by first | rfl | (simp; done) | (simp [*]; done)), H', ⟨Nat.le_refl _⟩, by repeat (first | exact Drawn0.refl _ | apply Drawn0.step)⟩
  clear H'
  try clear c2
  try clear c2b0
  try clear p2
  try clear q2
  try clear hx2
  try clear c4
  try clear c4b0
  try clear c5
  try clear c5b0
  try clear c5b1
  try clear c6
  try clear hx246_0
  try clear hx246_1
  try clear hx246_2
  try clear hx246_3
  try clear hx247_0
  try clear hx247_1
  try clear hx247_2
  try clear hx247_3
  try clear p2
  try clear p246
  try clear p247
  try clear q2
  try clear q246
  try clear q247
  obtain ⟨x4_3, rfl, HA, HK3, ⟨m3, rfl⟩⟩ := hrel
  cases gk with
  | zero => exact absurd HA.out (by simp [ravelinlaw13_few.l1])
  | succ k3 => ?_
  have H := HA.out
  clear HA
  simp only [ravelinlaw13_few.l1] at H
  by_cases c7 : 0 ≤ x3_1
  rotate_left
  · rw [if_neg c7] at H
    exact absurd H (by simp)
  rw [if_pos c7] at H
  have c7b0 : decide (0 ≤ x3_1) = true := decide_eq_true c7
  clear c7
  by_cases c8 : x3_1 < (l0.length : Int)
  rotate_left
  · rw [if_neg c8] at H
    exact absurd H (by simp)
  rw [if_pos c8] at H
  have c8b0 : decide (x3_1 < (l0.length : Int)) = true := decide_eq_true c8
  clear c8
  by_cases c9 : x4_3 < (((rd_T36 l0 x3_1).f1).length : Int)
  rotate_left
  · rw [if_neg c9] at H
    have c9b0 : decide (x4_3 < (((rd_T36 l0 x3_1).f1).length : Int)) = false := decide_eq_false c9
    clear c9
    have H' := Aside0.mk H
    clear H
    have p248 : 0 ≤ (x3_1 : Int) := of_decide_eq_true (by first | (with_reducible assumption) | assumption)
    have q248 : x3_1 < (l0.length : Int) := of_decide_eq_true (by first | (with_reducible assumption) | assumption)
    obtain ⟨ad248, A248_0, c248_0, A248_1, c248_1, e248, hx248_0, hx248_1, hx248_2, hx248_3, hl248_0, hi248_0, hl248_1, hi248_1⟩ := at_T36 HR0.out x3_1 p248 q248
    cases e248
    have HR248_0 := Aside0.mk hi248_0
    have HC248_0 := Aside0.mk hl248_0
    clear hi248_0 hl248_0
    have HR248_1 := Aside0.mk hi248_1
    have HC248_1 := Aside0.mk hl248_1
    clear hi248_1 hl248_1
    replace p248 := eq_true p248
    replace q248 := eq_true q248
    go_wp2
    go_roundg k3
    case measure => have := HK1.out; have := HJ2.out; have := HK3.out; omega
    case rel => exact ⟨(wrap64 (x3_1 + 1)), (by first | rfl | (simp; done) | (simp [*]; done)), H', ⟨by have := HK1.out; have := HJ2.out; have := HK3.out; omega⟩, by repeat (first | exact Drawn0.refl _ | apply Drawn0.step)⟩
  rw [if_pos c9] at H
  have c9b0 : decide (x4_3 < (((rd_T36 l0 x3_1).f1).length : Int)) = true := decide_eq_true c9
  clear c9
  by_cases c10 : 0 ≤ x4_3
  rotate_left
  · rw [if_neg c10] at H
    exact absurd H (by simp)
  rw [if_pos c10] at H
  have c10b0 : decide (0 ≤ x4_3) = true := decide_eq_true c10
  clear c10
  by_cases c11 : (((rd_T32 ((rd_T36 l0 x3_1).f1) x4_3).f2).size : Int) > 20
  · rw [if_pos c11] at H
    have c11b0 : decide (20 < (((rd_T32 ((rd_T36 l0 x3_1).f1) x4_3).f2).size : Int)) = true := decide_eq_true c11
    have c11b1 : decide (20 < ((rd_T32 ((rd_T36 l0 x3_1).f1) x4_3).f2).size) = true := decide_eq_true (by omega)
    clear c11
    obtain rfl := Option.some.inj H
    have p248 : 0 ≤ (x3_1 : Int) := of_decide_eq_true (by first | (with_reducible assumption) | assumption)
    have q248 : x3_1 < (l0.length : Int) := of_decide_eq_true (by first | (with_reducible assumption) | assumption)
    obtain ⟨ad248, A248_0, c248_0, A248_1, c248_1, e248, hx248_0, hx248_1, hx248_2, hx248_3, hl248_0, hi248_0, hl248_1, hi248_1⟩ := at_T36 HR0.out x3_1 p248 q248
    cases e248
    have HR248_0 := Aside0.mk hi248_0
    have HC248_0 := Aside0.mk hl248_0
    clear hi248_0 hl248_0
    have HR248_1 := Aside0.mk hi248_1
    have HC248_1 := Aside0.mk hl248_1
    clear hi248_1 hl248_1
    replace p248 := eq_true p248
    replace q248 := eq_true q248
    have p249 : 0 ≤ (x3_1 : Int) := of_decide_eq_true (by first | (with_reducible assumption) | assumption)
    have q249 : x3_1 < (l0.length : Int) := of_decide_eq_true (by first | (with_reducible assumption) | assumption)
    obtain ⟨ad249, A249_0, c249_0, A249_1, c249_1, e249, hx249_0, hx249_1, hx249_2, hx249_3, hl249_0, hi249_0, hl249_1, hi249_1⟩ := at_T36 HR0.out x3_1 p249 q249
    obtain rfl : ad248 = ad249 := (by injection e249)
    have HR249_0 := Aside0.mk hi249_0
    have HC249_0 := Aside0.mk hl249_0
    clear hi249_0 hl249_0
    have HR249_1 := Aside0.mk hi249_1
    have HC249_1 := Aside0.mk hl249_1
    clear hi249_1 hl249_1
    replace p249 := eq_true p249
    replace q249 := eq_true q249
    have ea_ := Option.some.inj (hx248_0.symm.trans hx249_0)
    injection ea_ with ea_ en_ ec_
    subst ea_
    subst ec_
    clear en_
    have ea_ := Option.some.inj (hx248_1.symm.trans hx249_1)
    injection ea_ with ea_ en_ ec_
    subst ea_
    subst ec_
    clear en_
    have p250 : 0 ≤ (x4_3 : Int) := of_decide_eq_true (by first | (with_reducible assumption) | assumption)
    have q250 : x4_3 < (((rd_T36 l0 x3_1).f1).length : Int) := of_decide_eq_true (by first | (with_reducible assumption) | assumption)
    obtain ⟨ad250, e250, hx250_0, hx250_1, hx250_2, hx250_3, hx250_4⟩ := at_T32 HR249_1.out x4_3 p250 q250
    cases e250
    replace p250 := eq_true p250
    replace q250 := eq_true q250
    go_wp2
    go_ret
    exact ⟨by first | rfl | (simp; done) | (simp [*]; done), by repeat (first | exact Drawn0.refl _ | apply Drawn0.step)⟩
  rw [if_neg c11] at H
  have c11b0 : decide (20 < (((rd_T32 ((rd_T36 l0 x3_1).f1) x4_3).f2).size : Int)) = false := decide_eq_false c11
  have c11b1 : decide (20 < ((rd_T32 ((rd_T36 l0 x3_1).f1) x4_3).f2).size) = false := decide_eq_false (by omega)
  clear c11
  by_cases c12 : (((rd_T32 ((rd_T36 l0 x3_1).f1) x4_3).f3).size : Int) > 20
  · rw [if_pos c12] at H
    have c12b0 : decide (20 < (((rd_T32 ((rd_T36 l0 x3_1).f1) x4_3).f3).size : Int)) = true := decide_eq_true c12
    have c12b1 : decide (20 < ((rd_T32 ((rd_T36 l0 x3_1).f1) x4_3).f3).size) = true := decide_eq_true (by omega)
    clear c12
    obtain rfl := Option.some.inj H
    have p248 : 0 ≤ (x3_1 : Int) := of_decide_eq_true (by first | (with_reducible assumption) | assumption)
    have q248 : x3_1 < (l0.length : Int) := of_decide_eq_true (by first | (with_reducible assumption) | assumption)
    obtain ⟨ad248, A248_0, c248_0, A248_1, c248_1, e248, hx248_0, hx248_1, hx248_2, hx248_3, hl248_0, hi248_0, hl248_1, hi248_1⟩ := at_T36 HR0.out x3_1 p248 q248
    cases e248
    have HR248_0 := Aside0.mk hi248_0
    have HC248_0 := Aside0.mk hl248_0
    clear hi248_0 hl248_0
    have HR248_1 := Aside0.mk hi248_1
    have HC248_1 := Aside0.mk hl248_1
    clear hi248_1 hl248_1
    replace p248 := eq_true p248
    replace q248 := eq_true q248
    have p249 : 0 ≤ (x3_1 : Int) := of_decide_eq_true (by first | (with_reducible assumption) | assumption)
    have q249 : x3_1 < (l0.length : Int) := of_decide_eq_true (by first | (with_reducible assumption) | assumption)
    obtain ⟨ad249, A249_0, c249_0, A249_1, c249_1, e249, hx249_0, hx249_1, hx249_2, hx249_3, hl249_0, hi249_0, hl249_1, hi249_1⟩ := at_T36 HR0.out x3_1 p249 q249
    obtain rfl : ad248 = ad249 := (by injection e249)
    have HR249_0 := Aside0.mk hi249_0
    have HC249_0 := Aside0.mk hl249_0
    clear hi249_0 hl249_0
    have HR249_1 := Aside0.mk hi249_1
    have HC249_1 := Aside0.mk hl249_1
    clear hi249_1 hl249_1
    replace p249 := eq_true p249
    replace q249 := eq_true q249
    have ea_ := Option.some.inj (hx248_0.symm.trans hx249_0)
    injection ea_ with ea_ en_ ec_
    subst ea_
    subst ec_
    clear en_
    have ea_ := Option.some.inj (hx248_1.symm.trans hx249_1)
    injection ea_ with ea_ en_ ec_
    subst ea_
    subst ec_
    clear en_
    have p250 : 0 ≤ (x4_3 : Int) := of_decide_eq_true (by first | (with_reducible assumption) | assumption)
    have q250 : x4_3 < (((rd_T36 l0 x3_1).f1).length : Int) := of_decide_eq_true (by first | (with_reducible assumption) | assumption)
    obtain ⟨ad250, e250, hx250_0, hx250_1, hx250_2, hx250_3, hx250_4⟩ := at_T32 HR249_1.out x4_3 p250 q250
    cases e250
    replace p250 := eq_true p250
    replace q250 := eq_true q250
    have p251 : 0 ≤ (x3_1 : Int) := of_decide_eq_true (by first | (with_reducible assumption) | assumption)
    have q251 : x3_1 < (l0.length : Int) := of_decide_eq_true (by first | (with_reducible assumption) | assumption)
    obtain ⟨ad251, A251_0, c251_0, A251_1, c251_1, e251, hx251_0, hx251_1, hx251_2, hx251_3, hl251_0, hi251_0, hl251_1, hi251_1⟩ := at_T36 HR0.out x3_1 p251 q251
    obtain rfl : ad248 = ad251 := (by injection e251)
    have HR251_0 := Aside0.mk hi251_0
    have HC251_0 := Aside0.mk hl251_0
    clear hi251_0 hl251_0
    have HR251_1 := Aside0.mk hi251_1
    have HC251_1 := Aside0.mk hl251_1
    clear hi251_1 hl251_1
    replace p251 := eq_true p251
    replace q251 := eq_true q251
    have ea_ := Option.some.inj (hx248_0.symm.trans hx251_0)
    injection ea_ with ea_ en_ ec_
    subst ea_
    subst ec_
    clear en_
    have ea_ := Option.some.inj (hx248_1.symm.trans hx251_1)
    injection ea_ with ea_ en_ ec_
    subst ea_
    subst ec_
    clear en_
    have p252 : 0 ≤ (x4_3 : Int) := of_decide_eq_true (by first | (with_reducible assumption) | assumption)
    have q252 : x4_3 < (((rd_T36 l0 x3_1).f1).length : Int) := of_decide_eq_true (by first | (with_reducible assumption) | assumption)
    obtain ⟨ad252, e252, hx252_0, hx252_1, hx252_2, hx252_3, hx252_4⟩ := at_T32 HR251_1.out x4_3 p252 q252
    cases e252
    replace p252 := eq_true p252
    replace q252 := eq_true q252
    go_wp2
    go_ret
    exact ⟨by first | rfl | (simp; done) | (simp [*]; done), by repeat (first | exact Drawn0.refl _ | apply Drawn0.step)⟩
  rw [if_neg c12] at H
  have c12b0 : decide (20 < (((rd_T32 ((rd_T36 l0 x3_1).f1) x4_3).f3).size : Int)) = false := decide_eq_false c12
  have c12b1 : decide (20 < ((rd_T32 ((rd_T36 l0 x3_1).f1) x4_3).f3).size) = false := decide_eq_false (by omega)
  clear c12
  have H' := Aside0.mk H
  clear H
  have p248 : 0 ≤ (x3_1 : Int) := of_decide_eq_true (by first | (with_reducible assumption) | assumption)
  have q248 : x3_1 < (l0.length : Int) := of_decide_eq_true (by first | (with_reducible assumption) | assumption)
  obtain ⟨ad248, A248_0, c248_0, A248_1, c248_1, e248, hx248_0, hx248_1, hx248_2, hx248_3, hl248_0, hi248_0, hl248_1, hi248_1⟩ := at_T36 HR0.out x3_1 p248 q248
  cases e248
  have HR248_0 := Aside0.mk hi248_0
  have HC248_0 := Aside0.mk hl248_0
  clear hi248_0 hl248_0
  have HR248_1 := Aside0.mk hi248_1
  have HC248_1 := Aside0.mk hl248_1
  clear hi248_1 hl248_1
  replace p248 := eq_true p248
  replace q248 := eq_true q248
  have p249 : 0 ≤ (x3_1 : Int) := of_decide_eq_true (by first | (with_reducible assumption) | assumption)
  have q249 : x3_1 < (l0.length : Int) := of_decide_eq_true (by first | (with_reducible assumption) | assumption)
  obtain ⟨ad249, A249_0, c249_0, A249_1, c249_1, e249, hx249_0, hx249_1, hx249_2, hx249_3, hl249_0, hi249_0, hl249_1, hi249_1⟩ := at_T36 HR0.out x3_1 p249 q249
  obtain rfl : ad248 = ad249 := (by injection e249)
  have HR249_0 := Aside0.mk hi249_0
  have HC249_0 := Aside0.mk hl249_0
  clear hi249_0 hl249_0
  have HR249_1 := Aside0.mk hi249_1
  have HC249_1 := Aside0.mk hl249_1
  clear hi249_1 hl249_1
  replace p249 := eq_true p249
  replace q249 := eq_true q249
  have ea_ := Option.some.inj (hx248_0.symm.trans hx249_0)
  injection ea_ with ea_ en_ ec_
  subst ea_
  subst ec_
  clear en_
  have ea_ := Option.some.inj (hx248_1.symm.trans hx249_1)
  injection ea_ with ea_ en_ ec_
  subst ea_
  subst ec_
  clear en_
  have p250 : 0 ≤ (x4_3 : Int) := of_decide_eq_true (by first | (with_reducible assumption) | assumption)
  have q250 : x4_3 < (((rd_T36 l0 x3_1).f1).length : Int) := of_decide_eq_true (by first | (with_reducible assumption) | assumption)
  obtain ⟨ad250, e250, hx250_0, hx250_1, hx250_2, hx250_3, hx250_4⟩ := at_T32 HR249_1.out x4_3 p250 q250
  cases e250
  replace p250 := eq_true p250
  replace q250 := eq_true q250
  have p251 : 0 ≤ (x3_1 : Int) := of_decide_eq_true (by first | (with_reducible assumption) | assumption)
  have q251 : x3_1 < (l0.length : Int) := of_decide_eq_true (by first | (with_reducible assumption) | assumption)
  obtain ⟨ad251, A251_0, c251_0, A251_1, c251_1, e251, hx251_0, hx251_1, hx251_2, hx251_3, hl251_0, hi251_0, hl251_1, hi251_1⟩ := at_T36 HR0.out x3_1 p251 q251
  obtain rfl : ad248 = ad251 := (by injection e251)
  have HR251_0 := Aside0.mk hi251_0
  have HC251_0 := Aside0.mk hl251_0
  clear hi251_0 hl251_0
  have HR251_1 := Aside0.mk hi251_1
  have HC251_1 := Aside0.mk hl251_1
  clear hi251_1 hl251_1
  replace p251 := eq_true p251
  replace q251 := eq_true q251
  have ea_ := Option.some.inj (hx248_0.symm.trans hx251_0)
  injection ea_ with ea_ en_ ec_
  subst ea_
  subst ec_
  clear en_
  have ea_ := Option.some.inj (hx248_1.symm.trans hx251_1)
  injection ea_ with ea_ en_ ec_
  subst ea_
  subst ec_
  clear en_
  have p252 : 0 ≤ (x4_3 : Int) := of_decide_eq_true (by first | (with_reducible assumption) | assumption)
  have q252 : x4_3 < (((rd_T36 l0 x3_1).f1).length : Int) := of_decide_eq_true (by first | (with_reducible assumption) | assumption)
  obtain ⟨ad252, e252, hx252_0, hx252_1, hx252_2, hx252_3, hx252_4⟩ := at_T32 HR251_1.out x4_3 p252 q252
  cases e252
  replace p252 := eq_true p252
  replace q252 := eq_true q252
  go_wp2
  go_roundg k3
  case measure => have := HK1.out; have := HJ2.out; have := HK3.out; omega
  case rel => exact ⟨(wrap64 (x4_3 + 1)), (by first | rfl | (simp; done) | (simp [*]; done)), H', ⟨by have := HK1.out; have := HJ2.out; have := HK3.out; omega⟩, by repeat (first | exact Drawn0.refl _ | apply Drawn0.step)⟩

/-- A state of type 45 at block g of W; what its slices lead to came in by w0. -/
def IsS45 (w0 W : World) (g : Nat) (f0 : List (S32)) (f1 : Int) (f2 : Int) (f3 : Int) : Prop := ∃ A0 c0, W.heap[g]? = some (.cells #[.slice A0 f0.length c0, .int .i64 f1, .int .i64 f2, .int .i64 f3] 45 (0, 0)) ∧ w0.heap.size ≤ g ∧ Kd.C k32 w0 A0 f0.length f0
theorem IsS45.grown {w0 W : World} {g : Nat} {f0 : List (S32)} {f1 : Int} {f2 : Int} {f3 : Int} {W1 : World} {row : Option Nat} (h : IsS45 w0 W g f0 f1 f2 f3) (hw : W.grownBy W1 row) (hne : some g ≠ row) : IsS45 w0 W1 g f0 f1 f2 f3 := by
  obtain ⟨A0, c0, hb, hg, hr0⟩ := h
  exact ⟨A0, c0, blk_grown hb hw hne, hg, hr0⟩
theorem IsS45.own_neN {w0 W : World} {g : Nat} {f0 : List (S32)} {f1 : Int} {f2 : Int} {f3 : Int} {α : Type} {d : Kd α} {e : Nat} {base : Nat} {ok : Nat → Prop} {v : Value} {xs : List α} (h : IsS45 w0 W g f0 f1 f2 f3) (ho : Kd.N d e W base ok v xs) (ht : e ≠ 45) : some g ≠ v.ownBlock := by
  obtain ⟨A0, c0, hb, hg, hr0⟩ := h
  exact Kd.N_ne ho hb ht
theorem IsS45.fresh {w0 W : World} {g : Nat} {f0 : List (S32)} {f1 : Int} {f2 : Int} {f3 : Int} (h : IsS45 w0 W g f0 f1 f2 f3) : ∀ k, W.heap.size ≤ k → k ≠ g := by
  obtain ⟨A0, c0, hb, hg, hr0⟩ := h
  exact Kd.freshB hb
theorem IsS45.kept {w0 W : World} {g : Nat} {f0 : List (S32)} {f1 : Int} {f2 : Int} {f3 : Int} {W1 : World} {S : Nat → Prop} (h : IsS45 w0 W g f0 f1 f2 f3) (hk : Kept W W1 S) (hne : ¬ S g) : IsS45 w0 W1 g f0 f1 f2 f3 := by
  obtain ⟨A0, c0, hb, hg, hr0⟩ := h
  exact ⟨A0, c0, blk_kept hb hk hne, hg, hr0⟩
theorem IsS45.below {w0 W : World} {g : Nat} {f0 : List (S32)} {f1 : Int} {f2 : Int} {f3 : Int} {W1 : World} (h : IsS45 w0 W g f0 f1 f2 f3) (hw : Below W.heap.size W W1) : IsS45 w0 W1 g f0 f1 f2 f3 := h.grown (grown_of_below hw none) (by simp)
theorem IsS45.alloc {w0 W : World} {g : Nat} {f0 : List (S32)} {f1 : Int} {f2 : Int} {f3 : Int} (h : IsS45 w0 W g f0 f1 f2 f3) (o : Obj) : IsS45 w0 (W.alloc o) g f0 f1 f2 f3 := h.below (below_alloc (Below.refl _ _) o)
theorem IsS45.drewN {w0 W : World} {g : Nat} {f0 : List (S32)} {f1 : Int} {f2 : Int} {f3 : Int} (h : IsS45 w0 W g f0 f1 f2 f3) (m : Nat) : IsS45 w0 (W.drewN m) g f0 f1 f2 f3 := h
theorem IsS45.drew {w0 W : World} {g : Nat} {f0 : List (S32)} {f1 : Int} {f2 : Int} {f3 : Int} (h : IsS45 w0 W g f0 f1 f2 f3) : IsS45 w0 W.drew g f0 f1 f2 f3 := h
theorem IsS45.at_ {w0 W : World} {g : Nat} {f0 : List (S32)} {f1 : Int} {f2 : Int} {f3 : Int} {w' : World} {m : Nat} (hq : W.drewN m = w') (h : IsS45 w0 W g f0 f1 f2 f3) : IsS45 w0 w' g f0 f1 f2 f3 := by subst hq; exact IsS45.drewN h m
theorem IsS45.apart {w0 W : World} {g : Nat} {f0 : List (S32)} {f1 : Int} {f2 : Int} {f3 : Int} {α : Type} {d : Kd α} {e : Nat} {base : Nat} {ok : Nat → Prop} {v : Value} {xs : List α} (h : IsS45 w0 W g f0 f1 f2 f3) (ho : d.R e W base ok v xs) (ht : ∀ q, q ∈ e :: d.E → q ≠ 45) : d.R e W base (fun k => ok k ∧ k ≠ g) v xs := by
  obtain ⟨A0, c0, hb, hg, hr0⟩ := h
  exact Kd.R_types ho hb ht
theorem IsS45.own_ne {w0 W : World} {g : Nat} {f0 : List (S32)} {f1 : Int} {f2 : Int} {f3 : Int} {α : Type} {d : Kd α} {e : Nat} {base : Nat} {ok : Nat → Prop} {v : Value} {xs : List α} (h : IsS45 w0 W g f0 f1 f2 f3) (ho : d.R e W base ok v xs) (ht : e ≠ 45) : some g ≠ v.ownBlock := by
  obtain ⟨A0, c0, hb, hg, hr0⟩ := h
  exact Kd.R_ne ho hb ht
theorem IsS45.apartQ {w0 W : World} {g : Nat} {f0 : List (S32)} {f1 : Int} {f2 : Int} {f3 : Int} {α : Type} {d : Kd α} {e : Nat} {base : Nat} {ok : Nat → Prop} {v : Value} {xs : List α} (h : IsS45 w0 W g f0 f1 f2 f3) (ho : d.Q e W base ok v xs) (ht : ∀ q, q ∈ e :: d.E → q ≠ 45) : d.Q e W base (fun k => ok k ∧ k ≠ g) v xs := by
  obtain ⟨A0, c0, hb, hg, hr0⟩ := h
  exact Kd.Q_types ho hb ht
theorem IsS45.own_neQ {w0 W : World} {g : Nat} {f0 : List (S32)} {f1 : Int} {f2 : Int} {f3 : Int} {α : Type} {d : Kd α} {e : Nat} {base : Nat} {ok : Nat → Prop} {v : Value} {xs : List α} (h : IsS45 w0 W g f0 f1 f2 f3) (ho : d.Q e W base ok v xs) (ht : e ≠ 45) : some g ≠ v.ownBlock := by
  obtain ⟨A0, c0, hb, hg, hr0⟩ := h
  exact Kd.Q_ne ho hb ht
theorem IsS45.apartS {w0 W : World} {g : Nat} {f0 : List (S32)} {f1 : Int} {f2 : Int} {f3 : Int} {α : Type} {d : Kd α} {e : Nat} {base : Nat} {ok : Nat → Prop} {v : Value} {xs : List α} (h : IsS45 w0 W g f0 f1 f2 f3) (ho : d.S e W base ok v xs) (ht : ∀ q, q ∈ e :: d.E → q ≠ 45) : d.S e W base (fun k => ok k ∧ k ≠ g) v xs := by
  obtain ⟨A0, c0, hb, hg, hr0⟩ := h
  exact Kd.S_types ho hb ht
theorem IsS45.own_neS {w0 W : World} {g : Nat} {f0 : List (S32)} {f1 : Int} {f2 : Int} {f3 : Int} {α : Type} {d : Kd α} {e : Nat} {base : Nat} {ok : Nat → Prop} {v : Value} {xs : List α} (h : IsS45 w0 W g f0 f1 f2 f3) (ho : d.S e W base ok v xs) (ht : e ≠ 45) : some g ≠ v.ownBlock := by
  obtain ⟨A0, c0, hb, hg, hr0⟩ := h
  exact Kd.S_ne ho hb ht
theorem IsS45.lt {w0 W : World} {g : Nat} {f0 : List (S32)} {f1 : Int} {f2 : Int} {f3 : Int} (h : IsS45 w0 W g f0 f1 f2 f3) : g < W.heap.size := by
  obtain ⟨A0, c0, hb, hg, hr0⟩ := h
  exact blk_lt hb
theorem IsS45.ge {w0 W : World} {g : Nat} {f0 : List (S32)} {f1 : Int} {f2 : Int} {f3 : Int} (h : IsS45 w0 W g f0 f1 f2 f3) : w0.heap.size ≤ g := by
  obtain ⟨A0, c0, hb, hg, hr0⟩ := h
  exact hg
theorem IsS45.ne_blk {w0 W : World} {g : Nat} {f0 : List (S32)} {f1 : Int} {f2 : Int} {f3 : Int} {a : Nat} {cs : Array Value} {t : TypeId} {fr : Nat × Nat} (h : IsS45 w0 W g f0 f1 f2 f3) (hb2 : W.heap[a]? = some (.cells cs t fr)) (ht : t ≠ 45) : g ≠ a := by
  obtain ⟨A0, c0, hb, hg, hr0⟩ := h
  rintro rfl
  rw [hb] at hb2
  injection hb2 with hb2
  injection hb2 with _ ht2
  exact ht ht2.symm
theorem IsS45.far {w0 W : World} {g : Nat} {f0 : List (S32)} {f1 : Int} {f2 : Int} {f3 : Int} {p : Addr} (h : IsS45 w0 W g f0 f1 f2 f3) (hne : g ≠ p.block) (u : Value) : IsS45 w0 (W.setCell p u) g f0 f1 f2 f3 := by
  obtain ⟨A0, c0, hb, hg, hr0⟩ := h
  exact ⟨A0, c0, blk_far hb hne u, hg, hr0⟩
theorem cellS45_0 {W : World} {g : Nat} {A0 : Option Addr} {c0 : Nat} {f0 : List (S32)} {f1 : Int} {f2 : Int} {f3 : Int} (h : W.heap[g]? = some (.cells #[.slice A0 f0.length c0, .int .i64 f1, .int .i64 f2, .int .i64 f3] 45 (0, 0))) : W.cell? ⟨g, 0, none⟩ = some (.slice A0 f0.length c0) := (blk_cell h 0).trans rfl
theorem cellS45_1 {W : World} {g : Nat} {A0 : Option Addr} {c0 : Nat} {f0 : List (S32)} {f1 : Int} {f2 : Int} {f3 : Int} (h : W.heap[g]? = some (.cells #[.slice A0 f0.length c0, .int .i64 f1, .int .i64 f2, .int .i64 f3] 45 (0, 0))) : W.cell? ⟨g, 1, none⟩ = some (.int .i64 f1) := (blk_cell h 1).trans rfl
theorem IsS45.set_1 {w0 W : World} {g : Nat} {f0 : List (S32)} {f1 : Int} {f2 : Int} {f3 : Int} (h : IsS45 w0 W g f0 f1 f2 f3) (x : Int) : IsS45 w0 (W.setCell ⟨g, 1, none⟩ (.int .i64 x)) g f0 x f2 f3 := by
  obtain ⟨A0, c0, hb, hg, hr0⟩ := h
  exact ⟨A0, c0, by simpa using blk_set hb 1 (.int .i64 x), hg, hr0⟩
theorem cellS45_2 {W : World} {g : Nat} {A0 : Option Addr} {c0 : Nat} {f0 : List (S32)} {f1 : Int} {f2 : Int} {f3 : Int} (h : W.heap[g]? = some (.cells #[.slice A0 f0.length c0, .int .i64 f1, .int .i64 f2, .int .i64 f3] 45 (0, 0))) : W.cell? ⟨g, 2, none⟩ = some (.int .i64 f2) := (blk_cell h 2).trans rfl
theorem IsS45.set_2 {w0 W : World} {g : Nat} {f0 : List (S32)} {f1 : Int} {f2 : Int} {f3 : Int} (h : IsS45 w0 W g f0 f1 f2 f3) (x : Int) : IsS45 w0 (W.setCell ⟨g, 2, none⟩ (.int .i64 x)) g f0 f1 x f3 := by
  obtain ⟨A0, c0, hb, hg, hr0⟩ := h
  exact ⟨A0, c0, by simpa using blk_set hb 2 (.int .i64 x), hg, hr0⟩
theorem cellS45_3 {W : World} {g : Nat} {A0 : Option Addr} {c0 : Nat} {f0 : List (S32)} {f1 : Int} {f2 : Int} {f3 : Int} (h : W.heap[g]? = some (.cells #[.slice A0 f0.length c0, .int .i64 f1, .int .i64 f2, .int .i64 f3] 45 (0, 0))) : W.cell? ⟨g, 3, none⟩ = some (.int .i64 f3) := (blk_cell h 3).trans rfl
theorem IsS45.set_3 {w0 W : World} {g : Nat} {f0 : List (S32)} {f1 : Int} {f2 : Int} {f3 : Int} (h : IsS45 w0 W g f0 f1 f2 f3) (x : Int) : IsS45 w0 (W.setCell ⟨g, 3, none⟩ (.int .i64 x)) g f0 f1 f2 x := by
  obtain ⟨A0, c0, hb, hg, hr0⟩ := h
  exact ⟨A0, c0, by simpa using blk_set hb 3 (.int .i64 x), hg, hr0⟩
theorem IsS45.new (w0 W : World) (A0 : Option Addr) (c0 : Nat) (f0 : List (S32)) (f1 : Int) (f2 : Int) (f3 : Int) (hB : Below w0.heap.size w0 W) (hr0 : Kd.C k32 w0 A0 f0.length f0) : IsS45 w0 (W.alloc (.cells #[.slice A0 f0.length c0, .int .i64 f1, .int .i64 f2, .int .i64 f3] 45)) W.heap.size f0 f1 f2 f3 := ⟨A0, c0, by simpa using heap_alloc_new W _, hB.size, hr0⟩

/-! ### ravelinref9_New: function 11 -/
def ravelinref9_New.f  : Option ((List (S32)) × Int × Int × Int) := some (([] : List (S32)), 1, 0, 1)
set_option maxHeartbeats 8000000 in
set_option maxRecDepth 100000 in
theorem ravelinref9_New.calls  (r1 : List (S32)) (r2 : Int) (r3 : Int) (r4 : Int) (w0 w : World) (hB : Below w0.heap.size w0 w) (h : ravelinref9_New.f  = some (r1, r2, r3, r4)) :
    Calls Try.prog 11 #[] w fun e w' => ∃ g_ : Nat, e = .returned (.pointer (some ⟨g_, 0, none⟩)) ∧ IsS45 w0 w' g_ r1 r2 r3 r4 ∧ Below w0.heap.size w0 w' ∧ Below w.heap.size w w' := by
  have hu45 := Try.underlying45
  have HBW := Aside0.mk (Below.refl w.heap.size w)
  have HW0 := Aside0.mk hB.size
  have HB := Aside0.mk hB
  clear hB
  have H : (some (([] : List (S32)), 1, 0, 1)) = some (r1, r2, r3, r4) := h
  clear h
  simp only [Option.some.injEq, Prod.mk.injEq] at H
  obtain ⟨rfl, rfl, rfl, rfl⟩ := H
  go_enter Try.func11, Try.ntmps11
  go_wp2_with (first | ((with_reducible refine gate_dst (N := 2) rfl ?_); refine box_event ?hg (N := 2) ?hd (cs := #[.slice none 0 0, .int .i64 1, .int .i64 0, .int .i64 1]) (t := 45) ?hr ?_; (case hd => rfl); (case hg => rfl); (case hr => first | (go_simp; done) | (go_simp; rfl)); intro gb253 hg w1 hbox hb; have n0_ := Aside0.mk (below_step HBW.out hb); have n1_ := Aside0.mk (below_step (by repeat (first | (with_reducible first | exact HB.out | apply below_alloc | apply pw_below_drewN | apply below_drew1) | exact HB.out)) hb); have n2_ := Aside0.mk (hbox); have n3_ := Aside0.mk ((by rw [hg]; exact (below_size (by repeat (first | (with_reducible first | exact HBW.out | apply below_alloc | apply pw_below_drewN | apply below_drew1) | exact HBW.out))) : w.heap.size ≤ gb253)); have n4_ := Aside0.mk ((Nat.le_trans HW0.out (by rw [hg]; exact (below_size (by repeat (first | (with_reducible first | exact HBW.out | apply below_alloc | apply pw_below_drewN | apply below_drew1) | exact HBW.out))) : w.heap.size ≤ gb253) : w0.heap.size ≤ gb253)); clear HBW; clear HB; have HBW := n0_; have HB := n1_; have BK253 := n2_; have GW253 := n3_; have GE253 := n4_; clear n0_ n1_ n2_ n3_ n4_; clear hb hbox hg))
  go_ret
  exact ⟨_, rfl, (show IsS45 w0 _ gb253 ([] : List (S32)) 1 0 1 from ⟨none, 0, by (with_reducible repeat (first | refine blk_drewN ?_ _ | refine blk_drew ?_ | refine blk_alloc ?_ _)); exact BK253.out, GE253.out, (Kd.C_nil _ _)⟩), by repeat (first | (with_reducible first | exact HB.out | apply below_alloc | apply pw_below_drewN | apply below_drew1 | refine below_set ?_ GE253.out) | exact HB.out), by repeat (first | (with_reducible first | exact HBW.out | apply below_alloc | apply pw_below_drewN | apply below_drew1 | refine below_set ?_ GW253.out) | exact HBW.out)⟩

end Go.Proofs.Ytmbedgopceigaaa.P

namespace Go.Proofs.Ytmbedgopceigaaa.P
open Go.RowKit Go.Proofs.YtmbedgopceigaaaW.PrintWords Go.Proofs.YtmbedgopceigaaaW.PrintLast Go.Proofs.YtmbedgopceigaaaW.PrintMore
attribute [local go_sem] max2_int min2_int max_two min_two max_three min_three max_four min_four   -- for this text's walks alone
attribute [local go_sem high] string_leq string_geq string_gtr
set_option linter.unusedVariables false
set_option linter.unusedSimpArgs false

/-! ### ravelinref9_IsTable: function 41 -/
def ravelinref9_IsTable.f (a0_0 : Int) (a0_1 : Int) (a0_2 : ByteArray) (a0_3 : ByteArray) (a0_4 : Int) : Option (Bool) := if a0_0 ≥ 1 then (if a0_0 ≤ 1000000 then (if a0_1 = 0 then (if (a0_2.size : Int) ≥ 1 then (if (a0_2.size : Int) ≤ 13 then (if (a0_3.size : Int) ≥ 1 then (if (a0_3.size : Int) ≤ 13 then (if ((Op.bytesLess a0_3.toList a0_2.toList) = true) then (some false) else (some (decide (a0_4 ≥ 1)))) else (some false)) else (some false)) else (some false)) else (some false)) else (if a0_1 = 1 then (if (a0_2.size : Int) ≥ 1 then (if (a0_2.size : Int) ≤ 13 then (if (a0_3.size : Int) ≥ 1 then (if (a0_3.size : Int) ≤ 13 then (if ((Op.bytesLess a0_3.toList a0_2.toList) = true) then (some false) else (some (decide (a0_4 ≥ 1)))) else (some false)) else (some false)) else (some false)) else (some false)) else (some false))) else (some false)) else (some false)
set_option maxHeartbeats 8000000 in
set_option maxRecDepth 100000 in
theorem ravelinref9_IsTable.calls (a0_0 : Int) (a0_1 : Int) (a0_2 : ByteArray) (a0_3 : ByteArray) (a0_4 : Int) (r : Bool) (w : World) (h : ravelinref9_IsTable.f a0_0 a0_1 a0_2 a0_3 a0_4 = some r) :
    Calls Try.prog 41 #[.agg #[.int .i64 a0_0, .int .i64 a0_1, .string a0_2, .string a0_3, .int .i64 a0_4]] w fun e w' => e = .returned (.bool r) ∧ Below w.heap.size w w' := by
  have hu32 := Try.underlying32
  have HB := Aside0.mk (Below.refl w.heap.size w)
  have H : (if a0_0 ≥ 1 then (if a0_0 ≤ 1000000 then (if a0_1 = 0 then (if (a0_2.size : Int) ≥ 1 then (if (a0_2.size : Int) ≤ 13 then (if (a0_3.size : Int) ≥ 1 then (if (a0_3.size : Int) ≤ 13 then (if ((Op.bytesLess a0_3.toList a0_2.toList) = true) then (some false) else (some (decide (a0_4 ≥ 1)))) else (some false)) else (some false)) else (some false)) else (some false)) else (if a0_1 = 1 then (if (a0_2.size : Int) ≥ 1 then (if (a0_2.size : Int) ≤ 13 then (if (a0_3.size : Int) ≥ 1 then (if (a0_3.size : Int) ≤ 13 then (if ((Op.bytesLess a0_3.toList a0_2.toList) = true) then (some false) else (some (decide (a0_4 ≥ 1)))) else (some false)) else (some false)) else (some false)) else (some false)) else (some false))) else (some false)) else (some false)) = some r := h
  clear h
  by_cases c2 : a0_0 ≥ 1
  rotate_left
  · rw [if_neg c2] at H
    have c2b0 : decide (1 ≤ a0_0) = false := decide_eq_false c2
    clear c2
    obtain rfl := Option.some.inj H
    go_enter Try.func41, Try.ntmps41
    go_wp2_with (first | ((with_reducible refine gate_dst (N := 1) rfl ?_); (try (refine gate_guard (by rfl) ?_; dsimp only)); refine box_event ?hg (N := 1) ?hd (cs := #[.int .i64 a0_0, .int .i64 a0_1, .string a0_2, .string a0_3, .int .i64 a0_4]) (t := 32) ?hr ?_; (case hd => rfl); (case hg => rfl); (case hr => first | (go_simp; done) | (go_simp; rfl)); intro gb254 hg w44 hbox hb; have n0_ := Aside0.mk (below_step (by repeat (first | (with_reducible first | exact HB.out | apply below_alloc | apply pw_below_drewN | apply below_drew1) | exact HB.out)) hb); have n1_ := Aside0.mk (hbox); have n2_ := Aside0.mk ((by rw [hg]; exact (below_size (by repeat (first | (with_reducible first | exact HB.out | apply below_alloc | apply pw_below_drewN | apply below_drew1) | exact HB.out))) : w.heap.size ≤ gb254)); have n3_ := Aside0.mk ((by rw [hg]; exact (below_size (by repeat (first | (with_reducible first | exact HB.out | apply below_alloc | apply pw_below_drewN | apply below_drew1) | exact HB.out))) : w.heap.size ≤ gb254)); clear HB; have HB := n0_; have BK254 := n1_; have GW254 := n2_; have GE254 := n3_; clear n0_ n1_ n2_ n3_; clear hb hbox hg; have hcz45_0 : w44.cell? ⟨gb254, 0, none⟩ = some (.int .i64 a0_0) := (blk_cell BK254.out 0).trans rfl; have hcz45_1 : w44.cell? ⟨gb254, 1, none⟩ = some (.int .i64 a0_1) := (blk_cell BK254.out 1).trans rfl; have hcz45_2 : w44.cell? ⟨gb254, 2, none⟩ = some (.string a0_2) := (blk_cell BK254.out 2).trans rfl; have hcz45_3 : w44.cell? ⟨gb254, 3, none⟩ = some (.string a0_3) := (blk_cell BK254.out 3).trans rfl; have hcz45_4 : w44.cell? ⟨gb254, 4, none⟩ = some (.int .i64 a0_4) := (blk_cell BK254.out 4).trans rfl; have hfz45_0 := blk_frozen BK254.out 0; have hfz45_1 := blk_frozen BK254.out 1; have hfz45_2 := blk_frozen BK254.out 2; have hfz45_3 := blk_frozen BK254.out 3; have hfz45_4 := blk_frozen BK254.out 4))
    go_ret
    exact ⟨by first | rfl | (simp [errW_none, errW_some] <;> rfl) | (simp [*, errW_none, errW_some] <;> rfl), by repeat (first | (with_reducible first | exact HB.out | apply below_alloc | apply pw_below_drewN | apply below_drew1 | refine below_set ?_ GE254.out) | exact HB.out)⟩
  rw [if_pos c2] at H
  have c2b0 : decide (1 ≤ a0_0) = true := decide_eq_true c2
  clear c2
  by_cases c3 : a0_0 ≤ 1000000
  rotate_left
  · rw [if_neg c3] at H
    have c3b0 : decide (a0_0 ≤ 1000000) = false := decide_eq_false c3
    clear c3
    obtain rfl := Option.some.inj H
    go_enter Try.func41, Try.ntmps41
    go_wp2_with (first | ((with_reducible refine gate_dst (N := 1) rfl ?_); (try (refine gate_guard (by rfl) ?_; dsimp only)); refine box_event ?hg (N := 1) ?hd (cs := #[.int .i64 a0_0, .int .i64 a0_1, .string a0_2, .string a0_3, .int .i64 a0_4]) (t := 32) ?hr ?_; (case hd => rfl); (case hg => rfl); (case hr => first | (go_simp; done) | (go_simp; rfl)); intro gb254 hg w42 hbox hb; have n0_ := Aside0.mk (below_step (by repeat (first | (with_reducible first | exact HB.out | apply below_alloc | apply pw_below_drewN | apply below_drew1) | exact HB.out)) hb); have n1_ := Aside0.mk (hbox); have n2_ := Aside0.mk ((by rw [hg]; exact (below_size (by repeat (first | (with_reducible first | exact HB.out | apply below_alloc | apply pw_below_drewN | apply below_drew1) | exact HB.out))) : w.heap.size ≤ gb254)); have n3_ := Aside0.mk ((by rw [hg]; exact (below_size (by repeat (first | (with_reducible first | exact HB.out | apply below_alloc | apply pw_below_drewN | apply below_drew1) | exact HB.out))) : w.heap.size ≤ gb254)); clear HB; have HB := n0_; have BK254 := n1_; have GW254 := n2_; have GE254 := n3_; clear n0_ n1_ n2_ n3_; clear hb hbox hg; have hcz43_0 : w42.cell? ⟨gb254, 0, none⟩ = some (.int .i64 a0_0) := (blk_cell BK254.out 0).trans rfl; have hcz43_1 : w42.cell? ⟨gb254, 1, none⟩ = some (.int .i64 a0_1) := (blk_cell BK254.out 1).trans rfl; have hcz43_2 : w42.cell? ⟨gb254, 2, none⟩ = some (.string a0_2) := (blk_cell BK254.out 2).trans rfl; have hcz43_3 : w42.cell? ⟨gb254, 3, none⟩ = some (.string a0_3) := (blk_cell BK254.out 3).trans rfl; have hcz43_4 : w42.cell? ⟨gb254, 4, none⟩ = some (.int .i64 a0_4) := (blk_cell BK254.out 4).trans rfl; have hfz43_0 := blk_frozen BK254.out 0; have hfz43_1 := blk_frozen BK254.out 1; have hfz43_2 := blk_frozen BK254.out 2; have hfz43_3 := blk_frozen BK254.out 3; have hfz43_4 := blk_frozen BK254.out 4))
    go_ret
    exact ⟨by first | rfl | (simp [errW_none, errW_some] <;> rfl) | (simp [*, errW_none, errW_some] <;> rfl), by repeat (first | (with_reducible first | exact HB.out | apply below_alloc | apply pw_below_drewN | apply below_drew1 | refine below_set ?_ GE254.out) | exact HB.out)⟩
  rw [if_pos c3] at H
  have c3b0 : decide (a0_0 ≤ 1000000) = true := decide_eq_true c3
  clear c3
  by_cases c4 : a0_1 = 0
  · rw [if_pos c4] at H
    have c4b0 : (a0_1 == 0) = true := beq_iff_eq.mpr c4
    have c4b1 : (a0_1 != 0) = false := bne_eq_false_iff_eq.mpr c4
    clear c4
    by_cases c5 : (a0_2.size : Int) ≥ 1
    rotate_left
    · rw [if_neg c5] at H
      have c5b0 : decide (1 ≤ (a0_2.size : Int)) = false := decide_eq_false c5
      have c5b1 : decide (1 ≤ a0_2.size) = false := decide_eq_false (by omega)
      clear c5
      obtain rfl := Option.some.inj H
      go_enter Try.func41, Try.ntmps41
      go_wp2_with (first | ((with_reducible refine gate_dst (N := 1) rfl ?_); (try (refine gate_guard (by rfl) ?_; dsimp only)); refine box_event ?hg (N := 1) ?hd (cs := #[.int .i64 a0_0, .int .i64 a0_1, .string a0_2, .string a0_3, .int .i64 a0_4]) (t := 32) ?hr ?_; (case hd => rfl); (case hg => rfl); (case hr => first | (go_simp; done) | (go_simp; rfl)); intro gb254 hg w20 hbox hb; have n0_ := Aside0.mk (below_step (by repeat (first | (with_reducible first | exact HB.out | apply below_alloc | apply pw_below_drewN | apply below_drew1) | exact HB.out)) hb); have n1_ := Aside0.mk (hbox); have n2_ := Aside0.mk ((by rw [hg]; exact (below_size (by repeat (first | (with_reducible first | exact HB.out | apply below_alloc | apply pw_below_drewN | apply below_drew1) | exact HB.out))) : w.heap.size ≤ gb254)); have n3_ := Aside0.mk ((by rw [hg]; exact (below_size (by repeat (first | (with_reducible first | exact HB.out | apply below_alloc | apply pw_below_drewN | apply below_drew1) | exact HB.out))) : w.heap.size ≤ gb254)); clear HB; have HB := n0_; have BK254 := n1_; have GW254 := n2_; have GE254 := n3_; clear n0_ n1_ n2_ n3_; clear hb hbox hg; have hcz21_0 : w20.cell? ⟨gb254, 0, none⟩ = some (.int .i64 a0_0) := (blk_cell BK254.out 0).trans rfl; have hcz21_1 : w20.cell? ⟨gb254, 1, none⟩ = some (.int .i64 a0_1) := (blk_cell BK254.out 1).trans rfl; have hcz21_2 : w20.cell? ⟨gb254, 2, none⟩ = some (.string a0_2) := (blk_cell BK254.out 2).trans rfl; have hcz21_3 : w20.cell? ⟨gb254, 3, none⟩ = some (.string a0_3) := (blk_cell BK254.out 3).trans rfl; have hcz21_4 : w20.cell? ⟨gb254, 4, none⟩ = some (.int .i64 a0_4) := (blk_cell BK254.out 4).trans rfl; have hfz21_0 := blk_frozen BK254.out 0; have hfz21_1 := blk_frozen BK254.out 1; have hfz21_2 := blk_frozen BK254.out 2; have hfz21_3 := blk_frozen BK254.out 3; have hfz21_4 := blk_frozen BK254.out 4))
      go_ret
      exact ⟨by first | rfl | (simp [errW_none, errW_some] <;> rfl) | (simp [*, errW_none, errW_some] <;> rfl), by repeat (first | (with_reducible first | exact HB.out | apply below_alloc | apply pw_below_drewN | apply below_drew1 | refine below_set ?_ GE254.out) | exact HB.out)⟩
    rw [if_pos c5] at H
    have c5b0 : decide (1 ≤ (a0_2.size : Int)) = true := decide_eq_true c5
    have c5b1 : decide (1 ≤ a0_2.size) = true := decide_eq_true (by omega)
    clear c5
    by_cases c6 : (a0_2.size : Int) ≤ 13
    rotate_left
    · rw [if_neg c6] at H
      have c6b0 : decide ((a0_2.size : Int) ≤ 13) = false := decide_eq_false c6
      have c6b1 : decide (a0_2.size ≤ 13) = false := decide_eq_false (by omega)
      clear c6
      obtain rfl := Option.some.inj H
      go_enter Try.func41, Try.ntmps41
      go_wp2_with (first | ((with_reducible refine gate_dst (N := 1) rfl ?_); (try (refine gate_guard (by rfl) ?_; dsimp only)); refine box_event ?hg (N := 1) ?hd (cs := #[.int .i64 a0_0, .int .i64 a0_1, .string a0_2, .string a0_3, .int .i64 a0_4]) (t := 32) ?hr ?_; (case hd => rfl); (case hg => rfl); (case hr => first | (go_simp; done) | (go_simp; rfl)); intro gb254 hg w18 hbox hb; have n0_ := Aside0.mk (below_step (by repeat (first | (with_reducible first | exact HB.out | apply below_alloc | apply pw_below_drewN | apply below_drew1) | exact HB.out)) hb); have n1_ := Aside0.mk (hbox); have n2_ := Aside0.mk ((by rw [hg]; exact (below_size (by repeat (first | (with_reducible first | exact HB.out | apply below_alloc | apply pw_below_drewN | apply below_drew1) | exact HB.out))) : w.heap.size ≤ gb254)); have n3_ := Aside0.mk ((by rw [hg]; exact (below_size (by repeat (first | (with_reducible first | exact HB.out | apply below_alloc | apply pw_below_drewN | apply below_drew1) | exact HB.out))) : w.heap.size ≤ gb254)); clear HB; have HB := n0_; have BK254 := n1_; have GW254 := n2_; have GE254 := n3_; clear n0_ n1_ n2_ n3_; clear hb hbox hg; have hcz19_0 : w18.cell? ⟨gb254, 0, none⟩ = some (.int .i64 a0_0) := (blk_cell BK254.out 0).trans rfl; have hcz19_1 : w18.cell? ⟨gb254, 1, none⟩ = some (.int .i64 a0_1) := (blk_cell BK254.out 1).trans rfl; have hcz19_2 : w18.cell? ⟨gb254, 2, none⟩ = some (.string a0_2) := (blk_cell BK254.out 2).trans rfl; have hcz19_3 : w18.cell? ⟨gb254, 3, none⟩ = some (.string a0_3) := (blk_cell BK254.out 3).trans rfl; have hcz19_4 : w18.cell? ⟨gb254, 4, none⟩ = some (.int .i64 a0_4) := (blk_cell BK254.out 4).trans rfl; have hfz19_0 := blk_frozen BK254.out 0; have hfz19_1 := blk_frozen BK254.out 1; have hfz19_2 := blk_frozen BK254.out 2; have hfz19_3 := blk_frozen BK254.out 3; have hfz19_4 := blk_frozen BK254.out 4))
      go_ret
      exact ⟨by first | rfl | (simp [errW_none, errW_some] <;> rfl) | (simp [*, errW_none, errW_some] <;> rfl), by repeat (first | (with_reducible first | exact HB.out | apply below_alloc | apply pw_below_drewN | apply below_drew1 | refine below_set ?_ GE254.out) | exact HB.out)⟩
    rw [if_pos c6] at H
    have c6b0 : decide ((a0_2.size : Int) ≤ 13) = true := decide_eq_true c6
    have c6b1 : decide (a0_2.size ≤ 13) = true := decide_eq_true (by omega)
    clear c6
    by_cases c7 : (a0_3.size : Int) ≥ 1
    rotate_left
    · rw [if_neg c7] at H
      have c7b0 : decide (1 ≤ (a0_3.size : Int)) = false := decide_eq_false c7
      have c7b1 : decide (1 ≤ a0_3.size) = false := decide_eq_false (by omega)
      clear c7
      obtain rfl := Option.some.inj H
      go_enter Try.func41, Try.ntmps41
      go_wp2_with (first | ((with_reducible refine gate_dst (N := 1) rfl ?_); (try (refine gate_guard (by rfl) ?_; dsimp only)); refine box_event ?hg (N := 1) ?hd (cs := #[.int .i64 a0_0, .int .i64 a0_1, .string a0_2, .string a0_3, .int .i64 a0_4]) (t := 32) ?hr ?_; (case hd => rfl); (case hg => rfl); (case hr => first | (go_simp; done) | (go_simp; rfl)); intro gb254 hg w16 hbox hb; have n0_ := Aside0.mk (below_step (by repeat (first | (with_reducible first | exact HB.out | apply below_alloc | apply pw_below_drewN | apply below_drew1) | exact HB.out)) hb); have n1_ := Aside0.mk (hbox); have n2_ := Aside0.mk ((by rw [hg]; exact (below_size (by repeat (first | (with_reducible first | exact HB.out | apply below_alloc | apply pw_below_drewN | apply below_drew1) | exact HB.out))) : w.heap.size ≤ gb254)); have n3_ := Aside0.mk ((by rw [hg]; exact (below_size (by repeat (first | (with_reducible first | exact HB.out | apply below_alloc | apply pw_below_drewN | apply below_drew1) | exact HB.out))) : w.heap.size ≤ gb254)); clear HB; have HB := n0_; have BK254 := n1_; have GW254 := n2_; have GE254 := n3_; clear n0_ n1_ n2_ n3_; clear hb hbox hg; have hcz17_0 : w16.cell? ⟨gb254, 0, none⟩ = some (.int .i64 a0_0) := (blk_cell BK254.out 0).trans rfl; have hcz17_1 : w16.cell? ⟨gb254, 1, none⟩ = some (.int .i64 a0_1) := (blk_cell BK254.out 1).trans rfl; have hcz17_2 : w16.cell? ⟨gb254, 2, none⟩ = some (.string a0_2) := (blk_cell BK254.out 2).trans rfl; have hcz17_3 : w16.cell? ⟨gb254, 3, none⟩ = some (.string a0_3) := (blk_cell BK254.out 3).trans rfl; have hcz17_4 : w16.cell? ⟨gb254, 4, none⟩ = some (.int .i64 a0_4) := (blk_cell BK254.out 4).trans rfl; have hfz17_0 := blk_frozen BK254.out 0; have hfz17_1 := blk_frozen BK254.out 1; have hfz17_2 := blk_frozen BK254.out 2; have hfz17_3 := blk_frozen BK254.out 3; have hfz17_4 := blk_frozen BK254.out 4))
      go_ret
      exact ⟨by first | rfl | (simp [errW_none, errW_some] <;> rfl) | (simp [*, errW_none, errW_some] <;> rfl), by repeat (first | (with_reducible first | exact HB.out | apply below_alloc | apply pw_below_drewN | apply below_drew1 | refine below_set ?_ GE254.out) | exact HB.out)⟩
    rw [if_pos c7] at H
    have c7b0 : decide (1 ≤ (a0_3.size : Int)) = true := decide_eq_true c7
    have c7b1 : decide (1 ≤ a0_3.size) = true := decide_eq_true (by omega)
    clear c7
    by_cases c8 : (a0_3.size : Int) ≤ 13
    rotate_left
    · rw [if_neg c8] at H
      have c8b0 : decide ((a0_3.size : Int) ≤ 13) = false := decide_eq_false c8
      have c8b1 : decide (a0_3.size ≤ 13) = false := decide_eq_false (by omega)
      clear c8
      obtain rfl := Option.some.inj H
      go_enter Try.func41, Try.ntmps41
      go_wp2_with (first | ((with_reducible refine gate_dst (N := 1) rfl ?_); (try (refine gate_guard (by rfl) ?_; dsimp only)); refine box_event ?hg (N := 1) ?hd (cs := #[.int .i64 a0_0, .int .i64 a0_1, .string a0_2, .string a0_3, .int .i64 a0_4]) (t := 32) ?hr ?_; (case hd => rfl); (case hg => rfl); (case hr => first | (go_simp; done) | (go_simp; rfl)); intro gb254 hg w14 hbox hb; have n0_ := Aside0.mk (below_step (by repeat (first | (with_reducible first | exact HB.out | apply below_alloc | apply pw_below_drewN | apply below_drew1) | exact HB.out)) hb); have n1_ := Aside0.mk (hbox); have n2_ := Aside0.mk ((by rw [hg]; exact (below_size (by repeat (first | (with_reducible first | exact HB.out | apply below_alloc | apply pw_below_drewN | apply below_drew1) | exact HB.out))) : w.heap.size ≤ gb254)); have n3_ := Aside0.mk ((by rw [hg]; exact (below_size (by repeat (first | (with_reducible first | exact HB.out | apply below_alloc | apply pw_below_drewN | apply below_drew1) | exact HB.out))) : w.heap.size ≤ gb254)); clear HB; have HB := n0_; have BK254 := n1_; have GW254 := n2_; have GE254 := n3_; clear n0_ n1_ n2_ n3_; clear hb hbox hg; have hcz15_0 : w14.cell? ⟨gb254, 0, none⟩ = some (.int .i64 a0_0) := (blk_cell BK254.out 0).trans rfl; have hcz15_1 : w14.cell? ⟨gb254, 1, none⟩ = some (.int .i64 a0_1) := (blk_cell BK254.out 1).trans rfl; have hcz15_2 : w14.cell? ⟨gb254, 2, none⟩ = some (.string a0_2) := (blk_cell BK254.out 2).trans rfl; have hcz15_3 : w14.cell? ⟨gb254, 3, none⟩ = some (.string a0_3) := (blk_cell BK254.out 3).trans rfl; have hcz15_4 : w14.cell? ⟨gb254, 4, none⟩ = some (.int .i64 a0_4) := (blk_cell BK254.out 4).trans rfl; have hfz15_0 := blk_frozen BK254.out 0; have hfz15_1 := blk_frozen BK254.out 1; have hfz15_2 := blk_frozen BK254.out 2; have hfz15_3 := blk_frozen BK254.out 3; have hfz15_4 := blk_frozen BK254.out 4))
      go_ret
      exact ⟨by first | rfl | (simp [errW_none, errW_some] <;> rfl) | (simp [*, errW_none, errW_some] <;> rfl), by repeat (first | (with_reducible first | exact HB.out | apply below_alloc | apply pw_below_drewN | apply below_drew1 | refine below_set ?_ GE254.out) | exact HB.out)⟩
    rw [if_pos c8] at H
    have c8b0 : decide ((a0_3.size : Int) ≤ 13) = true := decide_eq_true c8
    have c8b1 : decide (a0_3.size ≤ 13) = true := decide_eq_true (by omega)
    clear c8
    by_cases c9 : ((Op.bytesLess a0_3.toList a0_2.toList) = true)
    · rw [if_pos c9] at H
      have c9b0 : (Op.bytesLess a0_3.toList a0_2.toList) = true := c9
      clear c9
      obtain rfl := Option.some.inj H
      go_enter Try.func41, Try.ntmps41
      go_wp2_with (first | ((with_reducible refine gate_dst (N := 1) rfl ?_); (try (refine gate_guard (by rfl) ?_; dsimp only)); refine box_event ?hg (N := 1) ?hd (cs := #[.int .i64 a0_0, .int .i64 a0_1, .string a0_2, .string a0_3, .int .i64 a0_4]) (t := 32) ?hr ?_; (case hd => rfl); (case hg => rfl); (case hr => first | (go_simp; done) | (go_simp; rfl)); intro gb254 hg w10 hbox hb; have n0_ := Aside0.mk (below_step (by repeat (first | (with_reducible first | exact HB.out | apply below_alloc | apply pw_below_drewN | apply below_drew1) | exact HB.out)) hb); have n1_ := Aside0.mk (hbox); have n2_ := Aside0.mk ((by rw [hg]; exact (below_size (by repeat (first | (with_reducible first | exact HB.out | apply below_alloc | apply pw_below_drewN | apply below_drew1) | exact HB.out))) : w.heap.size ≤ gb254)); have n3_ := Aside0.mk ((by rw [hg]; exact (below_size (by repeat (first | (with_reducible first | exact HB.out | apply below_alloc | apply pw_below_drewN | apply below_drew1) | exact HB.out))) : w.heap.size ≤ gb254)); clear HB; have HB := n0_; have BK254 := n1_; have GW254 := n2_; have GE254 := n3_; clear n0_ n1_ n2_ n3_; clear hb hbox hg; have hcz11_0 : w10.cell? ⟨gb254, 0, none⟩ = some (.int .i64 a0_0) := (blk_cell BK254.out 0).trans rfl; have hcz11_1 : w10.cell? ⟨gb254, 1, none⟩ = some (.int .i64 a0_1) := (blk_cell BK254.out 1).trans rfl; have hcz11_2 : w10.cell? ⟨gb254, 2, none⟩ = some (.string a0_2) := (blk_cell BK254.out 2).trans rfl; have hcz11_3 : w10.cell? ⟨gb254, 3, none⟩ = some (.string a0_3) := (blk_cell BK254.out 3).trans rfl; have hcz11_4 : w10.cell? ⟨gb254, 4, none⟩ = some (.int .i64 a0_4) := (blk_cell BK254.out 4).trans rfl; have hfz11_0 := blk_frozen BK254.out 0; have hfz11_1 := blk_frozen BK254.out 1; have hfz11_2 := blk_frozen BK254.out 2; have hfz11_3 := blk_frozen BK254.out 3; have hfz11_4 := blk_frozen BK254.out 4))
      go_ret
      exact ⟨by first | rfl | (simp [errW_none, errW_some] <;> rfl) | (simp [*, errW_none, errW_some] <;> rfl), by repeat (first | (with_reducible first | exact HB.out | apply below_alloc | apply pw_below_drewN | apply below_drew1 | refine below_set ?_ GE254.out) | exact HB.out)⟩
    rw [if_neg c9] at H
    have c9b0 : (Op.bytesLess a0_3.toList a0_2.toList) = false := by simpa using c9
    clear c9
    obtain rfl := Option.some.inj H
    go_enter Try.func41, Try.ntmps41
    go_wp2_with (first | ((with_reducible refine gate_dst (N := 1) rfl ?_); (try (refine gate_guard (by rfl) ?_; dsimp only)); refine box_event ?hg (N := 1) ?hd (cs := #[.int .i64 a0_0, .int .i64 a0_1, .string a0_2, .string a0_3, .int .i64 a0_4]) (t := 32) ?hr ?_; (case hd => rfl); (case hg => rfl); (case hr => first | (go_simp; done) | (go_simp; rfl)); intro gb254 hg w12 hbox hb; have n0_ := Aside0.mk (below_step (by repeat (first | (with_reducible first | exact HB.out | apply below_alloc | apply pw_below_drewN | apply below_drew1) | exact HB.out)) hb); have n1_ := Aside0.mk (hbox); have n2_ := Aside0.mk ((by rw [hg]; exact (below_size (by repeat (first | (with_reducible first | exact HB.out | apply below_alloc | apply pw_below_drewN | apply below_drew1) | exact HB.out))) : w.heap.size ≤ gb254)); have n3_ := Aside0.mk ((by rw [hg]; exact (below_size (by repeat (first | (with_reducible first | exact HB.out | apply below_alloc | apply pw_below_drewN | apply below_drew1) | exact HB.out))) : w.heap.size ≤ gb254)); clear HB; have HB := n0_; have BK254 := n1_; have GW254 := n2_; have GE254 := n3_; clear n0_ n1_ n2_ n3_; clear hb hbox hg; have hcz13_0 : w12.cell? ⟨gb254, 0, none⟩ = some (.int .i64 a0_0) := (blk_cell BK254.out 0).trans rfl; have hcz13_1 : w12.cell? ⟨gb254, 1, none⟩ = some (.int .i64 a0_1) := (blk_cell BK254.out 1).trans rfl; have hcz13_2 : w12.cell? ⟨gb254, 2, none⟩ = some (.string a0_2) := (blk_cell BK254.out 2).trans rfl; have hcz13_3 : w12.cell? ⟨gb254, 3, none⟩ = some (.string a0_3) := (blk_cell BK254.out 3).trans rfl; have hcz13_4 : w12.cell? ⟨gb254, 4, none⟩ = some (.int .i64 a0_4) := (blk_cell BK254.out 4).trans rfl; have hfz13_0 := blk_frozen BK254.out 0; have hfz13_1 := blk_frozen BK254.out 1; have hfz13_2 := blk_frozen BK254.out 2; have hfz13_3 := blk_frozen BK254.out 3; have hfz13_4 := blk_frozen BK254.out 4))
    go_ret
    exact ⟨by first | rfl | (simp [errW_none, errW_some] <;> rfl) | (simp [*, errW_none, errW_some] <;> rfl), by repeat (first | (with_reducible first | exact HB.out | apply below_alloc | apply pw_below_drewN | apply below_drew1 | refine below_set ?_ GE254.out) | exact HB.out)⟩
  rw [if_neg c4] at H
  have c4b0 : (a0_1 == 0) = false := beq_eq_false_iff_ne.mpr c4
  have c4b1 : (a0_1 != 0) = true := bne_iff_ne.mpr c4
  by_cases c22 : a0_1 = 1
  rotate_left
  · rw [if_neg c22] at H
    have c22b0 : (a0_1 == 1) = false := beq_eq_false_iff_ne.mpr c22
    have c22b1 : (a0_1 != 1) = true := bne_iff_ne.mpr c22
    obtain rfl := Option.some.inj H
    go_enter Try.func41, Try.ntmps41
    go_wp2_with (first | ((with_reducible refine gate_dst (N := 1) rfl ?_); (try (refine gate_guard (by rfl) ?_; dsimp only)); refine box_event ?hg (N := 1) ?hd (cs := #[.int .i64 a0_0, .int .i64 a0_1, .string a0_2, .string a0_3, .int .i64 a0_4]) (t := 32) ?hr ?_; (case hd => rfl); (case hg => rfl); (case hr => first | (go_simp; done) | (go_simp; rfl)); intro gb254 hg w40 hbox hb; have n0_ := Aside0.mk (below_step (by repeat (first | (with_reducible first | exact HB.out | apply below_alloc | apply pw_below_drewN | apply below_drew1) | exact HB.out)) hb); have n1_ := Aside0.mk (hbox); have n2_ := Aside0.mk ((by rw [hg]; exact (below_size (by repeat (first | (with_reducible first | exact HB.out | apply below_alloc | apply pw_below_drewN | apply below_drew1) | exact HB.out))) : w.heap.size ≤ gb254)); have n3_ := Aside0.mk ((by rw [hg]; exact (below_size (by repeat (first | (with_reducible first | exact HB.out | apply below_alloc | apply pw_below_drewN | apply below_drew1) | exact HB.out))) : w.heap.size ≤ gb254)); clear HB; have HB := n0_; have BK254 := n1_; have GW254 := n2_; have GE254 := n3_; clear n0_ n1_ n2_ n3_; clear hb hbox hg; have hcz41_0 : w40.cell? ⟨gb254, 0, none⟩ = some (.int .i64 a0_0) := (blk_cell BK254.out 0).trans rfl; have hcz41_1 : w40.cell? ⟨gb254, 1, none⟩ = some (.int .i64 a0_1) := (blk_cell BK254.out 1).trans rfl; have hcz41_2 : w40.cell? ⟨gb254, 2, none⟩ = some (.string a0_2) := (blk_cell BK254.out 2).trans rfl; have hcz41_3 : w40.cell? ⟨gb254, 3, none⟩ = some (.string a0_3) := (blk_cell BK254.out 3).trans rfl; have hcz41_4 : w40.cell? ⟨gb254, 4, none⟩ = some (.int .i64 a0_4) := (blk_cell BK254.out 4).trans rfl; have hfz41_0 := blk_frozen BK254.out 0; have hfz41_1 := blk_frozen BK254.out 1; have hfz41_2 := blk_frozen BK254.out 2; have hfz41_3 := blk_frozen BK254.out 3; have hfz41_4 := blk_frozen BK254.out 4))
    go_ret
    exact ⟨by first | rfl | (simp [errW_none, errW_some] <;> rfl) | (simp [*, errW_none, errW_some] <;> rfl), by repeat (first | (with_reducible first | exact HB.out | apply below_alloc | apply pw_below_drewN | apply below_drew1 | refine below_set ?_ GE254.out) | exact HB.out)⟩
  rw [if_pos c22] at H
  have c22b0 : (a0_1 == 1) = true := beq_iff_eq.mpr c22
  have c22b1 : (a0_1 != 1) = false := bne_eq_false_iff_eq.mpr c22
  clear c22
  by_cases c23 : (a0_2.size : Int) ≥ 1
  rotate_left
  · rw [if_neg c23] at H
    have c23b0 : decide (1 ≤ (a0_2.size : Int)) = false := decide_eq_false c23
    have c23b1 : decide (1 ≤ a0_2.size) = false := decide_eq_false (by omega)
    clear c23
    obtain rfl := Option.some.inj H
    go_enter Try.func41, Try.ntmps41
    go_wp2_with (first | ((with_reducible refine gate_dst (N := 1) rfl ?_); (try (refine gate_guard (by rfl) ?_; dsimp only)); refine box_event ?hg (N := 1) ?hd (cs := #[.int .i64 a0_0, .int .i64 a0_1, .string a0_2, .string a0_3, .int .i64 a0_4]) (t := 32) ?hr ?_; (case hd => rfl); (case hg => rfl); (case hr => first | (go_simp; done) | (go_simp; rfl)); intro gb254 hg w38 hbox hb; have n0_ := Aside0.mk (below_step (by repeat (first | (with_reducible first | exact HB.out | apply below_alloc | apply pw_below_drewN | apply below_drew1) | exact HB.out)) hb); have n1_ := Aside0.mk (hbox); have n2_ := Aside0.mk ((by rw [hg]; exact (below_size (by repeat (first | (with_reducible first | exact HB.out | apply below_alloc | apply pw_below_drewN | apply below_drew1) | exact HB.out))) : w.heap.size ≤ gb254)); have n3_ := Aside0.mk ((by rw [hg]; exact (below_size (by repeat (first | (with_reducible first | exact HB.out | apply below_alloc | apply pw_below_drewN | apply below_drew1) | exact HB.out))) : w.heap.size ≤ gb254)); clear HB; have HB := n0_; have BK254 := n1_; have GW254 := n2_; have GE254 := n3_; clear n0_ n1_ n2_ n3_; clear hb hbox hg; have hcz39_0 : w38.cell? ⟨gb254, 0, none⟩ = some (.int .i64 a0_0) := (blk_cell BK254.out 0).trans rfl; have hcz39_1 : w38.cell? ⟨gb254, 1, none⟩ = some (.int .i64 a0_1) := (blk_cell BK254.out 1).trans rfl; have hcz39_2 : w38.cell? ⟨gb254, 2, none⟩ = some (.string a0_2) := (blk_cell BK254.out 2).trans rfl; have hcz39_3 : w38.cell? ⟨gb254, 3, none⟩ = some (.string a0_3) := (blk_cell BK254.out 3).trans rfl; have hcz39_4 : w38.cell? ⟨gb254, 4, none⟩ = some (.int .i64 a0_4) := (blk_cell BK254.out 4).trans rfl; have hfz39_0 := blk_frozen BK254.out 0; have hfz39_1 := blk_frozen BK254.out 1; have hfz39_2 := blk_frozen BK254.out 2; have hfz39_3 := blk_frozen BK254.out 3; have hfz39_4 := blk_frozen BK254.out 4))
    go_ret
    exact ⟨by first | rfl | (simp [errW_none, errW_some] <;> rfl) | (simp [*, errW_none, errW_some] <;> rfl), by repeat (first | (with_reducible first | exact HB.out | apply below_alloc | apply pw_below_drewN | apply below_drew1 | refine below_set ?_ GE254.out) | exact HB.out)⟩
  rw [if_pos c23] at H
  have c23b0 : decide (1 ≤ (a0_2.size : Int)) = true := decide_eq_true c23
  have c23b1 : decide (1 ≤ a0_2.size) = true := decide_eq_true (by omega)
  clear c23
  by_cases c24 : (a0_2.size : Int) ≤ 13
  rotate_left
  · rw [if_neg c24] at H
    have c24b0 : decide ((a0_2.size : Int) ≤ 13) = false := decide_eq_false c24
    have c24b1 : decide (a0_2.size ≤ 13) = false := decide_eq_false (by omega)
    clear c24
    obtain rfl := Option.some.inj H
    go_enter Try.func41, Try.ntmps41
    go_wp2_with (first | ((with_reducible refine gate_dst (N := 1) rfl ?_); (try (refine gate_guard (by rfl) ?_; dsimp only)); refine box_event ?hg (N := 1) ?hd (cs := #[.int .i64 a0_0, .int .i64 a0_1, .string a0_2, .string a0_3, .int .i64 a0_4]) (t := 32) ?hr ?_; (case hd => rfl); (case hg => rfl); (case hr => first | (go_simp; done) | (go_simp; rfl)); intro gb254 hg w36 hbox hb; have n0_ := Aside0.mk (below_step (by repeat (first | (with_reducible first | exact HB.out | apply below_alloc | apply pw_below_drewN | apply below_drew1) | exact HB.out)) hb); have n1_ := Aside0.mk (hbox); have n2_ := Aside0.mk ((by rw [hg]; exact (below_size (by repeat (first | (with_reducible first | exact HB.out | apply below_alloc | apply pw_below_drewN | apply below_drew1) | exact HB.out))) : w.heap.size ≤ gb254)); have n3_ := Aside0.mk ((by rw [hg]; exact (below_size (by repeat (first | (with_reducible first | exact HB.out | apply below_alloc | apply pw_below_drewN | apply below_drew1) | exact HB.out))) : w.heap.size ≤ gb254)); clear HB; have HB := n0_; have BK254 := n1_; have GW254 := n2_; have GE254 := n3_; clear n0_ n1_ n2_ n3_; clear hb hbox hg; have hcz37_0 : w36.cell? ⟨gb254, 0, none⟩ = some (.int .i64 a0_0) := (blk_cell BK254.out 0).trans rfl; have hcz37_1 : w36.cell? ⟨gb254, 1, none⟩ = some (.int .i64 a0_1) := (blk_cell BK254.out 1).trans rfl; have hcz37_2 : w36.cell? ⟨gb254, 2, none⟩ = some (.string a0_2) := (blk_cell BK254.out 2).trans rfl; have hcz37_3 : w36.cell? ⟨gb254, 3, none⟩ = some (.string a0_3) := (blk_cell BK254.out 3).trans rfl; have hcz37_4 : w36.cell? ⟨gb254, 4, none⟩ = some (.int .i64 a0_4) := (blk_cell BK254.out 4).trans rfl; have hfz37_0 := blk_frozen BK254.out 0; have hfz37_1 := blk_frozen BK254.out 1; have hfz37_2 := blk_frozen BK254.out 2; have hfz37_3 := blk_frozen BK254.out 3; have hfz37_4 := blk_frozen BK254.out 4))
    go_ret
    exact ⟨by first | rfl | (simp [errW_none, errW_some] <;> rfl) | (simp [*, errW_none, errW_some] <;> rfl), by repeat (first | (with_reducible first | exact HB.out | apply below_alloc | apply pw_below_drewN | apply below_drew1 | refine below_set ?_ GE254.out) | exact HB.out)⟩
  rw [if_pos c24] at H
  have c24b0 : decide ((a0_2.size : Int) ≤ 13) = true := decide_eq_true c24
  have c24b1 : decide (a0_2.size ≤ 13) = true := decide_eq_true (by omega)
  clear c24
  by_cases c25 : (a0_3.size : Int) ≥ 1
  rotate_left
  · rw [if_neg c25] at H
    have c25b0 : decide (1 ≤ (a0_3.size : Int)) = false := decide_eq_false c25
    have c25b1 : decide (1 ≤ a0_3.size) = false := decide_eq_false (by omega)
    clear c25
    obtain rfl := Option.some.inj H
    go_enter Try.func41, Try.ntmps41
    go_wp2_with (first | ((with_reducible refine gate_dst (N := 1) rfl ?_); (try (refine gate_guard (by rfl) ?_; dsimp only)); refine box_event ?hg (N := 1) ?hd (cs := #[.int .i64 a0_0, .int .i64 a0_1, .string a0_2, .string a0_3, .int .i64 a0_4]) (t := 32) ?hr ?_; (case hd => rfl); (case hg => rfl); (case hr => first | (go_simp; done) | (go_simp; rfl)); intro gb254 hg w34 hbox hb; have n0_ := Aside0.mk (below_step (by repeat (first | (with_reducible first | exact HB.out | apply below_alloc | apply pw_below_drewN | apply below_drew1) | exact HB.out)) hb); have n1_ := Aside0.mk (hbox); have n2_ := Aside0.mk ((by rw [hg]; exact (below_size (by repeat (first | (with_reducible first | exact HB.out | apply below_alloc | apply pw_below_drewN | apply below_drew1) | exact HB.out))) : w.heap.size ≤ gb254)); have n3_ := Aside0.mk ((by rw [hg]; exact (below_size (by repeat (first | (with_reducible first | exact HB.out | apply below_alloc | apply pw_below_drewN | apply below_drew1) | exact HB.out))) : w.heap.size ≤ gb254)); clear HB; have HB := n0_; have BK254 := n1_; have GW254 := n2_; have GE254 := n3_; clear n0_ n1_ n2_ n3_; clear hb hbox hg; have hcz35_0 : w34.cell? ⟨gb254, 0, none⟩ = some (.int .i64 a0_0) := (blk_cell BK254.out 0).trans rfl; have hcz35_1 : w34.cell? ⟨gb254, 1, none⟩ = some (.int .i64 a0_1) := (blk_cell BK254.out 1).trans rfl; have hcz35_2 : w34.cell? ⟨gb254, 2, none⟩ = some (.string a0_2) := (blk_cell BK254.out 2).trans rfl; have hcz35_3 : w34.cell? ⟨gb254, 3, none⟩ = some (.string a0_3) := (blk_cell BK254.out 3).trans rfl; have hcz35_4 : w34.cell? ⟨gb254, 4, none⟩ = some (.int .i64 a0_4) := (blk_cell BK254.out 4).trans rfl; have hfz35_0 := blk_frozen BK254.out 0; have hfz35_1 := blk_frozen BK254.out 1; have hfz35_2 := blk_frozen BK254.out 2; have hfz35_3 := blk_frozen BK254.out 3; have hfz35_4 := blk_frozen BK254.out 4))
    go_ret
    exact ⟨by first | rfl | (simp [errW_none, errW_some] <;> rfl) | (simp [*, errW_none, errW_some] <;> rfl), by repeat (first | (with_reducible first | exact HB.out | apply below_alloc | apply pw_below_drewN | apply below_drew1 | refine below_set ?_ GE254.out) | exact HB.out)⟩
  rw [if_pos c25] at H
  have c25b0 : decide (1 ≤ (a0_3.size : Int)) = true := decide_eq_true c25
  have c25b1 : decide (1 ≤ a0_3.size) = true := decide_eq_true (by omega)
  clear c25
  by_cases c26 : (a0_3.size : Int) ≤ 13
  rotate_left
  · rw [if_neg c26] at H
    have c26b0 : decide ((a0_3.size : Int) ≤ 13) = false := decide_eq_false c26
    have c26b1 : decide (a0_3.size ≤ 13) = false := decide_eq_false (by omega)
    clear c26
    obtain rfl := Option.some.inj H
    go_enter Try.func41, Try.ntmps41
    go_wp2_with (first | ((with_reducible refine gate_dst (N := 1) rfl ?_); (try (refine gate_guard (by rfl) ?_; dsimp only)); refine box_event ?hg (N := 1) ?hd (cs := #[.int .i64 a0_0, .int .i64 a0_1, .string a0_2, .string a0_3, .int .i64 a0_4]) (t := 32) ?hr ?_; (case hd => rfl); (case hg => rfl); (case hr => first | (go_simp; done) | (go_simp; rfl)); intro gb254 hg w32 hbox hb; have n0_ := Aside0.mk (below_step (by repeat (first | (with_reducible first | exact HB.out | apply below_alloc | apply pw_below_drewN | apply below_drew1) | exact HB.out)) hb); have n1_ := Aside0.mk (hbox); have n2_ := Aside0.mk ((by rw [hg]; exact (below_size (by repeat (first | (with_reducible first | exact HB.out | apply below_alloc | apply pw_below_drewN | apply below_drew1) | exact HB.out))) : w.heap.size ≤ gb254)); have n3_ := Aside0.mk ((by rw [hg]; exact (below_size (by repeat (first | (with_reducible first | exact HB.out | apply below_alloc | apply pw_below_drewN | apply below_drew1) | exact HB.out))) : w.heap.size ≤ gb254)); clear HB; have HB := n0_; have BK254 := n1_; have GW254 := n2_; have GE254 := n3_; clear n0_ n1_ n2_ n3_; clear hb hbox hg; have hcz33_0 : w32.cell? ⟨gb254, 0, none⟩ = some (.int .i64 a0_0) := (blk_cell BK254.out 0).trans rfl; have hcz33_1 : w32.cell? ⟨gb254, 1, none⟩ = some (.int .i64 a0_1) := (blk_cell BK254.out 1).trans rfl; have hcz33_2 : w32.cell? ⟨gb254, 2, none⟩ = some (.string a0_2) := (blk_cell BK254.out 2).trans rfl; have hcz33_3 : w32.cell? ⟨gb254, 3, none⟩ = some (.string a0_3) := (blk_cell BK254.out 3).trans rfl; have hcz33_4 : w32.cell? ⟨gb254, 4, none⟩ = some (.int .i64 a0_4) := (blk_cell BK254.out 4).trans rfl; have hfz33_0 := blk_frozen BK254.out 0; have hfz33_1 := blk_frozen BK254.out 1; have hfz33_2 := blk_frozen BK254.out 2; have hfz33_3 := blk_frozen BK254.out 3; have hfz33_4 := blk_frozen BK254.out 4))
    go_ret
    exact ⟨by first | rfl | (simp [errW_none, errW_some] <;> rfl) | (simp [*, errW_none, errW_some] <;> rfl), by repeat (first | (with_reducible first | exact HB.out | apply below_alloc | apply pw_below_drewN | apply below_drew1 | refine below_set ?_ GE254.out) | exact HB.out)⟩
  rw [if_pos c26] at H
  have c26b0 : decide ((a0_3.size : Int) ≤ 13) = true := decide_eq_true c26
  have c26b1 : decide (a0_3.size ≤ 13) = true := decide_eq_true (by omega)
  clear c26
  by_cases c27 : ((Op.bytesLess a0_3.toList a0_2.toList) = true)
  · rw [if_pos c27] at H
    have c27b0 : (Op.bytesLess a0_3.toList a0_2.toList) = true := c27
    clear c27
    obtain rfl := Option.some.inj H
    go_enter Try.func41, Try.ntmps41
    go_wp2_with (first | ((with_reducible refine gate_dst (N := 1) rfl ?_); (try (refine gate_guard (by rfl) ?_; dsimp only)); refine box_event ?hg (N := 1) ?hd (cs := #[.int .i64 a0_0, .int .i64 a0_1, .string a0_2, .string a0_3, .int .i64 a0_4]) (t := 32) ?hr ?_; (case hd => rfl); (case hg => rfl); (case hr => first | (go_simp; done) | (go_simp; rfl)); intro gb254 hg w28 hbox hb; have n0_ := Aside0.mk (below_step (by repeat (first | (with_reducible first | exact HB.out | apply below_alloc | apply pw_below_drewN | apply below_drew1) | exact HB.out)) hb); have n1_ := Aside0.mk (hbox); have n2_ := Aside0.mk ((by rw [hg]; exact (below_size (by repeat (first | (with_reducible first | exact HB.out | apply below_alloc | apply pw_below_drewN | apply below_drew1) | exact HB.out))) : w.heap.size ≤ gb254)); have n3_ := Aside0.mk ((by rw [hg]; exact (below_size (by repeat (first | (with_reducible first | exact HB.out | apply below_alloc | apply pw_below_drewN | apply below_drew1) | exact HB.out))) : w.heap.size ≤ gb254)); clear HB; have HB := n0_; have BK254 := n1_; have GW254 := n2_; have GE254 := n3_; clear n0_ n1_ n2_ n3_; clear hb hbox hg; have hcz29_0 : w28.cell? ⟨gb254, 0, none⟩ = some (.int .i64 a0_0) := (blk_cell BK254.out 0).trans rfl; have hcz29_1 : w28.cell? ⟨gb254, 1, none⟩ = some (.int .i64 a0_1) := (blk_cell BK254.out 1).trans rfl; have hcz29_2 : w28.cell? ⟨gb254, 2, none⟩ = some (.string a0_2) := (blk_cell BK254.out 2).trans rfl; have hcz29_3 : w28.cell? ⟨gb254, 3, none⟩ = some (.string a0_3) := (blk_cell BK254.out 3).trans rfl; have hcz29_4 : w28.cell? ⟨gb254, 4, none⟩ = some (.int .i64 a0_4) := (blk_cell BK254.out 4).trans rfl; have hfz29_0 := blk_frozen BK254.out 0; have hfz29_1 := blk_frozen BK254.out 1; have hfz29_2 := blk_frozen BK254.out 2; have hfz29_3 := blk_frozen BK254.out 3; have hfz29_4 := blk_frozen BK254.out 4))
    go_ret
    exact ⟨by first | rfl | (simp [errW_none, errW_some] <;> rfl) | (simp [*, errW_none, errW_some] <;> rfl), by repeat (first | (with_reducible first | exact HB.out | apply below_alloc | apply pw_below_drewN | apply below_drew1 | refine below_set ?_ GE254.out) | exact HB.out)⟩
  rw [if_neg c27] at H
  have c27b0 : (Op.bytesLess a0_3.toList a0_2.toList) = false := by simpa using c27
  clear c27
  obtain rfl := Option.some.inj H
  go_enter Try.func41, Try.ntmps41
  go_wp2_with (first | ((with_reducible refine gate_dst (N := 1) rfl ?_); (try (refine gate_guard (by rfl) ?_; dsimp only)); refine box_event ?hg (N := 1) ?hd (cs := #[.int .i64 a0_0, .int .i64 a0_1, .string a0_2, .string a0_3, .int .i64 a0_4]) (t := 32) ?hr ?_; (case hd => rfl); (case hg => rfl); (case hr => first | (go_simp; done) | (go_simp; rfl)); intro gb254 hg w30 hbox hb; have n0_ := Aside0.mk (below_step (by repeat (first | (with_reducible first | exact HB.out | apply below_alloc | apply pw_below_drewN | apply below_drew1) | exact HB.out)) hb); have n1_ := Aside0.mk (hbox); have n2_ := Aside0.mk ((by rw [hg]; exact (below_size (by repeat (first | (with_reducible first | exact HB.out | apply below_alloc | apply pw_below_drewN | apply below_drew1) | exact HB.out))) : w.heap.size ≤ gb254)); have n3_ := Aside0.mk ((by rw [hg]; exact (below_size (by repeat (first | (with_reducible first | exact HB.out | apply below_alloc | apply pw_below_drewN | apply below_drew1) | exact HB.out))) : w.heap.size ≤ gb254)); clear HB; have HB := n0_; have BK254 := n1_; have GW254 := n2_; have GE254 := n3_; clear n0_ n1_ n2_ n3_; clear hb hbox hg; have hcz31_0 : w30.cell? ⟨gb254, 0, none⟩ = some (.int .i64 a0_0) := (blk_cell BK254.out 0).trans rfl; have hcz31_1 : w30.cell? ⟨gb254, 1, none⟩ = some (.int .i64 a0_1) := (blk_cell BK254.out 1).trans rfl; have hcz31_2 : w30.cell? ⟨gb254, 2, none⟩ = some (.string a0_2) := (blk_cell BK254.out 2).trans rfl; have hcz31_3 : w30.cell? ⟨gb254, 3, none⟩ = some (.string a0_3) := (blk_cell BK254.out 3).trans rfl; have hcz31_4 : w30.cell? ⟨gb254, 4, none⟩ = some (.int .i64 a0_4) := (blk_cell BK254.out 4).trans rfl; have hfz31_0 := blk_frozen BK254.out 0; have hfz31_1 := blk_frozen BK254.out 1; have hfz31_2 := blk_frozen BK254.out 2; have hfz31_3 := blk_frozen BK254.out 3; have hfz31_4 := blk_frozen BK254.out 4))
  go_ret
  exact ⟨by first | rfl | (simp [errW_none, errW_some] <;> rfl) | (simp [*, errW_none, errW_some] <;> rfl), by repeat (first | (with_reducible first | exact HB.out | apply below_alloc | apply pw_below_drewN | apply below_drew1 | refine below_set ?_ GE254.out) | exact HB.out)⟩

end Go.Proofs.Ytmbedgopceigaaa.P
