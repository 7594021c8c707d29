-- Printed by a changed copy of the kit's printer (wip/tools/ext.py); labels and more
import Derived.Test.YtdkdnfgpgedglaaQShort
import Derived.Test.YtdkdnfgpgedglaaPx0
namespace Go.Proofs.Ytdkdnfgpgedglaa.P
open Go.RowKit Go.Proofs.YtdkdnfgpgedglaaW.PrintWords Go.Proofs.YtdkdnfgpgedglaaW.PrintLast Go.Proofs.YtdkdnfgpgedglaaW.PrintMore
attribute [local go_sem] max2_int min2_int max_two min_two max_three min_three max_four min_four   -- for this text's walks alone
attribute [local go_sem high] string_leq string_geq string_gtr
set_option linter.unusedVariables false
set_option linter.unusedSimpArgs false

abbrev mkPx2_0 : Array Bool := #[false, false, false, false, false, false, false, false, false, false, false, false, false]
abbrev mkPx2_1 : Array Bool := #[true, false, false, false, false, false, false, false, false, false, false, false, false]
abbrev mkPx2_2 : Array Bool := #[true, false, true, false, false, false, false, false, false, false, false, false, false]
abbrev mkPx2_3 : Array Bool := #[true, false, true, false, false, true, false, false, false, false, false, false, false]
abbrev mkPx2_4 : Array Bool := #[true, false, true, false, false, true, false, true, false, false, false, false, false]
abbrev mkPx2_5 : Array Bool := #[true, true, true, false, false, true, false, true, false, false, false, false, false]
abbrev mkPx2_6 : Array Bool := #[true, true, true, true, false, true, false, true, false, false, false, false, false]
abbrev mkPx2_7 : Array Bool := #[true, true, true, true, false, true, true, true, false, false, false, false, false]
abbrev mkPx2_8 : Array Bool := #[true, true, true, true, false, true, true, true, true, false, false, false, false]
abbrev mkPx2_9 : Array Bool := #[true, true, true, true, true, true, true, true, true, false, false, false, false]
abbrev mkPx2_10 : Array Bool := #[true, true, true, true, true, true, true, true, true, true, false, false, false]
abbrev mkPx2_11 : Array Bool := #[true, true, true, true, true, true, true, true, true, true, true, false, false]
abbrev mkPx2_12 : Array Bool := #[true, true, true, true, true, true, true, true, true, true, true, true, false]
abbrev mkPx2_13 : Array Bool := #[true, true, true, true, true, true, true, true, true, true, true, true, true]
/-! ### cmp_Or_int: function 38 -/
def cmp_Or_int.l0 : Nat → Int → List Int → Int → Int → Option (Int)
  | 0, _, _, _, _ => none
  | k + 1, x3, x6, x7, x8 => if x8 < x7 then (if 0 ≤ x8 then (if x8 < (x6.length : Int) then (if (rd x6 x8) = x3 then (cmp_Or_int.l0 k x3 x6 x7 (wrap64 (x8 + 1))) else (some (rd x6 x8))) else (none)) else (none)) else (some x3)
def cmp_Or_int.f (k : Nat) (l0 : List Int) : Option (Int) := cmp_Or_int.l0 k 0 l0 (l0.length : Int) 0
theorem cmp_Or_int.mono_l : ∀ k, (∀ y0 y1 y2 y3, LeO (cmp_Or_int.l0 k y0 y1 y2 y3) (cmp_Or_int.l0 (k + 1) y0 y1 y2 y3))
  | 0 => fun _ _ _ _ r h => by simp [cmp_Or_int.l0] at h
  | k + 1 => by
    have ih0 := cmp_Or_int.mono_l k
    · intro y0 y1 y2 y3
      unfold cmp_Or_int.l0
      repeat' first
      | (with_reducible exact ih0 _ _ _ _)
      | (with_reducible exact LeO.refl _)
      | (with_reducible exact LeO.none _)
      | (with_reducible refine LeO.ite ?_ ?_)
      | (with_reducible refine LeO.bind ?_ (fun _ => ?_))
      | exact ih0 _ _ _ _
      | exact LeO.none _
      | refine LeO.ite ?_ ?_
      | refine LeO.bind ?_ (fun _ => ?_)
theorem cmp_Or_int.mono : ∀ a0 k, LeO (cmp_Or_int.f k a0) (cmp_Or_int.f (k + 1) a0) := by
  intro a0 k
  have ih0 := cmp_Or_int.mono_l k
  unfold cmp_Or_int.f
  repeat' first
      | (with_reducible exact ih0 _ _ _ _)
      | (with_reducible exact LeO.refl _)
      | (with_reducible exact LeO.none _)
      | (with_reducible refine LeO.ite ?_ ?_)
      | (with_reducible refine LeO.bind ?_ (fun _ => ?_))
      | exact ih0 _ _ _ _
      | exact LeO.none _
      | refine LeO.ite ?_ ?_
      | refine LeO.bind ?_ (fun _ => ?_)
set_option maxHeartbeats 8000000 in
set_option maxRecDepth 100000 in
theorem cmp_Or_int.calls (k : Nat) (A0 : Option Addr) (c0 : Nat) (l0 : List Int) (r : Int) (w : World) (hr0 : Kd.C (Kd.int .i64) w A0 l0.length l0) (hc0 : l0.length ≤ c0) (h : cmp_Or_int.f k l0 = some r) :
    Calls Try.prog 38 #[.slice A0 l0.length c0] w fun e w' => e = .returned (.int .i64 r) ∧ Drawn0 w w' := by
  have HR0 := Aside0.mk hr0
  have HC0 := Aside0.mk hc0
  clear hr0 hc0
  have H : (cmp_Or_int.l0 k 0 l0 (l0.length : Int) 0) = some r := h
  clear h
  have H' := Aside0.mk H
  clear H
  go_enter Try.func38, Try.ntmps38
  go_wp2
  go_loopg [8] k (fun kq v8 w' => ∃ (x8_1 : Int), v8 = .int .i64 x8_1 ∧ Aside0 (cmp_Or_int.l0 kq 0 l0 (l0.length : Int) x8_1 = some r) ∧ Aside0 (kq ≤ k) ∧ Drawn0 w w')
  case atStart => exact ⟨(0), (by first | rfl | (simp; done) | (simp [*]; done)), H', ⟨Nat.le_refl _⟩, by repeat (first | exact Drawn0.refl _ | apply Drawn0.step)⟩
  clear H'
  obtain ⟨x8_1, rfl, HA, HK1, ⟨m1, rfl⟩⟩ := hrel
  cases gk with
  | zero => exact absurd HA.out (by simp [cmp_Or_int.l0])
  | succ k1 => ?_
  have H := HA.out
  clear HA
  simp only [cmp_Or_int.l0] at H
  by_cases c2 : x8_1 < (l0.length : Int)
  rotate_left
  · rw [if_neg c2] at H
    have c2b0 : decide (x8_1 < (l0.length : Int)) = false := decide_eq_false c2
    clear c2
    obtain rfl := Option.some.inj H
    go_wp2
    go_ret
    exact ⟨by first | rfl | (simp; done) | (simp [*]; done), by repeat (first | exact Drawn0.refl _ | apply Drawn0.step)⟩
  rw [if_pos c2] at H
  have c2b0 : decide (x8_1 < (l0.length : Int)) = true := decide_eq_true c2
  clear c2
  by_cases c3 : 0 ≤ x8_1
  rotate_left
  · rw [if_neg c3] at H
    exact absurd H (by simp)
  rw [if_pos c3] at H
  have c3b0 : decide (0 ≤ x8_1) = true := decide_eq_true c3
  clear c3
  by_cases c4 : x8_1 < (l0.length : Int)
  rotate_left
  · rw [if_neg c4] at H
    exact absurd H (by simp)
  rw [if_pos c4] at H
  have c4b0 : decide (x8_1 < (l0.length : Int)) = true := decide_eq_true c4
  clear c4
  by_cases c5 : (rd l0 x8_1) = 0
  rotate_left
  · rw [if_neg c5] at H
    have c5b0 : ((rd l0 x8_1) == 0) = false := beq_eq_false_iff_ne.mpr c5
    have c5b1 : ((rd l0 x8_1) != 0) = true := bne_iff_ne.mpr c5
    obtain rfl := Option.some.inj H
    have p101 : 0 ≤ (x8_1 : Int) := of_decide_eq_true (by assumption)
    have q101 : x8_1 < (l0.length : Int) := of_decide_eq_true (by assumption)
    obtain ⟨ad101, e101, hx101_0⟩ := Kd.at_int HR0.out x8_1 p101 q101
    cases e101
    replace p101 := eq_true p101
    replace q101 := eq_true q101
    go_wp2
    go_ret
    exact ⟨by first | rfl | (simp; done) | (simp [*]; done), by repeat (first | exact Drawn0.refl _ | apply Drawn0.step)⟩
  rw [if_pos c5] at H
  have c5b0 : ((rd l0 x8_1) == 0) = true := beq_iff_eq.mpr c5
  have c5b1 : ((rd l0 x8_1) != 0) = false := bne_eq_false_iff_eq.mpr c5
  clear c5
  have H' := Aside0.mk H
  clear H
  have p101 : 0 ≤ (x8_1 : Int) := of_decide_eq_true (by assumption)
  have q101 : x8_1 < (l0.length : Int) := of_decide_eq_true (by assumption)
  obtain ⟨ad101, e101, hx101_0⟩ := Kd.at_int HR0.out x8_1 p101 q101
  cases e101
  replace p101 := eq_true p101
  replace q101 := eq_true q101
  go_wp2
  go_roundg k1
  case measure => have := HK1.out; omega
  case rel => exact ⟨(wrap64 (x8_1 + 1)), (by first | rfl | (simp; done) | (simp [*]; done)), H', ⟨by have := HK1.out; omega⟩, by repeat (first | exact Drawn0.refl _ | apply Drawn0.step)⟩

-- NOT PRINTED: function 44 (bytealg_abigen_runtime_cmpstring)

/-! ### bytealg_CompareString: function 42 -/
-- by hand
def bytealg_CompareString.f (a0 : ByteArray) (a1 : ByteArray) : Option (Int) := some (Go.Lib.compareBytes a0.data.toList a1.data.toList)
set_option maxHeartbeats 1000000 in
set_option maxRecDepth 100000 in
theorem bytealg_CompareString.calls (a0 : ByteArray) (a1 : ByteArray) (r : Int) (w : World) (h : bytealg_CompareString.f a0 a1 = some r) :
    Calls Try.prog 42 #[.string a0, .string a1] w fun e w' => e = .returned (.int .i64 r) ∧ Drawn0 w w' := by
  obtain rfl : Go.Lib.compareBytes a0.data.toList a1.data.toList = r := Option.some.inj h
  clear h
  go_enter Try.func42, Try.ntmps42
  go_wp2
  rw [run_callFunc_extern Try.func44 (by kernel_rfl) (by kernel_rfl) (by kernel_rfl) (e := Extern.BytealgCompare.compare) (by kernel_rfl), Lib.run_compareString]
  simp only [Result.andThen]
  rw [Oper.upon_value]
  go_wp2
  go_ret
  exact ⟨rfl, Drawn0.refl _⟩

/-! ### strings_Compare: function 39 -/
def strings_Compare.f (a0 : ByteArray) (a1 : ByteArray) : Option (Int) := (bytealg_CompareString.f a0 a1).bind fun t102 => (some t102)
set_option maxHeartbeats 8000000 in
set_option maxRecDepth 100000 in
theorem strings_Compare.calls (a0 : ByteArray) (a1 : ByteArray) (r : Int) (w : World) (h : strings_Compare.f a0 a1 = some r) :
    Calls Try.prog 39 #[.string a0, .string a1] w fun e w' => e = .returned (.int .i64 r) ∧ Drawn0 w w' := by
  have H : ((bytealg_CompareString.f a0 a1).bind fun t102 => (some t102)) = some r := h
  clear h
  replace H := Option.bind_eq_some_iff.mp H
  obtain ⟨t102, A30, H⟩ := H
  try dsimp only at H
  have A3 := Aside0.mk A30
  clear A30
  obtain rfl := Option.some.inj H
  go_enter Try.func39, Try.ntmps39
  go_wp2_with (first | ((with_reducible refine gate_callee (f := 42) rfl ?_); refine goesL_ (some 7) rfl rfl Try.func42 (by kernel_rfl) rfl #[.string a0, .string a1] rfl (by (try simp only [maps_]); first | done | rfl) ?_; (with_reducible refine (bytealg_CompareString.calls a0 a1 t102 _ A3.out).mono ?_); rintro e w' ⟨rfl, ⟨nd, rfl⟩⟩; refine ⟨_, rfl, ?_⟩))
  go_ret
  exact ⟨by first | rfl | (simp; done) | (simp [*]; done), by repeat (first | exact Drawn0.refl _ | apply Drawn0.step)⟩

/-! ### cmp_isNaN_int: function 43 -/
def cmp_isNaN_int.f (a0 : Int) : Option (Bool) := some (a0 != a0)
set_option maxHeartbeats 8000000 in
set_option maxRecDepth 100000 in
theorem cmp_isNaN_int.calls (a0 : Int) (r : Bool) (w : World) (h : cmp_isNaN_int.f a0 = some r) :
    Calls Try.prog 43 #[.int .i64 a0] w fun e w' => e = .returned (.bool r) ∧ Drawn0 w w' := by
  have H : (some (a0 != a0)) = some r := h
  clear h
  obtain rfl := Option.some.inj H
  go_enter Try.func43, Try.ntmps43
  go_wp2
  go_ret
  exact ⟨by first | rfl | (simp; done) | (simp [*]; done), by repeat (first | exact Drawn0.refl _ | apply Drawn0.step)⟩

/-! ### cmp_Compare_int: function 40 -/
def cmp_Compare_int.f (a0 : Int) (a1 : Int) : Option (Int) := (cmp_isNaN_int.f a0).bind fun t103 => ((cmp_isNaN_int.f a1).bind fun t104 => (if t103 = true then (if t104 = true then (some 0) else (some (-1))) else (if t104 = true then (some 1) else (if a0 < a1 then (some (-1)) else (if a0 > a1 then (some 1) else (some 0))))))
set_option maxHeartbeats 8000000 in
set_option maxRecDepth 100000 in
theorem cmp_Compare_int.calls (a0 : Int) (a1 : Int) (r : Int) (w : World) (h : cmp_Compare_int.f a0 a1 = some r) :
    Calls Try.prog 40 #[.int .i64 a0, .int .i64 a1] w fun e w' => e = .returned (.int .i64 r) ∧ Drawn0 w w' := by
  have H : ((cmp_isNaN_int.f a0).bind fun t103 => ((cmp_isNaN_int.f a1).bind fun t104 => (if t103 = true then (if t104 = true then (some 0) else (some (-1))) else (if t104 = true then (some 1) else (if a0 < a1 then (some (-1)) else (if a0 > a1 then (some 1) else (some 0))))))) = some r := h
  clear h
  replace H := Option.bind_eq_some_iff.mp H
  obtain ⟨t103, A30, H⟩ := H
  try dsimp only at H
  have A3 := Aside0.mk A30
  clear A30
  replace H := Option.bind_eq_some_iff.mp H
  obtain ⟨t104, A40, H⟩ := H
  try dsimp only at H
  have A4 := Aside0.mk A40
  clear A40
  by_cases c5 : t103 = true
  · subst c5
    have H1 : (if t104 = true then (some 0) else (some (-1))) = some r := by rw [if_pos rfl] at H; exact H
    clear H
    have H := H1
    clear H1
    by_cases c6 : t104 = true
    · subst c6
      have H1 : (some 0) = some r := by rw [if_pos rfl] at H; exact H
      clear H
      have H := H1
      clear H1
      obtain rfl := Option.some.inj H
      go_enter Try.func40, Try.ntmps40
      go_wp2_with (first | ((with_reducible refine gate_callee (f := 43) rfl ?_); refine goesL_ (some 8) rfl rfl Try.func43 (by kernel_rfl) rfl #[.int .i64 a0] rfl (by (try simp only [maps_]); first | done | rfl) ?_; (with_reducible refine (cmp_isNaN_int.calls a0 true _ A3.out).mono ?_); rintro e w' ⟨rfl, ⟨nd, rfl⟩⟩; refine ⟨_, rfl, ?_⟩) | ((with_reducible refine gate_callee (f := 43) rfl ?_); refine goesL_ (some 10) rfl rfl Try.func43 (by kernel_rfl) rfl #[.int .i64 a1] rfl (by (try simp only [maps_]); first | done | rfl) ?_; (with_reducible refine (cmp_isNaN_int.calls a1 true _ A4.out).mono ?_); rintro e w' ⟨rfl, ⟨nd, rfl⟩⟩; refine ⟨_, rfl, ?_⟩))
      go_ret
      exact ⟨by first | rfl | (simp; done) | (simp [*]; done), by repeat (first | exact Drawn0.refl _ | apply Drawn0.step)⟩
    replace c6 := Bool.eq_false_iff.mpr c6
    subst c6
    have H1 : (some (-1)) = some r := by rw [if_neg (show ¬ (false = true) by decide)] at H; exact H
    clear H
    have H := H1
    clear H1
    obtain rfl := Option.some.inj H
    go_enter Try.func40, Try.ntmps40
    go_wp2_with (first | ((with_reducible refine gate_callee (f := 43) rfl ?_); refine goesL_ (some 8) rfl rfl Try.func43 (by kernel_rfl) rfl #[.int .i64 a0] rfl (by (try simp only [maps_]); first | done | rfl) ?_; (with_reducible refine (cmp_isNaN_int.calls a0 true _ A3.out).mono ?_); rintro e w' ⟨rfl, ⟨nd, rfl⟩⟩; refine ⟨_, rfl, ?_⟩) | ((with_reducible refine gate_callee (f := 43) rfl ?_); refine goesL_ (some 10) rfl rfl Try.func43 (by kernel_rfl) rfl #[.int .i64 a1] rfl (by (try simp only [maps_]); first | done | rfl) ?_; (with_reducible refine (cmp_isNaN_int.calls a1 false _ A4.out).mono ?_); rintro e w' ⟨rfl, ⟨nd, rfl⟩⟩; refine ⟨_, rfl, ?_⟩))
    go_ret
    exact ⟨by first | rfl | (simp; done) | (simp [*]; done), by repeat (first | exact Drawn0.refl _ | apply Drawn0.step)⟩
  replace c5 := Bool.eq_false_iff.mpr c5
  subst c5
  have H1 : (if t104 = true then (some 1) else (if a0 < a1 then (some (-1)) else (if a0 > a1 then (some 1) else (some 0)))) = some r := by rw [if_neg (show ¬ (false = true) by decide)] at H; exact H
  clear H
  have H := H1
  clear H1
  by_cases c7 : t104 = true
  · subst c7
    have H1 : (some 1) = some r := by rw [if_pos rfl] at H; exact H
    clear H
    have H := H1
    clear H1
    obtain rfl := Option.some.inj H
    go_enter Try.func40, Try.ntmps40
    go_wp2_with (first | ((with_reducible refine gate_callee (f := 43) rfl ?_); refine goesL_ (some 8) rfl rfl Try.func43 (by kernel_rfl) rfl #[.int .i64 a0] rfl (by (try simp only [maps_]); first | done | rfl) ?_; (with_reducible refine (cmp_isNaN_int.calls a0 false _ A3.out).mono ?_); rintro e w' ⟨rfl, ⟨nd, rfl⟩⟩; refine ⟨_, rfl, ?_⟩) | ((with_reducible refine gate_callee (f := 43) rfl ?_); refine goesL_ (some 10) rfl rfl Try.func43 (by kernel_rfl) rfl #[.int .i64 a1] rfl (by (try simp only [maps_]); first | done | rfl) ?_; (with_reducible refine (cmp_isNaN_int.calls a1 true _ A4.out).mono ?_); rintro e w' ⟨rfl, ⟨nd, rfl⟩⟩; refine ⟨_, rfl, ?_⟩))
    go_ret
    exact ⟨by first | rfl | (simp; done) | (simp [*]; done), by repeat (first | exact Drawn0.refl _ | apply Drawn0.step)⟩
  replace c7 := Bool.eq_false_iff.mpr c7
  subst c7
  have H1 : (if a0 < a1 then (some (-1)) else (if a0 > a1 then (some 1) else (some 0))) = some r := by rw [if_neg (show ¬ (false = true) by decide)] at H; exact H
  clear H
  have H := H1
  clear H1
  by_cases c8 : a0 < a1
  · rw [if_pos c8] at H
    have c8b0 : decide (a0 < a1) = true := decide_eq_true c8
    clear c8
    obtain rfl := Option.some.inj H
    go_enter Try.func40, Try.ntmps40
    go_wp2_with (first | ((with_reducible refine gate_callee (f := 43) rfl ?_); refine goesL_ (some 8) rfl rfl Try.func43 (by kernel_rfl) rfl #[.int .i64 a0] rfl (by (try simp only [maps_]); first | done | rfl) ?_; (with_reducible refine (cmp_isNaN_int.calls a0 false _ A3.out).mono ?_); rintro e w' ⟨rfl, ⟨nd, rfl⟩⟩; refine ⟨_, rfl, ?_⟩) | ((with_reducible refine gate_callee (f := 43) rfl ?_); refine goesL_ (some 10) rfl rfl Try.func43 (by kernel_rfl) rfl #[.int .i64 a1] rfl (by (try simp only [maps_]); first | done | rfl) ?_; (with_reducible refine (cmp_isNaN_int.calls a1 false _ A4.out).mono ?_); rintro e w' ⟨rfl, ⟨nd, rfl⟩⟩; refine ⟨_, rfl, ?_⟩))
    go_ret
    exact ⟨by first | rfl | (simp; done) | (simp [*]; done), by repeat (first | exact Drawn0.refl _ | apply Drawn0.step)⟩
  rw [if_neg c8] at H
  have c8b0 : decide (a0 < a1) = false := decide_eq_false c8
  clear c8
  by_cases c9 : a0 > a1
  · rw [if_pos c9] at H
    have c9b0 : decide (a1 < a0) = true := decide_eq_true c9
    clear c9
    obtain rfl := Option.some.inj H
    go_enter Try.func40, Try.ntmps40
    go_wp2_with (first | ((with_reducible refine gate_callee (f := 43) rfl ?_); refine goesL_ (some 8) rfl rfl Try.func43 (by kernel_rfl) rfl #[.int .i64 a0] rfl (by (try simp only [maps_]); first | done | rfl) ?_; (with_reducible refine (cmp_isNaN_int.calls a0 false _ A3.out).mono ?_); rintro e w' ⟨rfl, ⟨nd, rfl⟩⟩; refine ⟨_, rfl, ?_⟩) | ((with_reducible refine gate_callee (f := 43) rfl ?_); refine goesL_ (some 10) rfl rfl Try.func43 (by kernel_rfl) rfl #[.int .i64 a1] rfl (by (try simp only [maps_]); first | done | rfl) ?_; (with_reducible refine (cmp_isNaN_int.calls a1 false _ A4.out).mono ?_); rintro e w' ⟨rfl, ⟨nd, rfl⟩⟩; refine ⟨_, rfl, ?_⟩))
    go_ret
    exact ⟨by first | rfl | (simp; done) | (simp [*]; done), by repeat (first | exact Drawn0.refl _ | apply Drawn0.step)⟩
  rw [if_neg c9] at H
  have c9b0 : decide (a1 < a0) = false := decide_eq_false c9
  clear c9
  obtain rfl := Option.some.inj H
  go_enter Try.func40, Try.ntmps40
  go_wp2_with (first | ((with_reducible refine gate_callee (f := 43) rfl ?_); refine goesL_ (some 8) rfl rfl Try.func43 (by kernel_rfl) rfl #[.int .i64 a0] rfl (by (try simp only [maps_]); first | done | rfl) ?_; (with_reducible refine (cmp_isNaN_int.calls a0 false _ A3.out).mono ?_); rintro e w' ⟨rfl, ⟨nd, rfl⟩⟩; refine ⟨_, rfl, ?_⟩) | ((with_reducible refine gate_callee (f := 43) rfl ?_); refine goesL_ (some 10) rfl rfl Try.func43 (by kernel_rfl) rfl #[.int .i64 a1] rfl (by (try simp only [maps_]); first | done | rfl) ?_; (with_reducible refine (cmp_isNaN_int.calls a1 false _ A4.out).mono ?_); rintro e w' ⟨rfl, ⟨nd, rfl⟩⟩; refine ⟨_, rfl, ?_⟩))
  go_ret
  exact ⟨by first | rfl | (simp; done) | (simp [*]; done), by repeat (first | exact Drawn0.refl _ | apply Drawn0.step)⟩

/-! ### entry_Compare: function 36 -/
def entry_Compare.f (k : Nat) (a0_0 : ByteArray) (a0_1 : Int) (a0_2 : Bool) (a0_3 : ByteArray) (a1_0 : ByteArray) (a1_1 : Int) (a1_2 : Bool) (a1_3 : ByteArray) : Option (Int) := (strings_Compare.f a0_0 a1_0).bind fun t107 => ((cmp_Compare_int.f a1_1 a0_1).bind fun t108 => ((cmp_Or_int.f k (([t107, t108] : List Int))).bind fun t112 => (some t112)))
theorem entry_Compare.mono : ∀ a0 a1 a2 a3 a4 a5 a6 a7 k, LeO (entry_Compare.f k a0 a1 a2 a3 a4 a5 a6 a7) (entry_Compare.f (k + 1) a0 a1 a2 a3 a4 a5 a6 a7) := by
  intro a0 a1 a2 a3 a4 a5 a6 a7 k
  unfold entry_Compare.f
  repeat' first
      | (with_reducible exact cmp_Or_int.mono _ _)
      | (with_reducible exact LeO.refl _)
      | (with_reducible exact LeO.none _)
      | (with_reducible refine LeO.ite ?_ ?_)
      | (with_reducible refine LeO.bind ?_ (fun _ => ?_))
      | exact cmp_Or_int.mono _ _
      | exact LeO.none _
      | refine LeO.ite ?_ ?_
      | refine LeO.bind ?_ (fun _ => ?_)
def entry_Compare.T1 : Bool × List (List Nat × List Nat) := (true, [([], []), ([0], [0]), ([], []), ([2], [2]), ([1, 3], [1, 3]), ([], []), ([5], [5]), ([], []), ([7], [7]), ([6, 8, 4], [6, 8]), ([4, 9], [4, 9]), ([10, 9], [10]), ([11, 11, 0, 1, 2, 3, 4, 5, 6, 7, 8, 9, 10, 11], [11])])
def entry_Compare.B1 : List Nat := [0, 1, 0, 4, 15, 0, 32, 0, 128, 511, 1023, 2047, 4095]
theorem entry_Compare.tab1 : rtab .any (opsOf Try.f36 1) = entry_Compare.T1 := by kernel_rfl
theorem entry_Compare.bits1 : waitsOk entry_Compare.T1.2 entry_Compare.B1 = true := by kernel_rfl
set_option maxHeartbeats 8000000 in
set_option maxRecDepth 100000 in
theorem entry_Compare.calls (k : Nat) (a0_0 : ByteArray) (a0_1 : Int) (a0_2 : Bool) (a0_3 : ByteArray) (a1_0 : ByteArray) (a1_1 : Int) (a1_2 : Bool) (a1_3 : ByteArray) (r : Int) (w : World) (h : entry_Compare.f k a0_0 a0_1 a0_2 a0_3 a1_0 a1_1 a1_2 a1_3 = some r) :
    Calls Try.prog 36 #[.agg #[.string a0_0, .int .i64 a0_1, .bool a0_2, .string a0_3], .agg #[.string a1_0, .int .i64 a1_1, .bool a1_2, .string a1_3]] w fun e w' => e = .returned (.int .i64 r) ∧ Below w.heap.size w w' := by
  have hu29 := Try.underlying29
  have HB := Aside0.mk (Below.refl w.heap.size w)
  have H : ((strings_Compare.f a0_0 a1_0).bind fun t107 => ((cmp_Compare_int.f a1_1 a0_1).bind fun t108 => ((cmp_Or_int.f k (([t107, t108] : List Int))).bind fun t112 => (some t112)))) = some r := h
  clear h
  replace H := Option.bind_eq_some_iff.mp H
  obtain ⟨t107, A30, H⟩ := H
  try dsimp only at H
  have A3 := Aside0.mk A30
  clear A30
  replace H := Option.bind_eq_some_iff.mp H
  obtain ⟨t108, A40, H⟩ := H
  try dsimp only at H
  have A4 := Aside0.mk A40
  clear A40
  obtain ⟨y109, hy109⟩ : ∃ y_ : List Int, y_ = (([t107, t108] : List Int)) := ⟨_, rfl⟩
  replace H : ((cmp_Or_int.f k y109).bind fun t112 => (some t112)) = some r := by first | (rw [hy109]; with_reducible exact H) | (have H2_ := (Option.bind_some _ _).symm.trans H; rw [hy109]; with_reducible exact H2_) | (have H2_ := (Option.bind_some _ _).symm.trans H; with_reducible exact H2_) | with_reducible exact H | (rw [hy109]; exact H) | exact H
  have Ny109 := Aside0.mk hy109
  clear hy109
  replace H := Option.bind_eq_some_iff.mp H
  obtain ⟨t112, A50, H⟩ := H
  try dsimp only at H
  have A5 := Aside0.mk A50
  clear A50
  obtain rfl := Option.some.inj H
  go_enter Try.func36, Try.ntmps36
  try go_wp2_with (first | ((with_reducible refine gate_dst (N := 2) rfl ?_); refine box_event ?hg (N := 2) ?hd (cs := #[.string a0_0, .int .i64 a0_1, .bool a0_2, .string a0_3]) (t := 29) ?hr ?_; (case hd => rfl); (case hg => rfl); (case hr => first | (go_simp; done) | (go_simp; rfl)); intro gb105 hg w6 hbox hb; have n0_ := bs_ HB hb; have n1_ := Aside0.mk (hbox); have n2_ := gz_ HB hg; have n3_ := gz_ HB hg; clear HB; have HB := n0_; have BK105 := n1_; have GW105 := n2_; have GE105 := n3_; clear n0_ n1_ n2_ n3_; clear hb hbox hg) | ((with_reducible refine gate_dst (N := 3) rfl ?_); refine box_event ?hg (N := 3) ?hd (cs := #[.string a1_0, .int .i64 a1_1, .bool a1_2, .string a1_3]) (t := 29) ?hr ?_; (case hd => rfl); (case hg => rfl); (case hr => first | (go_simp; done) | (go_simp; rfl)); intro gb106 hg w7 hbox hb; have n0_ := bb_ BK105 hb; have n1_ := bl_ [gb105] HB ⟨GE105, ⟨⟩⟩ hb; have n2_ := Aside0.mk (hbox); have n3_ := gl_ [gb105] HB ⟨GE105, ⟨⟩⟩ hg; have n4_ := gl_ [gb105] HB ⟨GE105, ⟨⟩⟩ hg; have n5_ := gn_ BK105 hg; have n6_ := Aside0.mk ((by rw [hg]; exact Nat.ne_of_gt (blk_lt (g := gb105) (o := .cells #[.string a0_0, .int .i64 a0_1, .bool a0_2, .string a0_3] 29 (0, 0)) (gb_ BK105)) : gb106 ≠ gb105)); clear BK105; clear HB; have BK105 := n0_; have HB := n1_; have BK106 := n2_; have GW106 := n3_; have GE106 := n4_; have NB105_106 := n5_; have NB106_105 := n6_; clear n0_ n1_ n2_ n3_ n4_ n5_ n6_; clear hb hbox hg))
  have n0_ := Aside0.mk (blk_drew BK105.out)
  have n1_ := Aside0.mk (blk_drew BK106.out)
  have n2_ := Aside0.mk (below_drew1 HB.out)
  clear BK105
  clear BK106
  clear HB
  have BK105 := n0_
  have BK106 := n1_
  have HB := n2_
  clear n0_ n1_ n2_
  refine start_ (n := 13) (S := fun w' => w'.cell? ⟨gb105, 0, none⟩ = some (.string a0_0) ∧ w'.cell? ⟨gb105, 1, none⟩ = some (.int .i64 a0_1) ∧ w'.cell? ⟨gb105, 2, none⟩ = some (.bool a0_2) ∧ w'.cell? ⟨gb105, 3, none⟩ = some (.string a0_3) ∧ w'.cell? ⟨gb106, 0, none⟩ = some (.string a1_0) ∧ w'.cell? ⟨gb106, 1, none⟩ = some (.int .i64 a1_1) ∧ w'.cell? ⟨gb106, 2, none⟩ = some (.bool a1_2) ∧ w'.cell? ⟨gb106, 3, none⟩ = some (.string a1_3)) (ds := []) mkPx2_0 (by kernel_rfl) rfl rfl ⟨bc0 BK105, bc1 BK105, bc2 BK105, bc3 BK105, bc0 BK106, bc1 BK106, bc2 BK106, bc3 BK106⟩ (fun hHeld => ?_); refine with_tabW entry_Compare.tab1 entry_Compare.bits1 (fun HT_ HW_ => ?_)
  generalize w7.drew = w8 at BK105 BK106 HB hHeld ⊢
  refine pu_ 0 (some 5) mkPx2_1 HT_ ?_ rfl rfl (by kernel_rfl) (fun _ _ _ h => h) (Or.inl ⟨by rfl, ?_⟩) ?_ ?_ ?_
  rotate_left
  · intro w'
    go_simp
    with_reducible rfl
  rotate_left
  · simp only [Act.put, lists_, i64_w, i32_w]
    rfl
  refine pu_ 2 (some 7) mkPx2_2 HT_ ?_ rfl rfl (by kernel_rfl) (fun _ _ _ h => h) (Or.inl ⟨by rfl, ?_⟩) ?_ ?_ ?_
  rotate_left
  · intro w'
    go_simp
    with_reducible rfl
  rotate_left
  · simp only [Act.put, lists_, i64_w, i32_w]
    rfl
  refine pu_ 5 (some 10) mkPx2_3 HT_ ?_ rfl rfl (by kernel_rfl) (fun _ _ _ h => h) (Or.inl ⟨by rfl, ?_⟩) ?_ ?_ ?_
  rotate_left
  · intro w'
    go_simp
    with_reducible rfl
  rotate_left
  · simp only [Act.put, lists_, i64_w, i32_w]
    rfl
  refine pu_ 7 (some 12) mkPx2_4 HT_ ?_ rfl rfl (by kernel_rfl) (fun _ _ _ h => h) (Or.inl ⟨by rfl, ?_⟩) ?_ ?_ ?_
  rotate_left
  · intro w'
    go_simp
    with_reducible rfl
  rotate_left
  · simp only [Act.put, lists_, i64_w, i32_w]
    rfl
  refine take_ (i := 1) (N := some 6) (v := ?_) (a' := ?_) mkPx2_5 rfl rfl (take_ofW HT_.out HW_.out (by kernel_rfl)) (fun _ _ _ h => h) (Or.inl ⟨by rfl, ?_⟩) hHeld ?_ ?_
  rotate_left
  · rintro w' ⟨s0, s1, s2, s3, s4, s5, s6, s7⟩
    go_simp
    with_reducible rfl
  rotate_left
  · simp only [Act.put, lists_, i64_w, i32_w]
    rfl
  refine take_ (i := 3) (N := some 8) (v := ?_) (a' := ?_) mkPx2_6 rfl rfl (take_ofW HT_.out HW_.out (by kernel_rfl)) (fun _ _ _ h => h) (Or.inl ⟨by rfl, ?_⟩) hHeld ?_ ?_
  rotate_left
  · rintro w' ⟨s0, s1, s2, s3, s4, s5, s6, s7⟩
    go_simp
    with_reducible rfl
  rotate_left
  · simp only [Act.put, lists_, i64_w, i32_w]
    rfl
  refine take_ (i := 6) (N := some 11) (v := ?_) (a' := ?_) mkPx2_7 rfl rfl (take_ofW HT_.out HW_.out (by kernel_rfl)) (fun _ _ _ h => h) (Or.inl ⟨by rfl, ?_⟩) hHeld ?_ ?_
  rotate_left
  · rintro w' ⟨s0, s1, s2, s3, s4, s5, s6, s7⟩
    go_simp
    with_reducible rfl
  rotate_left
  · simp only [Act.put, lists_, i64_w, i32_w]
    rfl
  refine take_ (i := 8) (N := some 13) (v := ?_) (a' := ?_) mkPx2_8 rfl rfl (take_ofW HT_.out HW_.out (by kernel_rfl)) (fun _ _ _ h => h) (Or.inl ⟨by rfl, ?_⟩) hHeld ?_ ?_
  rotate_left
  · rintro w' ⟨s0, s1, s2, s3, s4, s5, s6, s7⟩
    go_simp
    with_reducible rfl
  rotate_left
  · simp only [Act.put, lists_, i64_w, i32_w]
    rfl
  refine one_ (i := 4) (N := some 9) mkPx2_9 rfl rfl (one_of HT_.out (by kernel_rfl)) (by decide) (fun K hK => ?_)
  refine goes_ Try.func39 (by kernel_rfl) rfl #[.string a0_0, .string a1_0] (by rfl) rfl rfl (by (try simp only [maps_]); first | done | rfl) ?_
  with_reducible refine (strings_Compare.calls a0_0 a1_0 t107 _ A3.out).mono ?_
  rintro e w' ⟨rfl, ⟨nd, rfl⟩⟩
  refine ⟨_, rfl, ?_⟩
  refine hK.out _ _ ⟨bc0 BK105, bc1 BK105, bc2 BK105, bc3 BK105, bc0 BK106, bc1 BK106, bc2 BK106, bc3 BK106⟩ (fun hHeld => ?_)
  clear hK K
  refine norm_ (a' := ?_) ?_ ?_
  rotate_left
  · show Act.put _ (some 9) _ = _
    simp only [Act.put, lists_, i64_w, i32_w]
    rfl
  refine one_ (i := 9) (N := some 14) mkPx2_10 rfl rfl (one_of HT_.out (by kernel_rfl)) (by decide) (fun K hK => ?_)
  refine goes_ Try.func40 (by kernel_rfl) rfl #[.int .i64 a1_1, .int .i64 a0_1] (by rfl) rfl rfl (by (try simp only [maps_]); first | done | rfl) ?_
  with_reducible refine (cmp_Compare_int.calls a1_1 a0_1 t108 _ A4.out).mono ?_
  rintro e w' ⟨rfl, ⟨nd, rfl⟩⟩
  refine ⟨_, rfl, ?_⟩
  refine hK.out _ _ ⟨bc0 BK105, bc1 BK105, bc2 BK105, bc3 BK105, bc0 BK106, bc1 BK106, bc2 BK106, bc3 BK106⟩ (fun hHeld => ?_)
  clear hK K
  refine norm_ (a' := ?_) ?_ ?_
  rotate_left
  · show Act.put _ (some 14) _ = _
    simp only [Act.put, lists_, i64_w, i32_w]
    rfl
  refine one_ (i := 10) (N := some 15) mkPx2_11 rfl rfl (one_of HT_.out (by kernel_rfl)) (by decide) (fun K hK => ?_)
  refine Kd.R_lit_step (Kd.int .i64) _ 3 ?hg (N := 15) ?hd (xs := ([t107, t108] : List Int)) (inner := [.int .i64 t107, .int .i64 t108]) (ok := fun _ => True) (okp := fun _ => True) ?hr ?hp (fun _ hk => hk) trivial (Below.refl _ _) (Nat.le_refl _) (by simp) ?_; (case hd => rfl); (case hg => rfl); (case hr => first | (go_simp; done) | (go_simp; rfl)); (case hp => exact (Reps.one (show Kd.M (Kd.int .i64) _ _ _ t107 [.int .i64 t107] from rfl) (Reps.one (show Kd.M (Kd.int .i64) _ _ _ t108 [.int .i64 t108] from rfl) (Reps.none _ _))))
  intro v110 w9 ho10 hb hg_ hnew_
  clear hg_ hnew_
  (first | rw [← Ny109.out] at ho10 | (simp only [Int.reduceToNat] at ho10; rw [← Ny109.out] at ho10))
  have n0_ := Aside0.mk (Kd.R_lower ho10 (below_size (gwl_ [gb105, gb106] HB ⟨GE105, GE106, ⟨⟩⟩)))
  have n1_ := bb_ BK105 hb
  have n2_ := bb_ BK106 hb
  have n3_ := bl_ [gb105, gb106] HB ⟨GE105, GE106, ⟨⟩⟩ hb
  clear BK105
  clear BK106
  clear HB
  have HO111 := n0_
  have BK105 := n1_
  have BK106 := n2_
  have HB := n3_
  clear n0_ n1_ n2_ n3_
  clear hb ho10
  obtain ⟨Ao11, co11, eo11⟩ := Kd.R_slice HO111.out
  (first | subst eo11 | (injection eo11 with f1_ f2_ f3_; have f4_ := f1_.symm; have f5_ := f3_.symm; clear f1_ f2_ f3_; subst f4_; subst f5_))
  refine hK.out _ _ ⟨bc0 BK105, bc1 BK105, bc2 BK105, bc3 BK105, bc0 BK106, bc1 BK106, bc2 BK106, bc3 BK106⟩ (fun hHeld => ?_)
  clear hK K
  refine norm_ (a' := ?_) ?_ ?_
  rotate_left
  · show Act.put _ (some 15) _ = _
    simp only [Act.put, lists_, i64_w, i32_w]
    rfl
  refine one_ (i := 11) (N := some 16) mkPx2_12 rfl rfl (one_of HT_.out (by kernel_rfl)) (by decide) (fun K hK => ?_)
  refine goes_ Try.func38 (by kernel_rfl) rfl #[.slice Ao11 y109.length co11] (by rfl) rfl rfl (by (try simp only [maps_]); first | done | rfl) ?_
  with_reducible refine (cmp_Or_int.calls k _ _ y109 t112 _ ?side1 ?side2 A5.out).mono ?_
  (case side1 => repeat (first | exact (Kd.R_reads' HO111.out).2.2 | (with_reducible refine Kd.C_alloc ?_ _) | (with_reducible refine Kd.C_drewN ?_ _) | (with_reducible refine Kd.C_drew ?_)))
  (case side2 => exact (Kd.R_reads' HO111.out).2.1)
  rintro e w' ⟨rfl, ⟨nd, rfl⟩⟩
  refine ⟨_, rfl, ?_⟩
  refine hK.out _ _ ⟨bc0 BK105, bc1 BK105, bc2 BK105, bc3 BK105, bc0 BK106, bc1 BK106, bc2 BK106, bc3 BK106⟩ (fun hHeld => ?_)
  clear hK K
  refine norm_ (a' := ?_) ?_ ?_
  rotate_left
  · show Act.put _ (some 16) _ = _
    simp only [Act.put, lists_, i64_w, i32_w]
    rfl
  refine pu_ 12 (some 4) mkPx2_13 HT_ ?_ rfl rfl (by kernel_rfl) (fun _ _ _ h => h) (Or.inl ⟨by rfl, ?_⟩) ?_ ?_ ?_
  rotate_left
  · intro w'
    go_simp
    with_reducible rfl
  rotate_left
  · simp only [Act.put, lists_, i64_w, i32_w]
    rfl
  refine done_ (done_of HT_.out (by kernel_rfl)) ?_
  try go_wp2
  go_ret
  exact ⟨by first | rfl | (simp [*, errW_none, errW_some] <;> rfl), gwl_ [gb105, gb106] HB ⟨GE105, GE106, ⟨⟩⟩⟩

/-! ### entry_Less: function 31 -/
def entry_Less.f (k : Nat) (a0_0 : ByteArray) (a0_1 : Int) (a0_2 : Bool) (a0_3 : ByteArray) (a1_0 : ByteArray) (a1_1 : Int) (a1_2 : Bool) (a1_3 : ByteArray) : Option (Bool) := (entry_Compare.f k a0_0 a0_1 a0_2 a0_3 a1_0 a1_1 a1_2 a1_3).bind fun t115 => (some (decide (t115 < 0)))
theorem entry_Less.mono : ∀ a0 a1 a2 a3 a4 a5 a6 a7 k, LeO (entry_Less.f k a0 a1 a2 a3 a4 a5 a6 a7) (entry_Less.f (k + 1) a0 a1 a2 a3 a4 a5 a6 a7) := by
  intro a0 a1 a2 a3 a4 a5 a6 a7 k
  unfold entry_Less.f
  repeat' first
      | (with_reducible exact entry_Compare.mono _ _ _ _ _ _ _ _ _)
      | (with_reducible exact LeO.refl _)
      | (with_reducible exact LeO.none _)
      | (with_reducible refine LeO.ite ?_ ?_)
      | (with_reducible refine LeO.bind ?_ (fun _ => ?_))
      | exact entry_Compare.mono _ _ _ _ _ _ _ _ _
      | exact LeO.none _
      | refine LeO.ite ?_ ?_
      | refine LeO.bind ?_ (fun _ => ?_)
set_option maxHeartbeats 8000000 in
set_option maxRecDepth 100000 in
theorem entry_Less.calls (k : Nat) (a0_0 : ByteArray) (a0_1 : Int) (a0_2 : Bool) (a0_3 : ByteArray) (a1_0 : ByteArray) (a1_1 : Int) (a1_2 : Bool) (a1_3 : ByteArray) (r : Bool) (w : World) (h : entry_Less.f k a0_0 a0_1 a0_2 a0_3 a1_0 a1_1 a1_2 a1_3 = some r) :
    Calls Try.prog 31 #[.agg #[.string a0_0, .int .i64 a0_1, .bool a0_2, .string a0_3], .agg #[.string a1_0, .int .i64 a1_1, .bool a1_2, .string a1_3]] w fun e w' => e = .returned (.bool r) ∧ Below w.heap.size w w' := by
  have hu29 := Try.underlying29
  have HB := Aside0.mk (Below.refl w.heap.size w)
  have H : ((entry_Compare.f k a0_0 a0_1 a0_2 a0_3 a1_0 a1_1 a1_2 a1_3).bind fun t115 => (some (decide (t115 < 0)))) = some r := h
  clear h
  replace H := Option.bind_eq_some_iff.mp H
  obtain ⟨t115, A30, H⟩ := H
  try dsimp only at H
  have A3 := Aside0.mk A30
  clear A30
  obtain rfl := Option.some.inj H
  go_enter Try.func31, Try.ntmps31
  go_wp2_with (first | ((with_reducible refine gate_dst (N := 2) rfl ?_); refine box_event ?hg (N := 2) ?hd (cs := #[.string a0_0, .int .i64 a0_1, .bool a0_2, .string a0_3]) (t := 29) ?hr ?_; (case hd => rfl); (case hg => rfl); (case hr => first | (go_simp; done) | (go_simp; rfl)); intro gb113 hg w4 hbox hb; have n0_ := bs_ HB hb; have n1_ := Aside0.mk (hbox); have n2_ := gz_ HB hg; have n3_ := gz_ HB hg; clear HB; have HB := n0_; have BK113 := n1_; have GW113 := n2_; have GE113 := n3_; clear n0_ n1_ n2_ n3_; clear hb hbox hg) | ((with_reducible refine gate_dst (N := 3) rfl ?_); refine box_event ?hg (N := 3) ?hd (cs := #[.string a1_0, .int .i64 a1_1, .bool a1_2, .string a1_3]) (t := 29) ?hr ?_; (case hd => rfl); (case hg => rfl); (case hr => first | (go_simp; done) | (go_simp; rfl)); intro gb114 hg w5 hbox hb; have n0_ := bb_ BK113 hb; have n1_ := bl_ [gb113] HB ⟨GE113, ⟨⟩⟩ hb; have n2_ := Aside0.mk (hbox); have n3_ := gl_ [gb113] HB ⟨GE113, ⟨⟩⟩ hg; have n4_ := gl_ [gb113] HB ⟨GE113, ⟨⟩⟩ hg; have n5_ := gn_ BK113 hg; have n6_ := Aside0.mk ((by rw [hg]; exact Nat.ne_of_gt (blk_lt (g := gb113) (o := .cells #[.string a0_0, .int .i64 a0_1, .bool a0_2, .string a0_3] 29 (0, 0)) (gb_ BK113)) : gb114 ≠ gb113)); clear BK113; clear HB; have BK113 := n0_; have HB := n1_; have BK114 := n2_; have GW114 := n3_; have GE114 := n4_; have NB113_114 := n5_; have NB114_113 := n6_; clear n0_ n1_ n2_ n3_ n4_ n5_ n6_; clear hb hbox hg; have hnb6 := NB113_114.out; have hnc6 := NB114_113.out; have hcz7_0 := bc0 BK113; have hcz7_1 := bc1 BK113; have hcz7_2 := bc2 BK113; have hcz7_3 := bc3 BK113; have hfz7_0 := bf_ BK113 0; have hfz7_1 := bf_ BK113 1; have hfz7_2 := bf_ BK113 2; have hfz7_3 := bf_ BK113 3; have hcz8_0 := bc0 BK114; have hcz8_1 := bc1 BK114; have hcz8_2 := bc2 BK114; have hcz8_3 := bc3 BK114; have hfz8_0 := bf_ BK114 0; have hfz8_1 := bf_ BK114 1; have hfz8_2 := bf_ BK114 2; have hfz8_3 := bf_ BK114 3) | ((with_reducible refine gate_callee (f := 36) rfl ?_); refine goesL_ (some 7) rfl rfl Try.func36 (by kernel_rfl) rfl #[.agg #[.string a0_0, .int .i64 a0_1, .bool a0_2, .string a0_3], .agg #[.string a1_0, .int .i64 a1_1, .bool a1_2, .string a1_3]] rfl (by (try simp only [maps_]); first | done | rfl) ?_; (with_reducible refine (entry_Compare.calls k a0_0 a0_1 a0_2 a0_3 a1_0 a1_1 a1_2 a1_3 t115 _ A3.out).mono ?_); rintro e w9 ⟨rfl, hb⟩; refine ⟨_, rfl, ?_⟩; have n0_ := bb_ BK113 hb; have n1_ := bb_ BK114 hb; have n2_ := bl_ [gb113, gb114] HB ⟨GE113, GE114, ⟨⟩⟩ hb; clear BK113; clear BK114; clear HB; have BK113 := n0_; have BK114 := n1_; have HB := n2_; clear n0_ n1_ n2_; (try clear hb); (try clear hb2); (try clear hk); (try clear hi)))
  go_ret
  exact ⟨by first | rfl | (simp [*, errW_none, errW_some] <;> rfl), gwl_ [gb113, gb114] HB ⟨GE113, GE114, ⟨⟩⟩⟩
def entry_Less.Pure : Prop := ∀ (a0_0 : ByteArray) (a0_1 : Int) (a0_2 : Bool) (a0_3 : ByteArray) (a1_0 : ByteArray) (a1_1 : Int) (a1_2 : Bool) (a1_3 : ByteArray), a0_0.size ≤ 9223372036854775807 → (Lit.int .i64 a0_1).wf = true → a0_3.size ≤ 9223372036854775807 → a1_0.size ≤ 9223372036854775807 → (Lit.int .i64 a1_1).wf = true → a1_3.size ≤ 9223372036854775807 → ∃ k, entry_Less.f k a0_0 a0_1 a0_2 a0_3 a1_0 a1_1 a1_2 a1_3 = some true

/-- A state of type 49 at block g of W; what its slices lead to came in by w0. -/
def IsS49 (w0 W : World) (g : Nat) (f0 : List (S29)) (f1 : Int) : Prop := ∃ A0 c0, W.heap[g]? = some (.cells #[.slice A0 f0.length c0, .int .i64 f1] 49 (0, 0)) ∧ w0.heap.size ≤ g ∧ Kd.C k29 w0 A0 f0.length f0
theorem IsS49.grown {w0 W : World} {g : Nat} {f0 : List (S29)} {f1 : Int} {W1 : World} {row : Option Nat} (h : IsS49 w0 W g f0 f1) (hw : W.grownBy W1 row) (hne : some g ≠ row) : IsS49 w0 W1 g f0 f1 := by
  obtain ⟨A0, c0, hb, hg, hr0⟩ := h
  exact ⟨A0, c0, blk_grown hb hw hne, hg, hr0⟩
theorem IsS49.own_neN {w0 W : World} {g : Nat} {f0 : List (S29)} {f1 : Int} {α : Type} {d : Kd α} {e : Nat} {base : Nat} {ok : Nat → Prop} {v : Value} {xs : List α} (h : IsS49 w0 W g f0 f1) (ho : Kd.N d e W base ok v xs) (ht : e ≠ 49) : some g ≠ v.ownBlock := by
  obtain ⟨A0, c0, hb, hg, hr0⟩ := h
  exact Kd.N_ne ho hb ht
theorem IsS49.fresh {w0 W : World} {g : Nat} {f0 : List (S29)} {f1 : Int} (h : IsS49 w0 W g f0 f1) : ∀ k, W.heap.size ≤ k → k ≠ g := by
  obtain ⟨A0, c0, hb, hg, hr0⟩ := h
  exact Kd.freshB hb
theorem IsS49.kept {w0 W : World} {g : Nat} {f0 : List (S29)} {f1 : Int} {W1 : World} {S : Nat → Prop} (h : IsS49 w0 W g f0 f1) (hk : Kept W W1 S) (hne : ¬ S g) : IsS49 w0 W1 g f0 f1 := by
  obtain ⟨A0, c0, hb, hg, hr0⟩ := h
  exact ⟨A0, c0, blk_kept hb hk hne, hg, hr0⟩
theorem IsS49.below {w0 W : World} {g : Nat} {f0 : List (S29)} {f1 : Int} {W1 : World} (h : IsS49 w0 W g f0 f1) (hw : Below W.heap.size W W1) : IsS49 w0 W1 g f0 f1 := h.grown (grown_of_below hw none) (by simp)
theorem IsS49.alloc {w0 W : World} {g : Nat} {f0 : List (S29)} {f1 : Int} (h : IsS49 w0 W g f0 f1) (o : Obj) : IsS49 w0 (W.alloc o) g f0 f1 := h.below (below_alloc (Below.refl _ _) o)
theorem IsS49.drewN {w0 W : World} {g : Nat} {f0 : List (S29)} {f1 : Int} (h : IsS49 w0 W g f0 f1) (m : Nat) : IsS49 w0 (W.drewN m) g f0 f1 := h
theorem IsS49.drew {w0 W : World} {g : Nat} {f0 : List (S29)} {f1 : Int} (h : IsS49 w0 W g f0 f1) : IsS49 w0 W.drew g f0 f1 := h
theorem IsS49.at_ {w0 W : World} {g : Nat} {f0 : List (S29)} {f1 : Int} {w' : World} {m : Nat} (hq : W.drewN m = w') (h : IsS49 w0 W g f0 f1) : IsS49 w0 w' g f0 f1 := by subst hq; exact IsS49.drewN h m
theorem IsS49.apart {w0 W : World} {g : Nat} {f0 : List (S29)} {f1 : Int} {α : Type} {d : Kd α} {e : Nat} {base : Nat} {ok : Nat → Prop} {v : Value} {xs : List α} (h : IsS49 w0 W g f0 f1) (ho : d.R e W base ok v xs) (ht : ∀ q, q ∈ e :: d.E → q ≠ 49) : d.R e W base (fun k => ok k ∧ k ≠ g) v xs := by
  obtain ⟨A0, c0, hb, hg, hr0⟩ := h
  exact Kd.R_types ho hb ht
theorem IsS49.own_ne {w0 W : World} {g : Nat} {f0 : List (S29)} {f1 : Int} {α : Type} {d : Kd α} {e : Nat} {base : Nat} {ok : Nat → Prop} {v : Value} {xs : List α} (h : IsS49 w0 W g f0 f1) (ho : d.R e W base ok v xs) (ht : e ≠ 49) : some g ≠ v.ownBlock := by
  obtain ⟨A0, c0, hb, hg, hr0⟩ := h
  exact Kd.R_ne ho hb ht
theorem IsS49.apartQ {w0 W : World} {g : Nat} {f0 : List (S29)} {f1 : Int} {α : Type} {d : Kd α} {e : Nat} {base : Nat} {ok : Nat → Prop} {v : Value} {xs : List α} (h : IsS49 w0 W g f0 f1) (ho : d.Q e W base ok v xs) (ht : ∀ q, q ∈ e :: d.E → q ≠ 49) : d.Q e W base (fun k => ok k ∧ k ≠ g) v xs := by
  obtain ⟨A0, c0, hb, hg, hr0⟩ := h
  exact Kd.Q_types ho hb ht
theorem IsS49.own_neQ {w0 W : World} {g : Nat} {f0 : List (S29)} {f1 : Int} {α : Type} {d : Kd α} {e : Nat} {base : Nat} {ok : Nat → Prop} {v : Value} {xs : List α} (h : IsS49 w0 W g f0 f1) (ho : d.Q e W base ok v xs) (ht : e ≠ 49) : some g ≠ v.ownBlock := by
  obtain ⟨A0, c0, hb, hg, hr0⟩ := h
  exact Kd.Q_ne ho hb ht
theorem IsS49.apartS {w0 W : World} {g : Nat} {f0 : List (S29)} {f1 : Int} {α : Type} {d : Kd α} {e : Nat} {base : Nat} {ok : Nat → Prop} {v : Value} {xs : List α} (h : IsS49 w0 W g f0 f1) (ho : d.S e W base ok v xs) (ht : ∀ q, q ∈ e :: d.E → q ≠ 49) : d.S e W base (fun k => ok k ∧ k ≠ g) v xs := by
  obtain ⟨A0, c0, hb, hg, hr0⟩ := h
  exact Kd.S_types ho hb ht
theorem IsS49.own_neS {w0 W : World} {g : Nat} {f0 : List (S29)} {f1 : Int} {α : Type} {d : Kd α} {e : Nat} {base : Nat} {ok : Nat → Prop} {v : Value} {xs : List α} (h : IsS49 w0 W g f0 f1) (ho : d.S e W base ok v xs) (ht : e ≠ 49) : some g ≠ v.ownBlock := by
  obtain ⟨A0, c0, hb, hg, hr0⟩ := h
  exact Kd.S_ne ho hb ht
theorem IsS49.lt {w0 W : World} {g : Nat} {f0 : List (S29)} {f1 : Int} (h : IsS49 w0 W g f0 f1) : g < W.heap.size := by
  obtain ⟨A0, c0, hb, hg, hr0⟩ := h
  exact blk_lt hb
theorem IsS49.ge {w0 W : World} {g : Nat} {f0 : List (S29)} {f1 : Int} (h : IsS49 w0 W g f0 f1) : w0.heap.size ≤ g := by
  obtain ⟨A0, c0, hb, hg, hr0⟩ := h
  exact hg
theorem IsS49.ne_blk {w0 W : World} {g : Nat} {f0 : List (S29)} {f1 : Int} {a : Nat} {cs : Array Value} {t : TypeId} {fr : Nat × Nat} (h : IsS49 w0 W g f0 f1) (hb2 : W.heap[a]? = some (.cells cs t fr)) (ht : t ≠ 49) : g ≠ a := by
  obtain ⟨A0, c0, hb, hg, hr0⟩ := h
  rintro rfl
  rw [hb] at hb2
  injection hb2 with hb2
  injection hb2 with _ ht2
  exact ht ht2.symm
theorem IsS49.far {w0 W : World} {g : Nat} {f0 : List (S29)} {f1 : Int} {p : Addr} (h : IsS49 w0 W g f0 f1) (hne : g ≠ p.block) (u : Value) : IsS49 w0 (W.setCell p u) g f0 f1 := by
  obtain ⟨A0, c0, hb, hg, hr0⟩ := h
  exact ⟨A0, c0, blk_far hb hne u, hg, hr0⟩
theorem cellS49_0 {W : World} {g : Nat} {A0 : Option Addr} {c0 : Nat} {f0 : List (S29)} {f1 : Int} (h : W.heap[g]? = some (.cells #[.slice A0 f0.length c0, .int .i64 f1] 49 (0, 0))) : W.cell? ⟨g, 0, none⟩ = some (.slice A0 f0.length c0) := (blk_cell h 0).trans rfl
theorem cellS49_1 {W : World} {g : Nat} {A0 : Option Addr} {c0 : Nat} {f0 : List (S29)} {f1 : Int} (h : W.heap[g]? = some (.cells #[.slice A0 f0.length c0, .int .i64 f1] 49 (0, 0))) : W.cell? ⟨g, 1, none⟩ = some (.int .i64 f1) := (blk_cell h 1).trans rfl
theorem IsS49.set_1 {w0 W : World} {g : Nat} {f0 : List (S29)} {f1 : Int} (h : IsS49 w0 W g f0 f1) (x : Int) : IsS49 w0 (W.setCell ⟨g, 1, none⟩ (.int .i64 x)) g f0 x := by
  obtain ⟨A0, c0, hb, hg, hr0⟩ := h
  exact ⟨A0, c0, by simpa using blk_set hb 1 (.int .i64 x), hg, hr0⟩
theorem IsS49.new (w0 W : World) (A0 : Option Addr) (c0 : Nat) (f0 : List (S29)) (f1 : Int) (hB : Below w0.heap.size w0 W) (hr0 : Kd.C k29 w0 A0 f0.length f0) : IsS49 w0 (W.alloc (.cells #[.slice A0 f0.length c0, .int .i64 f1] 49)) W.heap.size f0 f1 := ⟨A0, c0, by simpa using heap_alloc_new W _, hB.size, hr0⟩

/-! ### heap_New: function 10 -/
def heap_New.f  : Option ((List (S29)) × Int) := some (([] : List (S29)), 0)
set_option maxHeartbeats 8000000 in
set_option maxRecDepth 100000 in
theorem heap_New.calls  (r1 : List (S29)) (r2 : Int) (w0 w : World) (hB : Below w0.heap.size w0 w) (h : heap_New.f  = some (r1, r2)) :
    Calls Try.prog 10 #[] w fun e w' => ∃ g_ : Nat, e = .returned (.pointer (some ⟨g_, 0, none⟩)) ∧ IsS49 w0 w' g_ r1 r2 ∧ Below w0.heap.size w0 w' ∧ Below w.heap.size w w' := by
  have hu49 := Try.underlying49
  have HBW := Aside0.mk (Below.refl w.heap.size w)
  have HW0 := Aside0.mk hB.size
  have HB := Aside0.mk hB
  clear hB
  have H : (some (([] : List (S29)), 0)) = some (r1, r2) := h
  clear h
  simp only [Option.some.injEq, Prod.mk.injEq] at H
  obtain ⟨rfl, rfl⟩ := H
  go_enter Try.func10, Try.ntmps10
  go_wp2_with (first | ((with_reducible refine gate_dst (N := 2) rfl ?_); refine box_event ?hg (N := 2) ?hd (cs := #[.slice none 0 0, .int .i64 0]) (t := 49) ?hr ?_; (case hd => rfl); (case hg => rfl); (case hr => first | (go_simp; done) | (go_simp; rfl)); intro gb116 hg w1 hbox hb; have n0_ := Aside0.mk (below_step HBW.out hb); have n1_ := bs_ HB hb; have n2_ := Aside0.mk (hbox); have n3_ := gz_ HBW hg; have n4_ := Aside0.mk ((Nat.le_trans HW0.out (by rw [hg]; exact (below_size (gw_ HBW)) : w.heap.size ≤ gb116) : w0.heap.size ≤ gb116)); clear HBW; clear HB; have HBW := n0_; have HB := n1_; have BK116 := n2_; have GW116 := n3_; have GE116 := n4_; clear n0_ n1_ n2_ n3_ n4_; clear hb hbox hg))
  go_ret
  exact ⟨_, rfl, (show IsS49 w0 _ gb116 ([] : List (S29)) 0 from ⟨none, 0, by (with_reducible repeat (first | refine blk_drewN ?_ _ | refine blk_drew ?_ | refine blk_alloc ?_ _)); exact BK116.out, GE116.out, (Kd.C_nil _ _)⟩), by repeat (first | (with_reducible first | exact HB.out | apply below_alloc | apply pw_below_drewN | apply below_drew1 | refine below_set ?_ GE116.out) | exact HB.out), by repeat (first | (with_reducible first | exact HBW.out | apply below_alloc | apply pw_below_drewN | apply below_drew1 | refine below_set ?_ GW116.out) | exact HBW.out)⟩

/-! ### api_Entry_23: function 23 -/
-- by hand
def api_Entry_23.f (l0 : List S29) : Option (List S29) := if l0.length < 2932031007402 then some l0 else none
set_option maxHeartbeats 1000000 in
set_option maxRecDepth 100000 in
theorem api_Entry_23.calls (A0 : Option Addr) (c0 : Nat) (l0 : List S29) (r : List S29) (w : World) (hr0 : Kd.C k29 w A0 l0.length l0) (hc0 : l0.length ≤ c0) (h : api_Entry_23.f l0 = some r) :
    Calls Try.prog 23 #[.slice A0 l0.length c0] w fun e w' => ∃ v0_ : Value, e = .returned v0_ ∧ Kd.R k29 29 w' w.heap.size (fun _ => True) v0_ r ∧ Below w.heap.size w w' := by
  unfold api_Entry_23.f at h
  by_cases hl : l0.length < 2932031007402
  rotate_left
  · rw [if_neg hl] at h
    cases h
  rw [if_pos hl] at h
  obtain rfl := Option.some.inj h
  clear h
  have HL := Aside0.mk hl
  have HR := Aside0.mk hr0
  have HB := Aside0.mk (Below.refl w.heap.size w)
  cases A0 with
  | none =>
    have h0 : l0 = [] := by
      cases l0 with
      | nil => rfl
      | cons x t =>
        obtain ⟨ad, he, _⟩ := hr0.2.2 (by simp)
        cases he
    subst h0
    clear hl hr0 hc0 HL HR
    have ke := fun W : World => run_eql_slice_nil (P := Try.prog) W 22 29 none 0 c0 Try.underlying22
    go_enter Try.func23, Try.ntmps23
    go_wp2
    go_ret
    exact ⟨_, rfl, Kd.R_nil _ _ _ _ _, HB.out⟩
  | some ad =>
    clear hl hr0
    have ke := fun W : World => run_eql_slice_nil (P := Try.prog) W 22 29 (some ad) l0.length c0 Try.underlying22
    go_enter Try.func23, Try.ntmps23
    go_wp2_with (first
      | ((with_reducible refine gate_dst (N := 5) rfl ?_); refine Kd.R_lit k29 _ 29 ?hg (N := 5) ?hd (xs := ([] : List S29)) (inner := []) (ok := fun _ => True) (okp := fun _ => True) ?hr ?hp (fun _ hk => hk) trivial (Below.refl _ _) (Nat.le_refl _) (by simp) ?_; (case hd => rfl); (case hg => rfl); (case hr => first | (go_simp; done) | (go_simp; rfl)); (case hp => exact Reps.none _ _); intro v1 w1 ho hb hg_ hnew_; clear hg_ hnew_; have n0_ := Aside0.mk (Kd.R_lower ho (below_size HB.out)); have n1_ := Aside0.mk (Kd.C_below HR.out hb); have n2_ := Aside0.mk (below_step HB.out hb); clear HB HR hb ho; have HO := n0_; have HR := n1_; have HB := n2_; clear n0_ n1_ n2_)
      | ((with_reducible refine gate_builtin (b := .append) (xs := #[.tmp 5, .tmp 6]) rfl ?_); at_builtin; refine Kd.R_append_rows k29 (w0 := w) w.heap.size rfl (.tmp 5) (.tmp 6) 22 29 (.agg #[(.string ⟨#[]⟩), (.int .i64 0), (.bool false), (.string ⟨#[]⟩)]) 48 rfl Try.underlying22 info29 rfl (by decide) (by omega) v1 ([] : List S29) l0 _ _ _ (fun _ => True) (fun _ => False) rfl rfl ?aO ?aR (fun _ _ h => h) (fun _ h => h.elim) ?aF ?aB ?aS ?aL ?_; (case aR => exact HR.out); (case aB => exact HB.out); (case aF => exact (fun _ _ => trivial)); (case aO => exact HO.out); (case aS => exact (below_size HB.out)); (case aL => have := HL.out; simp only [List.length_nil]; omega); intro v2 w2 ho hb hg hat; rw [List.nil_append] at ho; have HO2 := Aside0.mk ho; have HB2 := Aside0.mk hb; clear ho hb hg hat HO HR HB))
    go_ret
    exact ⟨_, rfl, HO2.out, HB2.out⟩

-- NOT PRINTED: function 11 (heap_Heap_Copy)

-- NOT PRINTED: function 29 (sort_Search)

/-! ### entry_First: function 24 -/
-- by hand
/-- The places that a search by halves goes over: the first of which p holds, if what follows one of which it holds are such, too. -/
def halves (p : Nat → Option Bool) : Nat → Nat → Nat → Option Int
  | 0, _, _ => none
  | k + 1, lo, hi => if lo < hi then (p ((lo + hi) / 2)).bind fun b => (if b = true then halves p k lo ((lo + hi) / 2) else halves p k ((lo + hi) / 2 + 1) hi) else some (lo : Int)
def firstP (k : Nat) (l0 : List S29) (a1 : ByteArray) (a2 : Int) (i : Nat) : Option Bool :=
  (entry_Less.f k (rd_T29 l0 i).f0 (rd_T29 l0 i).f1 (rd_T29 l0 i).f2 (rd_T29 l0 i).f3 a1 a2 false (⟨#[]⟩ : ByteArray)).bind fun b => some (!b)
def entry_First.f (k : Nat) (l0 : List S29) (a1 : ByteArray) (a2 : Int) : Option Int := if l0.length < 2305843009213693952 then halves (firstP k l0 a1 a2) k 0 l0.length else none
theorem firstP.mono (k : Nat) (l0 : List S29) (a1 : ByteArray) (a2 : Int) (i : Nat) : LeO (firstP k l0 a1 a2 i) (firstP (k + 1) l0 a1 a2 i) := by
  unfold firstP
  exact LeO.bind (entry_Less.mono _ _ _ _ _ _ _ _ k) (fun _ => LeO.refl _)
theorem halves.mono (p q : Nat → Option Bool) (h : ∀ i, LeO (p i) (q i)) : ∀ k lo hi, LeO (halves p k lo hi) (halves q (k + 1) lo hi)
  | 0, lo, hi => LeO.none _
  | k + 1, lo, hi => by
    unfold halves
    refine LeO.ite (LeO.bind (h _) (fun b => LeO.ite (halves.mono p q h k _ _) (halves.mono p q h k _ _))) (LeO.refl _)
theorem entry_First.mono : ∀ l0 a1 a2 k, LeO (entry_First.f k l0 a1 a2) (entry_First.f (k + 1) l0 a1 a2) := by
  intro l0 a1 a2 k
  unfold entry_First.f
  exact LeO.ite (halves.mono _ _ (firstP.mono k l0 a1 a2) k _ _) (LeO.none _)
set_option maxHeartbeats 8000000 in
set_option maxRecDepth 100000 in
/-- The asked question at one place. -/
theorem entry_First.asked (k : Nat) (A0 : Option Addr) (c0 : Nat) (l0 : List S29) (a1 : ByteArray) (a2 : Int) (g0 g1 g2 : Nat) (i : Nat) (r : Bool) (w : World) (hi : i < l0.length)
    (hr0 : Kd.C k29 w A0 l0.length l0) (hg0 : w.cell? ⟨g0, 0, none⟩ = some (.slice A0 l0.length c0)) (hg1 : w.cell? ⟨g1, 0, none⟩ = some (.string a1)) (hg2 : w.cell? ⟨g2, 0, none⟩ = some (.int .i64 a2))
    (h : firstP k l0 a1 a2 i = some r) :
    Calls Try.prog 30 #[.int .i64 (i : Int), .pointer (some ⟨g0, 0, none⟩), .pointer (some ⟨g1, 0, none⟩), .pointer (some ⟨g2, 0, none⟩)] w fun e w' => e = .returned (.bool r) ∧ Below w.heap.size w w' := by
  obtain ⟨b, hb, hr⟩ := Option.bind_eq_some_iff.1 h
  obtain rfl : (!b) = r := Option.some.inj hr
  clear h hr
  obtain ⟨ad, rfl, hc0, hc1, hc2, hc3⟩ := at_T29 hr0 (i : Int) (by omega) (by omega)
  clear hr0
  generalize rd_T29 l0 (i : Int) = x at hb hc0 hc1 hc2 hc3
  generalize l0.length = n at hi hg0
  have HB := Aside0.mk hb
  clear hb
  have hlt : ((i : Int) < (n : Int)) = True := eq_true (by omega)
  have hlt0 : (0 ≤ (i : Int)) = True := eq_true (by omega)
  have hi' : (i < n) = True := eq_true hi
  rw [Int.toNat_natCast] at hc0 hc1 hc2 hc3
  clear hi
  go_enter Try.func30, Try.ntmps30
  go_wp2
  have hB0 : Below w.heap.size w w := Below.refl _ _
  go_region_held3 (fun w' => w'.cell? ⟨g0, 0, none⟩ = some (.slice (some ad) n c0) ∧ w'.cell? ⟨g1, 0, none⟩ = some (.string a1) ∧ w'.cell? ⟨g2, 0, none⟩ = some (.int .i64 a2) ∧ w'.cell? (ad.add (i * 4)) = some (.string x.f0) ∧
      w'.cell? ⟨(ad.add (i * 4)).block, (ad.add (i * 4)).off + 1, none⟩ = some (.int .i64 x.f1) ∧ w'.cell? ⟨(ad.add (i * 4)).block, (ad.add (i * 4)).off + 2, none⟩ = some (.bool x.f2) ∧ w'.cell? ⟨(ad.add (i * 4)).block, (ad.add (i * 4)).off + 3, none⟩ = some (.string x.f3) ∧ Below w.heap.size w w')
    (first | exact ⟨hg0, hg1, hg2, hc0, hc1, hc2, hc3, below_drew hB0⟩ | exact ⟨q0, q1, q2, q3, q4, q5, q6, q7⟩ | exact ⟨q0, q1, q2, q3, q4, q5, q6, below_drew q7⟩)
    (first | (go_at_call 31; refine (entry_Less.calls k _ _ _ _ _ _ _ _ b _ HB.out).mono ?_; rintro e w' ⟨rfl, hb⟩; have q0 := pw_cell_below hb hg0; have q1 := pw_cell_below hb hg1; have q2 := pw_cell_below hb hg2; have q3 := pw_cell_below hb hc0; have q4 := pw_cell_below hb hc1; have q5 := pw_cell_below hb hc2; have q6 := pw_cell_below hb hc3; have q7 := below_step (below_drew hB0) hb))
  go_wp2
  go_ret
  exact ⟨rfl, by assumption⟩
set_option maxHeartbeats 8000000 in
set_option maxRecDepth 100000 in
/-- The search by halves. -/
theorem entry_First.search (k n : Nat) (p : Nat → Option Bool) (g0 g1 g2 : Nat) (r : Int) (w : World) (hn : n < 2305843009213693952) (h : halves p k 0 n = some r)
    (hf : ∀ (i : Nat) (b : Bool) (w' : World), i < n → p i = some b → Below w.heap.size w w' →
      Calls Try.prog 30 #[.int .i64 (i : Int), .pointer (some ⟨g0, 0, none⟩), .pointer (some ⟨g1, 0, none⟩), .pointer (some ⟨g2, 0, none⟩)] w' fun e w'' => e = .returned (.bool b) ∧ Below w'.heap.size w' w'') :
    Calls Try.prog 29 #[.int .i64 (n : Int), .func (.func 30) #[] #[.pointer (some ⟨g0, 0, none⟩), .pointer (some ⟨g1, 0, none⟩), .pointer (some ⟨g2, 0, none⟩)]] w fun e w' => e = .returned (.int .i64 r) ∧ Below w.heap.size w w' := by
  have HF := Aside0.mk hf
  have HH := Aside0.mk h
  clear hf h
  go_enter Try.func29, Try.ntmps29
  go_wp2
  go_loopg [5, 6] k (fun kq s5 s6 wr => ∃ lo hi : Nat, s5 = .int .i64 (lo : Int) ∧ s6 = .int .i64 (hi : Int) ∧ lo ≤ hi ∧ hi ≤ n ∧ Aside0 (halves p kq lo hi = some r) ∧ Aside0 (Below w.heap.size w wr))
  case atStart => exact ⟨0, n, rfl, rfl, Nat.zero_le _, Nat.le_refl _, HH, ⟨Below.refl _ _⟩⟩
  obtain ⟨lo, hi, rfl, rfl, hlh, hin, H, HB⟩ := hrel
  cases gk with
  | zero => exact absurd H.out (by simp [halves])
  | succ k1 => ?_
  by_cases hlt : lo < hi
  rotate_left
  · have H1 := H.out
    unfold halves at H1
    rw [if_neg hlt] at H1
    obtain rfl := Option.some.inj H1
    clear H1 H
    go_wp2
    go_ret
    exact ⟨rfl, HB.out⟩
  have H1 := H.out
  unfold halves at H1
  rw [if_pos hlt] at H1
  obtain ⟨b, hb, H2⟩ := Option.bind_eq_some_iff.1 H1
  clear H1 H
  have hc := HF.out ((lo + hi) / 2) b _ (by omega) hb HB.out
  rw [show (((lo + hi) / 2 : Nat) : Int) = ((lo : Int) + (hi : Int)) / 2 by omega] at hc
  clear hb
  cases b with
  | true =>
    rw [if_pos rfl] at H2
    have H3 := Aside0.mk H2
    clear H2
    go_wp2_with (go_at_call 30; refine hc.mono ?_; rintro e w' ⟨rfl, hB⟩)
    go_roundg k1
    case measure => omega
    case rel => exact ⟨lo, (lo + hi) / 2, rfl, by rw [show (((lo + hi) / 2 : Nat) : Int) = ((lo : Int) + (hi : Int)) / 2 by omega], by omega, by omega, H3, ⟨below_step HB.out hB⟩⟩
  | false =>
    rw [if_neg (by simp)] at H2
    have H3 := Aside0.mk H2
    clear H2
    go_wp2_with (go_at_call 30; refine hc.mono ?_; rintro e w' ⟨rfl, hB⟩)
    go_roundg k1
    case measure => omega
    case rel => exact ⟨(lo + hi) / 2 + 1, hi, by rw [show (((lo + hi) / 2 + 1 : Nat) : Int) = ((lo : Int) + (hi : Int)) / 2 + 1 by omega], rfl, by omega, by omega, H3, ⟨below_step HB.out hB⟩⟩
set_option maxHeartbeats 8000000 in
set_option maxRecDepth 100000 in
theorem entry_First.calls (k : Nat) (A0 : Option Addr) (c0 : Nat) (l0 : List S29) (a1 : ByteArray) (a2 : Int) (r : Int) (w : World) (hr0 : Kd.C k29 w A0 l0.length l0) (hc0 : l0.length ≤ c0) (h : entry_First.f k l0 a1 a2 = some r) :
    Calls Try.prog 24 #[.slice A0 l0.length c0, .string a1, .int .i64 a2] w fun e w' => e = .returned (.int .i64 r) ∧ Below w.heap.size w w' := by
  unfold entry_First.f at h
  by_cases hn : l0.length < 2305843009213693952
  rotate_left
  · rw [if_neg hn] at h
    cases h
  rw [if_pos hn] at h
  have HH := Aside0.mk h
  have HR := Aside0.mk hr0
  have HN := Aside0.mk hn
  clear h hr0 hc0 hn
  go_enter Try.func24, Try.ntmps24
  go_wp2_with fail
  have hb3 := below_alloc (below_alloc (below_alloc (Below.refl w.heap.size w) (.cells #[.slice A0 l0.length c0] 22)) (.cells #[.string a1] 9)) (.cells #[.int .i64 a2] 3)
  refine (entry_First.search k l0.length _ w.heap.size (w.heap.size + 1) (w.heap.size + 1 + 1) r _ HN.out HH.out ?_).mono ?_
  · intro i b w' hi hp hB
    refine entry_First.asked k A0 c0 l0 a1 a2 _ _ _ i b w' hi (Kd.C_below HR.out (below_step hb3 hB)) (pw_cell_below hB ?_) (pw_cell_below hB ?_) (pw_cell_below hB ?_) hp
    · exact (blk_cell (blk_alloc (blk_alloc (blk_new w _) _) _) 0).trans rfl
    · have h := blk_cell (blk_alloc (blk_new (w.alloc (.cells #[.slice A0 l0.length c0] 22)) (.cells #[.string a1] 9)) (.cells #[.int .i64 a2] 3)) 0
      simpa using h
    have h := blk_cell (blk_new ((w.alloc (.cells #[.slice A0 l0.length c0] 22)).alloc (.cells #[.string a1] 9)) (.cells #[.int .i64 a2] 3)) 0
    simpa using h
  rintro e w' ⟨rfl, hB⟩
  have HB := Aside0.mk (below_step hb3 hB)
  clear hB hb3
  go_wp2
  go_ret
  exact ⟨rfl, HB.out⟩

/-! ### entry_IsWrite: function 32 -/
def entry_IsWrite.f (a0_0 : ByteArray) (a0_1 : Bool) (a0_2 : ByteArray) : Option (Bool) := if (a0_0.size : Int) ≥ 1 then (if (a0_0.size : Int) ≤ 13 then (if (a0_2.size : Int) ≤ 24 then (if a0_1 = true then (some (a0_2.toList == ([] : List UInt8))) else (some true)) else (some false)) else (some false)) else (some false)
set_option maxHeartbeats 8000000 in
set_option maxRecDepth 100000 in
theorem entry_IsWrite.calls (a0_0 : ByteArray) (a0_1 : Bool) (a0_2 : ByteArray) (r : Bool) (w : World) (h : entry_IsWrite.f a0_0 a0_1 a0_2 = some r) :
    Calls Try.prog 32 #[.agg #[.string a0_0, .bool a0_1, .string a0_2]] w fun e w' => e = .returned (.bool r) ∧ Below w.heap.size w w' := by
  have hu57 := Try.underlying57
  have HB := Aside0.mk (Below.refl w.heap.size w)
  have H : (if (a0_0.size : Int) ≥ 1 then (if (a0_0.size : Int) ≤ 13 then (if (a0_2.size : Int) ≤ 24 then (if a0_1 = true then (some (a0_2.toList == ([] : List UInt8))) else (some true)) else (some false)) else (some false)) else (some false)) = some r := h
  clear h
  by_cases c2 : (a0_0.size : Int) ≥ 1
  rotate_left
  · rw [if_neg c2] at H
    have c2b0 : decide (1 ≤ (a0_0.size : Int)) = false := decide_eq_false c2
    have c2b1 : decide (1 ≤ a0_0.size) = false := decide_eq_false (by omega)
    clear c2
    obtain rfl := Option.some.inj H
    go_enter Try.func32, Try.ntmps32
    go_wp2_with (first | ((with_reducible refine gate_dst (N := 1) rfl ?_); (try (refine gate_guard (by rfl) ?_; dsimp only)); refine box_event ?hg (N := 1) ?hd (cs := #[.string a0_0, .bool a0_1, .string a0_2]) (t := 57) ?hr ?_; (case hd => rfl); (case hg => rfl); (case hr => first | (go_simp; done) | (go_simp; rfl)); intro gb117 hg w14 hbox hb; have n0_ := bs_ HB hb; have n1_ := Aside0.mk (hbox); have n2_ := gz_ HB hg; have n3_ := gz_ HB hg; clear HB; have HB := n0_; have BK117 := n1_; have GW117 := n2_; have GE117 := n3_; clear n0_ n1_ n2_ n3_; clear hb hbox hg; have hcz15_0 := bc0 BK117; have hcz15_1 := bc1 BK117; have hcz15_2 := bc2 BK117; have hfz15_0 := bf_ BK117 0; have hfz15_1 := bf_ BK117 1; have hfz15_2 := bf_ BK117 2))
    go_ret
    exact ⟨by first | rfl | (simp [*, errW_none, errW_some] <;> rfl), gwl_ [gb117] HB ⟨GE117, ⟨⟩⟩⟩
  rw [if_pos c2] at H
  have c2b0 : decide (1 ≤ (a0_0.size : Int)) = true := decide_eq_true c2
  have c2b1 : decide (1 ≤ a0_0.size) = true := decide_eq_true (by omega)
  clear c2
  by_cases c3 : (a0_0.size : Int) ≤ 13
  rotate_left
  · rw [if_neg c3] at H
    have c3b0 : decide ((a0_0.size : Int) ≤ 13) = false := decide_eq_false c3
    have c3b1 : decide (a0_0.size ≤ 13) = false := decide_eq_false (by omega)
    clear c3
    obtain rfl := Option.some.inj H
    go_enter Try.func32, Try.ntmps32
    go_wp2_with (first | ((with_reducible refine gate_dst (N := 1) rfl ?_); (try (refine gate_guard (by rfl) ?_; dsimp only)); refine box_event ?hg (N := 1) ?hd (cs := #[.string a0_0, .bool a0_1, .string a0_2]) (t := 57) ?hr ?_; (case hd => rfl); (case hg => rfl); (case hr => first | (go_simp; done) | (go_simp; rfl)); intro gb117 hg w12 hbox hb; have n0_ := bs_ HB hb; have n1_ := Aside0.mk (hbox); have n2_ := gz_ HB hg; have n3_ := gz_ HB hg; clear HB; have HB := n0_; have BK117 := n1_; have GW117 := n2_; have GE117 := n3_; clear n0_ n1_ n2_ n3_; clear hb hbox hg; have hcz13_0 := bc0 BK117; have hcz13_1 := bc1 BK117; have hcz13_2 := bc2 BK117; have hfz13_0 := bf_ BK117 0; have hfz13_1 := bf_ BK117 1; have hfz13_2 := bf_ BK117 2))
    go_ret
    exact ⟨by first | rfl | (simp [*, errW_none, errW_some] <;> rfl), gwl_ [gb117] HB ⟨GE117, ⟨⟩⟩⟩
  rw [if_pos c3] at H
  have c3b0 : decide ((a0_0.size : Int) ≤ 13) = true := decide_eq_true c3
  have c3b1 : decide (a0_0.size ≤ 13) = true := decide_eq_true (by omega)
  clear c3
  by_cases c4 : (a0_2.size : Int) ≤ 24
  rotate_left
  · rw [if_neg c4] at H
    have c4b0 : decide ((a0_2.size : Int) ≤ 24) = false := decide_eq_false c4
    have c4b1 : decide (a0_2.size ≤ 24) = false := decide_eq_false (by omega)
    clear c4
    obtain rfl := Option.some.inj H
    go_enter Try.func32, Try.ntmps32
    go_wp2_with (first | ((with_reducible refine gate_dst (N := 1) rfl ?_); (try (refine gate_guard (by rfl) ?_; dsimp only)); refine box_event ?hg (N := 1) ?hd (cs := #[.string a0_0, .bool a0_1, .string a0_2]) (t := 57) ?hr ?_; (case hd => rfl); (case hg => rfl); (case hr => first | (go_simp; done) | (go_simp; rfl)); intro gb117 hg w10 hbox hb; have n0_ := bs_ HB hb; have n1_ := Aside0.mk (hbox); have n2_ := gz_ HB hg; have n3_ := gz_ HB hg; clear HB; have HB := n0_; have BK117 := n1_; have GW117 := n2_; have GE117 := n3_; clear n0_ n1_ n2_ n3_; clear hb hbox hg; have hcz11_0 := bc0 BK117; have hcz11_1 := bc1 BK117; have hcz11_2 := bc2 BK117; have hfz11_0 := bf_ BK117 0; have hfz11_1 := bf_ BK117 1; have hfz11_2 := bf_ BK117 2))
    go_ret
    exact ⟨by first | rfl | (simp [*, errW_none, errW_some] <;> rfl), gwl_ [gb117] HB ⟨GE117, ⟨⟩⟩⟩
  rw [if_pos c4] at H
  have c4b0 : decide ((a0_2.size : Int) ≤ 24) = true := decide_eq_true c4
  have c4b1 : decide (a0_2.size ≤ 24) = true := decide_eq_true (by omega)
  clear c4
  by_cases c5 : a0_1 = true
  · subst c5
    have H1 : (some (a0_2.toList == ([] : List UInt8))) = some r := by rw [if_pos rfl] at H; exact H
    clear H
    have H := H1
    clear H1
    obtain rfl := Option.some.inj H
    go_enter Try.func32, Try.ntmps32
    go_wp2_with (first | ((with_reducible refine gate_dst (N := 1) rfl ?_); (try (refine gate_guard (by rfl) ?_; dsimp only)); refine box_event ?hg (N := 1) ?hd (cs := #[.string a0_0, .bool true, .string a0_2]) (t := 57) ?hr ?_; (case hd => rfl); (case hg => rfl); (case hr => first | (go_simp; done) | (go_simp; rfl)); intro gb117 hg w6 hbox hb; have n0_ := bs_ HB hb; have n1_ := Aside0.mk (hbox); have n2_ := gz_ HB hg; have n3_ := gz_ HB hg; clear HB; have HB := n0_; have BK117 := n1_; have GW117 := n2_; have GE117 := n3_; clear n0_ n1_ n2_ n3_; clear hb hbox hg; have hcz7_0 := bc0 BK117; have hcz7_1 := bc1 BK117; have hcz7_2 := bc2 BK117; have hfz7_0 := bf_ BK117 0; have hfz7_1 := bf_ BK117 1; have hfz7_2 := bf_ BK117 2))
    go_ret
    exact ⟨by first | rfl | (simp [*, errW_none, errW_some] <;> rfl), gwl_ [gb117] HB ⟨GE117, ⟨⟩⟩⟩
  replace c5 := Bool.eq_false_iff.mpr c5
  subst c5
  have H1 : (some true) = some r := by rw [if_neg (show ¬ (false = true) by decide)] at H; exact H
  clear H
  have H := H1
  clear H1
  obtain rfl := Option.some.inj H
  go_enter Try.func32, Try.ntmps32
  go_wp2_with (first | ((with_reducible refine gate_dst (N := 1) rfl ?_); (try (refine gate_guard (by rfl) ?_; dsimp only)); refine box_event ?hg (N := 1) ?hd (cs := #[.string a0_0, .bool false, .string a0_2]) (t := 57) ?hr ?_; (case hd => rfl); (case hg => rfl); (case hr => first | (go_simp; done) | (go_simp; rfl)); intro gb117 hg w8 hbox hb; have n0_ := bs_ HB hb; have n1_ := Aside0.mk (hbox); have n2_ := gz_ HB hg; have n3_ := gz_ HB hg; clear HB; have HB := n0_; have BK117 := n1_; have GW117 := n2_; have GE117 := n3_; clear n0_ n1_ n2_ n3_; clear hb hbox hg; have hcz9_0 := bc0 BK117; have hcz9_1 := bc1 BK117; have hcz9_2 := bc2 BK117; have hfz9_0 := bf_ BK117 0; have hfz9_1 := bf_ BK117 1; have hfz9_2 := bf_ BK117 2))
  go_ret
  exact ⟨by first | rfl | (simp [*, errW_none, errW_some] <;> rfl), gwl_ [gb117] HB ⟨GE117, ⟨⟩⟩⟩

/-! ### entry_Is: function 25 -/
def entry_Is.f (a0_0 : ByteArray) (a0_1 : Int) (a0_2 : Bool) (a0_3 : ByteArray) : Option (Bool) := if a0_1 ≥ 1 then (if a0_1 ≤ 1000000 then ((entry_IsWrite.f a0_0 a0_2 a0_3).bind fun t119 => (some t119)) else (some false)) else (some false)
set_option maxHeartbeats 8000000 in
set_option maxRecDepth 100000 in
theorem entry_Is.calls (a0_0 : ByteArray) (a0_1 : Int) (a0_2 : Bool) (a0_3 : ByteArray) (r : Bool) (w : World) (h : entry_Is.f a0_0 a0_1 a0_2 a0_3 = some r) :
    Calls Try.prog 25 #[.agg #[.string a0_0, .int .i64 a0_1, .bool a0_2, .string a0_3]] w fun e w' => e = .returned (.bool r) ∧ Below w.heap.size w w' := by
  have hu29 := Try.underlying29
  have hu57 := Try.underlying57
  have HB := Aside0.mk (Below.refl w.heap.size w)
  have H : (if a0_1 ≥ 1 then (if a0_1 ≤ 1000000 then ((entry_IsWrite.f a0_0 a0_2 a0_3).bind fun t119 => (some t119)) else (some false)) else (some false)) = some r := h
  clear h
  by_cases c2 : a0_1 ≥ 1
  rotate_left
  · rw [if_neg c2] at H
    have c2b0 : decide (1 ≤ a0_1) = false := decide_eq_false c2
    clear c2
    obtain rfl := Option.some.inj H
    go_enter Try.func25, Try.ntmps25
    go_wp2_with (first | ((with_reducible refine gate_dst (N := 1) rfl ?_); refine box_event ?hg (N := 1) ?hd (cs := #[.string a0_0, .int .i64 a0_1, .bool a0_2, .string a0_3]) (t := 29) ?hr ?_; (case hd => rfl); (case hg => rfl); (case hr => first | (go_simp; done) | (go_simp; rfl)); intro gb118 hg w10 hbox hb; have n0_ := bs_ HB hb; have n1_ := Aside0.mk (hbox); have n2_ := gz_ HB hg; have n3_ := gz_ HB hg; clear HB; have HB := n0_; have BK118 := n1_; have GW118 := n2_; have GE118 := n3_; clear n0_ n1_ n2_ n3_; clear hb hbox hg; have hcz11_0 := bc0 BK118; have hcz11_1 := bc1 BK118; have hcz11_2 := bc2 BK118; have hcz11_3 := bc3 BK118; have hfz11_0 := bf_ BK118 0; have hfz11_1 := bf_ BK118 1; have hfz11_2 := bf_ BK118 2; have hfz11_3 := bf_ BK118 3))
    go_ret
    exact ⟨by first | rfl | (simp [*, errW_none, errW_some] <;> rfl), gwl_ [gb118] HB ⟨GE118, ⟨⟩⟩⟩
  rw [if_pos c2] at H
  have c2b0 : decide (1 ≤ a0_1) = true := decide_eq_true c2
  clear c2
  by_cases c3 : a0_1 ≤ 1000000
  rotate_left
  · rw [if_neg c3] at H
    have c3b0 : decide (a0_1 ≤ 1000000) = false := decide_eq_false c3
    clear c3
    obtain rfl := Option.some.inj H
    go_enter Try.func25, Try.ntmps25
    go_wp2_with (first | ((with_reducible refine gate_dst (N := 1) rfl ?_); refine box_event ?hg (N := 1) ?hd (cs := #[.string a0_0, .int .i64 a0_1, .bool a0_2, .string a0_3]) (t := 29) ?hr ?_; (case hd => rfl); (case hg => rfl); (case hr => first | (go_simp; done) | (go_simp; rfl)); intro gb118 hg w8 hbox hb; have n0_ := bs_ HB hb; have n1_ := Aside0.mk (hbox); have n2_ := gz_ HB hg; have n3_ := gz_ HB hg; clear HB; have HB := n0_; have BK118 := n1_; have GW118 := n2_; have GE118 := n3_; clear n0_ n1_ n2_ n3_; clear hb hbox hg; have hcz9_0 := bc0 BK118; have hcz9_1 := bc1 BK118; have hcz9_2 := bc2 BK118; have hcz9_3 := bc3 BK118; have hfz9_0 := bf_ BK118 0; have hfz9_1 := bf_ BK118 1; have hfz9_2 := bf_ BK118 2; have hfz9_3 := bf_ BK118 3))
    go_ret
    exact ⟨by first | rfl | (simp [*, errW_none, errW_some] <;> rfl), gwl_ [gb118] HB ⟨GE118, ⟨⟩⟩⟩
  rw [if_pos c3] at H
  have c3b0 : decide (a0_1 ≤ 1000000) = true := decide_eq_true c3
  clear c3
  replace H := Option.bind_eq_some_iff.mp H
  obtain ⟨t119, A40, H⟩ := H
  try dsimp only at H
  have A4 := Aside0.mk A40
  clear A40
  obtain rfl := Option.some.inj H
  go_enter Try.func25, Try.ntmps25
  go_wp2_with (first | ((with_reducible refine gate_dst (N := 1) rfl ?_); refine box_event ?hg (N := 1) ?hd (cs := #[.string a0_0, .int .i64 a0_1, .bool a0_2, .string a0_3]) (t := 29) ?hr ?_; (case hd => rfl); (case hg => rfl); (case hr => first | (go_simp; done) | (go_simp; rfl)); intro gb118 hg w5 hbox hb; have n0_ := bs_ HB hb; have n1_ := Aside0.mk (hbox); have n2_ := gz_ HB hg; have n3_ := gz_ HB hg; clear HB; have HB := n0_; have BK118 := n1_; have GW118 := n2_; have GE118 := n3_; clear n0_ n1_ n2_ n3_; clear hb hbox hg; have hcz6_0 := bc0 BK118; have hcz6_1 := bc1 BK118; have hcz6_2 := bc2 BK118; have hcz6_3 := bc3 BK118; have hfz6_0 := bf_ BK118 0; have hfz6_1 := bf_ BK118 1; have hfz6_2 := bf_ BK118 2; have hfz6_3 := bf_ BK118 3) | (go_at_call 32; (with_reducible refine (entry_IsWrite.calls a0_0 a0_2 a0_3 t119 _ A4.out).mono ?_); rintro e w7 ⟨rfl, hb⟩; have n0_ := bb_ BK118 hb; have n1_ := bl_ [gb118] HB ⟨GE118, ⟨⟩⟩ hb; clear BK118; clear HB; have BK118 := n0_; have HB := n1_; clear n0_ n1_; (try clear hb); (try clear hb2); (try clear hk); (try clear hi)))
  go_ret
  exact ⟨by first | rfl | (simp [*, errW_none, errW_some] <;> rfl), gwl_ [gb118] HB ⟨GE118, ⟨⟩⟩⟩

-- NOT PRINTED: function 33 (api_Entry_33)

end Go.Proofs.Ytdkdnfgpgedglaa.P
