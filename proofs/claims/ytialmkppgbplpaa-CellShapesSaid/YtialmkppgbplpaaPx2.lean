-- Printed by a changed copy of the kit's printer (wip/tools/ext.py); labels and more
import Derived.Test.YtialmkppgbplpaaPx0
import Derived.Test.YtialmkppgbplpaaPx1
namespace Go.Proofs.Ytialmkppgbplpaa.P
open Go.RowKit Go.Proofs.YtialmkppgbplpaaW.PrintWords Go.Proofs.YtialmkppgbplpaaW.PrintLast Go.Proofs.YtialmkppgbplpaaW.PrintMore
attribute [local go_sem] max2_int min2_int max_two min_two max_three min_three max_four min_four   -- for this text's walks alone
set_option linter.unusedVariables false
set_option linter.unusedSimpArgs false

/-! ### cell_TakeText: function 11 -/
def cell_TakeText.f (k : Nat) (a0 : ByteArray) : Option (ByteArray × Int × Int) := (cell_TakeNum.f k a0).bind fun bt101 => (if bt101.2.2 = 0 then (if bt101.1 > (wrap64 ((a0.size : Int) - bt101.2.1)) then (some ((⟨#[]⟩ : ByteArray), 0, 12)) else (if 0 ≤ bt101.2.1 then (if bt101.2.1 ≤ (wrap64 (bt101.2.1 + bt101.1)) then (if (wrap64 (bt101.2.1 + bt101.1)) ≤ (a0.size : Int) then (some (a0.extract (bt101.2.1 : Int).toNat ((wrap64 (bt101.2.1 + bt101.1)) : Int).toNat, wrap64 (bt101.2.1 + bt101.1), 0)) else (none)) else (none)) else (none))) else (some ((⟨#[]⟩ : ByteArray), 0, bt101.2.2)))
theorem cell_TakeText.mono : ∀ a0 k, LeO (cell_TakeText.f k a0) (cell_TakeText.f (k + 1) a0) := by
  intro a0 k
  unfold cell_TakeText.f
  repeat' first
      | (with_reducible exact cell_TakeNum.mono _ _)
      | (with_reducible exact LeO.refl _)
      | (with_reducible exact LeO.none _)
      | (with_reducible refine LeO.ite ?_ ?_)
      | (with_reducible refine LeO.bind ?_ (fun _ => ?_))
      | exact cell_TakeNum.mono _ _
      | exact LeO.none _
      | refine LeO.ite ?_ ?_
      | refine LeO.bind ?_ (fun _ => ?_)
set_option maxHeartbeats 8000000 in
set_option maxRecDepth 100000 in
theorem cell_TakeText.calls (k : Nat) (a0 : ByteArray) (r1 : ByteArray) (r2 : Int) (r3 : Int) (w : World) (h : cell_TakeText.f k a0 = some (r1, r2, r3)) :
    Calls Try.prog 11 #[.string a0] w fun e w' => e = .returned (.tuple #[.string r1, .int .i64 r2, .int .i64 r3]) ∧ Drawn0 w w' := by
  have H : ((cell_TakeNum.f k a0).bind fun bt101 => (if bt101.2.2 = 0 then (if bt101.1 > (wrap64 ((a0.size : Int) - bt101.2.1)) then (some ((⟨#[]⟩ : ByteArray), 0, 12)) else (if 0 ≤ bt101.2.1 then (if bt101.2.1 ≤ (wrap64 (bt101.2.1 + bt101.1)) then (if (wrap64 (bt101.2.1 + bt101.1)) ≤ (a0.size : Int) then (some (a0.extract (bt101.2.1 : Int).toNat ((wrap64 (bt101.2.1 + bt101.1)) : Int).toNat, wrap64 (bt101.2.1 + bt101.1), 0)) else (none)) else (none)) else (none))) else (some ((⟨#[]⟩ : ByteArray), 0, bt101.2.2)))) = some (r1, r2, r3) := h
  clear h
  replace H := Option.bind_eq_some_iff.mp H
  obtain ⟨⟨t101, t102, t103⟩, A20, H⟩ := H
  replace H : (if t103 = 0 then (if t101 > (wrap64 ((a0.size : Int) - t102)) then (some ((⟨#[]⟩ : ByteArray), 0, 12)) else (if 0 ≤ t102 then (if t102 ≤ (wrap64 (t102 + t101)) then (if (wrap64 (t102 + t101)) ≤ (a0.size : Int) then (some (a0.extract (t102 : Int).toNat ((wrap64 (t102 + t101)) : Int).toNat, wrap64 (t102 + t101), 0)) else (none)) else (none)) else (none))) else (some ((⟨#[]⟩ : ByteArray), 0, t103))) = some (r1, r2, r3) := H
  have A2 := Aside0.mk A20
  clear A20
  by_cases c3 : t103 = 0
  · rw [if_pos c3] at H
    have c3b0 : (t103 == 0) = true := beq_iff_eq.mpr c3
    have c3b1 : (t103 != 0) = false := bne_eq_false_iff_eq.mpr c3
    clear c3
    by_cases c4 : t101 > (wrap64 ((a0.size : Int) - t102))
    · rw [if_pos c4] at H
      have c4b0 : decide ((wrap64 ((a0.size : Int) - t102)) < t101) = true := decide_eq_true c4
      clear c4
      simp only [Option.some.injEq, Prod.mk.injEq] at H
      obtain ⟨rfl, rfl, rfl⟩ := H
      go_enter Try.func11, Try.ntmps11
      go_wp2_with (first | ((with_reducible refine gate_callee (f := 9) rfl ?_); refine goesL_ (some 10) rfl rfl Try.func9 (by kernel_rfl) rfl #[.string a0] rfl (by (try simp only [List.map_toArray, List.map_cons, List.map_nil]); first | done | rfl | (simp only [List.length_drop, List.length_take]; rfl)) ?_; (with_reducible refine (cell_TakeNum.calls k a0 t101 t102 t103 _ A2.out).mono ?_); rintro e w' ⟨rfl, ⟨nd, rfl⟩⟩; refine ⟨_, rfl, ?_⟩))
      go_ret3
      exact ⟨by first | rfl | (simp; done) | (simp [*]; done), by repeat (first | exact Drawn0.refl _ | apply Drawn0.step)⟩
    · rw [if_neg c4] at H
      have c4b0 : decide ((wrap64 ((a0.size : Int) - t102)) < t101) = false := decide_eq_false c4
      clear c4
      by_cases c5 : 0 ≤ t102
      · rw [if_pos c5] at H
        have c5b0 := eq_true c5
        have c5b1 : decide (0 ≤ t102) = true := decide_eq_true c5
        clear c5
        by_cases c6 : t102 ≤ (wrap64 (t102 + t101))
        · rw [if_pos c6] at H
          have c6b0 := eq_true c6
          have c6b1 : decide (t102 ≤ (wrap64 (t102 + t101))) = true := decide_eq_true c6
          by_cases c7 : (wrap64 (t102 + t101)) ≤ (a0.size : Int)
          · rw [if_pos c7] at H
            have c7b0 := eq_true c7
            have c7b1 : decide ((wrap64 (t102 + t101)) ≤ (a0.size : Int)) = true := decide_eq_true c7
            simp only [Option.some.injEq, Prod.mk.injEq] at H
            obtain ⟨rfl, rfl, rfl⟩ := H
            go_enter Try.func11, Try.ntmps11
            go_wp2_with (first | ((with_reducible refine gate_callee (f := 9) rfl ?_); refine goesL_ (some 10) rfl rfl Try.func9 (by kernel_rfl) rfl #[.string a0] rfl (by (try simp only [List.map_toArray, List.map_cons, List.map_nil]); first | done | rfl | (simp only [List.length_drop, List.length_take]; rfl)) ?_; (with_reducible refine (cell_TakeNum.calls k a0 t101 t102 t103 _ A2.out).mono ?_); rintro e w' ⟨rfl, ⟨nd, rfl⟩⟩; refine ⟨_, rfl, ?_⟩))
            go_ret3
            exact ⟨by first | rfl | (simp; done) | (simp [*]; done), by repeat (first | exact Drawn0.refl _ | apply Drawn0.step)⟩
          · rw [if_neg c7] at H
            exact absurd H (by simp)
        · rw [if_neg c6] at H
          exact absurd H (by simp)
      · rw [if_neg c5] at H
        exact absurd H (by simp)
  · rw [if_neg c3] at H
    have c3b0 : (t103 == 0) = false := beq_eq_false_iff_ne.mpr c3
    have c3b1 : (t103 != 0) = true := bne_iff_ne.mpr c3
    simp only [Option.some.injEq, Prod.mk.injEq] at H
    obtain ⟨rfl, rfl, rfl⟩ := H
    go_enter Try.func11, Try.ntmps11
    go_wp2_with (first | ((with_reducible refine gate_callee (f := 9) rfl ?_); refine goesL_ (some 10) rfl rfl Try.func9 (by kernel_rfl) rfl #[.string a0] rfl (by (try simp only [List.map_toArray, List.map_cons, List.map_nil]); first | done | rfl | (simp only [List.length_drop, List.length_take]; rfl)) ?_; (with_reducible refine (cell_TakeNum.calls k a0 t101 t102 t103 _ A2.out).mono ?_); rintro e w' ⟨rfl, ⟨nd, rfl⟩⟩; refine ⟨_, rfl, ?_⟩))
    go_ret3
    exact ⟨by first | rfl | (simp; done) | (simp [*]; done), by repeat (first | exact Drawn0.refl _ | apply Drawn0.step)⟩

end Go.Proofs.Ytialmkppgbplpaa.P
