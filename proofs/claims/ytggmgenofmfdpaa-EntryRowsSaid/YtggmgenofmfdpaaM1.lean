-- Printed by a changed copy of the kit's printer (wip/tools/ext.py); labels and more
import Derived.Test.YtggmgenofmfdpaaM0
namespace Go.Proofs.Ytggmgenofmfdpaa.P
open Go.RowKit Go.Proofs.YtggmgenofmfdpaaW.PrintWords Go.Proofs.YtggmgenofmfdpaaW.PrintLast Go.Proofs.YtggmgenofmfdpaaW.PrintMore
attribute [local go_sem] max2_int min2_int max_two min_two max_three min_three max_four min_four   -- for this text's walks alone
set_option linter.unusedVariables false
set_option linter.unusedSimpArgs false

/-! ### entry_Taker_Value: function 27 -/
def entry_Taker_Value.f (k : Nat) (s0_0 : ByteArray) (s0_1 : Int) (s0_2 : Int) : Option (Bool × ByteArray × ByteArray × Int × Int) := if s0_2 = 0 then (if s0_1 ≥ (s0_0.size : Int) then (some (false, (⟨#[]⟩ : ByteArray), s0_0, s0_1, 12)) else (if 0 ≤ s0_1 then (if s0_1 < (s0_0.size : Int) then (if (bt s0_0 s0_1) = 0 then ((entry_Taker_Text.f k s0_0 (wrap64 (s0_1 + 1)) s0_2).bind fun bt113 => (some (false, bt113.1, bt113.2.1, bt113.2.2.1, bt113.2.2.2))) else (if (bt s0_0 s0_1) = 1 then (some (true, (⟨#[]⟩ : ByteArray), s0_0, wrap64 (s0_1 + 1), s0_2)) else (some (false, (⟨#[]⟩ : ByteArray), s0_0, wrap64 (s0_1 + 1), 10)))) else (none)) else (none))) else (some (false, (⟨#[]⟩ : ByteArray), s0_0, s0_1, s0_2))
theorem entry_Taker_Value.mono : ∀ a0 a1 a2 k, LeO (entry_Taker_Value.f k a0 a1 a2) (entry_Taker_Value.f (k + 1) a0 a1 a2) := by
  intro a0 a1 a2 k
  unfold entry_Taker_Value.f
  repeat' first
      | (with_reducible exact entry_Taker_Text.mono _ _ _ _)
      | (with_reducible exact LeO.refl _)
      | (with_reducible exact LeO.none _)
      | (with_reducible refine LeO.ite ?_ ?_)
      | (with_reducible refine LeO.bind ?_ (fun _ => ?_))
      | exact entry_Taker_Text.mono _ _ _ _
      | exact LeO.none _
      | refine LeO.ite ?_ ?_
      | refine LeO.bind ?_ (fun _ => ?_)
set_option maxHeartbeats 8000000 in
set_option maxRecDepth 100000 in
theorem entry_Taker_Value.calls (k : Nat) (g : Nat) (s0_0 : ByteArray) (s0_1 : Int) (s0_2 : Int) (r1 : Bool) (r2 : ByteArray) (r3 : ByteArray) (r4 : Int) (r5 : Int) (w0 w : World) (hI : IsS48 w0 w g s0_0 s0_1 s0_2) (hB : Below w0.heap.size w0 w) (h : entry_Taker_Value.f k s0_0 s0_1 s0_2 = some (r1, r2, r3, r4, r5)) :
    Calls Try.prog 27 #[.pointer (some ⟨g, 0, none⟩)] w fun e w' => e = .returned (.tuple #[.bool r1, .string r2]) ∧ IsS48 w0 w' g r3 r4 r5 ∧ Below w0.heap.size w0 w' ∧ KeepBut w w' g none := by
  have HI0 := Aside0.mk hI
  have HK := Aside0.mk (KeepBut.refl w g none)
  have HL := Aside0.mk hB.size
  clear hI
  have HW0 := Aside0.mk hB.size
  have HB := Aside0.mk hB
  clear hB
  have H : (if s0_2 = 0 then (if s0_1 ≥ (s0_0.size : Int) then (some (false, (⟨#[]⟩ : ByteArray), s0_0, s0_1, 12)) else (if 0 ≤ s0_1 then (if s0_1 < (s0_0.size : Int) then (if (bt s0_0 s0_1) = 0 then ((entry_Taker_Text.f k s0_0 (wrap64 (s0_1 + 1)) s0_2).bind fun bt113 => (some (false, bt113.1, bt113.2.1, bt113.2.2.1, bt113.2.2.2))) else (if (bt s0_0 s0_1) = 1 then (some (true, (⟨#[]⟩ : ByteArray), s0_0, wrap64 (s0_1 + 1), s0_2)) else (some (false, (⟨#[]⟩ : ByteArray), s0_0, wrap64 (s0_1 + 1), 10)))) else (none)) else (none))) else (some (false, (⟨#[]⟩ : ByteArray), s0_0, s0_1, s0_2))) = some (r1, r2, r3, r4, r5) := h
  clear h
  by_cases c2 : s0_2 = 0
  · rw [if_pos c2] at H
    have c2b0 : (s0_2 == 0) = true := beq_iff_eq.mpr c2
    have c2b1 : (s0_2 != 0) = false := bne_eq_false_iff_eq.mpr c2
    clear c2
    by_cases c3 : s0_1 ≥ (s0_0.size : Int)
    · rw [if_pos c3] at H
      have c3b0 : decide ((s0_0.size : Int) ≤ s0_1) = true := decide_eq_true c3
      clear c3
      simp only [Option.some.injEq, Prod.mk.injEq] at H
      obtain ⟨rfl, rfl, rfl, rfl, rfl⟩ := H
      obtain ⟨HGz4, hgz4⟩ := HI0.out
      have hcz4_0 := cellS48_0 HGz4
      have hcz4_1 := cellS48_1 HGz4
      have hcz4_2 := cellS48_2 HGz4
      have hfz4_0 := blk_frozen HGz4 0
      have hfz4_1 := blk_frozen HGz4 1
      have hfz4_2 := blk_frozen HGz4 2
      clear HGz4 hgz4
      go_enter Try.func27, Try.ntmps27
      go_wp2
      repeat (go_quiet (fail); try go_wp2)
      go_ret2
      exact ⟨by first | rfl | (simp [errW_none, errW_some] <;> rfl) | (simp [*, errW_none, errW_some] <;> rfl), by repeat (first | (with_reducible first | exact HI0.out | apply IsS48.alloc | apply IsS48.drewN | apply IsS48.drew | apply IsS48.set_0 | apply IsS48.set_1 | apply IsS48.set_2) | exact HI0.out), by repeat (first | (with_reducible first | exact HB.out | apply below_alloc | apply pw_below_drewN | apply below_drew1 | refine below_set ?_ (IsS48.ge HI0.out)) | exact HB.out), by repeat (first | (with_reducible first | exact HK.out | apply KeepBut.set_ | apply keep_drewN | apply keep_drew | apply keep_alloc) | exact HK.out)⟩
    · rw [if_neg c3] at H
      have c3b0 : decide ((s0_0.size : Int) ≤ s0_1) = false := decide_eq_false c3
      clear c3
      by_cases c5 : 0 ≤ s0_1
      · rw [if_pos c5] at H
        have c5b0 : decide (0 ≤ s0_1) = true := decide_eq_true c5
        clear c5
        by_cases c6 : s0_1 < (s0_0.size : Int)
        · rw [if_pos c6] at H
          have c6b0 : decide (s0_1 < (s0_0.size : Int)) = true := decide_eq_true c6
          clear c6
          by_cases c8 : (bt s0_0 s0_1) = 0
          · rw [if_pos c8] at H
            have c8b0 : ((bt s0_0 s0_1) == 0) = true := beq_iff_eq.mpr c8
            have c8b1 : ((bt s0_0 s0_1) != 0) = false := bne_eq_false_iff_eq.mpr c8
            clear c8
            replace H := Option.bind_eq_some_iff.mp H
            obtain ⟨⟨t113, t114, t115, t116⟩, A90, H⟩ := H
            replace H : (some (false, t113, t114, t115, t116)) = some (r1, r2, r3, r4, r5) := H
            have A9 := Aside0.mk A90
            clear A90
            simp only [Option.some.injEq, Prod.mk.injEq] at H
            obtain ⟨rfl, rfl, rfl, rfl, rfl⟩ := H
            obtain ⟨HGz10, hgz10⟩ := HI0.out
            have hcz10_0 := cellS48_0 HGz10
            have hcz10_1 := cellS48_1 HGz10
            have hcz10_2 := cellS48_2 HGz10
            have hfz10_0 := blk_frozen HGz10 0
            have hfz10_1 := blk_frozen HGz10 1
            have hfz10_2 := blk_frozen HGz10 2
            clear HGz10 hgz10
            have p7 : 0 ≤ (s0_1 : Int) := of_decide_eq_true (by first | (with_reducible assumption) | assumption)
            have q7 : s0_1 < (s0_0.size : Int) := of_decide_eq_true (by first | (with_reducible assumption) | assumption)
            have hx7 := bt_at s0_0 s0_1
            replace p7 := eq_true p7
            replace q7 := eq_true q7
            go_enter Try.func27, Try.ntmps27
            go_wp2_with (first | (go_at_call 25; (with_reducible refine (entry_Taker_Text.calls k g s0_0 (wrap64 (s0_1 + 1)) s0_2 t113 t114 t115 t116 w0 _ ?side1 ?side2 A9.out).mono ?_); (case side1 => repeat (first | (with_reducible first | exact HI0.out | apply IsS48.alloc | apply IsS48.drewN | apply IsS48.drew | apply IsS48.set_0 | apply IsS48.set_1 | apply IsS48.set_2) | exact HI0.out)); (case side2 => repeat (first | (with_reducible first | exact HB.out | apply below_alloc | apply pw_below_drewN | apply below_drew1 | refine below_set ?_ (IsS48.ge HI0.out)) | exact HB.out)); rintro e w11 ⟨rfl, hi, hb, hk⟩; have n0_ := Aside0.mk (KeepBut.trans (by repeat (first | (with_reducible first | exact HK.out | apply KeepBut.set_ | apply keep_drewN | apply keep_drew | apply keep_alloc) | exact HK.out)) hk (.inl rfl)); have n1_ := Aside0.mk (hb); have n2_ := Aside0.mk (hi); clear HK; clear HB; clear HI0; have HK := n0_; have HB := n1_; have HI0 := n2_; clear n0_ n1_ n2_; (try clear hb); (try clear hb2); (try clear hk); (try clear hi)))
            repeat (go_quiet (first | (go_at_call 25; (with_reducible refine (entry_Taker_Text.calls k g s0_0 (wrap64 (s0_1 + 1)) s0_2 t113 t114 t115 t116 w0 _ ?side1 ?side2 A9.out).mono ?_); (case side1 => repeat (first | (with_reducible first | exact HI0.out | apply IsS48.alloc | apply IsS48.drewN | apply IsS48.drew | apply IsS48.set_0 | apply IsS48.set_1 | apply IsS48.set_2) | exact HI0.out)); (case side2 => repeat (first | (with_reducible first | exact HB.out | apply below_alloc | apply pw_below_drewN | apply below_drew1 | refine below_set ?_ (IsS48.ge HI0.out)) | exact HB.out)); rintro e w11 ⟨rfl, hi, hb, hk⟩; have n0_ := Aside0.mk (KeepBut.trans (by repeat (first | (with_reducible first | exact HK.out | apply KeepBut.set_ | apply keep_drewN | apply keep_drew | apply keep_alloc) | exact HK.out)) hk (.inl rfl)); have n1_ := Aside0.mk (hb); have n2_ := Aside0.mk (hi); clear HK; clear HB; clear HI0; have HK := n0_; have HB := n1_; have HI0 := n2_; clear n0_ n1_ n2_; (try clear hb); (try clear hb2); (try clear hk); (try clear hi))); try go_wp2_with (first | (go_at_call 25; (with_reducible refine (entry_Taker_Text.calls k g s0_0 (wrap64 (s0_1 + 1)) s0_2 t113 t114 t115 t116 w0 _ ?side1 ?side2 A9.out).mono ?_); (case side1 => repeat (first | (with_reducible first | exact HI0.out | apply IsS48.alloc | apply IsS48.drewN | apply IsS48.drew | apply IsS48.set_0 | apply IsS48.set_1 | apply IsS48.set_2) | exact HI0.out)); (case side2 => repeat (first | (with_reducible first | exact HB.out | apply below_alloc | apply pw_below_drewN | apply below_drew1 | refine below_set ?_ (IsS48.ge HI0.out)) | exact HB.out)); rintro e w11 ⟨rfl, hi, hb, hk⟩; have n0_ := Aside0.mk (KeepBut.trans (by repeat (first | (with_reducible first | exact HK.out | apply KeepBut.set_ | apply keep_drewN | apply keep_drew | apply keep_alloc) | exact HK.out)) hk (.inl rfl)); have n1_ := Aside0.mk (hb); have n2_ := Aside0.mk (hi); clear HK; clear HB; clear HI0; have HK := n0_; have HB := n1_; have HI0 := n2_; clear n0_ n1_ n2_; (try clear hb); (try clear hb2); (try clear hk); (try clear hi))))
            go_ret2
            exact ⟨by first | rfl | (simp [errW_none, errW_some] <;> rfl) | (simp [*, errW_none, errW_some] <;> rfl), by repeat (first | (with_reducible first | exact HI0.out | apply IsS48.alloc | apply IsS48.drewN | apply IsS48.drew | apply IsS48.set_0 | apply IsS48.set_1 | apply IsS48.set_2) | exact HI0.out), by repeat (first | (with_reducible first | exact HB.out | apply below_alloc | apply pw_below_drewN | apply below_drew1 | refine below_set ?_ (IsS48.ge HI0.out)) | exact HB.out), by repeat (first | (with_reducible first | exact HK.out | apply KeepBut.set_ | apply keep_drewN | apply keep_drew | apply keep_alloc) | exact HK.out)⟩
          · rw [if_neg c8] at H
            have c8b0 : ((bt s0_0 s0_1) == 0) = false := beq_eq_false_iff_ne.mpr c8
            have c8b1 : ((bt s0_0 s0_1) != 0) = true := bne_iff_ne.mpr c8
            by_cases c12 : (bt s0_0 s0_1) = 1
            · rw [if_pos c12] at H
              have c12b0 : ((bt s0_0 s0_1) == 1) = true := beq_iff_eq.mpr c12
              have c12b1 : ((bt s0_0 s0_1) != 1) = false := bne_eq_false_iff_eq.mpr c12
              clear c12
              simp only [Option.some.injEq, Prod.mk.injEq] at H
              obtain ⟨rfl, rfl, rfl, rfl, rfl⟩ := H
              obtain ⟨HGz13, hgz13⟩ := HI0.out
              have hcz13_0 := cellS48_0 HGz13
              have hcz13_1 := cellS48_1 HGz13
              have hcz13_2 := cellS48_2 HGz13
              have hfz13_0 := blk_frozen HGz13 0
              have hfz13_1 := blk_frozen HGz13 1
              have hfz13_2 := blk_frozen HGz13 2
              clear HGz13 hgz13
              have p7 : 0 ≤ (s0_1 : Int) := of_decide_eq_true (by first | (with_reducible assumption) | assumption)
              have q7 : s0_1 < (s0_0.size : Int) := of_decide_eq_true (by first | (with_reducible assumption) | assumption)
              have hx7 := bt_at s0_0 s0_1
              replace p7 := eq_true p7
              replace q7 := eq_true q7
              go_enter Try.func27, Try.ntmps27
              go_wp2
              repeat (go_quiet (fail); try go_wp2)
              go_ret2
              exact ⟨by first | rfl | (simp [errW_none, errW_some] <;> rfl) | (simp [*, errW_none, errW_some] <;> rfl), by repeat (first | (with_reducible first | exact HI0.out | apply IsS48.alloc | apply IsS48.drewN | apply IsS48.drew | apply IsS48.set_0 | apply IsS48.set_1 | apply IsS48.set_2) | exact HI0.out), by repeat (first | (with_reducible first | exact HB.out | apply below_alloc | apply pw_below_drewN | apply below_drew1 | refine below_set ?_ (IsS48.ge HI0.out)) | exact HB.out), by repeat (first | (with_reducible first | exact HK.out | apply KeepBut.set_ | apply keep_drewN | apply keep_drew | apply keep_alloc) | exact HK.out)⟩
            · rw [if_neg c12] at H
              have c12b0 : ((bt s0_0 s0_1) == 1) = false := beq_eq_false_iff_ne.mpr c12
              have c12b1 : ((bt s0_0 s0_1) != 1) = true := bne_iff_ne.mpr c12
              simp only [Option.some.injEq, Prod.mk.injEq] at H
              obtain ⟨rfl, rfl, rfl, rfl, rfl⟩ := H
              obtain ⟨HGz14, hgz14⟩ := HI0.out
              have hcz14_0 := cellS48_0 HGz14
              have hcz14_1 := cellS48_1 HGz14
              have hcz14_2 := cellS48_2 HGz14
              have hfz14_0 := blk_frozen HGz14 0
              have hfz14_1 := blk_frozen HGz14 1
              have hfz14_2 := blk_frozen HGz14 2
              clear HGz14 hgz14
              have p7 : 0 ≤ (s0_1 : Int) := of_decide_eq_true (by first | (with_reducible assumption) | assumption)
              have q7 : s0_1 < (s0_0.size : Int) := of_decide_eq_true (by first | (with_reducible assumption) | assumption)
              have hx7 := bt_at s0_0 s0_1
              replace p7 := eq_true p7
              replace q7 := eq_true q7
              go_enter Try.func27, Try.ntmps27
              go_wp2
              repeat (go_quiet (fail); try go_wp2)
              go_ret2
              exact ⟨by first | rfl | (simp [errW_none, errW_some] <;> rfl) | (simp [*, errW_none, errW_some] <;> rfl), by repeat (first | (with_reducible first | exact HI0.out | apply IsS48.alloc | apply IsS48.drewN | apply IsS48.drew | apply IsS48.set_0 | apply IsS48.set_1 | apply IsS48.set_2) | exact HI0.out), by repeat (first | (with_reducible first | exact HB.out | apply below_alloc | apply pw_below_drewN | apply below_drew1 | refine below_set ?_ (IsS48.ge HI0.out)) | exact HB.out), by repeat (first | (with_reducible first | exact HK.out | apply KeepBut.set_ | apply keep_drewN | apply keep_drew | apply keep_alloc) | exact HK.out)⟩
        · rw [if_neg c6] at H
          exact absurd H (by simp)
      · rw [if_neg c5] at H
        exact absurd H (by simp)
  · rw [if_neg c2] at H
    have c2b0 : (s0_2 == 0) = false := beq_eq_false_iff_ne.mpr c2
    have c2b1 : (s0_2 != 0) = true := bne_iff_ne.mpr c2
    simp only [Option.some.injEq, Prod.mk.injEq] at H
    obtain ⟨rfl, rfl, rfl, rfl, rfl⟩ := H
    obtain ⟨HGz15, hgz15⟩ := HI0.out
    have hcz15_0 := cellS48_0 HGz15
    have hcz15_1 := cellS48_1 HGz15
    have hcz15_2 := cellS48_2 HGz15
    have hfz15_0 := blk_frozen HGz15 0
    have hfz15_1 := blk_frozen HGz15 1
    have hfz15_2 := blk_frozen HGz15 2
    clear HGz15 hgz15
    go_enter Try.func27, Try.ntmps27
    go_wp2
    repeat (go_quiet (fail); try go_wp2)
    go_ret2
    exact ⟨by first | rfl | (simp [errW_none, errW_some] <;> rfl) | (simp [*, errW_none, errW_some] <;> rfl), by repeat (first | (with_reducible first | exact HI0.out | apply IsS48.alloc | apply IsS48.drewN | apply IsS48.drew | apply IsS48.set_0 | apply IsS48.set_1 | apply IsS48.set_2) | exact HI0.out), by repeat (first | (with_reducible first | exact HB.out | apply below_alloc | apply pw_below_drewN | apply below_drew1 | refine below_set ?_ (IsS48.ge HI0.out)) | exact HB.out), by repeat (first | (with_reducible first | exact HK.out | apply KeepBut.set_ | apply keep_drewN | apply keep_drew | apply keep_alloc) | exact HK.out)⟩

end Go.Proofs.Ytggmgenofmfdpaa.P
