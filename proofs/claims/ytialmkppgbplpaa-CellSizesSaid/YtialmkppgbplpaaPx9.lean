-- Printed by a changed copy of the kit's printer (wip/tools/ext.py); labels and more
import Derived.Test.YtialmkppgbplpaaPx0
import Derived.Test.YtialmkppgbplpaaPx2
namespace Go.Proofs.Ytialmkppgbplpaa.P
open Go.RowKit Go.Proofs.YtialmkppgbplpaaW.PrintWords Go.Proofs.YtialmkppgbplpaaW.PrintLast Go.Proofs.YtialmkppgbplpaaW.PrintMore
attribute [local go_sem] max2_int min2_int max_two min_two max_three min_three max_four min_four   -- for this text's walks alone
set_option linter.unusedVariables false
set_option linter.unusedSimpArgs false

/-! ### ravelinlaw3_CellSizes: function 7 -/
mutual
def ravelinlaw3_CellSizes.j0 : Nat → Int → Option (Bool)
  | 0, _ => none
  | k + 1, x5 => ravelinlaw3_CellSizes.l0 k x5 1 x5
def ravelinlaw3_CellSizes.l0 : Nat → Int → Int → Int → Option (Bool)
  | 0, _, _, _ => none
  | k + 1, x5, x6, x7 => if x7 > 0 then (ravelinlaw3_CellSizes.l0 k x5 (wrap64 (x6 + 1)) (wrap64 (Int.tdiv x7 256))) else ((cell_Num.f k x5).bind fun t214 => (if (t214.size : Int) = x6 then (if 0 < (t214.size : Int) then (if (wrap64 (bt t214 0)) = (wrap64 (x6 - 1)) then ((cell_Num.f k (wrap64 ((wrap64 (-x5)) - 1))).bind fun t215 => ((cell_Num.f k 0).bind fun t216 => (some (t215.toList == t216.toList)))) else (some false)) else (none)) else (some false)))
end
def ravelinlaw3_CellSizes.f (k : Nat) (a0 : Int) (a1 : Bool) : Option (Bool) := (ravelinlaw3_known.f k).bind fun t213 => (if t213 = true then (if 0 ≤ (IntKind.u64.wrap (Int.tmod a0 63)) then (if a1 = true then (ravelinlaw3_CellSizes.j0 k (wrap64 ((shl .i64 1 (IntKind.u64.wrap (Int.tmod a0 63))) - 1))) else (ravelinlaw3_CellSizes.j0 k (shl .i64 1 (IntKind.u64.wrap (Int.tmod a0 63))))) else (none)) else (some false))
theorem ravelinlaw3_CellSizes.mono_l : ∀ k, (∀ y0, LeO (ravelinlaw3_CellSizes.j0 k y0) (ravelinlaw3_CellSizes.j0 (k + 1) y0)) ∧ (∀ y0 y1 y2, LeO (ravelinlaw3_CellSizes.l0 k y0 y1 y2) (ravelinlaw3_CellSizes.l0 (k + 1) y0 y1 y2))
  | 0 => ⟨fun _ r h => by simp [ravelinlaw3_CellSizes.j0] at h, fun _ _ _ r h => by simp [ravelinlaw3_CellSizes.l0] at h⟩
  | k + 1 => by
    obtain ⟨ih0, ih1⟩ := ravelinlaw3_CellSizes.mono_l k
    refine ⟨?_, ?_⟩
    · intro y0
      unfold ravelinlaw3_CellSizes.j0
      repeat' first
      | (with_reducible exact ih0 _)
      | (with_reducible exact ih1 _ _ _)
      | (with_reducible exact cell_Num.mono _ _)
      | (with_reducible exact ravelinlaw3_known.mono _)
      | (with_reducible exact LeO.refl _)
      | (with_reducible exact LeO.none _)
      | (with_reducible refine LeO.ite ?_ ?_)
      | (with_reducible refine LeO.bind ?_ (fun _ => ?_))
      | exact ih0 _
      | exact ih1 _ _ _
      | exact cell_Num.mono _ _
      | exact ravelinlaw3_known.mono _
      | exact LeO.none _
      | refine LeO.ite ?_ ?_
      | refine LeO.bind ?_ (fun _ => ?_)
    · intro y0 y1 y2
      unfold ravelinlaw3_CellSizes.l0
      repeat' first
      | (with_reducible exact ih0 _)
      | (with_reducible exact ih1 _ _ _)
      | (with_reducible exact cell_Num.mono _ _)
      | (with_reducible exact ravelinlaw3_known.mono _)
      | (with_reducible exact LeO.refl _)
      | (with_reducible exact LeO.none _)
      | (with_reducible refine LeO.ite ?_ ?_)
      | (with_reducible refine LeO.bind ?_ (fun _ => ?_))
      | exact ih0 _
      | exact ih1 _ _ _
      | exact cell_Num.mono _ _
      | exact ravelinlaw3_known.mono _
      | exact LeO.none _
      | refine LeO.ite ?_ ?_
      | refine LeO.bind ?_ (fun _ => ?_)
theorem ravelinlaw3_CellSizes.mono : ∀ a0 a1 k, LeO (ravelinlaw3_CellSizes.f k a0 a1) (ravelinlaw3_CellSizes.f (k + 1) a0 a1) := by
  intro a0 a1 k
  obtain ⟨ih0, ih1⟩ := ravelinlaw3_CellSizes.mono_l k
  unfold ravelinlaw3_CellSizes.f
  repeat' first
      | (with_reducible exact ih0 _)
      | (with_reducible exact ih1 _ _ _)
      | (with_reducible exact cell_Num.mono _ _)
      | (with_reducible exact ravelinlaw3_known.mono _)
      | (with_reducible exact LeO.refl _)
      | (with_reducible exact LeO.none _)
      | (with_reducible refine LeO.ite ?_ ?_)
      | (with_reducible refine LeO.bind ?_ (fun _ => ?_))
      | exact ih0 _
      | exact ih1 _ _ _
      | exact cell_Num.mono _ _
      | exact ravelinlaw3_known.mono _
      | exact LeO.none _
      | refine LeO.ite ?_ ?_
      | refine LeO.bind ?_ (fun _ => ?_)
set_option maxHeartbeats 8000000 in
set_option maxRecDepth 100000 in
theorem ravelinlaw3_CellSizes.calls (k : Nat) (a0 : Int) (a1 : Bool) (r : Bool) (w : World) (h : ravelinlaw3_CellSizes.f k a0 a1 = some r) :
    Calls Try.prog 7 #[.int .u8 a0, .bool a1] w fun e w' => e = .returned (.bool r) ∧ Below w.heap.size w w' := by
  have HB := Aside0.mk (Below.refl w.heap.size w)
  have H : ((ravelinlaw3_known.f k).bind fun t213 => (if t213 = true then (if 0 ≤ (IntKind.u64.wrap (Int.tmod a0 63)) then (if a1 = true then (ravelinlaw3_CellSizes.j0 k (wrap64 ((shl .i64 1 (IntKind.u64.wrap (Int.tmod a0 63))) - 1))) else (ravelinlaw3_CellSizes.j0 k (shl .i64 1 (IntKind.u64.wrap (Int.tmod a0 63))))) else (none)) else (some false))) = some r := h
  clear h
  replace H := Option.bind_eq_some_iff.mp H
  obtain ⟨t213, A30, H⟩ := H
  replace H : (if t213 = true then (if 0 ≤ (IntKind.u64.wrap (Int.tmod a0 63)) then (if a1 = true then (ravelinlaw3_CellSizes.j0 k (wrap64 ((shl .i64 1 (IntKind.u64.wrap (Int.tmod a0 63))) - 1))) else (ravelinlaw3_CellSizes.j0 k (shl .i64 1 (IntKind.u64.wrap (Int.tmod a0 63))))) else (none)) else (some false)) = some r := H
  have A3 := Aside0.mk A30
  clear A30
  by_cases c4 : t213 = true
  · subst c4
    have H1 : (if 0 ≤ (IntKind.u64.wrap (Int.tmod a0 63)) then (if a1 = true then (ravelinlaw3_CellSizes.j0 k (wrap64 ((shl .i64 1 (IntKind.u64.wrap (Int.tmod a0 63))) - 1))) else (ravelinlaw3_CellSizes.j0 k (shl .i64 1 (IntKind.u64.wrap (Int.tmod a0 63))))) else (none)) = some r := by rw [if_pos rfl] at H; exact H
    clear H
    have H := H1
    clear H1
    obtain ⟨ji5, hji5⟩ : ∃ j_ : Int, (IntKind.u64.wrap (Int.tmod a0 63)) = j_ := ⟨_, rfl⟩
    replace H : (if 0 ≤ (ji5) then (if a1 = true then (ravelinlaw3_CellSizes.j0 k (wrap64 ((shl .i64 1 (ji5)) - 1))) else (ravelinlaw3_CellSizes.j0 k (shl .i64 1 (ji5)))) else (none)) = some r := by first | (rw [hji5] at H; exact H) | (simp only [hji5] at H ⊢; exact H)
    (try rw [hji5] at A3)
    by_cases c6 : 0 ≤ (ji5)
    · rw [if_pos c6] at H
      have c6b0 := eq_true c6
      have c6b1 : decide (0 ≤ (ji5)) = true := decide_eq_true c6
      clear c6
      obtain ⟨ji7, hji7⟩ : ∃ j_ : Int, (shl .i64 1 (ji5)) = j_ := ⟨_, rfl⟩
      replace H : (if a1 = true then (ravelinlaw3_CellSizes.j0 k (wrap64 ((ji7) - 1))) else (ravelinlaw3_CellSizes.j0 k ji7)) = some r := by first | (rw [hji7] at H; exact H) | (simp only [hji7] at H ⊢; exact H)
      (try rw [hji7] at A3)
      have hji7_ : (IntKind.i64.wrap (1 * 2 ^ min (ji5).toNat 64)) = ji7 := hji7
      have hji7z : (ji5) ≤ 64 → (IntKind.i64.wrap (1 * 2 ^ (ji5).toNat)) = ji7 := shl_small hji7
      have hji7u : (IntKind.i64.wrap (2 ^ min (ji5).toNat 64)) = ji7 := by have h_ := hji7_; rw [Int.one_mul] at h_; exact h_
      have hji7v : (ji5) ≤ 64 → (IntKind.i64.wrap (2 ^ (ji5).toNat)) = ji7 := fun hle_ => by have h_ := hji7z hle_; rw [Int.one_mul] at h_; exact h_
      have hji7y : (wrap64 (1 * 2 ^ min (ji5).toNat 64)) = ji7 := (i64_w _).symm.trans hji7_
      have hji7x : (ji5) ≤ 64 → (wrap64 (1 * 2 ^ (ji5).toNat)) = ji7 := fun h_ => (i64_w _).symm.trans (hji7z h_)
      have HC8 := Aside0.mk H
      clear H
      go_enter Try.func7, Try.ntmps7
      go_upto_if 15 with (first | ((with_reducible refine gate_callee (f := 8) rfl ?_); refine goesL_ (some 9) rfl rfl Try.func8 (by kernel_rfl) rfl #[] rfl (by (try simp only [List.map_toArray, List.map_cons, List.map_nil]); first | done | rfl | (simp only [List.length_drop, List.length_take]; rfl)) ?_; (with_reducible refine (ravelinlaw3_known.calls k  true _ A3.out).mono ?_); rintro e w9 ⟨rfl, hb⟩; refine ⟨_, rfl, ?_⟩; have n0_ := Aside0.mk (below_step (by repeat (first | (with_reducible first | exact HB.out | apply below_alloc | apply pw_below_drewN | apply below_drew1) | exact HB.out)) hb); clear HB; have HB := n0_; clear n0_; (try clear hb); (try clear hb2); (try clear hk); (try clear hi)))
      (try simp only [Act.put, List.setIfInBounds_toArray, List.set_cons_zero, List.set_cons_succ])
      go_cut [5] (fun v5 wc => ∃ (kq : Nat) (x5_7 : Int), v5 = .int .i64 x5_7 ∧ Aside0 (ravelinlaw3_CellSizes.j0 kq x5_7 = some r) ∧ Aside0 (kq ≤ k) ∧ Aside0 (Below w.heap.size w wc))
      case first =>
        have H := HC8.out
        clear HC8
        by_cases c10 : a1 = true
        · subst c10
          have H1 : (ravelinlaw3_CellSizes.j0 k (wrap64 ((ji7) - 1))) = some r := by rw [if_pos rfl] at H; exact H
          clear H
          have H := H1
          clear H1
          have H' := Aside0.mk H
          clear H
          go_wp2
          go_meet
          case rel => exact ⟨_, (wrap64 ((ji7) - 1)), (by first | rfl | (simp; done) | (simp only [← hji7] <;> (first | rfl | simp)) | (simp [*]; done)), H', ⟨by first | omega | exact Nat.le_refl _⟩, ⟨by repeat (first | (with_reducible first | exact HB.out | apply below_alloc | apply pw_below_drewN | apply below_drew1) | exact HB.out)⟩⟩
        · replace c10 := Bool.eq_false_iff.mpr c10
          subst c10
          have H1 : (ravelinlaw3_CellSizes.j0 k ji7) = some r := by rw [if_neg (show ¬ (false = true) by decide)] at H; exact H
          clear H
          have H := H1
          clear H1
          have H' := Aside0.mk H
          clear H
          go_wp2
          go_meet
          case rel => exact ⟨_, (ji7), (by first | rfl | (simp; done) | (simp only [← hji7] <;> (first | rfl | simp)) | (simp [*]; done)), H', ⟨by first | omega | exact Nat.le_refl _⟩, ⟨by repeat (first | (with_reducible first | exact HB.out | apply below_alloc | apply pw_below_drewN | apply below_drew1) | exact HB.out)⟩⟩
      case rest =>
        clear HC8
        try clear c1
        try clear p2
        try clear c4
        try clear c6
        try clear c6b0
        try clear c6b1
        try clear p6
        try clear c7
        try clear c8
        try clear c10
        obtain ⟨kq, x5_7, rfl, HA, HJ7, HB⟩ := hcut
        cases kq with
        | zero => exact absurd HA.out (by simp [ravelinlaw3_CellSizes.j0])
        | succ kj7 =>
          have H := HA.out
          clear HA
          simp only [ravelinlaw3_CellSizes.j0] at H
          have H' := Aside0.mk H
          clear H
          go_wp2
          go_loopg [6, 7] kj7 (fun kq v6 v7 w' => ∃ (x6_2 : Int) (x7_2 : Int), v6 = .int .i64 x6_2 ∧ v7 = .int .i64 x7_2 ∧ Aside0 (ravelinlaw3_CellSizes.l0 kq x5_7 x6_2 x7_2 = some r) ∧ Aside0 (kq ≤ kj7) ∧ Aside0 (Below w.heap.size w w'))
          case atStart => exact ⟨(1), (x5_7), (by first | rfl | (simp; done) | (simp [*]; done)), (by first | rfl | (simp; done) | (simp [*]; done)), H', ⟨Nat.le_refl _⟩, ⟨by repeat (first | (with_reducible first | exact HB.out | apply below_alloc | apply pw_below_drewN | apply below_drew1) | exact HB.out)⟩⟩
          case round =>
            clear H'
            try clear c1
            try clear p2
            try clear c4
            try clear c6
            try clear c6b0
            try clear c6b1
            try clear p6
            try clear c7
            try clear c8
            try clear c10
            try clear p2
            try clear p6
            obtain ⟨x6_2, x7_2, rfl, rfl, HA, HK2, HB⟩ := hrel
            cases gk with
            | zero => exact absurd HA.out (by simp [ravelinlaw3_CellSizes.l0])
            | succ k2 =>
              have H := HA.out
              clear HA
              simp only [ravelinlaw3_CellSizes.l0] at H
              by_cases c11 : x7_2 > 0
              · rw [if_pos c11] at H
                have c11b0 : decide (0 < x7_2) = true := decide_eq_true c11
                clear c11
                have H' := Aside0.mk H
                clear H
                go_wp2
                go_roundg k2
                case measure => have := HJ7.out; have := HK2.out; omega
                case rel => exact ⟨(wrap64 (x6_2 + 1)), (wrap64 (Int.tdiv x7_2 256)), (by first | rfl | (simp; done) | (simp [*]; done)), (by first | rfl | (simp; done) | (simp [*]; done)), H', ⟨by have := HJ7.out; have := HK2.out; omega⟩, ⟨by repeat (first | (with_reducible first | exact HB.out | apply below_alloc | apply pw_below_drewN | apply below_drew1) | exact HB.out)⟩⟩
              · rw [if_neg c11] at H
                have c11b0 : decide (0 < x7_2) = false := decide_eq_false c11
                clear c11
                replace H := Option.bind_eq_some_iff.mp H
                obtain ⟨t214, A120, H⟩ := H
                replace H : (if (t214.size : Int) = x6_2 then (if 0 < (t214.size : Int) then (if (wrap64 (bt t214 0)) = (wrap64 (x6_2 - 1)) then ((cell_Num.f k2 (wrap64 ((wrap64 (-x5_7)) - 1))).bind fun t215 => ((cell_Num.f k2 0).bind fun t216 => (some (t215.toList == t216.toList)))) else (some false)) else (none)) else (some false)) = some r := H
                have A12 := Aside0.mk A120
                clear A120
                by_cases c13 : (t214.size : Int) = x6_2
                · rw [if_pos c13] at H
                  have c13b0 : ((t214.size : Int) == x6_2) = true := beq_iff_eq.mpr c13
                  have c13b1 : ((t214.size : Int) != x6_2) = false := bne_eq_false_iff_eq.mpr c13
                  clear c13
                  by_cases c14 : 0 < (t214.size : Int)
                  · rw [if_pos c14] at H
                    have c14b0 : decide (0 < (t214.size : Int)) = true := decide_eq_true c14
                    have c14b1 : decide (0 < t214.size) = true := decide_eq_true (by omega)
                    clear c14
                    by_cases c16 : (wrap64 (bt t214 0)) = (wrap64 (x6_2 - 1))
                    · rw [if_pos c16] at H
                      have c16b0 : ((wrap64 (bt t214 0)) == (wrap64 (x6_2 - 1))) = true := beq_iff_eq.mpr c16
                      have c16b1 : ((wrap64 (bt t214 0)) != (wrap64 (x6_2 - 1))) = false := bne_eq_false_iff_eq.mpr c16
                      clear c16
                      replace H := Option.bind_eq_some_iff.mp H
                      obtain ⟨t215, A170, H⟩ := H
                      replace H : ((cell_Num.f k2 0).bind fun t216 => (some (t215.toList == t216.toList))) = some r := H
                      have A17 := Aside0.mk A170
                      clear A170
                      replace H := Option.bind_eq_some_iff.mp H
                      obtain ⟨t216, A180, H⟩ := H
                      replace H : (some (t215.toList == t216.toList)) = some r := H
                      have A18 := Aside0.mk A180
                      clear A180
                      obtain rfl := Option.some.inj H
                      go_wp2_with (first | ((with_reducible refine gate_callee (f := 13) rfl ?_); refine goesL_ (some 26) rfl rfl Try.func13 (by kernel_rfl) rfl #[.int .i64 x5_7] rfl (by (try simp only [List.map_toArray, List.map_cons, List.map_nil]); first | done | rfl | (simp only [List.length_drop, List.length_take]; rfl)) ?_; (with_reducible refine (cell_Num.calls k2 x5_7 t214 _ A12.out).mono ?_); rintro e w19 ⟨rfl, hb⟩; refine ⟨_, rfl, ?_⟩; have n0_ := Aside0.mk (below_step (by repeat (first | (with_reducible first | exact HB.out | apply below_alloc | apply pw_below_drewN | apply below_drew1) | exact HB.out)) hb); clear HB; have HB := n0_; clear n0_; (try clear hb); (try clear hb2); (try clear hk); (try clear hi); have p15 : 0 ≤ (0 : Int) := (by omega); have q15 : 0 < t214.size := (by have : (0 : Int) < (t214.size : Int) := of_decide_eq_true (by first | (with_reducible assumption) | assumption); omega); have hx15 : ∀ h : 0 < t214.size, ((t214[0]'h).toNat : Int) = bt t214 0 := bt_at t214 0; clear p15; have qi15 : (0 < (t214.size : Int)) = True := eq_true (of_decide_eq_true (by first | (with_reducible assumption) | assumption)); replace q15 := eq_true q15) | (go_at_call 13; (with_reducible refine (cell_Num.calls k2 (wrap64 ((wrap64 (-x5_7)) - 1)) t215 _ A17.out).mono ?_); rintro e w20 ⟨rfl, hb⟩; have n0_ := Aside0.mk (below_step (by repeat (first | (with_reducible first | exact HB.out | apply below_alloc | apply pw_below_drewN | apply below_drew1) | exact HB.out)) hb); clear HB; have HB := n0_; clear n0_; (try clear hb); (try clear hb2); (try clear hk); (try clear hi)) | (go_at_call 13; (with_reducible refine (cell_Num.calls k2 0 t216 _ A18.out).mono ?_); rintro e w21 ⟨rfl, hb⟩; have n0_ := Aside0.mk (below_step (by repeat (first | (with_reducible first | exact HB.out | apply below_alloc | apply pw_below_drewN | apply below_drew1) | exact HB.out)) hb); clear HB; have HB := n0_; clear n0_; (try clear hb); (try clear hb2); (try clear hk); (try clear hi)))
                      go_ret
                      exact ⟨by first | rfl | (simp [errW_none, errW_some] <;> rfl) | (simp only [← hji5, ← hji7]; first | rfl | (simp [errW_none, errW_some] <;> rfl)) | (simp [*, errW_none, errW_some] <;> rfl), by repeat (first | (with_reducible first | exact HB.out | apply below_alloc | apply pw_below_drewN | apply below_drew1) | exact HB.out)⟩
                    · rw [if_neg c16] at H
                      have c16b0 : ((wrap64 (bt t214 0)) == (wrap64 (x6_2 - 1))) = false := beq_eq_false_iff_ne.mpr c16
                      have c16b1 : ((wrap64 (bt t214 0)) != (wrap64 (x6_2 - 1))) = true := bne_iff_ne.mpr c16
                      obtain rfl := Option.some.inj H
                      go_wp2_with (first | ((with_reducible refine gate_callee (f := 13) rfl ?_); refine goesL_ (some 26) rfl rfl Try.func13 (by kernel_rfl) rfl #[.int .i64 x5_7] rfl (by (try simp only [List.map_toArray, List.map_cons, List.map_nil]); first | done | rfl | (simp only [List.length_drop, List.length_take]; rfl)) ?_; (with_reducible refine (cell_Num.calls k2 x5_7 t214 _ A12.out).mono ?_); rintro e w22 ⟨rfl, hb⟩; refine ⟨_, rfl, ?_⟩; have n0_ := Aside0.mk (below_step (by repeat (first | (with_reducible first | exact HB.out | apply below_alloc | apply pw_below_drewN | apply below_drew1) | exact HB.out)) hb); clear HB; have HB := n0_; clear n0_; (try clear hb); (try clear hb2); (try clear hk); (try clear hi); have p15 : 0 ≤ (0 : Int) := (by omega); have q15 : 0 < t214.size := (by have : (0 : Int) < (t214.size : Int) := of_decide_eq_true (by first | (with_reducible assumption) | assumption); omega); have hx15 : ∀ h : 0 < t214.size, ((t214[0]'h).toNat : Int) = bt t214 0 := bt_at t214 0; clear p15; have qi15 : (0 < (t214.size : Int)) = True := eq_true (of_decide_eq_true (by first | (with_reducible assumption) | assumption)); replace q15 := eq_true q15))
                      go_ret
                      exact ⟨by first | rfl | (simp [errW_none, errW_some] <;> rfl) | (simp only [← hji5, ← hji7]; first | rfl | (simp [errW_none, errW_some] <;> rfl)) | (simp [*, errW_none, errW_some] <;> rfl), by repeat (first | (with_reducible first | exact HB.out | apply below_alloc | apply pw_below_drewN | apply below_drew1) | exact HB.out)⟩
                  · rw [if_neg c14] at H
                    exact absurd H (by simp)
                · rw [if_neg c13] at H
                  have c13b0 : ((t214.size : Int) == x6_2) = false := beq_eq_false_iff_ne.mpr c13
                  have c13b1 : ((t214.size : Int) != x6_2) = true := bne_iff_ne.mpr c13
                  obtain rfl := Option.some.inj H
                  go_wp2_with (first | ((with_reducible refine gate_callee (f := 13) rfl ?_); refine goesL_ (some 26) rfl rfl Try.func13 (by kernel_rfl) rfl #[.int .i64 x5_7] rfl (by (try simp only [List.map_toArray, List.map_cons, List.map_nil]); first | done | rfl | (simp only [List.length_drop, List.length_take]; rfl)) ?_; (with_reducible refine (cell_Num.calls k2 x5_7 t214 _ A12.out).mono ?_); rintro e w23 ⟨rfl, hb⟩; refine ⟨_, rfl, ?_⟩; have n0_ := Aside0.mk (below_step (by repeat (first | (with_reducible first | exact HB.out | apply below_alloc | apply pw_below_drewN | apply below_drew1) | exact HB.out)) hb); clear HB; have HB := n0_; clear n0_; (try clear hb); (try clear hb2); (try clear hk); (try clear hi)))
                  go_ret
                  exact ⟨by first | rfl | (simp [errW_none, errW_some] <;> rfl) | (simp only [← hji5, ← hji7]; first | rfl | (simp [errW_none, errW_some] <;> rfl)) | (simp [*, errW_none, errW_some] <;> rfl), by repeat (first | (with_reducible first | exact HB.out | apply below_alloc | apply pw_below_drewN | apply below_drew1) | exact HB.out)⟩
    · rw [if_neg c6] at H
      exact absurd H (by simp)
  · replace c4 := Bool.eq_false_iff.mpr c4
    subst c4
    have H1 : (some false) = some r := by rw [if_neg (show ¬ (false = true) by decide)] at H; exact H
    clear H
    have H := H1
    clear H1
    obtain rfl := Option.some.inj H
    go_enter Try.func7, Try.ntmps7
    go_wp2_with (first | ((with_reducible refine gate_callee (f := 8) rfl ?_); refine goesL_ (some 9) rfl rfl Try.func8 (by kernel_rfl) rfl #[] rfl (by (try simp only [List.map_toArray, List.map_cons, List.map_nil]); first | done | rfl | (simp only [List.length_drop, List.length_take]; rfl)) ?_; (with_reducible refine (ravelinlaw3_known.calls k  false _ A3.out).mono ?_); rintro e w24 ⟨rfl, hb⟩; refine ⟨_, rfl, ?_⟩; have n0_ := Aside0.mk (below_step (by repeat (first | (with_reducible first | exact HB.out | apply below_alloc | apply pw_below_drewN | apply below_drew1) | exact HB.out)) hb); clear HB; have HB := n0_; clear n0_; (try clear hb); (try clear hb2); (try clear hk); (try clear hi)))
    go_ret
    exact ⟨by first | rfl | (simp [errW_none, errW_some] <;> rfl) | (simp [*, errW_none, errW_some] <;> rfl), by repeat (first | (with_reducible first | exact HB.out | apply below_alloc | apply pw_below_drewN | apply below_drew1) | exact HB.out)⟩

/-- THE ONE PURE STATEMENT of ravelinlaw3_CellSizes: yours. -/
def ravelinlaw3_CellSizes.Pure : Prop := ∀ (a0 : Int) (a1 : Bool), (Lit.int .u8 a0).wf = true → ∃ k, ravelinlaw3_CellSizes.f k a0 a1 = some true
theorem ravelinlaw3_CellSizes.walk (P : ravelinlaw3_CellSizes.Pure) (a0 : Int) (a1 : Bool) (w : World) (w0 : (Lit.int .u8 a0).wf = true) :
    Calls Try.prog 7 #[.int .u8 a0, .bool a1] w fun e w' => e = .returned (.bool true) ∧ Below w.heap.size w w' := by
  obtain ⟨k, h⟩ := P a0 a1 w0
  refine (ravelinlaw3_CellSizes.calls k a0 a1 true w h).mono ?_
  rintro e w' ⟨rfl, hd⟩
  exact ⟨rfl, hd⟩

end Go.Proofs.Ytialmkppgbplpaa.P
