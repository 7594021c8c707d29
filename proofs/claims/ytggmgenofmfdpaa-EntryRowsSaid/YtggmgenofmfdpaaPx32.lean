-- Printed by a changed copy of the kit's printer (wip/tools/ext.py); labels and more
import Derived.Test.YtggmgenofmfdpaaM0
import Derived.Test.YtggmgenofmfdpaaM2
import Derived.Test.YtggmgenofmfdpaaM4
import Derived.Test.YtggmgenofmfdpaaM5
import Derived.Test.YtggmgenofmfdpaaM6
namespace Go.Proofs.Ytggmgenofmfdpaa.P
open Go.RowKit Go.Proofs.YtggmgenofmfdpaaW.PrintWords Go.Proofs.YtggmgenofmfdpaaW.PrintLast Go.Proofs.YtggmgenofmfdpaaW.PrintMore
attribute [local go_sem] max2_int min2_int max_two min_two max_three min_three max_four min_four   -- for this text's walks alone
set_option linter.unusedVariables false
set_option linter.unusedSimpArgs false

attribute [local go_sem high] eqA23
/-! ### ravelinlaw6_EntryRows: function 8 -/
mutual
def ravelinlaw6_EntryRows.l0 : Nat → List (S23) → ByteArray → List (S23) → Int → Option (Bool)
  | 0, _, _, _, _ => none
  | k + 1, x0, x3, x4, x5 => if x5 < (x0.length : Int) then (if 0 ≤ x5 then ((entry_Is.f ((rd_T23 x0 x5).f0) ((rd_T23 x0 x5).f1) ((rd_T23 x0 x5).f2) ((rd_T23 x0 x5).f3)).bind fun t423 => (if t423 = true then ((entry_Bytes.f k ((rd_T23 x0 x5).f0) ((rd_T23 x0 x5).f1) ((rd_T23 x0 x5).f2) ((rd_T23 x0 x5).f3)).bind fun t425 => (if x3.size + t425.size ≤ 9223372036854775807 then (if x4.length < 2932031007402 then (ravelinlaw6_EntryRows.l0 k x0 (x3 ++ t425) (x4 ++ [(⟨(rd_T23 x0 x5).f0, (rd_T23 x0 x5).f1, (rd_T23 x0 x5).f2, (rd_T23 x0 x5).f3⟩ : S23)]) (wrap64 (x5 + 1))) else (none)) else (none))) else (ravelinlaw6_EntryRows.l0 k x0 x3 x4 (wrap64 (x5 + 1))))) else (none)) else (ravelinlaw6_EntryRows.l1 k x3 x4 0 0)
def ravelinlaw6_EntryRows.l1 : Nat → ByteArray → List (S23) → Int → Int → Option (Bool)
  | 0, _, _, _, _ => none
  | k + 1, x3, x4, x6, x7 => if x7 < (x4.length : Int) then (if 0 ≤ x6 then (if x6 ≤ (x3.size : Int) then ((entry_Read.f k (x3.extract (x6 : Int).toNat x3.size)).bind fun bt430 => (if bt430.2.2.2.2.2 = 0 then (if bt430.2.2.2.2.1 < 1 then (some false) else (if 0 ≤ x7 then (if (!(bt430.1.toList == (((rd_T23 x4 x7).f0).toList)) || (!(bt430.2.1 == ((rd_T23 x4 x7).f1)) || (!(bt430.2.2.1 == ((rd_T23 x4 x7).f2)) || (!(bt430.2.2.2.1.toList == (((rd_T23 x4 x7).f3).toList)))))) = true then (some false) else (ravelinlaw6_EntryRows.l1 k x3 x4 (wrap64 (x6 + bt430.2.2.2.2.1)) (wrap64 (x7 + 1)))) else (none))) else (some false))) else (none)) else (none)) else (if 0 ≤ x6 then (if x6 ≤ (x3.size : Int) then ((entry_Read.f k (x3.extract (x6 : Int).toNat x3.size)).bind fun bt438 => (if x6 = (x3.size : Int) then (some (bt438.2.2.2.2.2 == 12)) else (some false))) else (none)) else (none))
end
def ravelinlaw6_EntryRows.f (k : Nat) (l0 : List (S23)) : Option (Bool) := (ravelinlaw6_known.f k).bind fun t420 => (if t420 = true then ((ravelinlaw6_few.f k l0).bind fun t421 => (if t421 = true then (ravelinlaw6_EntryRows.l0 k l0 (⟨#[]⟩ : ByteArray) ([] : List (S23)) 0) else (some true))) else (some false))
theorem ravelinlaw6_EntryRows.mono_l : ∀ k, (∀ y0 y1 y2 y3, LeO (ravelinlaw6_EntryRows.l0 k y0 y1 y2 y3) (ravelinlaw6_EntryRows.l0 (k + 1) y0 y1 y2 y3)) ∧ (∀ y0 y1 y2 y3, LeO (ravelinlaw6_EntryRows.l1 k y0 y1 y2 y3) (ravelinlaw6_EntryRows.l1 (k + 1) y0 y1 y2 y3))
  | 0 => ⟨fun _ _ _ _ r h => by simp [ravelinlaw6_EntryRows.l0] at h, fun _ _ _ _ r h => by simp [ravelinlaw6_EntryRows.l1] at h⟩
  | k + 1 => by
    obtain ⟨ih0, ih1⟩ := ravelinlaw6_EntryRows.mono_l k
    refine ⟨?_, ?_⟩
    · intro y0 y1 y2 y3
      unfold ravelinlaw6_EntryRows.l0
      repeat' first
      | (with_reducible exact ih0 _ _ _ _)
      | (with_reducible exact ih1 _ _ _ _)
      | (with_reducible exact entry_Bytes.mono _ _ _ _ _)
      | (with_reducible exact entry_Read.mono _ _)
      | (with_reducible exact ravelinlaw6_few.mono _ _)
      | (with_reducible exact ravelinlaw6_known.mono _)
      | (with_reducible exact LeO.refl _)
      | (with_reducible exact LeO.none _)
      | (with_reducible refine LeO.ite ?_ ?_)
      | (with_reducible refine LeO.bind ?_ (fun _ => ?_))
      | exact ih0 _ _ _ _
      | exact ih1 _ _ _ _
      | exact entry_Bytes.mono _ _ _ _ _
      | exact entry_Read.mono _ _
      | exact ravelinlaw6_few.mono _ _
      | exact ravelinlaw6_known.mono _
      | exact LeO.none _
      | refine LeO.ite ?_ ?_
      | refine LeO.bind ?_ (fun _ => ?_)
    · intro y0 y1 y2 y3
      unfold ravelinlaw6_EntryRows.l1
      repeat' first
      | (with_reducible exact ih0 _ _ _ _)
      | (with_reducible exact ih1 _ _ _ _)
      | (with_reducible exact entry_Bytes.mono _ _ _ _ _)
      | (with_reducible exact entry_Read.mono _ _)
      | (with_reducible exact ravelinlaw6_few.mono _ _)
      | (with_reducible exact ravelinlaw6_known.mono _)
      | (with_reducible exact LeO.refl _)
      | (with_reducible exact LeO.none _)
      | (with_reducible refine LeO.ite ?_ ?_)
      | (with_reducible refine LeO.bind ?_ (fun _ => ?_))
      | exact ih0 _ _ _ _
      | exact ih1 _ _ _ _
      | exact entry_Bytes.mono _ _ _ _ _
      | exact entry_Read.mono _ _
      | exact ravelinlaw6_few.mono _ _
      | exact ravelinlaw6_known.mono _
      | exact LeO.none _
      | refine LeO.ite ?_ ?_
      | refine LeO.bind ?_ (fun _ => ?_)
theorem ravelinlaw6_EntryRows.mono : ∀ a0 k, LeO (ravelinlaw6_EntryRows.f k a0) (ravelinlaw6_EntryRows.f (k + 1) a0) := by
  intro a0 k
  obtain ⟨ih0, ih1⟩ := ravelinlaw6_EntryRows.mono_l k
  unfold ravelinlaw6_EntryRows.f
  repeat' first
      | (with_reducible exact ih0 _ _ _ _)
      | (with_reducible exact ih1 _ _ _ _)
      | (with_reducible exact entry_Bytes.mono _ _ _ _ _)
      | (with_reducible exact entry_Read.mono _ _)
      | (with_reducible exact ravelinlaw6_few.mono _ _)
      | (with_reducible exact ravelinlaw6_known.mono _)
      | (with_reducible exact LeO.refl _)
      | (with_reducible exact LeO.none _)
      | (with_reducible refine LeO.ite ?_ ?_)
      | (with_reducible refine LeO.bind ?_ (fun _ => ?_))
      | exact ih0 _ _ _ _
      | exact ih1 _ _ _ _
      | exact entry_Bytes.mono _ _ _ _ _
      | exact entry_Read.mono _ _
      | exact ravelinlaw6_few.mono _ _
      | exact ravelinlaw6_known.mono _
      | exact LeO.none _
      | refine LeO.ite ?_ ?_
      | refine LeO.bind ?_ (fun _ => ?_)
set_option maxHeartbeats 8000000 in
set_option maxRecDepth 100000 in
theorem ravelinlaw6_EntryRows.calls (k : Nat) (A0 : Option Addr) (c0 : Nat) (l0 : List (S23)) (r : Bool) (w : World) (hr0 : Kd.C k23 w A0 l0.length l0) (hc0 : l0.length ≤ c0) (h : ravelinlaw6_EntryRows.f k l0 = some r) (hr_ : r = true) :
    Calls Try.prog 8 #[.slice A0 l0.length c0] w fun e w' => e = .returned (.bool r) ∧ Below w.heap.size w w' := by
  have hu23 := Try.underlying23
  have HR0 := Aside0.mk hr0
  have HC0 := Aside0.mk hc0
  clear hr0 hc0
  have HB := Aside0.mk (Below.refl w.heap.size w)
  have H : ((ravelinlaw6_known.f k).bind fun t420 => (if t420 = true then ((ravelinlaw6_few.f k l0).bind fun t421 => (if t421 = true then (ravelinlaw6_EntryRows.l0 k l0 (⟨#[]⟩ : ByteArray) ([] : List (S23)) 0) else (some true))) else (some false))) = some r := h
  clear h
  have HR_ := Aside0.mk hr_
  clear hr_
  replace H := Option.bind_eq_some_iff.mp H
  obtain ⟨t420, A20, H⟩ := H
  replace H : (if t420 = true then ((ravelinlaw6_few.f k l0).bind fun t421 => (if t421 = true then (ravelinlaw6_EntryRows.l0 k l0 (⟨#[]⟩ : ByteArray) ([] : List (S23)) 0) else (some true))) else (some false)) = some r := H
  have A2 := Aside0.mk A20
  clear A20
  by_cases c3 : t420 = true
  · subst c3
    have H1 : ((ravelinlaw6_few.f k l0).bind fun t421 => (if t421 = true then (ravelinlaw6_EntryRows.l0 k l0 (⟨#[]⟩ : ByteArray) ([] : List (S23)) 0) else (some true))) = some r := by rw [if_pos rfl] at H; exact H
    clear H
    have H := H1
    clear H1
    replace H := Option.bind_eq_some_iff.mp H
    obtain ⟨t421, A40, H⟩ := H
    replace H : (if t421 = true then (ravelinlaw6_EntryRows.l0 k l0 (⟨#[]⟩ : ByteArray) ([] : List (S23)) 0) else (some true)) = some r := H
    have A4 := Aside0.mk A40
    clear A40
    by_cases c5 : t421 = true
    · subst c5
      have H1 : (ravelinlaw6_EntryRows.l0 k l0 (⟨#[]⟩ : ByteArray) ([] : List (S23)) 0) = some r := by rw [if_pos rfl] at H; exact H
      clear H
      have H := H1
      clear H1
      have H' := Aside0.mk H
      clear H
      go_enter Try.func8, Try.ntmps8
      go_wp2_with (first | (go_at_call 9; (with_reducible refine (ravelinlaw6_known.calls k  true _ A2.out (by first | rfl | assumption | exact of_decide_eq_true (by assumption))).mono ?_); rintro e w6 ⟨rfl, hb⟩; have n0_ := Aside0.mk (below_step (by repeat (first | (with_reducible first | exact HB.out | apply below_alloc | apply pw_below_drewN | apply below_drew1) | exact HB.out)) hb); clear HB; have HB := n0_; clear n0_; (try clear hb); (try clear hb2); (try clear hk); (try clear hi)) | (go_at_call 10; (with_reducible refine (ravelinlaw6_few.calls k _ _ l0 true _ ?side1 ?side2 A4.out).mono ?_); (case side1 => repeat (first | exact (Kd.C_below HR0.out HB.out) | (with_reducible refine Kd.C_alloc ?_ _) | (with_reducible refine Kd.C_drewN ?_ _) | (with_reducible refine Kd.C_drew ?_))); (case side2 => exact HC0.out); rintro e w' ⟨rfl, ⟨nd, rfl⟩⟩; (try first | exact ⟨rfl, _, World.drewN_drewN _ _ _⟩ | exact ⟨rfl, _, Eq.trans (World.drewN_drewN _ _ _) (congrArg (World.drewN _) (Nat.add_assoc _ _ _))⟩)))
      repeat (go_quiet (first | (go_at_call 9; (with_reducible refine (ravelinlaw6_known.calls k  true _ A2.out (by first | rfl | assumption | exact of_decide_eq_true (by assumption))).mono ?_); rintro e w6 ⟨rfl, hb⟩; have n0_ := Aside0.mk (below_step (by repeat (first | (with_reducible first | exact HB.out | apply below_alloc | apply pw_below_drewN | apply below_drew1) | exact HB.out)) hb); clear HB; have HB := n0_; clear n0_; (try clear hb); (try clear hb2); (try clear hk); (try clear hi)) | (go_at_call 10; (with_reducible refine (ravelinlaw6_few.calls k _ _ l0 true _ ?side1 ?side2 A4.out).mono ?_); (case side1 => repeat (first | exact (Kd.C_below HR0.out HB.out) | (with_reducible refine Kd.C_alloc ?_ _) | (with_reducible refine Kd.C_drewN ?_ _) | (with_reducible refine Kd.C_drew ?_))); (case side2 => exact HC0.out); rintro e w' ⟨rfl, ⟨nd, rfl⟩⟩; (try first | exact ⟨rfl, _, World.drewN_drewN _ _ _⟩ | exact ⟨rfl, _, Eq.trans (World.drewN_drewN _ _ _) (congrArg (World.drewN _) (Nat.add_assoc _ _ _))⟩))); try go_wp2_with (first | (go_at_call 9; (with_reducible refine (ravelinlaw6_known.calls k  true _ A2.out (by first | rfl | assumption | exact of_decide_eq_true (by assumption))).mono ?_); rintro e w6 ⟨rfl, hb⟩; have n0_ := Aside0.mk (below_step (by repeat (first | (with_reducible first | exact HB.out | apply below_alloc | apply pw_below_drewN | apply below_drew1) | exact HB.out)) hb); clear HB; have HB := n0_; clear n0_; (try clear hb); (try clear hb2); (try clear hk); (try clear hi)) | (go_at_call 10; (with_reducible refine (ravelinlaw6_few.calls k _ _ l0 true _ ?side1 ?side2 A4.out).mono ?_); (case side1 => repeat (first | exact (Kd.C_below HR0.out HB.out) | (with_reducible refine Kd.C_alloc ?_ _) | (with_reducible refine Kd.C_drewN ?_ _) | (with_reducible refine Kd.C_drew ?_))); (case side2 => exact HC0.out); rintro e w' ⟨rfl, ⟨nd, rfl⟩⟩; (try first | exact ⟨rfl, _, World.drewN_drewN _ _ _⟩ | exact ⟨rfl, _, Eq.trans (World.drewN_drewN _ _ _) (congrArg (World.drewN _) (Nat.add_assoc _ _ _))⟩))))
      go_loopg [3, 4, 5] k (fun kq v3 v4 v5 w' => ∃ (x3_1 : ByteArray) (x4_1 : List (S23)) (x5_1 : Int), v3 = .string x3_1 ∧ v5 = .int .i64 x5_1 ∧ Aside0 (ravelinlaw6_EntryRows.l0 kq l0 x3_1 x4_1 x5_1 = some r) ∧ Aside0 (kq ≤ k) ∧ Aside0 (Kd.R k23 23 w' w.heap.size (fun _ => True) v4 x4_1) ∧ Aside0 (Below w.heap.size w w'))
      case atStart => exact ⟨((⟨#[]⟩ : ByteArray)), (([] : List (S23))), (0), (by first | rfl | (simp; done) | (simp [*]; done)), (by first | rfl | (simp; done) | (simp [*]; done)), H', ⟨Nat.le_refl _⟩, ⟨by first | exact Kd.R_nil _ _ _ _ _ | exact Kd.N_nil _ _ _ _ _ | exact Kd.V_nil _ _ _ _ _ | exact Kd.Q_nil _ _ _ _ _ | exact Kd.S_nil _ _ _ _ _⟩, ⟨by repeat (first | (with_reducible first | exact HB.out | apply below_alloc | apply pw_below_drewN | apply below_drew1) | exact HB.out)⟩⟩
      case round =>
        clear H'
        try clear p2
        try clear c3
        try clear c5
        obtain ⟨x3_1, x4_1, x5_1, rfl, rfl, HA, HK1, HO_4, HB⟩ := hrel
        cases gk with
        | zero => exact absurd HA.out (by simp [ravelinlaw6_EntryRows.l0])
        | succ k1 =>
          have H := HA.out
          clear HA
          simp only [ravelinlaw6_EntryRows.l0] at H
          by_cases c7 : x5_1 < (l0.length : Int)
          · rw [if_pos c7] at H
            have c7b0 : decide (x5_1 < (l0.length : Int)) = true := decide_eq_true c7
            clear c7
            by_cases c8 : 0 ≤ x5_1
            · rw [if_pos c8] at H
              have c8b0 : decide (0 ≤ x5_1) = true := decide_eq_true c8
              clear c8
              replace H := Option.bind_eq_some_iff.mp H
              obtain ⟨t423, A90, H⟩ := H
              replace H : (if t423 = true then ((entry_Bytes.f k1 ((rd_T23 l0 x5_1).f0) ((rd_T23 l0 x5_1).f1) ((rd_T23 l0 x5_1).f2) ((rd_T23 l0 x5_1).f3)).bind fun t425 => (if x3_1.size + t425.size ≤ 9223372036854775807 then (if x4_1.length < 2932031007402 then (ravelinlaw6_EntryRows.l0 k1 l0 (x3_1 ++ t425) (x4_1 ++ [(⟨(rd_T23 l0 x5_1).f0, (rd_T23 l0 x5_1).f1, (rd_T23 l0 x5_1).f2, (rd_T23 l0 x5_1).f3⟩ : S23)]) (wrap64 (x5_1 + 1))) else (none)) else (none))) else (ravelinlaw6_EntryRows.l0 k1 l0 x3_1 x4_1 (wrap64 (x5_1 + 1)))) = some r := H
              have A9 := Aside0.mk A90
              clear A90
              by_cases c10 : t423 = true
              · subst c10
                have H1 : ((entry_Bytes.f k1 ((rd_T23 l0 x5_1).f0) ((rd_T23 l0 x5_1).f1) ((rd_T23 l0 x5_1).f2) ((rd_T23 l0 x5_1).f3)).bind fun t425 => (if x3_1.size + t425.size ≤ 9223372036854775807 then (if x4_1.length < 2932031007402 then (ravelinlaw6_EntryRows.l0 k1 l0 (x3_1 ++ t425) (x4_1 ++ [(⟨(rd_T23 l0 x5_1).f0, (rd_T23 l0 x5_1).f1, (rd_T23 l0 x5_1).f2, (rd_T23 l0 x5_1).f3⟩ : S23)]) (wrap64 (x5_1 + 1))) else (none)) else (none))) = some r := by rw [if_pos rfl] at H; exact H
                clear H
                have H := H1
                clear H1
                replace H := Option.bind_eq_some_iff.mp H
                obtain ⟨t425, A110, H⟩ := H
                replace H : (if x3_1.size + t425.size ≤ 9223372036854775807 then (if x4_1.length < 2932031007402 then (ravelinlaw6_EntryRows.l0 k1 l0 (x3_1 ++ t425) (x4_1 ++ [(⟨(rd_T23 l0 x5_1).f0, (rd_T23 l0 x5_1).f1, (rd_T23 l0 x5_1).f2, (rd_T23 l0 x5_1).f3⟩ : S23)]) (wrap64 (x5_1 + 1))) else (none)) else (none)) = some r := H
                have A11 := Aside0.mk A110
                clear A110
                by_cases c12 : x3_1.size + t425.size ≤ 9223372036854775807
                · rw [if_pos c12] at H
                  have c12b0 := eq_true c12
                  have c12b1 : decide (x3_1.size + t425.size ≤ 9223372036854775807) = true := decide_eq_true c12
                  try have c12b2 : (9223372036854775807 < x3_1.size + t425.size) = False := eq_false (Nat.not_lt.2 c12)
                  by_cases c13 : x4_1.length < 2932031007402
                  · rw [if_pos c13] at H
                    have LMc13 := Aside0.mk c13
                    clear c13
                    obtain ⟨y427, hy427⟩ : ∃ y_ : List (S23), y_ = (x4_1 ++ [(⟨(rd_T23 l0 x5_1).f0, (rd_T23 l0 x5_1).f1, (rd_T23 l0 x5_1).f2, (rd_T23 l0 x5_1).f3⟩ : S23)]) := ⟨_, rfl⟩
                    replace H : (ravelinlaw6_EntryRows.l0 k1 l0 (x3_1 ++ t425) y427 (wrap64 (x5_1 + 1))) = some r := by first | (rw [hy427]; with_reducible exact H) | (have H2_ := (Option.bind_some _ _).symm.trans H; rw [hy427]; with_reducible exact H2_) | (have H2_ := (Option.bind_some _ _).symm.trans H; with_reducible exact H2_) | with_reducible exact H | (rw [hy427]; exact H) | exact H
                    have Ny427 := Aside0.mk hy427
                    clear hy427
                    have H' := Aside0.mk H
                    clear H
                    have p422 : 0 ≤ (x5_1 : Int) := of_decide_eq_true (by first | (with_reducible assumption) | assumption)
                    have q422 : x5_1 < (l0.length : Int) := of_decide_eq_true (by first | (with_reducible assumption) | assumption)
                    obtain ⟨ad422, e422, hx422_0, hx422_1, hx422_2, hx422_3⟩ := at_T23 HR0.out x5_1 p422 q422
                    cases e422
                    replace hx422_0 := (HB.out.cell (World.block_lt_of_cell? w _ hx422_0)).trans hx422_0
                    replace hx422_1 := (HB.out.cell (World.block_lt_of_cell? w _ hx422_1)).trans hx422_1
                    replace hx422_2 := (HB.out.cell (World.block_lt_of_cell? w _ hx422_2)).trans hx422_2
                    replace hx422_3 := (HB.out.cell (World.block_lt_of_cell? w _ hx422_3)).trans hx422_3
                    replace p422 := eq_true p422
                    replace q422 := eq_true q422
                    go_wp2_with (first | (go_at_call 15; (with_reducible refine (entry_Is.calls ((rd_T23 l0 x5_1).f0) ((rd_T23 l0 x5_1).f1) ((rd_T23 l0 x5_1).f2) ((rd_T23 l0 x5_1).f3) true _ A9.out).mono ?_); rintro e w14 ⟨rfl, hb⟩; have n0_ := Aside0.mk (Kd.R_below (by (with_reducible repeat (first | apply Kd.R_alloc | apply Kd.R_drewN | apply Kd.R_drew)); exact HO_4.out) hb); have n1_ := Aside0.mk (below_step (by repeat (first | (with_reducible first | exact HB.out | apply below_alloc | apply pw_below_drewN | apply below_drew1) | exact HB.out)) hb); clear HO_4; clear HB; have HO_4 := n0_; have HB := n1_; clear n0_ n1_; (try clear hb); (try clear hb2); (try clear hk); (try clear hi); have p424 : 0 ≤ (x5_1 : Int) := of_decide_eq_true (by first | (with_reducible assumption) | assumption); have q424 : x5_1 < (l0.length : Int) := of_decide_eq_true (by first | (with_reducible assumption) | assumption); obtain ⟨ad424, e424, hx424_0, hx424_1, hx424_2, hx424_3⟩ := at_T23 HR0.out x5_1 p424 q424; obtain rfl : ad422 = ad424 := (by injection e424); replace hx424_0 := (HB.out.cell (World.block_lt_of_cell? w _ hx424_0)).trans hx424_0; replace hx424_1 := (HB.out.cell (World.block_lt_of_cell? w _ hx424_1)).trans hx424_1; replace hx424_2 := (HB.out.cell (World.block_lt_of_cell? w _ hx424_2)).trans hx424_2; replace hx424_3 := (HB.out.cell (World.block_lt_of_cell? w _ hx424_3)).trans hx424_3; replace p424 := eq_true p424; replace q424 := eq_true q424) | (go_at_call 19; (with_reducible refine (entry_Bytes.calls k1 ((rd_T23 l0 x5_1).f0) ((rd_T23 l0 x5_1).f1) ((rd_T23 l0 x5_1).f2) ((rd_T23 l0 x5_1).f3) t425 _ A11.out).mono ?_); rintro e w15 ⟨rfl, hb⟩; have n0_ := Aside0.mk (Kd.R_below (by (with_reducible repeat (first | apply Kd.R_alloc | apply Kd.R_drewN | apply Kd.R_drew)); exact HO_4.out) hb); have n1_ := Aside0.mk (below_step (by repeat (first | (with_reducible first | exact HB.out | apply below_alloc | apply pw_below_drewN | apply below_drew1) | exact HB.out)) hb); clear HO_4; clear HB; have HO_4 := n0_; have HB := n1_; clear n0_ n1_; (try clear hb); (try clear hb2); (try clear hk); (try clear hi); have p426 : 0 ≤ (x5_1 : Int) := of_decide_eq_true (by first | (with_reducible assumption) | assumption); have q426 : x5_1 < (l0.length : Int) := of_decide_eq_true (by first | (with_reducible assumption) | assumption); obtain ⟨ad426, e426, hx426_0, hx426_1, hx426_2, hx426_3⟩ := at_T23 HR0.out x5_1 p426 q426; obtain rfl : ad422 = ad426 := (by injection e426); replace hx426_0 := (HB.out.cell (World.block_lt_of_cell? w _ hx426_0)).trans hx426_0; replace hx426_1 := (HB.out.cell (World.block_lt_of_cell? w _ hx426_1)).trans hx426_1; replace hx426_2 := (HB.out.cell (World.block_lt_of_cell? w _ hx426_2)).trans hx426_2; replace hx426_3 := (HB.out.cell (World.block_lt_of_cell? w _ hx426_3)).trans hx426_3; replace p426 := eq_true p426; replace q426 := eq_true q426) | ((with_reducible refine gate_builtin (b := .append) (xs := #[.tmp 37, .tmp 42]) rfl ?_); at_builtin; refine Kd.R_append k23 (w0 := w) w.heap.size rfl (.tmp 37) (.tmp 42) 24 23 (.agg #[(.string ⟨#[]⟩), (.int .i64 0), (.bool false), (.string ⟨#[]⟩)]) 48 rfl Try.underlying24 info23 rfl (by decide) (by omega) u4 x4_1 (⟨(rd_T23 l0 x5_1).f0, (rd_T23 l0 x5_1).f1, (rd_T23 l0 x5_1).f2, (rd_T23 l0 x5_1).f3⟩ : S23) [.string ((rd_T23 l0 x5_1).f0), .int .i64 ((rd_T23 l0 x5_1).f1), .bool ((rd_T23 l0 x5_1).f2), .string ((rd_T23 l0 x5_1).f3)] (fun _ => True) (fun _ => False) rfl rfl ?aP (fun _ hk => hk.elim) ?aF ?aO ?aB ?aS ?aL ?_; (case aP => exact k23_mkM _ _ _ (⟨(rd_T23 l0 x5_1).f0, (rd_T23 l0 x5_1).f1, (rd_T23 l0 x5_1).f2, (rd_T23 l0 x5_1).f3⟩ : S23)); (case aB => exact (by repeat (first | (with_reducible first | exact HB.out | apply below_alloc | apply pw_below_drewN | apply below_drew1) | exact HB.out))); (case aF => exact (fun _ _ => trivial)); (case aO => exact (by (with_reducible repeat (first | apply Kd.R_alloc | apply Kd.R_drewN | apply Kd.R_drew)); exact HO_4.out)); (case aS => exact (below_size (by repeat (first | (with_reducible first | exact HB.out | apply below_alloc | apply pw_below_drewN | apply below_drew1) | exact HB.out)))); (case aL => have := LMc13.out; omega); intro v428 w16 ho hb hg hat; rw [← Ny427.out] at ho; have n0_ := Aside0.mk (hb); have n1_ := Aside0.mk (ho); clear HB; clear HO_4; have HB := n0_; have HO429 := n1_; clear n0_ n1_; clear ho hb hg hat))
                    repeat (go_quiet (first | (go_at_call 15; (with_reducible refine (entry_Is.calls ((rd_T23 l0 x5_1).f0) ((rd_T23 l0 x5_1).f1) ((rd_T23 l0 x5_1).f2) ((rd_T23 l0 x5_1).f3) true _ A9.out).mono ?_); rintro e w14 ⟨rfl, hb⟩; have n0_ := Aside0.mk (Kd.R_below (by (with_reducible repeat (first | apply Kd.R_alloc | apply Kd.R_drewN | apply Kd.R_drew)); exact HO_4.out) hb); have n1_ := Aside0.mk (below_step (by repeat (first | (with_reducible first | exact HB.out | apply below_alloc | apply pw_below_drewN | apply below_drew1) | exact HB.out)) hb); clear HO_4; clear HB; have HO_4 := n0_; have HB := n1_; clear n0_ n1_; (try clear hb); (try clear hb2); (try clear hk); (try clear hi); have p424 : 0 ≤ (x5_1 : Int) := of_decide_eq_true (by first | (with_reducible assumption) | assumption); have q424 : x5_1 < (l0.length : Int) := of_decide_eq_true (by first | (with_reducible assumption) | assumption); obtain ⟨ad424, e424, hx424_0, hx424_1, hx424_2, hx424_3⟩ := at_T23 HR0.out x5_1 p424 q424; obtain rfl : ad422 = ad424 := (by injection e424); replace hx424_0 := (HB.out.cell (World.block_lt_of_cell? w _ hx424_0)).trans hx424_0; replace hx424_1 := (HB.out.cell (World.block_lt_of_cell? w _ hx424_1)).trans hx424_1; replace hx424_2 := (HB.out.cell (World.block_lt_of_cell? w _ hx424_2)).trans hx424_2; replace hx424_3 := (HB.out.cell (World.block_lt_of_cell? w _ hx424_3)).trans hx424_3; replace p424 := eq_true p424; replace q424 := eq_true q424) | (go_at_call 19; (with_reducible refine (entry_Bytes.calls k1 ((rd_T23 l0 x5_1).f0) ((rd_T23 l0 x5_1).f1) ((rd_T23 l0 x5_1).f2) ((rd_T23 l0 x5_1).f3) t425 _ A11.out).mono ?_); rintro e w15 ⟨rfl, hb⟩; have n0_ := Aside0.mk (Kd.R_below (by (with_reducible repeat (first | apply Kd.R_alloc | apply Kd.R_drewN | apply Kd.R_drew)); exact HO_4.out) hb); have n1_ := Aside0.mk (below_step (by repeat (first | (with_reducible first | exact HB.out | apply below_alloc | apply pw_below_drewN | apply below_drew1) | exact HB.out)) hb); clear HO_4; clear HB; have HO_4 := n0_; have HB := n1_; clear n0_ n1_; (try clear hb); (try clear hb2); (try clear hk); (try clear hi); have p426 : 0 ≤ (x5_1 : Int) := of_decide_eq_true (by first | (with_reducible assumption) | assumption); have q426 : x5_1 < (l0.length : Int) := of_decide_eq_true (by first | (with_reducible assumption) | assumption); obtain ⟨ad426, e426, hx426_0, hx426_1, hx426_2, hx426_3⟩ := at_T23 HR0.out x5_1 p426 q426; obtain rfl : ad422 = ad426 := (by injection e426); replace hx426_0 := (HB.out.cell (World.block_lt_of_cell? w _ hx426_0)).trans hx426_0; replace hx426_1 := (HB.out.cell (World.block_lt_of_cell? w _ hx426_1)).trans hx426_1; replace hx426_2 := (HB.out.cell (World.block_lt_of_cell? w _ hx426_2)).trans hx426_2; replace hx426_3 := (HB.out.cell (World.block_lt_of_cell? w _ hx426_3)).trans hx426_3; replace p426 := eq_true p426; replace q426 := eq_true q426) | ((with_reducible refine gate_builtin (b := .append) (xs := #[.tmp 37, .tmp 42]) rfl ?_); at_builtin; refine Kd.R_append k23 (w0 := w) w.heap.size rfl (.tmp 37) (.tmp 42) 24 23 (.agg #[(.string ⟨#[]⟩), (.int .i64 0), (.bool false), (.string ⟨#[]⟩)]) 48 rfl Try.underlying24 info23 rfl (by decide) (by omega) u4 x4_1 (⟨(rd_T23 l0 x5_1).f0, (rd_T23 l0 x5_1).f1, (rd_T23 l0 x5_1).f2, (rd_T23 l0 x5_1).f3⟩ : S23) [.string ((rd_T23 l0 x5_1).f0), .int .i64 ((rd_T23 l0 x5_1).f1), .bool ((rd_T23 l0 x5_1).f2), .string ((rd_T23 l0 x5_1).f3)] (fun _ => True) (fun _ => False) rfl rfl ?aP (fun _ hk => hk.elim) ?aF ?aO ?aB ?aS ?aL ?_; (case aP => exact k23_mkM _ _ _ (⟨(rd_T23 l0 x5_1).f0, (rd_T23 l0 x5_1).f1, (rd_T23 l0 x5_1).f2, (rd_T23 l0 x5_1).f3⟩ : S23)); (case aB => exact (by repeat (first | (with_reducible first | exact HB.out | apply below_alloc | apply pw_below_drewN | apply below_drew1) | exact HB.out))); (case aF => exact (fun _ _ => trivial)); (case aO => exact (by (with_reducible repeat (first | apply Kd.R_alloc | apply Kd.R_drewN | apply Kd.R_drew)); exact HO_4.out)); (case aS => exact (below_size (by repeat (first | (with_reducible first | exact HB.out | apply below_alloc | apply pw_below_drewN | apply below_drew1) | exact HB.out)))); (case aL => have := LMc13.out; omega); intro v428 w16 ho hb hg hat; rw [← Ny427.out] at ho; have n0_ := Aside0.mk (hb); have n1_ := Aside0.mk (ho); clear HB; clear HO_4; have HB := n0_; have HO429 := n1_; clear n0_ n1_; clear ho hb hg hat)); try go_wp2_with (first | (go_at_call 15; (with_reducible refine (entry_Is.calls ((rd_T23 l0 x5_1).f0) ((rd_T23 l0 x5_1).f1) ((rd_T23 l0 x5_1).f2) ((rd_T23 l0 x5_1).f3) true _ A9.out).mono ?_); rintro e w14 ⟨rfl, hb⟩; have n0_ := Aside0.mk (Kd.R_below (by (with_reducible repeat (first | apply Kd.R_alloc | apply Kd.R_drewN | apply Kd.R_drew)); exact HO_4.out) hb); have n1_ := Aside0.mk (below_step (by repeat (first | (with_reducible first | exact HB.out | apply below_alloc | apply pw_below_drewN | apply below_drew1) | exact HB.out)) hb); clear HO_4; clear HB; have HO_4 := n0_; have HB := n1_; clear n0_ n1_; (try clear hb); (try clear hb2); (try clear hk); (try clear hi); have p424 : 0 ≤ (x5_1 : Int) := of_decide_eq_true (by first | (with_reducible assumption) | assumption); have q424 : x5_1 < (l0.length : Int) := of_decide_eq_true (by first | (with_reducible assumption) | assumption); obtain ⟨ad424, e424, hx424_0, hx424_1, hx424_2, hx424_3⟩ := at_T23 HR0.out x5_1 p424 q424; obtain rfl : ad422 = ad424 := (by injection e424); replace hx424_0 := (HB.out.cell (World.block_lt_of_cell? w _ hx424_0)).trans hx424_0; replace hx424_1 := (HB.out.cell (World.block_lt_of_cell? w _ hx424_1)).trans hx424_1; replace hx424_2 := (HB.out.cell (World.block_lt_of_cell? w _ hx424_2)).trans hx424_2; replace hx424_3 := (HB.out.cell (World.block_lt_of_cell? w _ hx424_3)).trans hx424_3; replace p424 := eq_true p424; replace q424 := eq_true q424) | (go_at_call 19; (with_reducible refine (entry_Bytes.calls k1 ((rd_T23 l0 x5_1).f0) ((rd_T23 l0 x5_1).f1) ((rd_T23 l0 x5_1).f2) ((rd_T23 l0 x5_1).f3) t425 _ A11.out).mono ?_); rintro e w15 ⟨rfl, hb⟩; have n0_ := Aside0.mk (Kd.R_below (by (with_reducible repeat (first | apply Kd.R_alloc | apply Kd.R_drewN | apply Kd.R_drew)); exact HO_4.out) hb); have n1_ := Aside0.mk (below_step (by repeat (first | (with_reducible first | exact HB.out | apply below_alloc | apply pw_below_drewN | apply below_drew1) | exact HB.out)) hb); clear HO_4; clear HB; have HO_4 := n0_; have HB := n1_; clear n0_ n1_; (try clear hb); (try clear hb2); (try clear hk); (try clear hi); have p426 : 0 ≤ (x5_1 : Int) := of_decide_eq_true (by first | (with_reducible assumption) | assumption); have q426 : x5_1 < (l0.length : Int) := of_decide_eq_true (by first | (with_reducible assumption) | assumption); obtain ⟨ad426, e426, hx426_0, hx426_1, hx426_2, hx426_3⟩ := at_T23 HR0.out x5_1 p426 q426; obtain rfl : ad422 = ad426 := (by injection e426); replace hx426_0 := (HB.out.cell (World.block_lt_of_cell? w _ hx426_0)).trans hx426_0; replace hx426_1 := (HB.out.cell (World.block_lt_of_cell? w _ hx426_1)).trans hx426_1; replace hx426_2 := (HB.out.cell (World.block_lt_of_cell? w _ hx426_2)).trans hx426_2; replace hx426_3 := (HB.out.cell (World.block_lt_of_cell? w _ hx426_3)).trans hx426_3; replace p426 := eq_true p426; replace q426 := eq_true q426) | ((with_reducible refine gate_builtin (b := .append) (xs := #[.tmp 37, .tmp 42]) rfl ?_); at_builtin; refine Kd.R_append k23 (w0 := w) w.heap.size rfl (.tmp 37) (.tmp 42) 24 23 (.agg #[(.string ⟨#[]⟩), (.int .i64 0), (.bool false), (.string ⟨#[]⟩)]) 48 rfl Try.underlying24 info23 rfl (by decide) (by omega) u4 x4_1 (⟨(rd_T23 l0 x5_1).f0, (rd_T23 l0 x5_1).f1, (rd_T23 l0 x5_1).f2, (rd_T23 l0 x5_1).f3⟩ : S23) [.string ((rd_T23 l0 x5_1).f0), .int .i64 ((rd_T23 l0 x5_1).f1), .bool ((rd_T23 l0 x5_1).f2), .string ((rd_T23 l0 x5_1).f3)] (fun _ => True) (fun _ => False) rfl rfl ?aP (fun _ hk => hk.elim) ?aF ?aO ?aB ?aS ?aL ?_; (case aP => exact k23_mkM _ _ _ (⟨(rd_T23 l0 x5_1).f0, (rd_T23 l0 x5_1).f1, (rd_T23 l0 x5_1).f2, (rd_T23 l0 x5_1).f3⟩ : S23)); (case aB => exact (by repeat (first | (with_reducible first | exact HB.out | apply below_alloc | apply pw_below_drewN | apply below_drew1) | exact HB.out))); (case aF => exact (fun _ _ => trivial)); (case aO => exact (by (with_reducible repeat (first | apply Kd.R_alloc | apply Kd.R_drewN | apply Kd.R_drew)); exact HO_4.out)); (case aS => exact (below_size (by repeat (first | (with_reducible first | exact HB.out | apply below_alloc | apply pw_below_drewN | apply below_drew1) | exact HB.out)))); (case aL => have := LMc13.out; omega); intro v428 w16 ho hb hg hat; rw [← Ny427.out] at ho; have n0_ := Aside0.mk (hb); have n1_ := Aside0.mk (ho); clear HB; clear HO_4; have HB := n0_; have HO429 := n1_; clear n0_ n1_; clear ho hb hg hat)))
                    go_roundg k1
                    case measure => have := HK1.out; omega
                    case rel => exact ⟨(x3_1 ++ t425), (y427), (wrap64 (x5_1 + 1)), (by first | rfl | (simp; done) | (simp [*]; done)), (by first | rfl | (simp; done) | (simp [*]; done)), H', ⟨by have := HK1.out; omega⟩, ⟨by (with_reducible repeat (first | apply Kd.R_alloc | apply Kd.R_drewN | apply Kd.R_drew)); exact HO429.out⟩, ⟨by repeat (first | (with_reducible first | exact HB.out | apply below_alloc | apply pw_below_drewN | apply below_drew1) | exact HB.out)⟩⟩
                  · rw [if_neg c13] at H
                    exact absurd H (by simp)
                · rw [if_neg c12] at H
                  exact absurd H (by simp)
              · replace c10 := Bool.eq_false_iff.mpr c10
                subst c10
                have H1 : (ravelinlaw6_EntryRows.l0 k1 l0 x3_1 x4_1 (wrap64 (x5_1 + 1))) = some r := by rw [if_neg (show ¬ (false = true) by decide)] at H; exact H
                clear H
                have H := H1
                clear H1
                have H' := Aside0.mk H
                clear H
                have p422 : 0 ≤ (x5_1 : Int) := of_decide_eq_true (by first | (with_reducible assumption) | assumption)
                have q422 : x5_1 < (l0.length : Int) := of_decide_eq_true (by first | (with_reducible assumption) | assumption)
                obtain ⟨ad422, e422, hx422_0, hx422_1, hx422_2, hx422_3⟩ := at_T23 HR0.out x5_1 p422 q422
                cases e422
                replace hx422_0 := (HB.out.cell (World.block_lt_of_cell? w _ hx422_0)).trans hx422_0
                replace hx422_1 := (HB.out.cell (World.block_lt_of_cell? w _ hx422_1)).trans hx422_1
                replace hx422_2 := (HB.out.cell (World.block_lt_of_cell? w _ hx422_2)).trans hx422_2
                replace hx422_3 := (HB.out.cell (World.block_lt_of_cell? w _ hx422_3)).trans hx422_3
                replace p422 := eq_true p422
                replace q422 := eq_true q422
                go_wp2_with (first | (go_at_call 15; (with_reducible refine (entry_Is.calls ((rd_T23 l0 x5_1).f0) ((rd_T23 l0 x5_1).f1) ((rd_T23 l0 x5_1).f2) ((rd_T23 l0 x5_1).f3) false _ A9.out).mono ?_); rintro e w17 ⟨rfl, hb⟩; have n0_ := Aside0.mk (Kd.R_below (by (with_reducible repeat (first | apply Kd.R_alloc | apply Kd.R_drewN | apply Kd.R_drew)); exact HO_4.out) hb); have n1_ := Aside0.mk (below_step (by repeat (first | (with_reducible first | exact HB.out | apply below_alloc | apply pw_below_drewN | apply below_drew1) | exact HB.out)) hb); clear HO_4; clear HB; have HO_4 := n0_; have HB := n1_; clear n0_ n1_; (try clear hb); (try clear hb2); (try clear hk); (try clear hi)))
                repeat (go_quiet (first | (go_at_call 15; (with_reducible refine (entry_Is.calls ((rd_T23 l0 x5_1).f0) ((rd_T23 l0 x5_1).f1) ((rd_T23 l0 x5_1).f2) ((rd_T23 l0 x5_1).f3) false _ A9.out).mono ?_); rintro e w17 ⟨rfl, hb⟩; have n0_ := Aside0.mk (Kd.R_below (by (with_reducible repeat (first | apply Kd.R_alloc | apply Kd.R_drewN | apply Kd.R_drew)); exact HO_4.out) hb); have n1_ := Aside0.mk (below_step (by repeat (first | (with_reducible first | exact HB.out | apply below_alloc | apply pw_below_drewN | apply below_drew1) | exact HB.out)) hb); clear HO_4; clear HB; have HO_4 := n0_; have HB := n1_; clear n0_ n1_; (try clear hb); (try clear hb2); (try clear hk); (try clear hi))); try go_wp2_with (first | (go_at_call 15; (with_reducible refine (entry_Is.calls ((rd_T23 l0 x5_1).f0) ((rd_T23 l0 x5_1).f1) ((rd_T23 l0 x5_1).f2) ((rd_T23 l0 x5_1).f3) false _ A9.out).mono ?_); rintro e w17 ⟨rfl, hb⟩; have n0_ := Aside0.mk (Kd.R_below (by (with_reducible repeat (first | apply Kd.R_alloc | apply Kd.R_drewN | apply Kd.R_drew)); exact HO_4.out) hb); have n1_ := Aside0.mk (below_step (by repeat (first | (with_reducible first | exact HB.out | apply below_alloc | apply pw_below_drewN | apply below_drew1) | exact HB.out)) hb); clear HO_4; clear HB; have HO_4 := n0_; have HB := n1_; clear n0_ n1_; (try clear hb); (try clear hb2); (try clear hk); (try clear hi))))
                go_roundg k1
                case measure => have := HK1.out; omega
                case rel => exact ⟨(x3_1), (x4_1), (wrap64 (x5_1 + 1)), (by first | rfl | (simp; done) | (simp [*]; done)), (by first | rfl | (simp; done) | (simp [*]; done)), H', ⟨by have := HK1.out; omega⟩, ⟨by (with_reducible repeat (first | apply Kd.R_alloc | apply Kd.R_drewN | apply Kd.R_drew)); exact HO_4.out⟩, ⟨by repeat (first | (with_reducible first | exact HB.out | apply below_alloc | apply pw_below_drewN | apply below_drew1) | exact HB.out)⟩⟩
            · rw [if_neg c8] at H
              exact absurd H (by simp)
          · rw [if_neg c7] at H
            have c7b0 : decide (x5_1 < (l0.length : Int)) = false := decide_eq_false c7
            clear c7
            have H' := Aside0.mk H
            clear H
            go_wp2
            repeat (go_quiet (fail); try go_wp2)
            go_loopg [6, 7] k1 (fun kq v6 v7 w' => ∃ (x6_2 : Int) (x7_2 : Int), v6 = .int .i64 x6_2 ∧ v7 = .int .i64 x7_2 ∧ Aside0 (ravelinlaw6_EntryRows.l1 kq x3_1 x4_1 x6_2 x7_2 = some r) ∧ Aside0 (kq ≤ k1) ∧ Aside0 (Kd.R k23 23 w' w.heap.size (fun _ => True) u4 x4_1) ∧ Aside0 (Below w.heap.size w w'))
            case atStart => exact ⟨(0), (0), (by first | rfl | (simp; done) | (simp [*]; done)), (by first | rfl | (simp; done) | (simp [*]; done)), H', ⟨Nat.le_refl _⟩, ⟨by (with_reducible repeat (first | apply Kd.R_alloc | apply Kd.R_drewN | apply Kd.R_drew)); exact HO_4.out⟩, ⟨by repeat (first | (with_reducible first | exact HB.out | apply below_alloc | apply pw_below_drewN | apply below_drew1) | exact HB.out)⟩⟩
            case round =>
              clear H'
              try clear c1
              try clear p2
              try clear c3
              try clear p4
              try clear q4
              try clear hx4
              try clear c5
              try clear p6
              try clear c7
              try clear c7b0
              try clear c8
              try clear c8b0
              try clear c10
              try clear c12
              try clear c12b0
              try clear c12b1
              try clear c12b2
              try clear c13
              try clear hx422_0
              try clear hx422_1
              try clear hx422_2
              try clear hx422_3
              try clear hx424_0
              try clear hx424_1
              try clear hx424_2
              try clear hx424_3
              try clear hx426_0
              try clear hx426_1
              try clear hx426_2
              try clear hx426_3
              try clear p2
              try clear p422
              try clear p424
              try clear p426
              try clear q422
              try clear q424
              try clear q426
              obtain ⟨x6_2, x7_2, rfl, rfl, HA, HK2, HO_4, HB⟩ := hrel
              cases gk with
              | zero => exact absurd HA.out (by simp [ravelinlaw6_EntryRows.l1])
              | succ k2 =>
                have H := HA.out
                clear HA
                simp only [ravelinlaw6_EntryRows.l1] at H
                by_cases c18 : x7_2 < (x4_1.length : Int)
                · rw [if_pos c18] at H
                  have c18b0 : decide (x7_2 < (x4_1.length : Int)) = true := decide_eq_true c18
                  clear c18
                  by_cases c19 : 0 ≤ x6_2
                  · rw [if_pos c19] at H
                    have c19b0 := eq_true c19
                    have c19b1 : decide (0 ≤ x6_2) = true := decide_eq_true c19
                    clear c19
                    by_cases c20 : x6_2 ≤ (x3_1.size : Int)
                    · rw [if_pos c20] at H
                      have c20b0 := eq_true c20
                      have c20b1 : decide (x6_2 ≤ (x3_1.size : Int)) = true := decide_eq_true c20
                      clear c20
                      replace H := Option.bind_eq_some_iff.mp H
                      obtain ⟨⟨t430, t431, t432, t433, t434, t435⟩, A210, H⟩ := H
                      replace H : (if t435 = 0 then (if t434 < 1 then (some false) else (if 0 ≤ x7_2 then (if (!(t430.toList == (((rd_T23 x4_1 x7_2).f0).toList)) || (!(t431 == ((rd_T23 x4_1 x7_2).f1)) || (!(t432 == ((rd_T23 x4_1 x7_2).f2)) || (!(t433.toList == (((rd_T23 x4_1 x7_2).f3).toList)))))) = true then (some false) else (ravelinlaw6_EntryRows.l1 k2 x3_1 x4_1 (wrap64 (x6_2 + t434)) (wrap64 (x7_2 + 1)))) else (none))) else (some false)) = some r := H
                      have A21 := Aside0.mk A210
                      clear A210
                      by_cases c22 : t435 = 0
                      · rw [if_pos c22] at H
                        have c22b0 : (t435 == 0) = true := beq_iff_eq.mpr c22
                        have c22b1 : (t435 != 0) = false := bne_eq_false_iff_eq.mpr c22
                        clear c22
                        by_cases c23 : t434 < 1
                        · rw [if_pos c23] at H
                          have c23b0 : decide (t434 < 1) = true := decide_eq_true c23
                          clear c23
                          exact absurd ((Option.some.inj H).trans HR_.out) (by decide)
                        · rw [if_neg c23] at H
                          have c23b0 : decide (t434 < 1) = false := decide_eq_false c23
                          clear c23
                          by_cases c24 : 0 ≤ x7_2
                          · rw [if_pos c24] at H
                            have c24b0 : decide (0 ≤ x7_2) = true := decide_eq_true c24
                            clear c24
                            by_cases c25 : (!(t430.toList == (((rd_T23 x4_1 x7_2).f0).toList)) || (!(t431 == ((rd_T23 x4_1 x7_2).f1)) || (!(t432 == ((rd_T23 x4_1 x7_2).f2)) || (!(t433.toList == (((rd_T23 x4_1 x7_2).f3).toList)))))) = true
                            · rw [if_pos c25] at H
                              have c25b0 : (!(t430.toList == (((rd_T23 x4_1 x7_2).f0).toList)) || (!(t431 == ((rd_T23 x4_1 x7_2).f1)) || (!(t432 == ((rd_T23 x4_1 x7_2).f2)) || (!(t433.toList == (((rd_T23 x4_1 x7_2).f3).toList)))))) = true := c25
                              clear c25
                              exact absurd ((Option.some.inj H).trans HR_.out) (by decide)
                            · rw [if_neg c25] at H
                              have c25b0 : (!(t430.toList == (((rd_T23 x4_1 x7_2).f0).toList)) || (!(t431 == ((rd_T23 x4_1 x7_2).f1)) || (!(t432 == ((rd_T23 x4_1 x7_2).f2)) || (!(t433.toList == (((rd_T23 x4_1 x7_2).f3).toList)))))) = false := by simpa using c25
                              clear c25
                              have H' := Aside0.mk H
                              clear H
                              obtain ⟨Ao26, co26, eo26⟩ := Kd.R_slice HO_4.out
                              subst eo26
                              go_wp2_with (first | (go_at_call 11; (with_reducible refine (entry_Read.calls k2 (x3_1.extract (x6_2 : Int).toNat x3_1.size) t430 t431 t432 t433 t434 t435 _ A21.out).mono ?_); rintro e w27 ⟨rfl, hb⟩; have n0_ := Aside0.mk (Kd.R_below (by (with_reducible repeat (first | apply Kd.R_alloc | apply Kd.R_drewN | apply Kd.R_drew)); exact HO_4.out) hb); have n1_ := Aside0.mk (below_step (by repeat (first | (with_reducible first | exact HB.out | apply below_alloc | apply pw_below_drewN | apply below_drew1) | exact HB.out)) hb); clear HO_4; clear HB; have HO_4 := n0_; have HB := n1_; clear n0_ n1_; (try clear hb); (try clear hb2); (try clear hk); (try clear hi)) | ((with_reducible refine gate_dst (N := 8) rfl ?_); refine box_event ?hg (N := 8) ?hd (cs := #[.string (⟨#[]⟩ : ByteArray), .int .i64 0, .bool false, .string (⟨#[]⟩ : ByteArray)]) (t := 23) ?hr ?_; (case hd => rfl); (case hg => rfl); (case hr => first | (go_simp; done) | (go_simp; rfl)); intro gb436 hg w28 hbox hb; have n0_ := Aside0.mk (Kd.R_below (Kd.R_elderB (by (with_reducible repeat (first | apply Kd.R_alloc | apply Kd.R_drewN | apply Kd.R_drew)); exact HO_4.out) gb436 (Nat.le_of_eq hg.symm)) hb); have n1_ := Aside0.mk (below_step (by repeat (first | (with_reducible first | exact HB.out | apply below_alloc | apply pw_below_drewN | apply below_drew1) | exact HB.out)) hb); have n2_ := Aside0.mk (hbox); have n3_ := Aside0.mk ((by rw [hg]; exact (below_size (by repeat (first | (with_reducible first | exact HB.out | apply below_alloc | apply pw_below_drewN | apply below_drew1) | exact HB.out))) : w.heap.size ≤ gb436)); have n4_ := Aside0.mk ((by rw [hg]; exact (below_size (by repeat (first | (with_reducible first | exact HB.out | apply below_alloc | apply pw_below_drewN | apply below_drew1) | exact HB.out))) : w.heap.size ≤ gb436)); clear HO_4; clear HB; have HO_4 := n0_; have HB := n1_; have BK436 := n2_; have GW436 := n3_; have GE436 := n4_; clear n0_ n1_ n2_ n3_ n4_; clear hb hbox hg; have hcz29_0 : w28.cell? ⟨gb436, 0, none⟩ = some (.string (⟨#[]⟩ : ByteArray)) := (blk_cell BK436.out 0).trans rfl; have hcz29_1 : w28.cell? ⟨gb436, 1, none⟩ = some (.int .i64 0) := (blk_cell BK436.out 1).trans rfl; have hcz29_2 : w28.cell? ⟨gb436, 2, none⟩ = some (.bool false) := (blk_cell BK436.out 2).trans rfl; have hcz29_3 : w28.cell? ⟨gb436, 3, none⟩ = some (.string (⟨#[]⟩ : ByteArray)) := (blk_cell BK436.out 3).trans rfl; have hfz29_0 := blk_frozen BK436.out 0; have hfz29_1 := blk_frozen BK436.out 1; have hfz29_2 := blk_frozen BK436.out 2; have hfz29_3 := blk_frozen BK436.out 3; have p437 : 0 ≤ (x7_2 : Int) := of_decide_eq_true (by first | (with_reducible assumption) | assumption); have q437 : x7_2 < (x4_1.length : Int) := of_decide_eq_true (by first | (with_reducible assumption) | assumption); obtain ⟨ad437, e437, hx437_0, hx437_1, hx437_2, hx437_3⟩ := at_T23 (Kd.R_reads' HO_4.out).2.2 x7_2 p437 q437; cases e437; have hn437_0 : ad437.block ≠ gb436 := (HO_4.out.1 _ rfl).2; have hn437_1 : ad437.block ≠ gb436 := (HO_4.out.1 _ rfl).2; have hn437_2 : ad437.block ≠ gb436 := (HO_4.out.1 _ rfl).2; have hn437_3 : ad437.block ≠ gb436 := (HO_4.out.1 _ rfl).2; replace hx437_0 := (cell_far (p := ⟨gb436, 0, none⟩) (by first | (rw [add_block]; exact hn437_0) | (show (Addr.add _ _).block ≠ _; rw [add_block]; exact hn437_0) | exact hn437_0) (.string t430)).trans hx437_0; replace hx437_1 := (cell_far (p := ⟨gb436, 0, none⟩) (by first | (rw [add_block]; exact hn437_0) | (show (Addr.add _ _).block ≠ _; rw [add_block]; exact hn437_0) | exact hn437_0) (.string t430)).trans hx437_1; replace hx437_2 := (cell_far (p := ⟨gb436, 0, none⟩) (by first | (rw [add_block]; exact hn437_0) | (show (Addr.add _ _).block ≠ _; rw [add_block]; exact hn437_0) | exact hn437_0) (.string t430)).trans hx437_2; replace hx437_3 := (cell_far (p := ⟨gb436, 0, none⟩) (by first | (rw [add_block]; exact hn437_0) | (show (Addr.add _ _).block ≠ _; rw [add_block]; exact hn437_0) | exact hn437_0) (.string t430)).trans hx437_3; replace hx437_0 := (cell_far (p := ⟨gb436, 1, none⟩) (by first | (rw [add_block]; exact hn437_1) | (show (Addr.add _ _).block ≠ _; rw [add_block]; exact hn437_1) | exact hn437_1) (.int .i64 t431)).trans hx437_0; replace hx437_1 := (cell_far (p := ⟨gb436, 1, none⟩) (by first | (rw [add_block]; exact hn437_1) | (show (Addr.add _ _).block ≠ _; rw [add_block]; exact hn437_1) | exact hn437_1) (.int .i64 t431)).trans hx437_1; replace hx437_2 := (cell_far (p := ⟨gb436, 1, none⟩) (by first | (rw [add_block]; exact hn437_1) | (show (Addr.add _ _).block ≠ _; rw [add_block]; exact hn437_1) | exact hn437_1) (.int .i64 t431)).trans hx437_2; replace hx437_3 := (cell_far (p := ⟨gb436, 1, none⟩) (by first | (rw [add_block]; exact hn437_1) | (show (Addr.add _ _).block ≠ _; rw [add_block]; exact hn437_1) | exact hn437_1) (.int .i64 t431)).trans hx437_3; replace hx437_0 := (cell_far (p := ⟨gb436, 2, none⟩) (by first | (rw [add_block]; exact hn437_2) | (show (Addr.add _ _).block ≠ _; rw [add_block]; exact hn437_2) | exact hn437_2) (.bool t432)).trans hx437_0; replace hx437_1 := (cell_far (p := ⟨gb436, 2, none⟩) (by first | (rw [add_block]; exact hn437_2) | (show (Addr.add _ _).block ≠ _; rw [add_block]; exact hn437_2) | exact hn437_2) (.bool t432)).trans hx437_1; replace hx437_2 := (cell_far (p := ⟨gb436, 2, none⟩) (by first | (rw [add_block]; exact hn437_2) | (show (Addr.add _ _).block ≠ _; rw [add_block]; exact hn437_2) | exact hn437_2) (.bool t432)).trans hx437_2; replace hx437_3 := (cell_far (p := ⟨gb436, 2, none⟩) (by first | (rw [add_block]; exact hn437_2) | (show (Addr.add _ _).block ≠ _; rw [add_block]; exact hn437_2) | exact hn437_2) (.bool t432)).trans hx437_3; replace hx437_0 := (cell_far (p := ⟨gb436, 3, none⟩) (by first | (rw [add_block]; exact hn437_3) | (show (Addr.add _ _).block ≠ _; rw [add_block]; exact hn437_3) | exact hn437_3) (.string t433)).trans hx437_0; replace hx437_1 := (cell_far (p := ⟨gb436, 3, none⟩) (by first | (rw [add_block]; exact hn437_3) | (show (Addr.add _ _).block ≠ _; rw [add_block]; exact hn437_3) | exact hn437_3) (.string t433)).trans hx437_1; replace hx437_2 := (cell_far (p := ⟨gb436, 3, none⟩) (by first | (rw [add_block]; exact hn437_3) | (show (Addr.add _ _).block ≠ _; rw [add_block]; exact hn437_3) | exact hn437_3) (.string t433)).trans hx437_2; replace hx437_3 := (cell_far (p := ⟨gb436, 3, none⟩) (by first | (rw [add_block]; exact hn437_3) | (show (Addr.add _ _).block ≠ _; rw [add_block]; exact hn437_3) | exact hn437_3) (.string t433)).trans hx437_3; (try have hy437_0 := fun (n_ : Nat) => (show ((((((w28.drewN n_).setCell ⟨gb436, 0, none⟩ (.string t430)).setCell ⟨gb436, 1, none⟩ (.int .i64 t431)).setCell ⟨gb436, 2, none⟩ (.bool t432)).setCell ⟨gb436, 3, none⟩ (.string t433))).cell? _ = some _ from hx437_0)); (try have hy437_1 := fun (n_ : Nat) => (show ((((((w28.drewN n_).setCell ⟨gb436, 0, none⟩ (.string t430)).setCell ⟨gb436, 1, none⟩ (.int .i64 t431)).setCell ⟨gb436, 2, none⟩ (.bool t432)).setCell ⟨gb436, 3, none⟩ (.string t433))).cell? _ = some _ from hx437_1)); (try have hy437_2 := fun (n_ : Nat) => (show ((((((w28.drewN n_).setCell ⟨gb436, 0, none⟩ (.string t430)).setCell ⟨gb436, 1, none⟩ (.int .i64 t431)).setCell ⟨gb436, 2, none⟩ (.bool t432)).setCell ⟨gb436, 3, none⟩ (.string t433))).cell? _ = some _ from hx437_2)); (try have hy437_3 := fun (n_ : Nat) => (show ((((((w28.drewN n_).setCell ⟨gb436, 0, none⟩ (.string t430)).setCell ⟨gb436, 1, none⟩ (.int .i64 t431)).setCell ⟨gb436, 2, none⟩ (.bool t432)).setCell ⟨gb436, 3, none⟩ (.string t433))).cell? _ = some _ from hx437_3)); clear hn437_0; clear hn437_1; clear hn437_2; clear hn437_3; replace p437 := eq_true p437; replace q437 := eq_true q437))
                              repeat (go_quiet (first | (go_at_call 11; (with_reducible refine (entry_Read.calls k2 (x3_1.extract (x6_2 : Int).toNat x3_1.size) t430 t431 t432 t433 t434 t435 _ A21.out).mono ?_); rintro e w27 ⟨rfl, hb⟩; have n0_ := Aside0.mk (Kd.R_below (by (with_reducible repeat (first | apply Kd.R_alloc | apply Kd.R_drewN | apply Kd.R_drew)); exact HO_4.out) hb); have n1_ := Aside0.mk (below_step (by repeat (first | (with_reducible first | exact HB.out | apply below_alloc | apply pw_below_drewN | apply below_drew1) | exact HB.out)) hb); clear HO_4; clear HB; have HO_4 := n0_; have HB := n1_; clear n0_ n1_; (try clear hb); (try clear hb2); (try clear hk); (try clear hi)) | ((with_reducible refine gate_dst (N := 8) rfl ?_); refine box_event ?hg (N := 8) ?hd (cs := #[.string (⟨#[]⟩ : ByteArray), .int .i64 0, .bool false, .string (⟨#[]⟩ : ByteArray)]) (t := 23) ?hr ?_; (case hd => rfl); (case hg => rfl); (case hr => first | (go_simp; done) | (go_simp; rfl)); intro gb436 hg w28 hbox hb; have n0_ := Aside0.mk (Kd.R_below (Kd.R_elderB (by (with_reducible repeat (first | apply Kd.R_alloc | apply Kd.R_drewN | apply Kd.R_drew)); exact HO_4.out) gb436 (Nat.le_of_eq hg.symm)) hb); have n1_ := Aside0.mk (below_step (by repeat (first | (with_reducible first | exact HB.out | apply below_alloc | apply pw_below_drewN | apply below_drew1) | exact HB.out)) hb); have n2_ := Aside0.mk (hbox); have n3_ := Aside0.mk ((by rw [hg]; exact (below_size (by repeat (first | (with_reducible first | exact HB.out | apply below_alloc | apply pw_below_drewN | apply below_drew1) | exact HB.out))) : w.heap.size ≤ gb436)); have n4_ := Aside0.mk ((by rw [hg]; exact (below_size (by repeat (first | (with_reducible first | exact HB.out | apply below_alloc | apply pw_below_drewN | apply below_drew1) | exact HB.out))) : w.heap.size ≤ gb436)); clear HO_4; clear HB; have HO_4 := n0_; have HB := n1_; have BK436 := n2_; have GW436 := n3_; have GE436 := n4_; clear n0_ n1_ n2_ n3_ n4_; clear hb hbox hg; have hcz29_0 : w28.cell? ⟨gb436, 0, none⟩ = some (.string (⟨#[]⟩ : ByteArray)) := (blk_cell BK436.out 0).trans rfl; have hcz29_1 : w28.cell? ⟨gb436, 1, none⟩ = some (.int .i64 0) := (blk_cell BK436.out 1).trans rfl; have hcz29_2 : w28.cell? ⟨gb436, 2, none⟩ = some (.bool false) := (blk_cell BK436.out 2).trans rfl; have hcz29_3 : w28.cell? ⟨gb436, 3, none⟩ = some (.string (⟨#[]⟩ : ByteArray)) := (blk_cell BK436.out 3).trans rfl; have hfz29_0 := blk_frozen BK436.out 0; have hfz29_1 := blk_frozen BK436.out 1; have hfz29_2 := blk_frozen BK436.out 2; have hfz29_3 := blk_frozen BK436.out 3; have p437 : 0 ≤ (x7_2 : Int) := of_decide_eq_true (by first | (with_reducible assumption) | assumption); have q437 : x7_2 < (x4_1.length : Int) := of_decide_eq_true (by first | (with_reducible assumption) | assumption); obtain ⟨ad437, e437, hx437_0, hx437_1, hx437_2, hx437_3⟩ := at_T23 (Kd.R_reads' HO_4.out).2.2 x7_2 p437 q437; cases e437; have hn437_0 : ad437.block ≠ gb436 := (HO_4.out.1 _ rfl).2; have hn437_1 : ad437.block ≠ gb436 := (HO_4.out.1 _ rfl).2; have hn437_2 : ad437.block ≠ gb436 := (HO_4.out.1 _ rfl).2; have hn437_3 : ad437.block ≠ gb436 := (HO_4.out.1 _ rfl).2; replace hx437_0 := (cell_far (p := ⟨gb436, 0, none⟩) (by first | (rw [add_block]; exact hn437_0) | (show (Addr.add _ _).block ≠ _; rw [add_block]; exact hn437_0) | exact hn437_0) (.string t430)).trans hx437_0; replace hx437_1 := (cell_far (p := ⟨gb436, 0, none⟩) (by first | (rw [add_block]; exact hn437_0) | (show (Addr.add _ _).block ≠ _; rw [add_block]; exact hn437_0) | exact hn437_0) (.string t430)).trans hx437_1; replace hx437_2 := (cell_far (p := ⟨gb436, 0, none⟩) (by first | (rw [add_block]; exact hn437_0) | (show (Addr.add _ _).block ≠ _; rw [add_block]; exact hn437_0) | exact hn437_0) (.string t430)).trans hx437_2; replace hx437_3 := (cell_far (p := ⟨gb436, 0, none⟩) (by first | (rw [add_block]; exact hn437_0) | (show (Addr.add _ _).block ≠ _; rw [add_block]; exact hn437_0) | exact hn437_0) (.string t430)).trans hx437_3; replace hx437_0 := (cell_far (p := ⟨gb436, 1, none⟩) (by first | (rw [add_block]; exact hn437_1) | (show (Addr.add _ _).block ≠ _; rw [add_block]; exact hn437_1) | exact hn437_1) (.int .i64 t431)).trans hx437_0; replace hx437_1 := (cell_far (p := ⟨gb436, 1, none⟩) (by first | (rw [add_block]; exact hn437_1) | (show (Addr.add _ _).block ≠ _; rw [add_block]; exact hn437_1) | exact hn437_1) (.int .i64 t431)).trans hx437_1; replace hx437_2 := (cell_far (p := ⟨gb436, 1, none⟩) (by first | (rw [add_block]; exact hn437_1) | (show (Addr.add _ _).block ≠ _; rw [add_block]; exact hn437_1) | exact hn437_1) (.int .i64 t431)).trans hx437_2; replace hx437_3 := (cell_far (p := ⟨gb436, 1, none⟩) (by first | (rw [add_block]; exact hn437_1) | (show (Addr.add _ _).block ≠ _; rw [add_block]; exact hn437_1) | exact hn437_1) (.int .i64 t431)).trans hx437_3; replace hx437_0 := (cell_far (p := ⟨gb436, 2, none⟩) (by first | (rw [add_block]; exact hn437_2) | (show (Addr.add _ _).block ≠ _; rw [add_block]; exact hn437_2) | exact hn437_2) (.bool t432)).trans hx437_0; replace hx437_1 := (cell_far (p := ⟨gb436, 2, none⟩) (by first | (rw [add_block]; exact hn437_2) | (show (Addr.add _ _).block ≠ _; rw [add_block]; exact hn437_2) | exact hn437_2) (.bool t432)).trans hx437_1; replace hx437_2 := (cell_far (p := ⟨gb436, 2, none⟩) (by first | (rw [add_block]; exact hn437_2) | (show (Addr.add _ _).block ≠ _; rw [add_block]; exact hn437_2) | exact hn437_2) (.bool t432)).trans hx437_2; replace hx437_3 := (cell_far (p := ⟨gb436, 2, none⟩) (by first | (rw [add_block]; exact hn437_2) | (show (Addr.add _ _).block ≠ _; rw [add_block]; exact hn437_2) | exact hn437_2) (.bool t432)).trans hx437_3; replace hx437_0 := (cell_far (p := ⟨gb436, 3, none⟩) (by first | (rw [add_block]; exact hn437_3) | (show (Addr.add _ _).block ≠ _; rw [add_block]; exact hn437_3) | exact hn437_3) (.string t433)).trans hx437_0; replace hx437_1 := (cell_far (p := ⟨gb436, 3, none⟩) (by first | (rw [add_block]; exact hn437_3) | (show (Addr.add _ _).block ≠ _; rw [add_block]; exact hn437_3) | exact hn437_3) (.string t433)).trans hx437_1; replace hx437_2 := (cell_far (p := ⟨gb436, 3, none⟩) (by first | (rw [add_block]; exact hn437_3) | (show (Addr.add _ _).block ≠ _; rw [add_block]; exact hn437_3) | exact hn437_3) (.string t433)).trans hx437_2; replace hx437_3 := (cell_far (p := ⟨gb436, 3, none⟩) (by first | (rw [add_block]; exact hn437_3) | (show (Addr.add _ _).block ≠ _; rw [add_block]; exact hn437_3) | exact hn437_3) (.string t433)).trans hx437_3; (try have hy437_0 := fun (n_ : Nat) => (show ((((((w28.drewN n_).setCell ⟨gb436, 0, none⟩ (.string t430)).setCell ⟨gb436, 1, none⟩ (.int .i64 t431)).setCell ⟨gb436, 2, none⟩ (.bool t432)).setCell ⟨gb436, 3, none⟩ (.string t433))).cell? _ = some _ from hx437_0)); (try have hy437_1 := fun (n_ : Nat) => (show ((((((w28.drewN n_).setCell ⟨gb436, 0, none⟩ (.string t430)).setCell ⟨gb436, 1, none⟩ (.int .i64 t431)).setCell ⟨gb436, 2, none⟩ (.bool t432)).setCell ⟨gb436, 3, none⟩ (.string t433))).cell? _ = some _ from hx437_1)); (try have hy437_2 := fun (n_ : Nat) => (show ((((((w28.drewN n_).setCell ⟨gb436, 0, none⟩ (.string t430)).setCell ⟨gb436, 1, none⟩ (.int .i64 t431)).setCell ⟨gb436, 2, none⟩ (.bool t432)).setCell ⟨gb436, 3, none⟩ (.string t433))).cell? _ = some _ from hx437_2)); (try have hy437_3 := fun (n_ : Nat) => (show ((((((w28.drewN n_).setCell ⟨gb436, 0, none⟩ (.string t430)).setCell ⟨gb436, 1, none⟩ (.int .i64 t431)).setCell ⟨gb436, 2, none⟩ (.bool t432)).setCell ⟨gb436, 3, none⟩ (.string t433))).cell? _ = some _ from hx437_3)); clear hn437_0; clear hn437_1; clear hn437_2; clear hn437_3; replace p437 := eq_true p437; replace q437 := eq_true q437)); try go_wp2_with (first | (go_at_call 11; (with_reducible refine (entry_Read.calls k2 (x3_1.extract (x6_2 : Int).toNat x3_1.size) t430 t431 t432 t433 t434 t435 _ A21.out).mono ?_); rintro e w27 ⟨rfl, hb⟩; have n0_ := Aside0.mk (Kd.R_below (by (with_reducible repeat (first | apply Kd.R_alloc | apply Kd.R_drewN | apply Kd.R_drew)); exact HO_4.out) hb); have n1_ := Aside0.mk (below_step (by repeat (first | (with_reducible first | exact HB.out | apply below_alloc | apply pw_below_drewN | apply below_drew1) | exact HB.out)) hb); clear HO_4; clear HB; have HO_4 := n0_; have HB := n1_; clear n0_ n1_; (try clear hb); (try clear hb2); (try clear hk); (try clear hi)) | ((with_reducible refine gate_dst (N := 8) rfl ?_); refine box_event ?hg (N := 8) ?hd (cs := #[.string (⟨#[]⟩ : ByteArray), .int .i64 0, .bool false, .string (⟨#[]⟩ : ByteArray)]) (t := 23) ?hr ?_; (case hd => rfl); (case hg => rfl); (case hr => first | (go_simp; done) | (go_simp; rfl)); intro gb436 hg w28 hbox hb; have n0_ := Aside0.mk (Kd.R_below (Kd.R_elderB (by (with_reducible repeat (first | apply Kd.R_alloc | apply Kd.R_drewN | apply Kd.R_drew)); exact HO_4.out) gb436 (Nat.le_of_eq hg.symm)) hb); have n1_ := Aside0.mk (below_step (by repeat (first | (with_reducible first | exact HB.out | apply below_alloc | apply pw_below_drewN | apply below_drew1) | exact HB.out)) hb); have n2_ := Aside0.mk (hbox); have n3_ := Aside0.mk ((by rw [hg]; exact (below_size (by repeat (first | (with_reducible first | exact HB.out | apply below_alloc | apply pw_below_drewN | apply below_drew1) | exact HB.out))) : w.heap.size ≤ gb436)); have n4_ := Aside0.mk ((by rw [hg]; exact (below_size (by repeat (first | (with_reducible first | exact HB.out | apply below_alloc | apply pw_below_drewN | apply below_drew1) | exact HB.out))) : w.heap.size ≤ gb436)); clear HO_4; clear HB; have HO_4 := n0_; have HB := n1_; have BK436 := n2_; have GW436 := n3_; have GE436 := n4_; clear n0_ n1_ n2_ n3_ n4_; clear hb hbox hg; have hcz29_0 : w28.cell? ⟨gb436, 0, none⟩ = some (.string (⟨#[]⟩ : ByteArray)) := (blk_cell BK436.out 0).trans rfl; have hcz29_1 : w28.cell? ⟨gb436, 1, none⟩ = some (.int .i64 0) := (blk_cell BK436.out 1).trans rfl; have hcz29_2 : w28.cell? ⟨gb436, 2, none⟩ = some (.bool false) := (blk_cell BK436.out 2).trans rfl; have hcz29_3 : w28.cell? ⟨gb436, 3, none⟩ = some (.string (⟨#[]⟩ : ByteArray)) := (blk_cell BK436.out 3).trans rfl; have hfz29_0 := blk_frozen BK436.out 0; have hfz29_1 := blk_frozen BK436.out 1; have hfz29_2 := blk_frozen BK436.out 2; have hfz29_3 := blk_frozen BK436.out 3; have p437 : 0 ≤ (x7_2 : Int) := of_decide_eq_true (by first | (with_reducible assumption) | assumption); have q437 : x7_2 < (x4_1.length : Int) := of_decide_eq_true (by first | (with_reducible assumption) | assumption); obtain ⟨ad437, e437, hx437_0, hx437_1, hx437_2, hx437_3⟩ := at_T23 (Kd.R_reads' HO_4.out).2.2 x7_2 p437 q437; cases e437; have hn437_0 : ad437.block ≠ gb436 := (HO_4.out.1 _ rfl).2; have hn437_1 : ad437.block ≠ gb436 := (HO_4.out.1 _ rfl).2; have hn437_2 : ad437.block ≠ gb436 := (HO_4.out.1 _ rfl).2; have hn437_3 : ad437.block ≠ gb436 := (HO_4.out.1 _ rfl).2; replace hx437_0 := (cell_far (p := ⟨gb436, 0, none⟩) (by first | (rw [add_block]; exact hn437_0) | (show (Addr.add _ _).block ≠ _; rw [add_block]; exact hn437_0) | exact hn437_0) (.string t430)).trans hx437_0; replace hx437_1 := (cell_far (p := ⟨gb436, 0, none⟩) (by first | (rw [add_block]; exact hn437_0) | (show (Addr.add _ _).block ≠ _; rw [add_block]; exact hn437_0) | exact hn437_0) (.string t430)).trans hx437_1; replace hx437_2 := (cell_far (p := ⟨gb436, 0, none⟩) (by first | (rw [add_block]; exact hn437_0) | (show (Addr.add _ _).block ≠ _; rw [add_block]; exact hn437_0) | exact hn437_0) (.string t430)).trans hx437_2; replace hx437_3 := (cell_far (p := ⟨gb436, 0, none⟩) (by first | (rw [add_block]; exact hn437_0) | (show (Addr.add _ _).block ≠ _; rw [add_block]; exact hn437_0) | exact hn437_0) (.string t430)).trans hx437_3; replace hx437_0 := (cell_far (p := ⟨gb436, 1, none⟩) (by first | (rw [add_block]; exact hn437_1) | (show (Addr.add _ _).block ≠ _; rw [add_block]; exact hn437_1) | exact hn437_1) (.int .i64 t431)).trans hx437_0; replace hx437_1 := (cell_far (p := ⟨gb436, 1, none⟩) (by first | (rw [add_block]; exact hn437_1) | (show (Addr.add _ _).block ≠ _; rw [add_block]; exact hn437_1) | exact hn437_1) (.int .i64 t431)).trans hx437_1; replace hx437_2 := (cell_far (p := ⟨gb436, 1, none⟩) (by first | (rw [add_block]; exact hn437_1) | (show (Addr.add _ _).block ≠ _; rw [add_block]; exact hn437_1) | exact hn437_1) (.int .i64 t431)).trans hx437_2; replace hx437_3 := (cell_far (p := ⟨gb436, 1, none⟩) (by first | (rw [add_block]; exact hn437_1) | (show (Addr.add _ _).block ≠ _; rw [add_block]; exact hn437_1) | exact hn437_1) (.int .i64 t431)).trans hx437_3; replace hx437_0 := (cell_far (p := ⟨gb436, 2, none⟩) (by first | (rw [add_block]; exact hn437_2) | (show (Addr.add _ _).block ≠ _; rw [add_block]; exact hn437_2) | exact hn437_2) (.bool t432)).trans hx437_0; replace hx437_1 := (cell_far (p := ⟨gb436, 2, none⟩) (by first | (rw [add_block]; exact hn437_2) | (show (Addr.add _ _).block ≠ _; rw [add_block]; exact hn437_2) | exact hn437_2) (.bool t432)).trans hx437_1; replace hx437_2 := (cell_far (p := ⟨gb436, 2, none⟩) (by first | (rw [add_block]; exact hn437_2) | (show (Addr.add _ _).block ≠ _; rw [add_block]; exact hn437_2) | exact hn437_2) (.bool t432)).trans hx437_2; replace hx437_3 := (cell_far (p := ⟨gb436, 2, none⟩) (by first | (rw [add_block]; exact hn437_2) | (show (Addr.add _ _).block ≠ _; rw [add_block]; exact hn437_2) | exact hn437_2) (.bool t432)).trans hx437_3; replace hx437_0 := (cell_far (p := ⟨gb436, 3, none⟩) (by first | (rw [add_block]; exact hn437_3) | (show (Addr.add _ _).block ≠ _; rw [add_block]; exact hn437_3) | exact hn437_3) (.string t433)).trans hx437_0; replace hx437_1 := (cell_far (p := ⟨gb436, 3, none⟩) (by first | (rw [add_block]; exact hn437_3) | (show (Addr.add _ _).block ≠ _; rw [add_block]; exact hn437_3) | exact hn437_3) (.string t433)).trans hx437_1; replace hx437_2 := (cell_far (p := ⟨gb436, 3, none⟩) (by first | (rw [add_block]; exact hn437_3) | (show (Addr.add _ _).block ≠ _; rw [add_block]; exact hn437_3) | exact hn437_3) (.string t433)).trans hx437_2; replace hx437_3 := (cell_far (p := ⟨gb436, 3, none⟩) (by first | (rw [add_block]; exact hn437_3) | (show (Addr.add _ _).block ≠ _; rw [add_block]; exact hn437_3) | exact hn437_3) (.string t433)).trans hx437_3; (try have hy437_0 := fun (n_ : Nat) => (show ((((((w28.drewN n_).setCell ⟨gb436, 0, none⟩ (.string t430)).setCell ⟨gb436, 1, none⟩ (.int .i64 t431)).setCell ⟨gb436, 2, none⟩ (.bool t432)).setCell ⟨gb436, 3, none⟩ (.string t433))).cell? _ = some _ from hx437_0)); (try have hy437_1 := fun (n_ : Nat) => (show ((((((w28.drewN n_).setCell ⟨gb436, 0, none⟩ (.string t430)).setCell ⟨gb436, 1, none⟩ (.int .i64 t431)).setCell ⟨gb436, 2, none⟩ (.bool t432)).setCell ⟨gb436, 3, none⟩ (.string t433))).cell? _ = some _ from hx437_1)); (try have hy437_2 := fun (n_ : Nat) => (show ((((((w28.drewN n_).setCell ⟨gb436, 0, none⟩ (.string t430)).setCell ⟨gb436, 1, none⟩ (.int .i64 t431)).setCell ⟨gb436, 2, none⟩ (.bool t432)).setCell ⟨gb436, 3, none⟩ (.string t433))).cell? _ = some _ from hx437_2)); (try have hy437_3 := fun (n_ : Nat) => (show ((((((w28.drewN n_).setCell ⟨gb436, 0, none⟩ (.string t430)).setCell ⟨gb436, 1, none⟩ (.int .i64 t431)).setCell ⟨gb436, 2, none⟩ (.bool t432)).setCell ⟨gb436, 3, none⟩ (.string t433))).cell? _ = some _ from hx437_3)); clear hn437_0; clear hn437_1; clear hn437_2; clear hn437_3; replace p437 := eq_true p437; replace q437 := eq_true q437)))
                              go_roundg k2
                              case measure => have := HK1.out; have := HK2.out; omega
                              case rel => exact ⟨(wrap64 (x6_2 + t434)), (wrap64 (x7_2 + 1)), (by first | rfl | (simp; done) | (simp [*]; done)), (by first | rfl | (simp; done) | (simp [*]; done)), H', ⟨by have := HK1.out; have := HK2.out; omega⟩, ⟨by (with_reducible repeat (first | apply Kd.R_alloc | apply Kd.R_drewN | apply Kd.R_drew)); exact Kd.R_mono (Kd.R_far (p := ⟨gb436, 3, none⟩) (Kd.R_far (p := ⟨gb436, 2, none⟩) (Kd.R_far (p := ⟨gb436, 1, none⟩) (Kd.R_far (p := ⟨gb436, 0, none⟩) (Kd.R_mono HO_4.out (fun k_ hk => (⟨hk, hk.2⟩ : _ ∧ k_ ≠ gb436))) (fun _ hk => hk.2) (.string t430)) (fun _ hk => hk.2) (.int .i64 t431)) (fun _ hk => hk.2) (.bool t432)) (fun _ hk => hk.2) (.string t433)) (fun _ hk => trivial)⟩, ⟨by repeat (first | (with_reducible first | exact HB.out | apply below_alloc | apply pw_below_drewN | apply below_drew1 | refine below_set ?_ GE436.out) | exact HB.out)⟩⟩
                          · rw [if_neg c24] at H
                            exact absurd H (by simp)
                      · rw [if_neg c22] at H
                        have c22b0 : (t435 == 0) = false := beq_eq_false_iff_ne.mpr c22
                        have c22b1 : (t435 != 0) = true := bne_iff_ne.mpr c22
                        exact absurd ((Option.some.inj H).trans HR_.out) (by decide)
                    · rw [if_neg c20] at H
                      exact absurd H (by simp)
                  · rw [if_neg c19] at H
                    exact absurd H (by simp)
                · rw [if_neg c18] at H
                  have c18b0 : decide (x7_2 < (x4_1.length : Int)) = false := decide_eq_false c18
                  clear c18
                  by_cases c30 : 0 ≤ x6_2
                  · rw [if_pos c30] at H
                    have c30b0 := eq_true c30
                    have c30b1 : decide (0 ≤ x6_2) = true := decide_eq_true c30
                    clear c30
                    by_cases c31 : x6_2 ≤ (x3_1.size : Int)
                    · rw [if_pos c31] at H
                      have c31b0 := eq_true c31
                      have c31b1 : decide (x6_2 ≤ (x3_1.size : Int)) = true := decide_eq_true c31
                      clear c31
                      replace H := Option.bind_eq_some_iff.mp H
                      obtain ⟨⟨t438, t439, t440, t441, t442, t443⟩, A320, H⟩ := H
                      replace H : (if x6_2 = (x3_1.size : Int) then (some (t443 == 12)) else (some false)) = some r := H
                      have A32 := Aside0.mk A320
                      clear A320
                      by_cases c33 : x6_2 = (x3_1.size : Int)
                      · rw [if_pos c33] at H
                        have c33b0 : (x6_2 == (x3_1.size : Int)) = true := beq_iff_eq.mpr c33
                        have c33b1 : (x6_2 != (x3_1.size : Int)) = false := bne_eq_false_iff_eq.mpr c33
                        clear c33
                        obtain rfl := Option.some.inj H
                        obtain ⟨Ao34, co34, eo34⟩ := Kd.R_slice HO_4.out
                        subst eo34
                        go_wp2_with (first | (go_at_call 11; (with_reducible refine (entry_Read.calls k2 (x3_1.extract (x6_2 : Int).toNat x3_1.size) t438 t439 t440 t441 t442 t443 _ A32.out).mono ?_); rintro e w35 ⟨rfl, hb⟩; have n0_ := Aside0.mk (Kd.R_below (by (with_reducible repeat (first | apply Kd.R_alloc | apply Kd.R_drewN | apply Kd.R_drew)); exact HO_4.out) hb); have n1_ := Aside0.mk (below_step (by repeat (first | (with_reducible first | exact HB.out | apply below_alloc | apply pw_below_drewN | apply below_drew1) | exact HB.out)) hb); clear HO_4; clear HB; have HO_4 := n0_; have HB := n1_; clear n0_ n1_; (try clear hb); (try clear hb2); (try clear hk); (try clear hi)) | ((with_reducible refine gate_dst (N := 11) rfl ?_); refine box_event ?hg (N := 11) ?hd (cs := #[.string (⟨#[]⟩ : ByteArray), .int .i64 0, .bool false, .string (⟨#[]⟩ : ByteArray)]) (t := 23) ?hr ?_; (case hd => rfl); (case hg => rfl); (case hr => first | (go_simp; done) | (go_simp; rfl)); intro gb444 hg w36 hbox hb; have n0_ := Aside0.mk (Kd.R_below (Kd.R_elderB (by (with_reducible repeat (first | apply Kd.R_alloc | apply Kd.R_drewN | apply Kd.R_drew)); exact HO_4.out) gb444 (Nat.le_of_eq hg.symm)) hb); have n1_ := Aside0.mk (below_step (by repeat (first | (with_reducible first | exact HB.out | apply below_alloc | apply pw_below_drewN | apply below_drew1) | exact HB.out)) hb); have n2_ := Aside0.mk (hbox); have n3_ := Aside0.mk ((by rw [hg]; exact (below_size (by repeat (first | (with_reducible first | exact HB.out | apply below_alloc | apply pw_below_drewN | apply below_drew1) | exact HB.out))) : w.heap.size ≤ gb444)); have n4_ := Aside0.mk ((by rw [hg]; exact (below_size (by repeat (first | (with_reducible first | exact HB.out | apply below_alloc | apply pw_below_drewN | apply below_drew1) | exact HB.out))) : w.heap.size ≤ gb444)); clear HO_4; clear HB; have HO_4 := n0_; have HB := n1_; have BK444 := n2_; have GW444 := n3_; have GE444 := n4_; clear n0_ n1_ n2_ n3_ n4_; clear hb hbox hg; have hcz37_0 : w36.cell? ⟨gb444, 0, none⟩ = some (.string (⟨#[]⟩ : ByteArray)) := (blk_cell BK444.out 0).trans rfl; have hcz37_1 : w36.cell? ⟨gb444, 1, none⟩ = some (.int .i64 0) := (blk_cell BK444.out 1).trans rfl; have hcz37_2 : w36.cell? ⟨gb444, 2, none⟩ = some (.bool false) := (blk_cell BK444.out 2).trans rfl; have hcz37_3 : w36.cell? ⟨gb444, 3, none⟩ = some (.string (⟨#[]⟩ : ByteArray)) := (blk_cell BK444.out 3).trans rfl; have hfz37_0 := blk_frozen BK444.out 0; have hfz37_1 := blk_frozen BK444.out 1; have hfz37_2 := blk_frozen BK444.out 2; have hfz37_3 := blk_frozen BK444.out 3))
                        repeat (go_quiet (first | (go_at_call 11; (with_reducible refine (entry_Read.calls k2 (x3_1.extract (x6_2 : Int).toNat x3_1.size) t438 t439 t440 t441 t442 t443 _ A32.out).mono ?_); rintro e w35 ⟨rfl, hb⟩; have n0_ := Aside0.mk (Kd.R_below (by (with_reducible repeat (first | apply Kd.R_alloc | apply Kd.R_drewN | apply Kd.R_drew)); exact HO_4.out) hb); have n1_ := Aside0.mk (below_step (by repeat (first | (with_reducible first | exact HB.out | apply below_alloc | apply pw_below_drewN | apply below_drew1) | exact HB.out)) hb); clear HO_4; clear HB; have HO_4 := n0_; have HB := n1_; clear n0_ n1_; (try clear hb); (try clear hb2); (try clear hk); (try clear hi)) | ((with_reducible refine gate_dst (N := 11) rfl ?_); refine box_event ?hg (N := 11) ?hd (cs := #[.string (⟨#[]⟩ : ByteArray), .int .i64 0, .bool false, .string (⟨#[]⟩ : ByteArray)]) (t := 23) ?hr ?_; (case hd => rfl); (case hg => rfl); (case hr => first | (go_simp; done) | (go_simp; rfl)); intro gb444 hg w36 hbox hb; have n0_ := Aside0.mk (Kd.R_below (Kd.R_elderB (by (with_reducible repeat (first | apply Kd.R_alloc | apply Kd.R_drewN | apply Kd.R_drew)); exact HO_4.out) gb444 (Nat.le_of_eq hg.symm)) hb); have n1_ := Aside0.mk (below_step (by repeat (first | (with_reducible first | exact HB.out | apply below_alloc | apply pw_below_drewN | apply below_drew1) | exact HB.out)) hb); have n2_ := Aside0.mk (hbox); have n3_ := Aside0.mk ((by rw [hg]; exact (below_size (by repeat (first | (with_reducible first | exact HB.out | apply below_alloc | apply pw_below_drewN | apply below_drew1) | exact HB.out))) : w.heap.size ≤ gb444)); have n4_ := Aside0.mk ((by rw [hg]; exact (below_size (by repeat (first | (with_reducible first | exact HB.out | apply below_alloc | apply pw_below_drewN | apply below_drew1) | exact HB.out))) : w.heap.size ≤ gb444)); clear HO_4; clear HB; have HO_4 := n0_; have HB := n1_; have BK444 := n2_; have GW444 := n3_; have GE444 := n4_; clear n0_ n1_ n2_ n3_ n4_; clear hb hbox hg; have hcz37_0 : w36.cell? ⟨gb444, 0, none⟩ = some (.string (⟨#[]⟩ : ByteArray)) := (blk_cell BK444.out 0).trans rfl; have hcz37_1 : w36.cell? ⟨gb444, 1, none⟩ = some (.int .i64 0) := (blk_cell BK444.out 1).trans rfl; have hcz37_2 : w36.cell? ⟨gb444, 2, none⟩ = some (.bool false) := (blk_cell BK444.out 2).trans rfl; have hcz37_3 : w36.cell? ⟨gb444, 3, none⟩ = some (.string (⟨#[]⟩ : ByteArray)) := (blk_cell BK444.out 3).trans rfl; have hfz37_0 := blk_frozen BK444.out 0; have hfz37_1 := blk_frozen BK444.out 1; have hfz37_2 := blk_frozen BK444.out 2; have hfz37_3 := blk_frozen BK444.out 3)); try go_wp2_with (first | (go_at_call 11; (with_reducible refine (entry_Read.calls k2 (x3_1.extract (x6_2 : Int).toNat x3_1.size) t438 t439 t440 t441 t442 t443 _ A32.out).mono ?_); rintro e w35 ⟨rfl, hb⟩; have n0_ := Aside0.mk (Kd.R_below (by (with_reducible repeat (first | apply Kd.R_alloc | apply Kd.R_drewN | apply Kd.R_drew)); exact HO_4.out) hb); have n1_ := Aside0.mk (below_step (by repeat (first | (with_reducible first | exact HB.out | apply below_alloc | apply pw_below_drewN | apply below_drew1) | exact HB.out)) hb); clear HO_4; clear HB; have HO_4 := n0_; have HB := n1_; clear n0_ n1_; (try clear hb); (try clear hb2); (try clear hk); (try clear hi)) | ((with_reducible refine gate_dst (N := 11) rfl ?_); refine box_event ?hg (N := 11) ?hd (cs := #[.string (⟨#[]⟩ : ByteArray), .int .i64 0, .bool false, .string (⟨#[]⟩ : ByteArray)]) (t := 23) ?hr ?_; (case hd => rfl); (case hg => rfl); (case hr => first | (go_simp; done) | (go_simp; rfl)); intro gb444 hg w36 hbox hb; have n0_ := Aside0.mk (Kd.R_below (Kd.R_elderB (by (with_reducible repeat (first | apply Kd.R_alloc | apply Kd.R_drewN | apply Kd.R_drew)); exact HO_4.out) gb444 (Nat.le_of_eq hg.symm)) hb); have n1_ := Aside0.mk (below_step (by repeat (first | (with_reducible first | exact HB.out | apply below_alloc | apply pw_below_drewN | apply below_drew1) | exact HB.out)) hb); have n2_ := Aside0.mk (hbox); have n3_ := Aside0.mk ((by rw [hg]; exact (below_size (by repeat (first | (with_reducible first | exact HB.out | apply below_alloc | apply pw_below_drewN | apply below_drew1) | exact HB.out))) : w.heap.size ≤ gb444)); have n4_ := Aside0.mk ((by rw [hg]; exact (below_size (by repeat (first | (with_reducible first | exact HB.out | apply below_alloc | apply pw_below_drewN | apply below_drew1) | exact HB.out))) : w.heap.size ≤ gb444)); clear HO_4; clear HB; have HO_4 := n0_; have HB := n1_; have BK444 := n2_; have GW444 := n3_; have GE444 := n4_; clear n0_ n1_ n2_ n3_ n4_; clear hb hbox hg; have hcz37_0 : w36.cell? ⟨gb444, 0, none⟩ = some (.string (⟨#[]⟩ : ByteArray)) := (blk_cell BK444.out 0).trans rfl; have hcz37_1 : w36.cell? ⟨gb444, 1, none⟩ = some (.int .i64 0) := (blk_cell BK444.out 1).trans rfl; have hcz37_2 : w36.cell? ⟨gb444, 2, none⟩ = some (.bool false) := (blk_cell BK444.out 2).trans rfl; have hcz37_3 : w36.cell? ⟨gb444, 3, none⟩ = some (.string (⟨#[]⟩ : ByteArray)) := (blk_cell BK444.out 3).trans rfl; have hfz37_0 := blk_frozen BK444.out 0; have hfz37_1 := blk_frozen BK444.out 1; have hfz37_2 := blk_frozen BK444.out 2; have hfz37_3 := blk_frozen BK444.out 3)))
                        go_ret
                        exact ⟨by first | rfl | (simp [errW_none, errW_some] <;> rfl) | (simp [*, errW_none, errW_some] <;> rfl), by repeat (first | (with_reducible first | exact HB.out | apply below_alloc | apply pw_below_drewN | apply below_drew1 | refine below_set ?_ GE444.out) | exact HB.out)⟩
                      · rw [if_neg c33] at H
                        have c33b0 : (x6_2 == (x3_1.size : Int)) = false := beq_eq_false_iff_ne.mpr c33
                        have c33b1 : (x6_2 != (x3_1.size : Int)) = true := bne_iff_ne.mpr c33
                        exact absurd ((Option.some.inj H).trans HR_.out) (by decide)
                    · rw [if_neg c31] at H
                      exact absurd H (by simp)
                  · rw [if_neg c30] at H
                    exact absurd H (by simp)
    · replace c5 := Bool.eq_false_iff.mpr c5
      subst c5
      have H1 : (some true) = some r := by rw [if_neg (show ¬ (false = true) by decide)] at H; exact H
      clear H
      have H := H1
      clear H1
      obtain rfl := Option.some.inj H
      go_enter Try.func8, Try.ntmps8
      go_wp2_with (first | (go_at_call 9; (with_reducible refine (ravelinlaw6_known.calls k  true _ A2.out (by first | rfl | assumption | exact of_decide_eq_true (by assumption))).mono ?_); rintro e w38 ⟨rfl, hb⟩; have n0_ := Aside0.mk (below_step (by repeat (first | (with_reducible first | exact HB.out | apply below_alloc | apply pw_below_drewN | apply below_drew1) | exact HB.out)) hb); clear HB; have HB := n0_; clear n0_; (try clear hb); (try clear hb2); (try clear hk); (try clear hi)) | (go_at_call 10; (with_reducible refine (ravelinlaw6_few.calls k _ _ l0 false _ ?side1 ?side2 A4.out).mono ?_); (case side1 => repeat (first | exact (Kd.C_below HR0.out HB.out) | (with_reducible refine Kd.C_alloc ?_ _) | (with_reducible refine Kd.C_drewN ?_ _) | (with_reducible refine Kd.C_drew ?_))); (case side2 => exact HC0.out); rintro e w' ⟨rfl, ⟨nd, rfl⟩⟩; (try first | exact ⟨rfl, _, World.drewN_drewN _ _ _⟩ | exact ⟨rfl, _, Eq.trans (World.drewN_drewN _ _ _) (congrArg (World.drewN _) (Nat.add_assoc _ _ _))⟩)))
      repeat (go_quiet (first | (go_at_call 9; (with_reducible refine (ravelinlaw6_known.calls k  true _ A2.out (by first | rfl | assumption | exact of_decide_eq_true (by assumption))).mono ?_); rintro e w38 ⟨rfl, hb⟩; have n0_ := Aside0.mk (below_step (by repeat (first | (with_reducible first | exact HB.out | apply below_alloc | apply pw_below_drewN | apply below_drew1) | exact HB.out)) hb); clear HB; have HB := n0_; clear n0_; (try clear hb); (try clear hb2); (try clear hk); (try clear hi)) | (go_at_call 10; (with_reducible refine (ravelinlaw6_few.calls k _ _ l0 false _ ?side1 ?side2 A4.out).mono ?_); (case side1 => repeat (first | exact (Kd.C_below HR0.out HB.out) | (with_reducible refine Kd.C_alloc ?_ _) | (with_reducible refine Kd.C_drewN ?_ _) | (with_reducible refine Kd.C_drew ?_))); (case side2 => exact HC0.out); rintro e w' ⟨rfl, ⟨nd, rfl⟩⟩; (try first | exact ⟨rfl, _, World.drewN_drewN _ _ _⟩ | exact ⟨rfl, _, Eq.trans (World.drewN_drewN _ _ _) (congrArg (World.drewN _) (Nat.add_assoc _ _ _))⟩))); try go_wp2_with (first | (go_at_call 9; (with_reducible refine (ravelinlaw6_known.calls k  true _ A2.out (by first | rfl | assumption | exact of_decide_eq_true (by assumption))).mono ?_); rintro e w38 ⟨rfl, hb⟩; have n0_ := Aside0.mk (below_step (by repeat (first | (with_reducible first | exact HB.out | apply below_alloc | apply pw_below_drewN | apply below_drew1) | exact HB.out)) hb); clear HB; have HB := n0_; clear n0_; (try clear hb); (try clear hb2); (try clear hk); (try clear hi)) | (go_at_call 10; (with_reducible refine (ravelinlaw6_few.calls k _ _ l0 false _ ?side1 ?side2 A4.out).mono ?_); (case side1 => repeat (first | exact (Kd.C_below HR0.out HB.out) | (with_reducible refine Kd.C_alloc ?_ _) | (with_reducible refine Kd.C_drewN ?_ _) | (with_reducible refine Kd.C_drew ?_))); (case side2 => exact HC0.out); rintro e w' ⟨rfl, ⟨nd, rfl⟩⟩; (try first | exact ⟨rfl, _, World.drewN_drewN _ _ _⟩ | exact ⟨rfl, _, Eq.trans (World.drewN_drewN _ _ _) (congrArg (World.drewN _) (Nat.add_assoc _ _ _))⟩))))
      go_ret
      exact ⟨by first | rfl | (simp [errW_none, errW_some] <;> rfl) | (simp [*, errW_none, errW_some] <;> rfl), by repeat (first | (with_reducible first | exact HB.out | apply below_alloc | apply pw_below_drewN | apply below_drew1) | exact HB.out)⟩
  · replace c3 := Bool.eq_false_iff.mpr c3
    subst c3
    have H1 : (some false) = some r := by rw [if_neg (show ¬ (false = true) by decide)] at H; exact H
    clear H
    have H := H1
    clear H1
    exact absurd ((Option.some.inj H).trans HR_.out) (by decide)
def ravelinlaw6_EntryRows.Pure : Prop := ∀ (l0 : List (S23)), l0.length ≤ 9223372036854775807 → (∀ y_ ∈ l0, (y_.f0.size ≤ 9223372036854775807 ∧ (Lit.int .i64 y_.f1).wf = true ∧ True ∧ y_.f3.size ≤ 9223372036854775807)) → ∃ k, ravelinlaw6_EntryRows.f k l0 = some true

end Go.Proofs.Ytggmgenofmfdpaa.P
