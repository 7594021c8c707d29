-- Printed by a changed copy of the kit's printer (wip/tools/ext.py); labels and more
import Derived.Test.YtialmkppgbplpaaPx0
import Derived.Test.YtialmkppgbplpaaPx1
import Derived.Test.YtialmkppgbplpaaPx3
import Derived.Test.YtialmkppgbplpaaPx4
namespace Go.Proofs.Ytialmkppgbplpaa.P
open Go.RowKit Go.Proofs.YtialmkppgbplpaaW.PrintWords Go.Proofs.YtialmkppgbplpaaW.PrintLast Go.Proofs.YtialmkppgbplpaaW.PrintMore
attribute [local go_sem] max2_int min2_int max_two min_two max_three min_three max_four min_four   -- for this text's walks alone
set_option linter.unusedVariables false
set_option linter.unusedSimpArgs false

/-! ### ravelinlaw3_CellShapes: function 5 -/
mutual
def ravelinlaw3_CellShapes.l0 : Nat → Int → Int → Int → List Int → Int → Option (Bool)
  | 0, _, _, _, _, _ => none
  | k + 1, x0, x1, x7, x8, x9 => if x9 ≤ x7 then (if 0 ≤ x9 then (if x9 < (x8.length : Int) then (ravelinlaw3_CellShapes.l0 k x0 x1 x7 (x8.set (x9 : Int).toNat x1) (wrap64 (x9 + 1))) else (none)) else (none)) else ((cell_TakeNum.f k (strOfNums x8)).bind fun bt167 => (if x0 = 0 then (ravelinlaw3_CellShapes.j1 k x1 x7 x8 bt167.1 bt167.2.1 bt167.2.2 false) else (if x7 < 8 then (ravelinlaw3_CellShapes.j1 k x1 x7 x8 bt167.1 bt167.2.1 bt167.2.2 true) else (ravelinlaw3_CellShapes.j1 k x1 x7 x8 bt167.1 bt167.2.1 bt167.2.2 (decide (x0 < 128))))))
def ravelinlaw3_CellShapes.j1 : Nat → Int → Int → List Int → Int → Int → Int → Bool → Option (Bool)
  | 0, _, _, _, _, _, _, _ => none
  | k + 1, x1, x7, x8, x10, x11, x12, x13 => (cell_TakeNum.f k (strOfNums (([(9 + (Int.tmod x1 247)) % 256, 1, 2, 3] : List Int)))).bind fun bt173 => (if x13 = true then (if x12 = 0 then (if x11 = (wrap64 (x7 + 1)) then ((cell_Num.f k x10).bind fun t176 => (if t176.toList = (strOfNums x8).toList then (some (bt173.2.2 == 10)) else (some false))) else (some false)) else (some false)) else (if x12 = 10 then (if x10 = 0 then (if x11 = 0 then (some (bt173.2.2 == 10)) else (some false)) else (some false)) else (some false)))
end
def ravelinlaw3_CellShapes.f (k : Nat) (a0 : Int) (a1 : Int) (a2 : Int) : Option (Bool) := (ravelinlaw3_known.f k).bind fun t160 => (if t160 = true then (if 0 ≤ (wrap64 ((wrap64 ((wrap64 (Int.tmod a2 8)) + 1)) + 1)) then (if (wrap64 ((wrap64 ((wrap64 (Int.tmod a2 8)) + 1)) + 1) : Int).toNat ≤ 281474976710656 then ((some (List.replicate (wrap64 ((wrap64 ((wrap64 (Int.tmod a2 8)) + 1)) + 1) : Int).toNat 0 : List Int)).bind fun y161 => (if 0 < (y161.length : Int) then (if 1 < (y161.length : Int) then (ravelinlaw3_CellShapes.l0 k a0 a1 (wrap64 ((wrap64 (Int.tmod a2 8)) + 1)) ((y161.set (0 : Int).toNat ((wrap64 ((wrap64 (Int.tmod a2 8)) + 1)) % 256)).set (1 : Int).toNat a0) 2) else (none)) else (none))) else (none)) else (none)) else (some false))
theorem ravelinlaw3_CellShapes.mono_l : ∀ k, (∀ y0 y1 y2 y3 y4, LeO (ravelinlaw3_CellShapes.l0 k y0 y1 y2 y3 y4) (ravelinlaw3_CellShapes.l0 (k + 1) y0 y1 y2 y3 y4)) ∧ (∀ y0 y1 y2 y3 y4 y5 y6, LeO (ravelinlaw3_CellShapes.j1 k y0 y1 y2 y3 y4 y5 y6) (ravelinlaw3_CellShapes.j1 (k + 1) y0 y1 y2 y3 y4 y5 y6))
  | 0 => ⟨fun _ _ _ _ _ r h => by simp [ravelinlaw3_CellShapes.l0] at h, fun _ _ _ _ _ _ _ r h => by simp [ravelinlaw3_CellShapes.j1] at h⟩
  | k + 1 => by
    obtain ⟨ih0, ih1⟩ := ravelinlaw3_CellShapes.mono_l k
    refine ⟨?_, ?_⟩
    · intro y0 y1 y2 y3 y4
      unfold ravelinlaw3_CellShapes.l0
      repeat' first
      | (with_reducible exact ih0 _ _ _ _ _)
      | (with_reducible exact ih1 _ _ _ _ _ _ _)
      | (with_reducible exact cell_Num.mono _ _)
      | (with_reducible exact cell_TakeNum.mono _ _)
      | (with_reducible exact ravelinlaw3_known.mono _)
      | (with_reducible exact LeO.refl _)
      | (with_reducible exact LeO.none _)
      | (with_reducible refine LeO.ite ?_ ?_)
      | (with_reducible refine LeO.bind ?_ (fun _ => ?_))
      | exact ih0 _ _ _ _ _
      | exact ih1 _ _ _ _ _ _ _
      | exact cell_Num.mono _ _
      | exact cell_TakeNum.mono _ _
      | exact ravelinlaw3_known.mono _
      | exact LeO.none _
      | refine LeO.ite ?_ ?_
      | refine LeO.bind ?_ (fun _ => ?_)
    · intro y0 y1 y2 y3 y4 y5 y6
      unfold ravelinlaw3_CellShapes.j1
      repeat' first
      | (with_reducible exact ih0 _ _ _ _ _)
      | (with_reducible exact ih1 _ _ _ _ _ _ _)
      | (with_reducible exact cell_Num.mono _ _)
      | (with_reducible exact cell_TakeNum.mono _ _)
      | (with_reducible exact ravelinlaw3_known.mono _)
      | (with_reducible exact LeO.refl _)
      | (with_reducible exact LeO.none _)
      | (with_reducible refine LeO.ite ?_ ?_)
      | (with_reducible refine LeO.bind ?_ (fun _ => ?_))
      | exact ih0 _ _ _ _ _
      | exact ih1 _ _ _ _ _ _ _
      | exact cell_Num.mono _ _
      | exact cell_TakeNum.mono _ _
      | exact ravelinlaw3_known.mono _
      | exact LeO.none _
      | refine LeO.ite ?_ ?_
      | refine LeO.bind ?_ (fun _ => ?_)
theorem ravelinlaw3_CellShapes.mono : ∀ a0 a1 a2 k, LeO (ravelinlaw3_CellShapes.f k a0 a1 a2) (ravelinlaw3_CellShapes.f (k + 1) a0 a1 a2) := by
  intro a0 a1 a2 k
  obtain ⟨ih0, ih1⟩ := ravelinlaw3_CellShapes.mono_l k
  unfold ravelinlaw3_CellShapes.f
  repeat' first
      | (with_reducible exact ih0 _ _ _ _ _)
      | (with_reducible exact ih1 _ _ _ _ _ _ _)
      | (with_reducible exact cell_Num.mono _ _)
      | (with_reducible exact cell_TakeNum.mono _ _)
      | (with_reducible exact ravelinlaw3_known.mono _)
      | (with_reducible exact LeO.refl _)
      | (with_reducible exact LeO.none _)
      | (with_reducible refine LeO.ite ?_ ?_)
      | (with_reducible refine LeO.bind ?_ (fun _ => ?_))
      | exact ih0 _ _ _ _ _
      | exact ih1 _ _ _ _ _ _ _
      | exact cell_Num.mono _ _
      | exact cell_TakeNum.mono _ _
      | exact ravelinlaw3_known.mono _
      | exact LeO.none _
      | refine LeO.ite ?_ ?_
      | refine LeO.bind ?_ (fun _ => ?_)
def ravelinlaw3_CellShapes.T16 : Bool × List (List Nat × List Nat) := (true, [([], []), ([0], [0]), ([1], [1]), ([2], [2]), ([2], [2]), ([4, 2], [2, 4]), ([3, 5, 2], [2, 3, 5]), ([2, 6], [2, 6]), ([7, 2], [7]), ([8], [8]), ([9, 8, 8], [8, 9]), ([8], [8]), ([11, 8], [8, 11]), ([10, 12, 8], [8, 10, 12]), ([8, 13], [8, 13]), ([14, 10], [14]), ([15], [15]), ([16, 15], [15, 16]), ([15, 17], [15, 17]), ([18, 15, 0, 1, 2, 3, 4, 5, 6, 7, 8, 9, 10, 11, 12, 13, 14, 15, 16, 17, 18], [18])])
def ravelinlaw3_CellShapes.B16 : List Nat := [0, 1, 3, 7, 7, 23, 63, 127, 255, 511, 1023, 511, 2559, 8191, 16383, 32767, 65535, 131071, 262143, 524287]
theorem ravelinlaw3_CellShapes.tab16 : rtab .any (opsOf Try.f5 16) = ravelinlaw3_CellShapes.T16 := by kernel_rfl
theorem ravelinlaw3_CellShapes.bits16 : waitsOk ravelinlaw3_CellShapes.T16.2 ravelinlaw3_CellShapes.B16 = true := by kernel_rfl
set_option maxHeartbeats 8000000 in
set_option maxRecDepth 100000 in
theorem ravelinlaw3_CellShapes.calls (k : Nat) (a0 : Int) (a1 : Int) (a2 : Int) (r : Bool) (w : World) (h : ravelinlaw3_CellShapes.f k a0 a1 a2 = some r) (hr_ : r = true) :
    Calls Try.prog 5 #[.int .u8 a0, .int .u8 a1, .int .u8 a2] w fun e w' => e = .returned (.bool r) ∧ Below w.heap.size w w' := by
  have HB := Aside0.mk (Below.refl w.heap.size w)
  have H : ((ravelinlaw3_known.f k).bind fun t160 => (if t160 = true then (if 0 ≤ (wrap64 ((wrap64 ((wrap64 (Int.tmod a2 8)) + 1)) + 1)) then (if (wrap64 ((wrap64 ((wrap64 (Int.tmod a2 8)) + 1)) + 1) : Int).toNat ≤ 281474976710656 then ((some (List.replicate (wrap64 ((wrap64 ((wrap64 (Int.tmod a2 8)) + 1)) + 1) : Int).toNat 0 : List Int)).bind fun y161 => (if 0 < (y161.length : Int) then (if 1 < (y161.length : Int) then (ravelinlaw3_CellShapes.l0 k a0 a1 (wrap64 ((wrap64 (Int.tmod a2 8)) + 1)) ((y161.set (0 : Int).toNat ((wrap64 ((wrap64 (Int.tmod a2 8)) + 1)) % 256)).set (1 : Int).toNat a0) 2) else (none)) else (none))) else (none)) else (none)) else (some false))) = some r := h
  clear h
  have HR_ := Aside0.mk hr_
  clear hr_
  replace H := Option.bind_eq_some_iff.mp H
  obtain ⟨t160, A40, H⟩ := H
  replace H : (if t160 = true then (if 0 ≤ (wrap64 ((wrap64 ((wrap64 (Int.tmod a2 8)) + 1)) + 1)) then (if (wrap64 ((wrap64 ((wrap64 (Int.tmod a2 8)) + 1)) + 1) : Int).toNat ≤ 281474976710656 then ((some (List.replicate (wrap64 ((wrap64 ((wrap64 (Int.tmod a2 8)) + 1)) + 1) : Int).toNat 0 : List Int)).bind fun y161 => (if 0 < (y161.length : Int) then (if 1 < (y161.length : Int) then (ravelinlaw3_CellShapes.l0 k a0 a1 (wrap64 ((wrap64 (Int.tmod a2 8)) + 1)) ((y161.set (0 : Int).toNat ((wrap64 ((wrap64 (Int.tmod a2 8)) + 1)) % 256)).set (1 : Int).toNat a0) 2) else (none)) else (none))) else (none)) else (none)) else (some false)) = some r := H
  have A4 := Aside0.mk A40
  clear A40
  by_cases c5 : t160 = true
  · subst c5
    have H1 : (if 0 ≤ (wrap64 ((wrap64 ((wrap64 (Int.tmod a2 8)) + 1)) + 1)) then (if (wrap64 ((wrap64 ((wrap64 (Int.tmod a2 8)) + 1)) + 1) : Int).toNat ≤ 281474976710656 then ((some (List.replicate (wrap64 ((wrap64 ((wrap64 (Int.tmod a2 8)) + 1)) + 1) : Int).toNat 0 : List Int)).bind fun y161 => (if 0 < (y161.length : Int) then (if 1 < (y161.length : Int) then (ravelinlaw3_CellShapes.l0 k a0 a1 (wrap64 ((wrap64 (Int.tmod a2 8)) + 1)) ((y161.set (0 : Int).toNat ((wrap64 ((wrap64 (Int.tmod a2 8)) + 1)) % 256)).set (1 : Int).toNat a0) 2) else (none)) else (none))) else (none)) else (none)) = some r := by rw [if_pos rfl] at H; exact H
    clear H
    have H := H1
    clear H1
    obtain ⟨ji6, hji6⟩ : ∃ j_ : Int, (wrap64 ((wrap64 ((wrap64 (Int.tmod a2 8)) + 1)) + 1)) = j_ := ⟨_, rfl⟩
    replace H : (if 0 ≤ (ji6) then (if (ji6 : Int).toNat ≤ 281474976710656 then ((some (List.replicate (ji6 : Int).toNat 0 : List Int)).bind fun y161 => (if 0 < (y161.length : Int) then (if 1 < (y161.length : Int) then (ravelinlaw3_CellShapes.l0 k a0 a1 (wrap64 ((wrap64 (Int.tmod a2 8)) + 1)) ((y161.set (0 : Int).toNat ((wrap64 ((wrap64 (Int.tmod a2 8)) + 1)) % 256)).set (1 : Int).toNat a0) 2) else (none)) else (none))) else (none)) else (none)) = some r := by first | (rw [hji6] at H; exact H) | (simp only [hji6] at H ⊢; exact H)
    (try rw [hji6] at A4)
    have hji6w : (IntKind.i64.wrap ((wrap64 ((wrap64 (Int.tmod a2 8)) + 1)) + 1)) = ji6 := (i64_w _).trans hji6
    by_cases c7 : 0 ≤ (ji6)
    · rw [if_pos c7] at H
      have c7b0 := eq_true c7
      have c7b1 : decide (0 ≤ (ji6)) = true := decide_eq_true c7
      clear c7
      by_cases c8 : (ji6 : Int).toNat ≤ 281474976710656
      · rw [if_pos c8] at H
        have c8b0 := eq_true c8
        have c8b1 : decide ((ji6 : Int).toNat ≤ 281474976710656) = true := decide_eq_true c8
        clear c8
        obtain ⟨y161, hy161⟩ : ∃ y_ : List Int, y_ = (List.replicate (ji6 : Int).toNat 0) := ⟨_, rfl⟩
        replace H : (if 0 < (y161.length : Int) then (if 1 < (y161.length : Int) then (ravelinlaw3_CellShapes.l0 k a0 a1 (wrap64 ((wrap64 (Int.tmod a2 8)) + 1)) ((y161.set (0 : Int).toNat ((wrap64 ((wrap64 (Int.tmod a2 8)) + 1)) % 256)).set (1 : Int).toNat a0) 2) else (none)) else (none)) = some r := by first | (rw [hy161]; with_reducible exact H) | (have H2_ := (Option.bind_some _ _).symm.trans H; rw [hy161]; with_reducible exact H2_) | (have H2_ := (Option.bind_some _ _).symm.trans H; with_reducible exact H2_) | with_reducible exact H | (rw [hy161]; exact H) | exact H
        have Ny161 := Aside0.mk hy161
        clear hy161
        by_cases c9 : 0 < (y161.length : Int)
        · rw [if_pos c9] at H
          have c9b0 : decide (0 < (y161.length : Int)) = true := decide_eq_true c9
          have c9b1 : decide (0 < y161.length) = true := decide_eq_true (by omega)
          clear c9
          obtain ⟨y164, hy164⟩ : ∃ y_ : List Int, y_ = (y161.set (0 : Int).toNat ((wrap64 ((wrap64 (Int.tmod a2 8)) + 1)) % 256)) := ⟨_, rfl⟩
          replace H : (if 1 < (y161.length : Int) then (ravelinlaw3_CellShapes.l0 k a0 a1 (wrap64 ((wrap64 (Int.tmod a2 8)) + 1)) (y164.set (1 : Int).toNat a0) 2) else (none)) = some r := by first | (rw [hy164]; with_reducible exact H) | (have H2_ := (Option.bind_some _ _).symm.trans H; rw [hy164]; with_reducible exact H2_) | (have H2_ := (Option.bind_some _ _).symm.trans H; with_reducible exact H2_) | with_reducible exact H | (rw [hy164]; exact H) | exact H
          have Ny164 := Aside0.mk hy164
          clear hy164
          by_cases c11 : 1 < (y161.length : Int)
          · rw [if_pos c11] at H
            have c11b0 : decide (1 < (y161.length : Int)) = true := decide_eq_true c11
            have c11b1 : decide (1 < y161.length) = true := decide_eq_true (by omega)
            clear c11
            obtain ⟨y165, hy165⟩ : ∃ y_ : List Int, y_ = (y164.set (1 : Int).toNat a0) := ⟨_, rfl⟩
            replace H : (ravelinlaw3_CellShapes.l0 k a0 a1 (wrap64 ((wrap64 (Int.tmod a2 8)) + 1)) y165 2) = some r := by first | (rw [hy165]; with_reducible exact H) | (have H2_ := (Option.bind_some _ _).symm.trans H; rw [hy165]; with_reducible exact H2_) | (have H2_ := (Option.bind_some _ _).symm.trans H; with_reducible exact H2_) | with_reducible exact H | (rw [hy165]; exact H) | exact H
            have Ny165 := Aside0.mk hy165
            clear hy165
            have H' := Aside0.mk H
            clear H
            go_enter Try.func5, Try.ntmps5
            go_wp2_with (first | ((with_reducible refine gate_callee (f := 8) rfl ?_); refine goesL_ (some 17) rfl rfl Try.func8 (by kernel_rfl) rfl #[] rfl (by (try simp only [List.map_toArray, List.map_cons, List.map_nil]); first | done | rfl | (simp only [List.length_drop, List.length_take]; rfl)) ?_; (with_reducible refine (ravelinlaw3_known.calls k  true _ A4.out (by first | rfl | assumption | exact of_decide_eq_true (by assumption))).mono ?_); rintro e w13 ⟨rfl, hb⟩; refine ⟨_, rfl, ?_⟩; have n0_ := Aside0.mk (below_step (by repeat (first | (with_reducible first | exact HB.out | apply below_alloc | apply pw_below_drewN | apply below_drew1) | exact HB.out)) hb); clear HB; have HB := n0_; clear n0_; (try clear hb); (try clear hb2); (try clear hk); (try clear hi)) | ((with_reducible refine gate_dst (N := 25) rfl ?_); refine Kd.R_make (Kd.int .u8) _ 5 rfl (N := 25) rfl 37 _ _ rfl ji6 rfl rfl Try.underlying37 (.int .u8 0) 1 info5 rfl (by decide) (by omega) 0 (ok := fun _ => True) (okp := fun _ => True) rfl (fun _ hk => hk) trivial (of_decide_eq_true (by first | (with_reducible assumption) | assumption)) (Nat.le_trans (Nat.mul_le_mul_right _ (of_decide_eq_true (by first | (with_reducible assumption) | assumption) : ji6.toNat ≤ 281474976710656)) (by omega)) (Below.refl _ _) (Nat.le_refl _) ?_; intro v162 w14 ho15 hb hg_ hnew_; clear hg_ hnew_; (first | rw [← Ny161.out] at ho15 | (simp only [Int.reduceToNat] at ho15; rw [← Ny161.out] at ho15)); have n0_ := Aside0.mk (Kd.R_lower ho15 (below_size (by repeat (first | (with_reducible first | exact HB.out | apply below_alloc | apply pw_below_drewN | apply below_drew1) | exact HB.out)))); have n1_ := Aside0.mk (below_step (by repeat (first | (with_reducible first | exact HB.out | apply below_alloc | apply pw_below_drewN | apply below_drew1) | exact HB.out)) hb); clear HB; have HO163 := n0_; have HB := n1_; clear n0_ n1_; clear hb ho15; have p10 : 0 ≤ (0 : Int) := (by omega); have q10 : (0 : Int) < ((y161.length : Int) : Int) := of_decide_eq_true (by first | (with_reducible assumption) | assumption); have qi10 : (0 < y161.length) = True := eq_true (by omega); obtain ⟨go10, co10, eo10, gb10, gl10, cl10, HG10⟩ := Kd.R_form HO163.out (by omega); (first | cases eo10 | (injection eo10 with ea_ en_ ec_; (first | subst ea_ | (injection ea_ with ea_; subst ea_)); subst ec_; clear en_)); have GB10 := Aside0.mk gb10; have GG10 := Aside0.mk HG10; clear gb10 gl10 HG10; obtain ⟨hx10_0, hf10_0⟩ := Kd.R_celln 0 HO163.out (0 : Int) p10 q10; (try rw [show ((0 : Int)).toNat = 0 from rfl] at hx10_0); (try simp only [Nat.reduceMul, Nat.zero_mul, Nat.zero_add, Nat.reduceAdd] at hx10_0); (try rw [show ((0 : Int)).toNat = 0 from rfl] at hf10_0); (try simp only [Nat.reduceMul, Nat.zero_mul, Nat.zero_add, Nat.reduceAdd] at hf10_0); replace p10 := eq_true p10; replace q10 := eq_true q10; obtain ⟨hy16_, hz16_⟩ := Kd.R_celln 0 HO163.out (0 : Int) (by omega) (of_decide_eq_true (by first | (with_reducible assumption) | assumption)); (try simp only [Int.reduceToNat, Int.toNat_zero, Int.toNat_ofNat, Nat.reduceMul, Nat.zero_mul, Nat.zero_add] at hy16_ hz16_); (try rw [show ((0 : Int)).toNat = 0 from rfl] at hy16_); (try rw [show ((0 : Int)).toNat = 0 from rfl] at hz16_); have HP16 := Kd.R_putg HO163.out (0 : Int) ((wrap64 ((wrap64 (Int.tmod a2 8)) + 1)) % 256)) | ((with_reducible refine gate_store (t := 5) (p := 29) rfl ?_); refine store_event (t := 5) (p := 29) (v := ?vo_w17) (w1 := (w14.setCell ⟨go10, (0 : Int).toNat, none⟩ (.int .u8 ((wrap64 ((wrap64 (Int.tmod a2 8)) + 1)) % 256)))) ?hg ?ho ?hn ?hr ?_; (case ho => rfl); (case hg => rfl); (case hn => rfl); (case hr => first | (go_simp; done) | (go_simp; rfl)); intro w17 hw; have hg : w14.grownBy w17 (some go10) := (by rw [hw]; exact HP16.2); have hp_ : Kd.R (Kd.int .u8) 5 w17 w.heap.size (fun _ => True) (.slice (some ⟨go10, 0, none⟩) y161.length co10) y164 := (by rw [hw, Ny164.out]; exact HP16.1); clear HP16; have n0_ := Aside0.mk (hp_); have n1_ := Aside0.mk ((by rw [hw]; exact below_set (HB.out) GB10.out : Below w.heap.size w w17)); clear HO163; clear HB; have HO163 := n0_; have HB := n1_; clear n0_ n1_; clear hg hw hp_; have p12 : 0 ≤ (1 : Int) := (by omega); have q12 : (1 : Int) < ((y161.length : Int) : Int) := of_decide_eq_true (by first | (with_reducible assumption) | assumption); have qi12 : (1 < y161.length) = True := eq_true (by omega); obtain ⟨hx12_0, hf12_0⟩ := Kd.R_celln 0 HO163.out (1 : Int) p12 q12; (try rw [show ((1 : Int)).toNat = 1 from rfl] at hx12_0); (try simp only [Nat.reduceMul, Nat.zero_mul, Nat.zero_add, Nat.reduceAdd] at hx12_0); (try rw [show ((1 : Int)).toNat = 1 from rfl] at hf12_0); (try simp only [Nat.reduceMul, Nat.zero_mul, Nat.zero_add, Nat.reduceAdd] at hf12_0); replace p12 := eq_true p12; replace q12 := eq_true q12; obtain ⟨hy18_, hz18_⟩ := Kd.R_celln 0 HO163.out (1 : Int) (by omega) (of_decide_eq_true (by first | (with_reducible assumption) | assumption)); (try simp only [Int.reduceToNat, Int.toNat_zero, Int.toNat_ofNat, Nat.reduceMul, Nat.zero_mul, Nat.zero_add] at hy18_ hz18_); (try rw [show ((1 : Int)).toNat = 1 from rfl] at hy18_); (try rw [show ((1 : Int)).toNat = 1 from rfl] at hz18_); have HP18 := Kd.R_putg HO163.out (1 : Int) a0) | ((with_reducible refine gate_store (t := 5) (p := 32) rfl ?_); refine store_event (t := 5) (p := 32) (v := ?vo_w19) (w1 := (w17.setCell ⟨go10, (1 : Int).toNat, none⟩ (.int .u8 a0))) ?hg ?ho ?hn ?hr ?_; (case ho => rfl); (case hg => rfl); (case hn => rfl); (case hr => first | (go_simp; done) | (go_simp; rfl)); intro w19 hw; have hg : w17.grownBy w19 (some go10) := (by rw [hw]; exact HP18.2); have hp_ : Kd.R (Kd.int .u8) 5 w19 w.heap.size (fun _ => True) (.slice (some ⟨go10, 0, none⟩) y161.length co10) y165 := (by rw [hw, Ny165.out]; exact HP18.1); clear HP18; have n0_ := Aside0.mk (hp_); have n1_ := Aside0.mk ((by rw [hw]; exact below_set (HB.out) GB10.out : Below w.heap.size w w19)); clear HO163; clear HB; have HO163 := n0_; have HB := n1_; clear n0_ n1_; clear hg hw hp_))
            go_loopg [9] k (fun kq v9 w' => ∃ (x8_1 : List Int) (x9_1 : Int), v9 = .int .i64 x9_1 ∧ Aside0 (ravelinlaw3_CellShapes.l0 kq a0 a1 (wrap64 ((wrap64 (Int.tmod a2 8)) + 1)) x8_1 x9_1 = some r) ∧ Aside0 (kq ≤ k) ∧ Aside0 (Kd.R (Kd.int .u8) 5 w' w.heap.size (fun _ => True) (.slice (some ⟨go10, 0, none⟩) y161.length co10) x8_1) ∧ Aside0 (Below w.heap.size w w'))
            case atStart => exact ⟨(y165), (2), (by first | rfl | (simp; done) | (simp [*]; done)), H', ⟨Nat.le_refl _⟩, ⟨by (with_reducible repeat (first | apply Kd.R_alloc | apply Kd.R_drewN | apply Kd.R_drew)); exact HO163.out⟩, ⟨by repeat (first | (with_reducible first | exact HB.out | apply below_alloc | apply pw_below_drewN | apply below_drew1) | exact HB.out)⟩⟩
            case round =>
              clear H'
              try clear c1
              try clear p1
              try clear q1
              try clear hx1
              try clear qi1
              try clear p2
              try clear c5
              try clear p6
              try clear c7
              try clear c7b0
              try clear c7b1
              try clear c8
              try clear c8b0
              try clear c8b1
              try clear c9
              try clear c9b0
              try clear c9b1
              try clear p10
              try clear q10
              try clear hx10
              try clear qi10
              try clear hf10
              try clear c11
              try clear c11b0
              try clear c11b1
              try clear p12
              try clear q12
              try clear hx12
              try clear qi12
              try clear hf12
              try clear hx10_0
              try clear hx12_0
              try clear p10
              try clear p12
              try clear q10
              try clear q12
              obtain ⟨x8_1, x9_1, rfl, HA, HK1, HO_8, HB⟩ := hrel
              have hl8_1 := (Kd.R_reads' HO_8.out).1
              rw [hl8_1] at HO_8
              (try simp only [hl8_1])
              cases gk with
              | zero => exact absurd HA.out (by simp [ravelinlaw3_CellShapes.l0])
              | succ k1 =>
                have H := HA.out
                clear HA
                simp only [ravelinlaw3_CellShapes.l0] at H
                by_cases c20 : x9_1 ≤ (wrap64 ((wrap64 (Int.tmod a2 8)) + 1))
                · rw [if_pos c20] at H
                  have c20b0 : decide (x9_1 ≤ (wrap64 ((wrap64 (Int.tmod a2 8)) + 1))) = true := decide_eq_true c20
                  clear c20
                  by_cases c21 : 0 ≤ x9_1
                  · rw [if_pos c21] at H
                    have c21b0 : decide (0 ≤ x9_1) = true := decide_eq_true c21
                    clear c21
                    by_cases c22 : x9_1 < (x8_1.length : Int)
                    · rw [if_pos c22] at H
                      have c22b0 : decide (x9_1 < (x8_1.length : Int)) = true := decide_eq_true c22
                      clear c22
                      obtain ⟨y166, hy166⟩ : ∃ y_ : List Int, y_ = (x8_1.set (x9_1 : Int).toNat a1) := ⟨_, rfl⟩
                      replace H : (ravelinlaw3_CellShapes.l0 k1 a0 a1 (wrap64 ((wrap64 (Int.tmod a2 8)) + 1)) y166 (wrap64 (x9_1 + 1))) = some r := by first | (rw [hy166]; with_reducible exact H) | (have H2_ := (Option.bind_some _ _).symm.trans H; rw [hy166]; with_reducible exact H2_) | (have H2_ := (Option.bind_some _ _).symm.trans H; with_reducible exact H2_) | with_reducible exact H | (rw [hy166]; exact H) | exact H
                      have Ny166 := Aside0.mk hy166
                      clear hy166
                      have H' := Aside0.mk H
                      clear H
                      have p23 : 0 ≤ (x9_1 : Int) := of_decide_eq_true (by first | (with_reducible assumption) | assumption)
                      have q23 : (x9_1 : Int) < ((x8_1.length : Int) : Int) := of_decide_eq_true (by first | (with_reducible assumption) | assumption)
                      obtain ⟨hx23_0, hf23_0⟩ := Kd.R_celln 0 HO_8.out (x9_1 : Int) p23 q23
                      replace p23 := eq_true p23
                      replace q23 := eq_true q23
                      have HP24 := Kd.R_putg HO_8.out (x9_1 : Int) a1
                      go_wp2_with (first | ((with_reducible refine gate_store (t := 5) (p := 41) rfl ?_); refine store_event (t := 5) (p := 41) (v := ?vo_w25) (w1 := (wr.setCell ⟨go10, (x9_1 : Int).toNat, none⟩ (.int .u8 a1))) ?hg ?ho ?hn ?hr ?_; (case ho => rfl); (case hg => rfl); (case hn => rfl); (case hr => first | (go_simp; done) | (go_simp; rfl)); intro w25 hw; have hg : wr.grownBy w25 (some go10) := (by rw [hw]; exact HP24.2); have hp_ : Kd.R (Kd.int .u8) 5 w25 w.heap.size (fun _ => True) (.slice (some ⟨go10, 0, none⟩) x8_1.length co10) y166 := (by rw [hw, Ny166.out]; exact HP24.1); clear HP24; have n0_ := Aside0.mk (hp_); have n1_ := Aside0.mk ((by rw [hw]; exact below_set (HB.out) GB10.out : Below w.heap.size w w25)); clear HO_8; clear HB; have HO_8 := n0_; have HB := n1_; clear n0_ n1_; clear hg hw hp_))
                      (try simp only [← hl8_1])
                      go_roundg k1
                      case measure => have := HK1.out; omega
                      case rel => exact ⟨(y166), (wrap64 (x9_1 + 1)), (by first | rfl | (simp; done) | (simp [*]; done)), H', ⟨by have := HK1.out; omega⟩, ⟨by (try simp only [hl8_1]); (with_reducible repeat (first | apply Kd.R_alloc | apply Kd.R_drewN | apply Kd.R_drew)); exact HO_8.out⟩, ⟨by repeat (first | (with_reducible first | exact HB.out | apply below_alloc | apply pw_below_drewN | apply below_drew1) | exact HB.out)⟩⟩
                    · rw [if_neg c22] at H
                      exact absurd H (by simp)
                  · rw [if_neg c21] at H
                    exact absurd H (by simp)
                · rw [if_neg c20] at H
                  have c20b0 : decide (x9_1 ≤ (wrap64 ((wrap64 (Int.tmod a2 8)) + 1))) = false := decide_eq_false c20
                  clear c20
                  replace H := Option.bind_eq_some_iff.mp H
                  obtain ⟨⟨t167, t168, t169⟩, A260, H⟩ := H
                  replace H : (if a0 = 0 then (ravelinlaw3_CellShapes.j1 k1 a1 (wrap64 ((wrap64 (Int.tmod a2 8)) + 1)) x8_1 t167 t168 t169 false) else (if (wrap64 ((wrap64 (Int.tmod a2 8)) + 1)) < 8 then (ravelinlaw3_CellShapes.j1 k1 a1 (wrap64 ((wrap64 (Int.tmod a2 8)) + 1)) x8_1 t167 t168 t169 true) else (ravelinlaw3_CellShapes.j1 k1 a1 (wrap64 ((wrap64 (Int.tmod a2 8)) + 1)) x8_1 t167 t168 t169 (decide (a0 < 128))))) = some r := H
                  have A26 := Aside0.mk A260
                  clear A260
                  have HC27 := Aside0.mk H
                  clear H
                  have hcv28 := own_string (P := Try.prog) Try.underlying37 Try.underlying5 Try.underlying9 (Kd.own_of_R HO_8.out)
                  go_upto_region 12 with (first | ((with_reducible refine gate_callee (f := 9) rfl ?_); refine goesL_ (some 45) rfl rfl Try.func9 (by kernel_rfl) rfl #[.string (strOfNums x8_1)] rfl (by (try simp only [List.map_toArray, List.map_cons, List.map_nil]); first | done | rfl | (simp only [List.length_drop, List.length_take]; rfl)) ?_; (with_reducible refine (cell_TakeNum.calls k1 (strOfNums x8_1) t167 t168 t169 _ A26.out).mono ?_); rintro e w' ⟨rfl, ⟨nd, rfl⟩⟩; refine ⟨_, rfl, ?_⟩))
                  (try simp only [Act.put, List.setIfInBounds_toArray, List.set_cons_zero, List.set_cons_succ])
                  go_cut [13] (fun v13 wc => ∃ (kq : Nat) (x13_26 : Bool), v13 = .bool x13_26 ∧ Aside0 (ravelinlaw3_CellShapes.j1 kq a1 (wrap64 ((wrap64 (Int.tmod a2 8)) + 1)) x8_1 t167 t168 t169 x13_26 = some r) ∧ Aside0 (kq ≤ k1) ∧ Aside0 (Kd.R (Kd.int .u8) 5 wc w.heap.size (fun _ => True) (.slice (some ⟨go10, 0, none⟩) x8_1.length co10) x8_1) ∧ Aside0 (Below w.heap.size w wc))
                  case first =>
                    have H := HC27.out
                    clear HC27
                    by_cases c29 : a0 = 0
                    · rw [if_pos c29] at H
                      have c29b0 : (a0 == 0) = true := beq_iff_eq.mpr c29
                      have c29b1 : (a0 != 0) = false := bne_eq_false_iff_eq.mpr c29
                      clear c29
                      (first | rw [c29b0] | (simp only [i64_w, i32_w]; rw [c29b0]) | skip)
                      have H' := Aside0.mk H
                      clear H
                      go_wp2
                      go_meet
                      case rel => exact ⟨_, (false), (by first | rfl | (simp; done) | (simp [*]; done)), H', ⟨by have := HK1.out; first | omega | exact Nat.le_refl _⟩, ⟨by (try simp only [hl8_1]); (with_reducible repeat (first | apply Kd.R_alloc | apply Kd.R_drewN | apply Kd.R_drew)); exact HO_8.out⟩, ⟨by repeat (first | (with_reducible first | exact HB.out | apply below_alloc | apply pw_below_drewN | apply below_drew1) | exact HB.out)⟩⟩
                    · rw [if_neg c29] at H
                      have c29b0 : (a0 == 0) = false := beq_eq_false_iff_ne.mpr c29
                      have c29b1 : (a0 != 0) = true := bne_iff_ne.mpr c29
                      (first | rw [c29b0] | (simp only [i64_w, i32_w]; rw [c29b0]) | skip)
                      by_cases c30 : (wrap64 ((wrap64 (Int.tmod a2 8)) + 1)) < 8
                      · rw [if_pos c30] at H
                        have c30b0 : decide ((wrap64 ((wrap64 (Int.tmod a2 8)) + 1)) < 8) = true := decide_eq_true c30
                        clear c30
                        have H' := Aside0.mk H
                        clear H
                        go_wp2
                        go_meet
                        case rel => exact ⟨_, (true), (by first | rfl | (simp; done) | (simp [*]; done)), H', ⟨by have := HK1.out; first | omega | exact Nat.le_refl _⟩, ⟨by (try simp only [hl8_1]); (with_reducible repeat (first | apply Kd.R_alloc | apply Kd.R_drewN | apply Kd.R_drew)); exact HO_8.out⟩, ⟨by repeat (first | (with_reducible first | exact HB.out | apply below_alloc | apply pw_below_drewN | apply below_drew1) | exact HB.out)⟩⟩
                      · rw [if_neg c30] at H
                        have c30b0 : decide ((wrap64 ((wrap64 (Int.tmod a2 8)) + 1)) < 8) = false := decide_eq_false c30
                        clear c30
                        have H' := Aside0.mk H
                        clear H
                        go_wp2
                        go_meet
                        case rel => exact ⟨_, (decide (a0 < 128)), (by first | rfl | (simp; done) | (simp [*]; done)), H', ⟨by have := HK1.out; first | omega | exact Nat.le_refl _⟩, ⟨by (try simp only [hl8_1]); (with_reducible repeat (first | apply Kd.R_alloc | apply Kd.R_drewN | apply Kd.R_drew)); exact HO_8.out⟩, ⟨by repeat (first | (with_reducible first | exact HB.out | apply below_alloc | apply pw_below_drewN | apply below_drew1) | exact HB.out)⟩⟩
                  case rest =>
                    clear HC27
                    try clear c1
                    try clear p1
                    try clear q1
                    try clear hx1
                    try clear qi1
                    try clear c2
                    try clear p2
                    try clear q2
                    try clear hx2
                    try clear hcv2
                    try clear c3
                    try clear c5
                    try clear p6
                    try clear c7
                    try clear c7b0
                    try clear c7b1
                    try clear c8
                    try clear c8b0
                    try clear c8b1
                    try clear c9
                    try clear c9b0
                    try clear c9b1
                    try clear p10
                    try clear q10
                    try clear hx10
                    try clear qi10
                    try clear hf10
                    try clear c11
                    try clear c11b0
                    try clear c11b1
                    try clear p12
                    try clear q12
                    try clear hx12
                    try clear qi12
                    try clear hf12
                    try clear c20
                    try clear c20b0
                    try clear c21
                    try clear c21b0
                    try clear c22
                    try clear c22b0
                    try clear p23
                    try clear q23
                    try clear hx23
                    try clear hf23
                    try clear hcv28
                    try clear c29
                    try clear c29b0
                    try clear c29b1
                    try clear c30
                    try clear c30b0
                    try clear hx10_0
                    try clear hx12_0
                    try clear hx23_0
                    try clear p1
                    try clear p10
                    try clear p12
                    try clear p2
                    try clear p23
                    try clear p6
                    try clear q1
                    try clear q10
                    try clear q12
                    try clear q23
                    obtain ⟨kq, x13_26, rfl, HA, HJ26, HO_8, HB⟩ := hcut
                    cases kq with
                    | zero => exact absurd HA.out (by simp [ravelinlaw3_CellShapes.j1])
                    | succ kj26 =>
                      have H := HA.out
                      clear HA
                      simp only [ravelinlaw3_CellShapes.j1] at H
                      obtain ⟨y170, hy170⟩ : ∃ y_ : List Int, y_ = (([(9 + (Int.tmod a1 247)) % 256, 1, 2, 3] : List Int)) := ⟨_, rfl⟩
                      replace H : ((cell_TakeNum.f kj26 (strOfNums y170)).bind fun bt173 => (if x13_26 = true then (if t169 = 0 then (if t168 = (wrap64 ((wrap64 ((wrap64 (Int.tmod a2 8)) + 1)) + 1)) then ((cell_Num.f kj26 t167).bind fun t176 => (if t176.toList = (strOfNums x8_1).toList then (some (bt173.2.2 == 10)) else (some false))) else (some false)) else (some false)) else (if t169 = 10 then (if t167 = 0 then (if t168 = 0 then (some (bt173.2.2 == 10)) else (some false)) else (some false)) else (some false)))) = some r := by first | (rw [hy170]; with_reducible exact H) | (have H2_ := (Option.bind_some _ _).symm.trans H; rw [hy170]; with_reducible exact H2_) | (have H2_ := (Option.bind_some _ _).symm.trans H; with_reducible exact H2_) | with_reducible exact H | (rw [hy170]; exact H) | exact H
                      have Ny170 := Aside0.mk hy170
                      clear hy170
                      replace H := Option.bind_eq_some_iff.mp H
                      obtain ⟨⟨t173, t174, t175⟩, A310, H⟩ := H
                      replace H : (if x13_26 = true then (if t169 = 0 then (if t168 = (wrap64 ((wrap64 ((wrap64 (Int.tmod a2 8)) + 1)) + 1)) then ((cell_Num.f kj26 t167).bind fun t176 => (if t176.toList = (strOfNums x8_1).toList then (some (t175 == 10)) else (some false))) else (some false)) else (some false)) else (if t169 = 10 then (if t167 = 0 then (if t168 = 0 then (some (t175 == 10)) else (some false)) else (some false)) else (some false))) = some r := H
                      have A31 := Aside0.mk A310
                      clear A310
                      by_cases c32 : x13_26 = true
                      · subst c32
                        have H1 : (if t169 = 0 then (if t168 = (wrap64 ((wrap64 ((wrap64 (Int.tmod a2 8)) + 1)) + 1)) then ((cell_Num.f kj26 t167).bind fun t176 => (if t176.toList = (strOfNums x8_1).toList then (some (t175 == 10)) else (some false))) else (some false)) else (some false)) = some r := by rw [if_pos rfl] at H; exact H
                        clear H
                        have H := H1
                        clear H1
                        by_cases c33 : t169 = 0
                        · rw [if_pos c33] at H
                          have c33b0 : (t169 == 0) = true := beq_iff_eq.mpr c33
                          have c33b1 : (t169 != 0) = false := bne_eq_false_iff_eq.mpr c33
                          clear c33
                          by_cases c34 : t168 = (wrap64 ((wrap64 ((wrap64 (Int.tmod a2 8)) + 1)) + 1))
                          · rw [if_pos c34] at H
                            have c34b0 : (t168 == (wrap64 ((wrap64 ((wrap64 (Int.tmod a2 8)) + 1)) + 1))) = true := beq_iff_eq.mpr c34
                            (try (have c34b0ji6 := c34b0; rw [hji6] at c34b0ji6))
                            have c34b1 : (t168 != (wrap64 ((wrap64 ((wrap64 (Int.tmod a2 8)) + 1)) + 1))) = false := bne_eq_false_iff_eq.mpr c34
                            (try (have c34b1ji6 := c34b1; rw [hji6] at c34b1ji6))
                            clear c34
                            replace H := Option.bind_eq_some_iff.mp H
                            obtain ⟨t176, A350, H⟩ := H
                            replace H : (if t176.toList = (strOfNums x8_1).toList then (some (t175 == 10)) else (some false)) = some r := H
                            have A35 := Aside0.mk A350
                            clear A350
                            by_cases c36 : t176.toList = (strOfNums x8_1).toList
                            · rw [if_pos c36] at H
                              have c36b0 : (t176.toList == (strOfNums x8_1).toList) = true := beq_iff_eq.mpr c36
                              have c36b1 : (t176.toList != (strOfNums x8_1).toList) = false := bne_eq_false_iff_eq.mpr c36
                              clear c36
                              obtain rfl := Option.some.inj H
                              try go_wp2_with (first | ((with_reducible refine gate_dst (N := 63) rfl ?_); refine Kd.R_lit (Kd.int .u8) _ 5 ?hg (N := 63) ?hd (xs := ([(9 + (Int.tmod a1 247)) % 256, 1, 2, 3] : List Int)) (inner := [.int .u8 ((9 + (Int.tmod a1 247)) % 256), .int .u8 1, .int .u8 2, .int .u8 3]) (ok := fun _ => True) (okp := fun _ => True) ?hr ?hp (fun _ hk => hk) trivial (Below.refl _ _) (Nat.le_refl _) (by simp) ?_; (case hd => rfl); (case hg => rfl); (case hr => first | (go_simp; done) | (go_simp; rfl)); (case hp => exact (Reps.one (show Kd.M (Kd.int .u8) _ _ _ ((9 + (Int.tmod a1 247)) % 256) [.int .u8 ((9 + (Int.tmod a1 247)) % 256)] from rfl) (Reps.one (show Kd.M (Kd.int .u8) _ _ _ 1 [.int .u8 1] from rfl) (Reps.one (show Kd.M (Kd.int .u8) _ _ _ 2 [.int .u8 2] from rfl) (Reps.one (show Kd.M (Kd.int .u8) _ _ _ 3 [.int .u8 3] from rfl) (Reps.none _ _)))))); intro v171 w37 ho38 hb hg_ hnew_; clear hg_ hnew_; (first | rw [← Ny170.out] at ho38 | (simp only [Int.reduceToNat] at ho38; rw [← Ny170.out] at ho38)); have n0_ := Aside0.mk (Kd.R_elder' (by (with_reducible repeat (first | apply Kd.R_alloc | apply Kd.R_drewN | apply Kd.R_drew)); exact HO_8.out) (Kd.R_base ho38) hb); have n1_ := Aside0.mk (Kd.R_lower (Kd.R_new' ho38 (Kd.R_lt (by (with_reducible repeat (first | apply Kd.R_alloc | apply Kd.R_drewN | apply Kd.R_drew)); exact HO_8.out))) (below_size (by repeat (first | (with_reducible first | exact HB.out | apply below_alloc | apply pw_below_drewN | apply below_drew1) | exact HB.out)))); have n2_ := Aside0.mk (below_step (by repeat (first | (with_reducible first | exact HB.out | apply below_alloc | apply pw_below_drewN | apply below_drew1) | exact HB.out)) hb); clear HO_8; clear HB; have HO_8 := n0_; have HO172 := n1_; have HB := n2_; clear n0_ n1_ n2_; clear hb ho38; have hcv39 := own_string (P := Try.prog) Try.underlying37 Try.underlying5 Try.underlying9 (Kd.own_of_R HO172.out)) | ((with_reducible refine gate_callee (f := 9) rfl ?_); refine goesL_ (some 65) rfl rfl Try.func9 (by kernel_rfl) rfl #[.string (strOfNums y170)] rfl (by (try simp only [List.map_toArray, List.map_cons, List.map_nil]); first | done | rfl | (simp only [List.length_drop, List.length_take]; rfl)) ?_; (with_reducible refine (cell_TakeNum.calls kj26 (strOfNums y170) t173 t174 t175 _ A31.out).mono ?_); rintro e w' ⟨rfl, ⟨nd, rfl⟩⟩; refine ⟨_, rfl, ?_⟩))
                              (try (rw [drewN_self w37]; generalize hq_ : World.drewN w37 _ = w37; have n0_ : Aside0 (Kd.R (Kd.int .u8) 5 w37 w.heap.size (fun k_ => some k_ ≠ (.slice (some ⟨go10, 0, none⟩) x8_1.length co10 : Value).ownBlock) v171 y170) := ⟨by rw [← hq_]; exact (by (with_reducible repeat (first | apply Kd.R_alloc | apply Kd.R_drewN | apply Kd.R_drew)); exact Kd.R_mono HO172.out (fun _ hk => hk.2))⟩; have n1_ : Aside0 (Kd.R (Kd.int .u8) 5 w37 w.heap.size (fun k_ => some k_ ≠ (v171 : Value).ownBlock) (.slice (some ⟨go10, 0, none⟩) x8_1.length co10) x8_1) := ⟨by rw [← hq_]; exact (by (with_reducible repeat (first | apply Kd.R_alloc | apply Kd.R_drewN | apply Kd.R_drew)); exact Kd.R_mono HO_8.out (fun _ hk => hk.2))⟩; have n2_ : Aside0 (Below w.heap.size w w37) := ⟨by rw [← hq_]; exact (by repeat (first | (with_reducible first | exact HB.out | apply below_alloc | apply pw_below_drewN | apply below_drew1) | exact HB.out))⟩; clear HO172 HO_8 HB hq_; have HO172 := n0_; have HO_8 := n1_; have HB := n2_; clear n0_ n1_ n2_))
                              have n0_ := Aside0.mk (Kd.R_drew HO_8.out)
                              have n1_ := Aside0.mk (Kd.R_drew HO172.out)
                              have n2_ := Aside0.mk (below_drew1 HB.out)
                              clear HO_8
                              clear HO172
                              clear HB
                              have HO_8 := n0_
                              have HO172 := n1_
                              have HB := n2_
                              clear n0_ n1_ n2_
                              refine start_ (n := 20) (S := fun w' => Sem.run Try.prog (convert 37 9 (.slice (some ⟨go10, 0, none⟩) x8_1.length co10)) w' = Result.ok (.string (strOfNums x8_1)) w') (ds := []) #[false, false, false, false, false, false, false, false, false, false, false, false, false, false, false, false, false, false, false, false] (by kernel_rfl) rfl rfl (own_string (P := Try.prog) Try.underlying37 Try.underlying5 Try.underlying9 (Kd.own_of_R HO_8.out)) (fun hHeld => ?_); refine with_tabW ravelinlaw3_CellShapes.tab16 ravelinlaw3_CellShapes.bits16 (fun HT_ HW_ => ?_)
                              generalize w37.drew = w40 at HO_8 HO172 HB hHeld ⊢
                              refine pure_ (i := 0) (N := some 85) (v := ?_) (a' := ?_) #[true, false, false, false, false, false, false, false, false, false, false, false, false, false, false, false, false, false, false, false] rfl rfl (any_of HT_.out (by kernel_rfl)) (fun _ _ _ h => h) (Or.inl ⟨by rfl, ?_⟩) ?_ ?_
                              rotate_left
                              · intro w'
                                go_simp
                                with_reducible rfl
                              rotate_left
                              · simp only [Act.put, List.setIfInBounds_toArray, List.set_cons_zero, List.set_cons_succ, i64_w, i32_w]
                                rfl
                              refine pure_ (i := 1) (N := some 86) (v := ?_) (a' := ?_) #[true, true, false, false, false, false, false, false, false, false, false, false, false, false, false, false, false, false, false, false] rfl rfl (any_of HT_.out (by kernel_rfl)) (fun _ _ _ h => h) (Or.inl ⟨by rfl, ?_⟩) ?_ ?_
                              rotate_left
                              · intro w'
                                go_simp
                                with_reducible rfl
                              rotate_left
                              · simp only [Act.put, List.setIfInBounds_toArray, List.set_cons_zero, List.set_cons_succ, i64_w, i32_w]
                                rfl
                              refine pure_ (i := 2) (N := some 87) (v := ?_) (a' := ?_) #[true, true, true, false, false, false, false, false, false, false, false, false, false, false, false, false, false, false, false, false] rfl rfl (any_of HT_.out (by kernel_rfl)) (fun _ _ _ h => h) (Or.inl ⟨by rfl, ?_⟩) ?_ ?_
                              rotate_left
                              · intro w'
                                go_simp
                                with_reducible rfl
                              rotate_left
                              · simp only [Act.put, List.setIfInBounds_toArray, List.set_cons_zero, List.set_cons_succ, i64_w, i32_w]
                                rfl
                              refine pure_ (i := 3) (N := some 88) (v := ?_) (a' := ?_) #[true, true, true, true, false, false, false, false, false, false, false, false, false, false, false, false, false, false, false, false] rfl rfl (any_of HT_.out (by kernel_rfl)) (fun _ _ _ h => h) (Or.inl ⟨by rfl, ?_⟩) ?_ ?_
                              rotate_left
                              · intro w'
                                go_simp
                                with_reducible rfl
                              rotate_left
                              · simp only [Act.put, List.setIfInBounds_toArray, List.set_cons_zero, List.set_cons_succ, i64_w, i32_w]
                                rfl
                              refine pure_ (i := 4) (N := some 89) (v := ?_) (a' := ?_) #[true, true, true, true, true, false, false, false, false, false, false, false, false, false, false, false, false, false, false, false] rfl rfl (any_of HT_.out (by kernel_rfl)) (fun _ _ _ h => h) (Or.inl ⟨by rfl, ?_⟩) ?_ ?_
                              rotate_left
                              · intro w'
                                go_simp
                                with_reducible rfl
                              rotate_left
                              · simp only [Act.put, List.setIfInBounds_toArray, List.set_cons_zero, List.set_cons_succ, i64_w, i32_w]
                                rfl
                              refine pure_ (i := 5) (N := some 90) (v := ?_) (a' := ?_) #[true, true, true, true, true, true, false, false, false, false, false, false, false, false, false, false, false, false, false, false] rfl rfl (any_of HT_.out (by kernel_rfl)) (fun _ _ _ h => h) (Or.inl ⟨by rfl, ?_⟩) ?_ ?_
                              rotate_left
                              · intro w'
                                go_simp
                                with_reducible rfl
                              rotate_left
                              · simp only [Act.put, List.setIfInBounds_toArray, List.set_cons_zero, List.set_cons_succ, i64_w, i32_w]
                                rfl
                              refine pure_ (i := 6) (N := some 91) (v := ?_) (a' := ?_) #[true, true, true, true, true, true, true, false, false, false, false, false, false, false, false, false, false, false, false, false] rfl rfl (any_of HT_.out (by kernel_rfl)) (fun _ _ _ h => h) (Or.inl ⟨by rfl, ?_⟩) ?_ ?_
                              rotate_left
                              · intro w'
                                go_simp
                                with_reducible rfl
                              rotate_left
                              · simp only [Act.put, List.setIfInBounds_toArray, List.set_cons_zero, List.set_cons_succ, i64_w, i32_w]
                                rfl
                              refine pure_ (i := 7) (N := some 92) (v := ?_) (a' := ?_) #[true, true, true, true, true, true, true, true, false, false, false, false, false, false, false, false, false, false, false, false] rfl rfl (any_of HT_.out (by kernel_rfl)) (fun _ _ _ h => h) (Or.inl ⟨by rfl, ?_⟩) ?_ ?_
                              rotate_left
                              · intro w'
                                go_simp
                                with_reducible rfl
                              rotate_left
                              · simp only [Act.put, List.setIfInBounds_toArray, List.set_cons_zero, List.set_cons_succ, i64_w, i32_w]
                                rfl
                              refine pure_ (i := 8) (N := some 93) (v := ?_) (a' := ?_) #[true, true, true, true, true, true, true, true, true, false, false, false, false, false, false, false, false, false, false, false] rfl rfl (any_of HT_.out (by kernel_rfl)) (fun _ _ _ h => h) (Or.inl ⟨by rfl, ?_⟩) ?_ ?_
                              rotate_left
                              · intro w'
                                go_simp
                                with_reducible rfl
                              rotate_left
                              · simp only [Act.put, List.setIfInBounds_toArray, List.set_cons_zero, List.set_cons_succ, i64_w, i32_w]
                                rfl
                              refine pure_ (i := 9) (N := some 94) (v := ?_) (a' := ?_) #[true, true, true, true, true, true, true, true, true, true, false, false, false, false, false, false, false, false, false, false] rfl rfl (any_of HT_.out (by kernel_rfl)) (fun _ _ _ h => h) (Or.inl ⟨by rfl, ?_⟩) ?_ ?_
                              rotate_left
                              · intro w'
                                go_simp
                                with_reducible rfl
                              rotate_left
                              · simp only [Act.put, List.setIfInBounds_toArray, List.set_cons_zero, List.set_cons_succ, i64_w, i32_w]
                                rfl
                              refine pure_ (i := 11) (N := some 96) (v := ?_) (a' := ?_) #[true, true, true, true, true, true, true, true, true, true, false, true, false, false, false, false, false, false, false, false] rfl rfl (any_of HT_.out (by kernel_rfl)) (fun _ _ _ h => h) (Or.inl ⟨by rfl, ?_⟩) ?_ ?_
                              rotate_left
                              · intro w'
                                go_simp
                                with_reducible rfl
                              rotate_left
                              · simp only [Act.put, List.setIfInBounds_toArray, List.set_cons_zero, List.set_cons_succ, i64_w, i32_w]
                                rfl
                              refine take_ (i := 12) (N := some 97) (v := ?_) (a' := ?_) #[true, true, true, true, true, true, true, true, true, true, false, true, true, false, false, false, false, false, false, false] rfl rfl (take_ofW HT_.out HW_.out (by kernel_rfl)) (fun _ _ _ h => h) (Or.inl ⟨by rfl, ?_⟩) hHeld ?_ ?_
                              rotate_left
                              · intro w' s0
                                go_simp
                                with_reducible rfl
                              rotate_left
                              · simp only [Act.put, List.setIfInBounds_toArray, List.set_cons_zero, List.set_cons_succ, i64_w, i32_w]
                                rfl
                              refine one_ (i := 10) (N := some 95) #[true, true, true, true, true, true, true, true, true, true, true, true, true, false, false, false, false, false, false, false] rfl rfl (one_of HT_.out (by kernel_rfl)) (by decide) (fun K hK => ?_)
                              refine goes_ Try.func13 (by kernel_rfl) rfl #[.int .i64 t167] (by rfl) rfl rfl (by (try simp only [List.map_toArray, List.map_cons, List.map_nil]); first | done | rfl | (simp only [List.length_drop, List.length_take]; rfl)) ?_
                              with_reducible refine (cell_Num.calls kj26 t167 t176 _ A35.out).mono ?_
                              rintro e w41 ⟨rfl, hb⟩
                              refine ⟨_, rfl, ?_⟩
                              have n0_ := Aside0.mk (Kd.R_below (by (with_reducible repeat (first | apply Kd.R_alloc | apply Kd.R_drewN | apply Kd.R_drew)); exact HO_8.out) hb)
                              have n1_ := Aside0.mk (Kd.R_below (by (with_reducible repeat (first | apply Kd.R_alloc | apply Kd.R_drewN | apply Kd.R_drew)); exact HO172.out) hb)
                              have n2_ := Aside0.mk (below_step (by repeat (first | (with_reducible first | exact HB.out | apply below_alloc | apply pw_below_drewN | apply below_drew1) | exact HB.out)) hb)
                              clear HO_8
                              clear HO172
                              clear HB
                              have HO_8 := n0_
                              have HO172 := n1_
                              have HB := n2_
                              clear n0_ n1_ n2_
                              (try clear hb)
                              (try clear hb2)
                              (try clear hk)
                              (try clear hi)
                              have hcv42 := own_string (P := Try.prog) Try.underlying37 Try.underlying5 Try.underlying9 (Kd.own_of_R HO_8.out)
                              refine hK.out _ _ hcv42 (fun hHeld => ?_)
                              clear hK K
                              refine norm_ (a' := ?_) ?_ ?_
                              rotate_left
                              · show Act.put _ (some 95) _ = _
                                simp only [Act.put, List.setIfInBounds_toArray, List.set_cons_zero, List.set_cons_succ, i64_w, i32_w]
                                rfl
                              refine pure_ (i := 13) (N := some 98) (v := ?_) (a' := ?_) #[true, true, true, true, true, true, true, true, true, true, true, true, true, true, false, false, false, false, false, false] rfl rfl (any_of HT_.out (by kernel_rfl)) (fun _ _ _ h => h) (Or.inl ⟨by rfl, ?_⟩) ?_ ?_
                              rotate_left
                              · intro w'
                                go_simp
                                with_reducible rfl
                              rotate_left
                              · simp only [Act.put, List.setIfInBounds_toArray, List.set_cons_zero, List.set_cons_succ, i64_w, i32_w]
                                rfl
                              refine pure_ (i := 14) (N := some 99) (v := ?_) (a' := ?_) #[true, true, true, true, true, true, true, true, true, true, true, true, true, true, true, false, false, false, false, false] rfl rfl (any_of HT_.out (by kernel_rfl)) (fun _ _ _ h => h) (Or.inl ⟨by rfl, ?_⟩) ?_ ?_
                              rotate_left
                              · intro w'
                                go_simp
                                with_reducible rfl
                              rotate_left
                              · simp only [Act.put, List.setIfInBounds_toArray, List.set_cons_zero, List.set_cons_succ, i64_w, i32_w]
                                rfl
                              refine pure_ (i := 15) (N := some 100) (v := ?_) (a' := ?_) #[true, true, true, true, true, true, true, true, true, true, true, true, true, true, true, true, false, false, false, false] rfl rfl (any_of HT_.out (by kernel_rfl)) (fun _ _ _ h => h) (Or.inl ⟨by rfl, ?_⟩) ?_ ?_
                              rotate_left
                              · intro w'
                                go_simp
                                with_reducible rfl
                              rotate_left
                              · simp only [Act.put, List.setIfInBounds_toArray, List.set_cons_zero, List.set_cons_succ, i64_w, i32_w]
                                rfl
                              refine pure_ (i := 16) (N := some 101) (v := ?_) (a' := ?_) #[true, true, true, true, true, true, true, true, true, true, true, true, true, true, true, true, true, false, false, false] rfl rfl (any_of HT_.out (by kernel_rfl)) (fun _ _ _ h => h) (Or.inl ⟨by rfl, ?_⟩) ?_ ?_
                              rotate_left
                              · intro w'
                                go_simp
                                with_reducible rfl
                              rotate_left
                              · simp only [Act.put, List.setIfInBounds_toArray, List.set_cons_zero, List.set_cons_succ, i64_w, i32_w]
                                rfl
                              refine pure_ (i := 17) (N := some 102) (v := ?_) (a' := ?_) #[true, true, true, true, true, true, true, true, true, true, true, true, true, true, true, true, true, true, false, false] rfl rfl (any_of HT_.out (by kernel_rfl)) (fun _ _ _ h => h) (Or.inl ⟨by rfl, ?_⟩) ?_ ?_
                              rotate_left
                              · intro w'
                                go_simp
                                with_reducible rfl
                              rotate_left
                              · simp only [Act.put, List.setIfInBounds_toArray, List.set_cons_zero, List.set_cons_succ, i64_w, i32_w]
                                rfl
                              refine pure_ (i := 18) (N := some 103) (v := ?_) (a' := ?_) #[true, true, true, true, true, true, true, true, true, true, true, true, true, true, true, true, true, true, true, false] rfl rfl (any_of HT_.out (by kernel_rfl)) (fun _ _ _ h => h) (Or.inl ⟨by rfl, ?_⟩) ?_ ?_
                              rotate_left
                              · intro w'
                                go_simp
                                with_reducible rfl
                              rotate_left
                              · simp only [Act.put, List.setIfInBounds_toArray, List.set_cons_zero, List.set_cons_succ, i64_w, i32_w]
                                rfl
                              refine pure_ (i := 19) (N := some 6) (v := ?_) (a' := ?_) #[true, true, true, true, true, true, true, true, true, true, true, true, true, true, true, true, true, true, true, true] rfl rfl (any_of HT_.out (by kernel_rfl)) (fun _ _ _ h => h) (Or.inl ⟨by rfl, ?_⟩) ?_ ?_
                              rotate_left
                              · intro w'
                                go_simp
                                with_reducible rfl
                              rotate_left
                              · simp only [Act.put, List.setIfInBounds_toArray, List.set_cons_zero, List.set_cons_succ, i64_w, i32_w]
                                rfl
                              refine done_ (done_of HT_.out (by kernel_rfl)) ?_
                              try go_wp2
                              go_ret
                              exact ⟨by first | rfl | (simp [errW_none, errW_some] <;> rfl) | (simp only [← hji6]; first | rfl | (simp [errW_none, errW_some] <;> rfl)) | (simp [*, errW_none, errW_some] <;> rfl), by repeat (first | (with_reducible first | exact HB.out | apply below_alloc | apply pw_below_drewN | apply below_drew1) | exact HB.out)⟩
                            · rw [if_neg c36] at H
                              have c36b0 : (t176.toList == (strOfNums x8_1).toList) = false := beq_eq_false_iff_ne.mpr c36
                              have c36b1 : (t176.toList != (strOfNums x8_1).toList) = true := bne_iff_ne.mpr c36
                              exact absurd ((Option.some.inj H).trans HR_.out) (by decide)
                          · rw [if_neg c34] at H
                            have c34b0 : (t168 == (wrap64 ((wrap64 ((wrap64 (Int.tmod a2 8)) + 1)) + 1))) = false := beq_eq_false_iff_ne.mpr c34
                            (try (have c34b0ji6 := c34b0; rw [hji6] at c34b0ji6))
                            have c34b1 : (t168 != (wrap64 ((wrap64 ((wrap64 (Int.tmod a2 8)) + 1)) + 1))) = true := bne_iff_ne.mpr c34
                            (try (have c34b1ji6 := c34b1; rw [hji6] at c34b1ji6))
                            exact absurd ((Option.some.inj H).trans HR_.out) (by decide)
                        · rw [if_neg c33] at H
                          have c33b0 : (t169 == 0) = false := beq_eq_false_iff_ne.mpr c33
                          have c33b1 : (t169 != 0) = true := bne_iff_ne.mpr c33
                          exact absurd ((Option.some.inj H).trans HR_.out) (by decide)
                      · replace c32 := Bool.eq_false_iff.mpr c32
                        subst c32
                        have H1 : (if t169 = 10 then (if t167 = 0 then (if t168 = 0 then (some (t175 == 10)) else (some false)) else (some false)) else (some false)) = some r := by rw [if_neg (show ¬ (false = true) by decide)] at H; exact H
                        clear H
                        have H := H1
                        clear H1
                        by_cases c44 : t169 = 10
                        · rw [if_pos c44] at H
                          have c44b0 : (t169 == 10) = true := beq_iff_eq.mpr c44
                          have c44b1 : (t169 != 10) = false := bne_eq_false_iff_eq.mpr c44
                          clear c44
                          by_cases c45 : t167 = 0
                          · rw [if_pos c45] at H
                            have c45b0 : (t167 == 0) = true := beq_iff_eq.mpr c45
                            have c45b1 : (t167 != 0) = false := bne_eq_false_iff_eq.mpr c45
                            clear c45
                            by_cases c46 : t168 = 0
                            · rw [if_pos c46] at H
                              have c46b0 : (t168 == 0) = true := beq_iff_eq.mpr c46
                              have c46b1 : (t168 != 0) = false := bne_eq_false_iff_eq.mpr c46
                              clear c46
                              obtain rfl := Option.some.inj H
                              go_wp2_with (first | ((with_reducible refine gate_dst (N := 63) rfl ?_); refine Kd.R_lit (Kd.int .u8) _ 5 ?hg (N := 63) ?hd (xs := ([(9 + (Int.tmod a1 247)) % 256, 1, 2, 3] : List Int)) (inner := [.int .u8 ((9 + (Int.tmod a1 247)) % 256), .int .u8 1, .int .u8 2, .int .u8 3]) (ok := fun _ => True) (okp := fun _ => True) ?hr ?hp (fun _ hk => hk) trivial (Below.refl _ _) (Nat.le_refl _) (by simp) ?_; (case hd => rfl); (case hg => rfl); (case hr => first | (go_simp; done) | (go_simp; rfl)); (case hp => exact (Reps.one (show Kd.M (Kd.int .u8) _ _ _ ((9 + (Int.tmod a1 247)) % 256) [.int .u8 ((9 + (Int.tmod a1 247)) % 256)] from rfl) (Reps.one (show Kd.M (Kd.int .u8) _ _ _ 1 [.int .u8 1] from rfl) (Reps.one (show Kd.M (Kd.int .u8) _ _ _ 2 [.int .u8 2] from rfl) (Reps.one (show Kd.M (Kd.int .u8) _ _ _ 3 [.int .u8 3] from rfl) (Reps.none _ _)))))); intro v171 w47 ho48 hb hg_ hnew_; clear hg_ hnew_; (first | rw [← Ny170.out] at ho48 | (simp only [Int.reduceToNat] at ho48; rw [← Ny170.out] at ho48)); have n0_ := Aside0.mk (Kd.R_elder' (by (with_reducible repeat (first | apply Kd.R_alloc | apply Kd.R_drewN | apply Kd.R_drew)); exact HO_8.out) (Kd.R_base ho48) hb); have n1_ := Aside0.mk (Kd.R_lower (Kd.R_new' ho48 (Kd.R_lt (by (with_reducible repeat (first | apply Kd.R_alloc | apply Kd.R_drewN | apply Kd.R_drew)); exact HO_8.out))) (below_size (by repeat (first | (with_reducible first | exact HB.out | apply below_alloc | apply pw_below_drewN | apply below_drew1) | exact HB.out)))); have n2_ := Aside0.mk (below_step (by repeat (first | (with_reducible first | exact HB.out | apply below_alloc | apply pw_below_drewN | apply below_drew1) | exact HB.out)) hb); clear HO_8; clear HB; have HO_8 := n0_; have HO172 := n1_; have HB := n2_; clear n0_ n1_ n2_; clear hb ho48; have hcv49 := own_string (P := Try.prog) Try.underlying37 Try.underlying5 Try.underlying9 (Kd.own_of_R HO172.out)) | ((with_reducible refine gate_callee (f := 9) rfl ?_); refine goesL_ (some 65) rfl rfl Try.func9 (by kernel_rfl) rfl #[.string (strOfNums y170)] rfl (by (try simp only [List.map_toArray, List.map_cons, List.map_nil]); first | done | rfl | (simp only [List.length_drop, List.length_take]; rfl)) ?_; (with_reducible refine (cell_TakeNum.calls kj26 (strOfNums y170) t173 t174 t175 _ A31.out).mono ?_); rintro e w' ⟨rfl, ⟨nd, rfl⟩⟩; refine ⟨_, rfl, ?_⟩))
                              go_ret
                              exact ⟨by first | rfl | (simp [errW_none, errW_some] <;> rfl) | (simp only [← hji6]; first | rfl | (simp [errW_none, errW_some] <;> rfl)) | (simp [*, errW_none, errW_some] <;> rfl), by repeat (first | (with_reducible first | exact HB.out | apply below_alloc | apply pw_below_drewN | apply below_drew1) | exact HB.out)⟩
                            · rw [if_neg c46] at H
                              have c46b0 : (t168 == 0) = false := beq_eq_false_iff_ne.mpr c46
                              have c46b1 : (t168 != 0) = true := bne_iff_ne.mpr c46
                              exact absurd ((Option.some.inj H).trans HR_.out) (by decide)
                          · rw [if_neg c45] at H
                            have c45b0 : (t167 == 0) = false := beq_eq_false_iff_ne.mpr c45
                            have c45b1 : (t167 != 0) = true := bne_iff_ne.mpr c45
                            exact absurd ((Option.some.inj H).trans HR_.out) (by decide)
                        · rw [if_neg c44] at H
                          have c44b0 : (t169 == 10) = false := beq_eq_false_iff_ne.mpr c44
                          have c44b1 : (t169 != 10) = true := bne_iff_ne.mpr c44
                          exact absurd ((Option.some.inj H).trans HR_.out) (by decide)
          · rw [if_neg c11] at H
            exact absurd H (by simp)
        · rw [if_neg c9] at H
          exact absurd H (by simp)
      · rw [if_neg c8] at H
        exact absurd H (by simp)
    · rw [if_neg c7] at H
      exact absurd H (by simp)
  · replace c5 := Bool.eq_false_iff.mpr c5
    subst c5
    have H1 : (some false) = some r := by rw [if_neg (show ¬ (false = true) by decide)] at H; exact H
    clear H
    have H := H1
    clear H1
    exact absurd ((Option.some.inj H).trans HR_.out) (by decide)

/-- THE ONE PURE STATEMENT of ravelinlaw3_CellShapes: yours. -/
def ravelinlaw3_CellShapes.Pure : Prop := ∀ (a0 : Int) (a1 : Int) (a2 : Int), (Lit.int .u8 a0).wf = true → (Lit.int .u8 a1).wf = true → (Lit.int .u8 a2).wf = true → ∃ k, ravelinlaw3_CellShapes.f k a0 a1 a2 = some true
theorem ravelinlaw3_CellShapes.walk (P : ravelinlaw3_CellShapes.Pure) (a0 : Int) (a1 : Int) (a2 : Int) (w : World) (w0 : (Lit.int .u8 a0).wf = true) (w1 : (Lit.int .u8 a1).wf = true) (w2 : (Lit.int .u8 a2).wf = true) :
    Calls Try.prog 5 #[.int .u8 a0, .int .u8 a1, .int .u8 a2] w fun e w' => e = .returned (.bool true) ∧ Below w.heap.size w w' := by
  obtain ⟨k, h⟩ := P a0 a1 a2 w0 w1 w2
  refine (ravelinlaw3_CellShapes.calls k a0 a1 a2 true w h rfl).mono ?_
  rintro e w' ⟨rfl, hd⟩
  exact ⟨rfl, hd⟩

end Go.Proofs.Ytialmkppgbplpaa.P
