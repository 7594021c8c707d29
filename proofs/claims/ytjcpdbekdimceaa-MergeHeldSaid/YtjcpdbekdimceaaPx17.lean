-- Printed by a changed copy of the kit's printer (wip/tools/ext.py); labels and more
import Derived.Test.YtjcpdbekdimceaaM0
import Derived.Test.YtjcpdbekdimceaaM5
import Derived.Test.YtjcpdbekdimceaaM6
namespace Go.Proofs.Ytjcpdbekdimceaa.P
open Go.RowKit Go.Proofs.YtjcpdbekdimceaaW.PrintWords Go.Proofs.YtjcpdbekdimceaaW.PrintLast Go.Proofs.YtjcpdbekdimceaaW.PrintMore
attribute [local go_sem] max2_int min2_int max_two min_two max_three min_three max_four min_four   -- for this text's walks alone
attribute [local go_sem high] string_leq string_geq string_gtr
set_option linter.unusedVariables false
set_option linter.unusedSimpArgs false

/-! ### ravelinlaw11_MergeHeld: function 6 -/
mutual
def ravelinlaw11_MergeHeld.l0 : Nat → List Int → Int → Bool → Int → List (S39) → List Bool → Int → Option (Bool)
  | 0, _, _, _, _, _, _, _ => none
  | k + 1, x1, x2, x3, x9, x10, x11, x13 => if x13 ≥ 1 then (if 0 ≤ (IntKind.u64.wrap (x13)) then (if x10.length < 2932031007402 then (ravelinlaw11_MergeHeld.l0 k x1 x2 x3 x9 (x10 ++ [(⟨(⟨#[107]⟩ : ByteArray), x13, ((Go.bits .and .u32 (shr .u32 x2 (IntKind.u64.wrap (x13))) 1) == 1), (⟨#[]⟩ : ByteArray)⟩ : S39)]) x11 (wrap64 (x13 - 1))) else (none)) else (none)) else (if 0 ≤ x9 then (if x9 < (x11.length : Int) then (ravelinlaw11_MergeHeld.l1 k x1 x2 x3 x9 x10 (x11.set (x9 : Int).toNat true) ([] : List Int) 0) else (none)) else (none))
def ravelinlaw11_MergeHeld.l1 : Nat → List Int → Int → Bool → Int → List (S39) → List Bool → List Int → Int → Option (Bool)
  | 0, _, _, _, _, _, _, _, _ => none
  | k + 1, x1, x2, x3, x9, x10, x11, x12, x14 => if x14 < (x1.length : Int) then (if 0 ≤ x14 then (if x12.length < 17592186044416 then (if 0 ≤ (mn (wrap64 (Int.tmod (rd x1 x14) 25)) x9) then (if (mn (wrap64 (Int.tmod (rd x1 x14) 25)) x9) < (x11.length : Int) then (ravelinlaw11_MergeHeld.l1 k x1 x2 x3 x9 x10 (x11.set ((mn (wrap64 (Int.tmod (rd x1 x14) 25)) x9) : Int).toNat true) (x12 ++ [wrap64 (Int.tmod (rd x1 x14) 25)]) (wrap64 (x14 + 1))) else (none)) else (none)) else (none)) else (none)) else (if 0 < (x11.length : Int) then (ravelinlaw11_MergeHeld.l2 k x2 x3 x9 x10 (x11.set (0 : Int).toNat false) x12 1) else (none))
def ravelinlaw11_MergeHeld.j4 : Nat → Bool → Int → List (S39) → List Bool → List Int → Option (Bool)
  | 0, _, _, _, _, _ => none
  | k + 1, x3, x9, x10, x11, x12 => (merge_Pack.f k x10 x12 x3).bind fun t395 => (ravelinlaw11_MergeHeld.l3 k x11 t395 0 x9)
def ravelinlaw11_MergeHeld.l3 : Nat → List Bool → List (S39) → Int → Int → Option (Bool)
  | 0, _, _, _, _ => none
  | k + 1, x11, x17, x18, x19 => if x19 ≥ 1 then (if 0 ≤ x19 then (if x19 < (x11.length : Int) then (if rdOf false x11 x19 = true then (if x18 ≥ (x17.length : Int) then (some false) else (if 0 ≤ x18 then (if x18 < (x17.length : Int) then (if ((rd_T39 x17 x18).f1) = x19 then (ravelinlaw11_MergeHeld.l3 k x11 x17 (wrap64 (x18 + 1)) (wrap64 (x19 - 1))) else (some false)) else (none)) else (none))) else (ravelinlaw11_MergeHeld.l3 k x11 x17 x18 (wrap64 (x19 - 1)))) else (none)) else (none)) else (some (x18 == (x17.length : Int)))
def ravelinlaw11_MergeHeld.l2 : Nat → Int → Bool → Int → List (S39) → List Bool → List Int → Int → Option (Bool)
  | 0, _, _, _, _, _, _, _ => none
  | k + 1, x2, x3, x9, x10, x11, x12, x16 => if x16 ≤ x9 then (ravelinlaw11_MergeHeld.j3 k x2 x3 x9 x10 x11 x12 x16 x3) else (ravelinlaw11_MergeHeld.j3 k x2 x3 x9 x10 x11 x12 x16 false)
def ravelinlaw11_MergeHeld.j3 : Nat → Int → Bool → Int → List (S39) → List Bool → List Int → Int → Bool → Option (Bool)
  | 0, _, _, _, _, _, _, _, _ => none
  | k + 1, x2, x3, x9, x10, x11, x12, x16, x79 => if x79 = true then (if 0 ≤ x16 then (if x16 < (x11.length : Int) then (if rdOf false x11 x16 = true then (if 0 ≤ (IntKind.u64.wrap (x16)) then (if (Go.bits .and .u32 (shr .u32 x2 (IntKind.u64.wrap (x16))) 1) = 0 then (ravelinlaw11_MergeHeld.j4 k x3 x9 x10 x11 x12) else (ravelinlaw11_MergeHeld.l2 k x2 x3 x9 x10 (x11.set (x16 : Int).toNat false) x12 (wrap64 (x16 + 1)))) else (none)) else (ravelinlaw11_MergeHeld.l2 k x2 x3 x9 x10 x11 x12 (wrap64 (x16 + 1)))) else (none)) else (none)) else (ravelinlaw11_MergeHeld.j4 k x3 x9 x10 x11 x12)
end
def ravelinlaw11_MergeHeld.f (k : Nat) (a0 : Int) (l1 : List Int) (a2 : Int) (a3 : Bool) : Option (Bool) := (ravelinlaw11_known.f k).bind fun t379 => (if t379 = true then (if (l1.length : Int) > 10 then (some true) else (if 0 ≤ (wrap64 ((wrap64 ((wrap64 (Int.tmod a0 20)) + 1)) + 1)) then (if (wrap64 ((wrap64 ((wrap64 (Int.tmod a0 20)) + 1)) + 1) : Int).toNat ≤ 281474976710656 then (ravelinlaw11_MergeHeld.l0 k l1 a2 a3 (wrap64 ((wrap64 (Int.tmod a0 20)) + 1)) ([] : List (S39)) (List.replicate (wrap64 ((wrap64 ((wrap64 (Int.tmod a0 20)) + 1)) + 1) : Int).toNat false) (wrap64 ((wrap64 (Int.tmod a0 20)) + 1))) else (none)) else (none))) else (some false))
theorem ravelinlaw11_MergeHeld.mono_l : ∀ k, (∀ y0 y1 y2 y3 y4 y5 y6, LeO (ravelinlaw11_MergeHeld.l0 k y0 y1 y2 y3 y4 y5 y6) (ravelinlaw11_MergeHeld.l0 (k + 1) y0 y1 y2 y3 y4 y5 y6)) ∧ (∀ y0 y1 y2 y3 y4 y5 y6 y7, LeO (ravelinlaw11_MergeHeld.l1 k y0 y1 y2 y3 y4 y5 y6 y7) (ravelinlaw11_MergeHeld.l1 (k + 1) y0 y1 y2 y3 y4 y5 y6 y7)) ∧ (∀ y0 y1 y2 y3 y4, LeO (ravelinlaw11_MergeHeld.j4 k y0 y1 y2 y3 y4) (ravelinlaw11_MergeHeld.j4 (k + 1) y0 y1 y2 y3 y4)) ∧ (∀ y0 y1 y2 y3, LeO (ravelinlaw11_MergeHeld.l3 k y0 y1 y2 y3) (ravelinlaw11_MergeHeld.l3 (k + 1) y0 y1 y2 y3)) ∧ (∀ y0 y1 y2 y3 y4 y5 y6, LeO (ravelinlaw11_MergeHeld.l2 k y0 y1 y2 y3 y4 y5 y6) (ravelinlaw11_MergeHeld.l2 (k + 1) y0 y1 y2 y3 y4 y5 y6)) ∧ (∀ y0 y1 y2 y3 y4 y5 y6 y7, LeO (ravelinlaw11_MergeHeld.j3 k y0 y1 y2 y3 y4 y5 y6 y7) (ravelinlaw11_MergeHeld.j3 (k + 1) y0 y1 y2 y3 y4 y5 y6 y7))
  | 0 => ⟨fun _ _ _ _ _ _ _ r h => by simp [ravelinlaw11_MergeHeld.l0] at h, fun _ _ _ _ _ _ _ _ r h => by simp [ravelinlaw11_MergeHeld.l1] at h, fun _ _ _ _ _ r h => by simp [ravelinlaw11_MergeHeld.j4] at h, fun _ _ _ _ r h => by simp [ravelinlaw11_MergeHeld.l3] at h, fun _ _ _ _ _ _ _ r h => by simp [ravelinlaw11_MergeHeld.l2] at h, fun _ _ _ _ _ _ _ _ r h => by simp [ravelinlaw11_MergeHeld.j3] at h⟩
  | k + 1 => by
    obtain ⟨ih0, ih1, ih2, ih3, ih4, ih5⟩ := ravelinlaw11_MergeHeld.mono_l k
    refine ⟨?_, ?_, ?_, ?_, ?_, ?_⟩
    all_goals
      intros
      first | unfold ravelinlaw11_MergeHeld.l0 | unfold ravelinlaw11_MergeHeld.l1 | unfold ravelinlaw11_MergeHeld.j4 | unfold ravelinlaw11_MergeHeld.l3 | unfold ravelinlaw11_MergeHeld.l2 | unfold ravelinlaw11_MergeHeld.j3
      repeat' first
      | (with_reducible exact ih0 _ _ _ _ _ _ _)
      | (with_reducible exact ih1 _ _ _ _ _ _ _ _)
      | (with_reducible exact ih2 _ _ _ _ _)
      | (with_reducible exact ih3 _ _ _ _)
      | (with_reducible exact ih4 _ _ _ _ _ _ _)
      | (with_reducible exact ih5 _ _ _ _ _ _ _ _)
      | (with_reducible exact merge_Pack.mono _ _ _ _)
      | (with_reducible exact ravelinlaw11_known.mono _)
      | (with_reducible exact LeO.refl _)
      | (with_reducible exact LeO.none _)
      | (with_reducible refine LeO.ite ?_ ?_)
      | (with_reducible refine LeO.bind ?_ (fun _ => ?_))
      | exact ih0 _ _ _ _ _ _ _
      | exact ih1 _ _ _ _ _ _ _ _
      | exact ih2 _ _ _ _ _
      | exact ih3 _ _ _ _
      | exact ih4 _ _ _ _ _ _ _
      | exact ih5 _ _ _ _ _ _ _ _
      | exact merge_Pack.mono _ _ _ _
      | exact ravelinlaw11_known.mono _
      | exact LeO.none _
      | refine LeO.ite ?_ ?_
      | refine LeO.bind ?_ (fun _ => ?_)
theorem ravelinlaw11_MergeHeld.mono : ∀ a0 a1 a2 a3 k, LeO (ravelinlaw11_MergeHeld.f k a0 a1 a2 a3) (ravelinlaw11_MergeHeld.f (k + 1) a0 a1 a2 a3) := by
  intro a0 a1 a2 a3 k
  obtain ⟨ih0, ih1, ih2, ih3, ih4, ih5⟩ := ravelinlaw11_MergeHeld.mono_l k
  unfold ravelinlaw11_MergeHeld.f
  repeat' first
      | (with_reducible exact ih0 _ _ _ _ _ _ _)
      | (with_reducible exact ih1 _ _ _ _ _ _ _ _)
      | (with_reducible exact ih2 _ _ _ _ _)
      | (with_reducible exact ih3 _ _ _ _)
      | (with_reducible exact ih4 _ _ _ _ _ _ _)
      | (with_reducible exact ih5 _ _ _ _ _ _ _ _)
      | (with_reducible exact merge_Pack.mono _ _ _ _)
      | (with_reducible exact ravelinlaw11_known.mono _)
      | (with_reducible exact LeO.refl _)
      | (with_reducible exact LeO.none _)
      | (with_reducible refine LeO.ite ?_ ?_)
      | (with_reducible refine LeO.bind ?_ (fun _ => ?_))
      | exact ih0 _ _ _ _ _ _ _
      | exact ih1 _ _ _ _ _ _ _ _
      | exact ih2 _ _ _ _ _
      | exact ih3 _ _ _ _
      | exact ih4 _ _ _ _ _ _ _
      | exact ih5 _ _ _ _ _ _ _ _
      | exact merge_Pack.mono _ _ _ _
      | exact ravelinlaw11_known.mono _
      | exact LeO.none _
      | refine LeO.ite ?_ ?_
      | refine LeO.bind ?_ (fun _ => ?_)
set_option maxHeartbeats 8000000 in
set_option maxRecDepth 100000 in
theorem ravelinlaw11_MergeHeld.calls (k : Nat) (a0 : Int) (A1 : Option Addr) (c1 : Nat) (l1 : List Int) (a2 : Int) (a3 : Bool) (r : Bool) (w : World) (hr1 : Kd.C (Kd.int .u8) w A1 l1.length l1) (hc1 : l1.length ≤ c1) (h : ravelinlaw11_MergeHeld.f k a0 l1 a2 a3 = some r) (hr_ : r = true) :
    Calls Try.prog 6 #[.int .u8 a0, .slice A1 l1.length c1, .int .u32 a2, .bool a3] w fun e w' => e = .returned (.bool r) ∧ Below w.heap.size w w' := by
  have hu39 := Try.underlying39
  have HR1 := Aside0.mk hr1
  have HC1 := Aside0.mk hc1
  clear hr1 hc1
  have HB := Aside0.mk (Below.refl w.heap.size w)
  have H : ((ravelinlaw11_known.f k).bind fun t379 => (if t379 = true then (if (l1.length : Int) > 10 then (some true) else (if 0 ≤ (wrap64 ((wrap64 ((wrap64 (Int.tmod a0 20)) + 1)) + 1)) then (if (wrap64 ((wrap64 ((wrap64 (Int.tmod a0 20)) + 1)) + 1) : Int).toNat ≤ 281474976710656 then (ravelinlaw11_MergeHeld.l0 k l1 a2 a3 (wrap64 ((wrap64 (Int.tmod a0 20)) + 1)) ([] : List (S39)) (List.replicate (wrap64 ((wrap64 ((wrap64 (Int.tmod a0 20)) + 1)) + 1) : Int).toNat false) (wrap64 ((wrap64 (Int.tmod a0 20)) + 1))) else (none)) else (none))) else (some false))) = some r := h
  clear h
  have HR_ := Aside0.mk hr_
  clear hr_
  replace H := Option.bind_eq_some_iff.mp H
  obtain ⟨t379, A50, H⟩ := H
  replace H : (if t379 = true then (if (l1.length : Int) > 10 then (some true) else (if 0 ≤ (wrap64 ((wrap64 ((wrap64 (Int.tmod a0 20)) + 1)) + 1)) then (if (wrap64 ((wrap64 ((wrap64 (Int.tmod a0 20)) + 1)) + 1) : Int).toNat ≤ 281474976710656 then (ravelinlaw11_MergeHeld.l0 k l1 a2 a3 (wrap64 ((wrap64 (Int.tmod a0 20)) + 1)) ([] : List (S39)) (List.replicate (wrap64 ((wrap64 ((wrap64 (Int.tmod a0 20)) + 1)) + 1) : Int).toNat false) (wrap64 ((wrap64 (Int.tmod a0 20)) + 1))) else (none)) else (none))) else (some false)) = some r := H
  have A5 := Aside0.mk A50
  clear A50
  by_cases c6 : t379 = true
  rotate_left
  · replace c6 := Bool.eq_false_iff.mpr c6
    subst c6
    have H1 : (some false) = some r := by rw [if_neg (show ¬ (false = true) by decide)] at H; exact H
    clear H
    have H := H1
    clear H1
    exact absurd ((Option.some.inj H).trans HR_.out) (by decide)
  subst c6
  have H1 : (if (l1.length : Int) > 10 then (some true) else (if 0 ≤ (wrap64 ((wrap64 ((wrap64 (Int.tmod a0 20)) + 1)) + 1)) then (if (wrap64 ((wrap64 ((wrap64 (Int.tmod a0 20)) + 1)) + 1) : Int).toNat ≤ 281474976710656 then (ravelinlaw11_MergeHeld.l0 k l1 a2 a3 (wrap64 ((wrap64 (Int.tmod a0 20)) + 1)) ([] : List (S39)) (List.replicate (wrap64 ((wrap64 ((wrap64 (Int.tmod a0 20)) + 1)) + 1) : Int).toNat false) (wrap64 ((wrap64 (Int.tmod a0 20)) + 1))) else (none)) else (none))) = some r := by rw [if_pos rfl] at H; exact H
  clear H
  have H := H1
  clear H1
  by_cases c7 : (l1.length : Int) > 10
  · rw [if_pos c7] at H
    have c7b0 : decide (10 < (l1.length : Int)) = true := decide_eq_true c7
    have c7b1 : decide (10 < l1.length) = true := decide_eq_true (by omega)
    clear c7
    obtain rfl := Option.some.inj H
    go_enter Try.func6, Try.ntmps6
    go_wp2_with (first | ((with_reducible refine gate_callee (f := 8) rfl ?_); refine goesL_ (some 20) rfl rfl Try.func8 (by kernel_rfl) rfl #[] rfl (by (try simp only [List.map_toArray, List.map_cons, List.map_nil]); first | done | rfl | (simp only [List.length_drop, List.length_take]; rfl)) ?_; (with_reducible refine (ravelinlaw11_known.calls k  true _ A5.out (by first | rfl | assumption | exact of_decide_eq_true (by assumption))).mono ?_); rintro e w8 ⟨rfl, hb⟩; refine ⟨_, rfl, ?_⟩; have n0_ := Aside0.mk (below_step (by repeat (first | (with_reducible first | exact HB.out | apply below_alloc | apply pw_below_drewN | apply below_drew1) | exact HB.out)) hb); clear HB; have HB := n0_; clear n0_; (try clear hb); (try clear hb2); (try clear hk); (try clear hi)))
    go_ret
    exact ⟨by first | rfl | (simp [errW_none, errW_some] <;> rfl) | (simp [*, errW_none, errW_some] <;> rfl), by repeat (first | (with_reducible first | exact HB.out | apply below_alloc | apply pw_below_drewN | apply below_drew1) | exact HB.out)⟩
  rw [if_neg c7] at H
  have c7b0 : decide (10 < (l1.length : Int)) = false := decide_eq_false c7
  have c7b1 : decide (10 < l1.length) = false := decide_eq_false (by omega)
  clear c7
  obtain ⟨ji9, hji9⟩ : ∃ j_ : Int, (wrap64 ((wrap64 ((wrap64 (Int.tmod a0 20)) + 1)) + 1)) = j_ := ⟨_, rfl⟩
  replace H : (if 0 ≤ (ji9) then (if (ji9 : Int).toNat ≤ 281474976710656 then (ravelinlaw11_MergeHeld.l0 k l1 a2 a3 (wrap64 ((wrap64 (Int.tmod a0 20)) + 1)) ([] : List (S39)) (List.replicate (ji9 : Int).toNat false) (wrap64 ((wrap64 (Int.tmod a0 20)) + 1))) else (none)) else (none)) = some r := by first | (rw [hji9] at H; exact H) | (simp only [hji9] at H ⊢; exact H)
  (try rw [hji9] at A5)
  have hji9w : (IntKind.i64.wrap ((wrap64 ((wrap64 (Int.tmod a0 20)) + 1)) + 1)) = ji9 := (i64_w _).trans hji9
  by_cases c10 : 0 ≤ (ji9)
  rotate_left
  · rw [if_neg c10] at H
    exact absurd H (by simp)
  rw [if_pos c10] at H
  have c10b0 := eq_true c10
  have c10b1 : decide (0 ≤ (ji9)) = true := decide_eq_true c10
  clear c10
  by_cases c11 : (ji9 : Int).toNat ≤ 281474976710656
  rotate_left
  · rw [if_neg c11] at H
    exact absurd H (by simp)
  rw [if_pos c11] at H
  have c11b0 := eq_true c11
  have c11b1 : decide ((ji9 : Int).toNat ≤ 281474976710656) = true := decide_eq_true c11
  clear c11
  obtain ⟨y380, hy380⟩ : ∃ y_ : List Bool, y_ = (List.replicate (ji9 : Int).toNat false) := ⟨_, rfl⟩
  replace H : (ravelinlaw11_MergeHeld.l0 k l1 a2 a3 (wrap64 ((wrap64 (Int.tmod a0 20)) + 1)) ([] : List (S39)) y380 (wrap64 ((wrap64 (Int.tmod a0 20)) + 1))) = some r := by first | (rw [hy380]; with_reducible exact H) | (have H2_ := (Option.bind_some _ _).symm.trans H; rw [hy380]; with_reducible exact H2_) | (have H2_ := (Option.bind_some _ _).symm.trans H; with_reducible exact H2_) | with_reducible exact H | (rw [hy380]; exact H) | exact H
  have Ny380 := Aside0.mk hy380
  clear hy380
  have H' := Aside0.mk H
  clear H
  go_enter Try.func6, Try.ntmps6
  go_wp2_with (first | ((with_reducible refine gate_callee (f := 8) rfl ?_); refine goesL_ (some 20) rfl rfl Try.func8 (by kernel_rfl) rfl #[] rfl (by (try simp only [List.map_toArray, List.map_cons, List.map_nil]); first | done | rfl | (simp only [List.length_drop, List.length_take]; rfl)) ?_; (with_reducible refine (ravelinlaw11_known.calls k  true _ A5.out (by first | rfl | assumption | exact of_decide_eq_true (by assumption))).mono ?_); rintro e w12 ⟨rfl, hb⟩; refine ⟨_, rfl, ?_⟩; have n0_ := Aside0.mk (below_step (by repeat (first | (with_reducible first | exact HB.out | apply below_alloc | apply pw_below_drewN | apply below_drew1) | exact HB.out)) hb); clear HB; have HB := n0_; clear n0_; (try clear hb); (try clear hb2); (try clear hk); (try clear hi)) | ((with_reducible refine gate_dst (N := 31) rfl ?_); refine Kd.R_make Kd.bool _ 4 rfl (N := 31) rfl 43 _ _ rfl ji9 (by first | rfl | (simp only [hji9]; rfl)) (by first | rfl | (simp only [hji9]; rfl)) Try.underlying43 (.bool false) 1 info4 rfl (by decide) (by omega) false (ok := fun _ => True) (okp := fun _ => True) rfl (fun _ hk => hk) trivial (of_decide_eq_true (by first | (with_reducible assumption) | assumption)) (Nat.le_trans (Nat.mul_le_mul_right _ (of_decide_eq_true (by first | (with_reducible assumption) | assumption) : ji9.toNat ≤ 281474976710656)) (by omega)) (Below.refl _ _) (Nat.le_refl _) ?_; intro v381 w13 ho14 hb hg_ hnew_; clear hg_ hnew_; (first | rw [← Ny380.out] at ho14 | (simp only [Int.reduceToNat] at ho14; rw [← Ny380.out] at ho14)); have n0_ := Aside0.mk (Kd.R_lower ho14 (below_size (by repeat (first | (with_reducible first | exact HB.out | apply below_alloc | apply pw_below_drewN | apply below_drew1) | exact HB.out)))); have n1_ := Aside0.mk (below_step (by repeat (first | (with_reducible first | exact HB.out | apply below_alloc | apply pw_below_drewN | apply below_drew1) | exact HB.out)) hb); clear HB; have HO382 := n0_; have HB := n1_; clear n0_ n1_; clear hb ho14))
  go_loopg [10, 13] k (fun kq v10 v13 w' => ∃ (x10_1 : List (S39)) (x13_1 : Int), v13 = .int .i64 x13_1 ∧ Aside0 (ravelinlaw11_MergeHeld.l0 kq l1 a2 a3 (wrap64 ((wrap64 (Int.tmod a0 20)) + 1)) x10_1 y380 x13_1 = some r) ∧ Aside0 (kq ≤ k) ∧ Aside0 (Kd.R k39 39 w' w.heap.size (fun _ => True) v10 x10_1) ∧ Aside0 (Kd.R Kd.bool 4 w' w.heap.size (fun _ => True) v381 y380) ∧ Aside0 (Below w.heap.size w w'))
  case atStart => exact ⟨(([] : List (S39))), (wrap64 ((wrap64 (Int.tmod a0 20)) + 1)), (by first | rfl | (simp; done) | (simp [*]; done)), H', ⟨Nat.le_refl _⟩, ⟨by first | exact Kd.R_nil _ _ _ _ _ | exact Kd.N_nil _ _ _ _ _ | exact Kd.V_nil _ _ _ _ _ | exact Kd.Q_nil _ _ _ _ _ | exact Kd.S_nil _ _ _ _ _⟩, ⟨by (with_reducible repeat (first | apply Kd.R_alloc | apply Kd.R_drewN | apply Kd.R_drew)); exact HO382.out⟩, ⟨by repeat (first | (with_reducible first | exact HB.out | apply below_alloc | apply pw_below_drewN | apply below_drew1) | exact HB.out)⟩⟩
  clear H'
  try clear c1
  try clear p2
  try clear c6
  try clear p6
  try clear c7
  try clear c7b0
  try clear c7b1
  try clear c8
  try clear c10
  try clear c10b0
  try clear c10b1
  try clear c11
  try clear c11b0
  try clear c11b1
  obtain ⟨x10_1, x13_1, rfl, HA, HK1, HO_10, HO_11, HB⟩ := hrel
  cases gk with
  | zero => exact absurd HA.out (by simp [ravelinlaw11_MergeHeld.l0])
  | succ k1 => ?_
  have H := HA.out
  clear HA
  simp only [ravelinlaw11_MergeHeld.l0] at H
  by_cases c15 : x13_1 ≥ 1
  · rw [if_pos c15] at H
    have c15b0 : decide (1 ≤ x13_1) = true := decide_eq_true c15
    clear c15
    obtain ⟨ji16, hji16⟩ : ∃ j_ : Int, (IntKind.u64.wrap (x13_1)) = j_ := ⟨_, rfl⟩
    replace H : (if 0 ≤ (ji16) then (if x10_1.length < 2932031007402 then (ravelinlaw11_MergeHeld.l0 k1 l1 a2 a3 (wrap64 ((wrap64 (Int.tmod a0 20)) + 1)) (x10_1 ++ [(⟨(⟨#[107]⟩ : ByteArray), x13_1, ((Go.bits .and .u32 (shr .u32 a2 (ji16)) 1) == 1), (⟨#[]⟩ : ByteArray)⟩ : S39)]) y380 (wrap64 (x13_1 - 1))) else (none)) else (none)) = some r := by first | (rw [hji16] at H; exact H) | (simp only [hji16] at H ⊢; exact H)
    by_cases c17 : 0 ≤ (ji16)
    rotate_left
    · rw [if_neg c17] at H
      exact absurd H (by simp)
    rw [if_pos c17] at H
    have c17b0 := eq_true c17
    have c17b1 : decide (0 ≤ (ji16)) = true := decide_eq_true c17
    clear c17
    obtain ⟨ji18, hji18⟩ : ∃ j_ : Int, (shr .u32 a2 (ji16)) = j_ := ⟨_, rfl⟩
    replace H : (if x10_1.length < 2932031007402 then (ravelinlaw11_MergeHeld.l0 k1 l1 a2 a3 (wrap64 ((wrap64 (Int.tmod a0 20)) + 1)) (x10_1 ++ [(⟨(⟨#[107]⟩ : ByteArray), x13_1, ((Go.bits .and .u32 (ji18) 1) == 1), (⟨#[]⟩ : ByteArray)⟩ : S39)]) y380 (wrap64 (x13_1 - 1))) else (none)) = some r := by first | (rw [hji18] at H; exact H) | (simp only [hji18] at H ⊢; exact H)
    have hji18_ : (a2 / 2 ^ min (ji16).toNat 32) = ji18 := hji18
    have hji18z : (ji16) ≤ 32 → (a2 / 2 ^ (ji16).toNat) = ji18 := shr_small hji18
    by_cases c19 : x10_1.length < 2932031007402
    rotate_left
    · rw [if_neg c19] at H
      exact absurd H (by simp)
    rw [if_pos c19] at H
    have LMc19 := Aside0.mk c19
    clear c19
    obtain ⟨y383, hy383⟩ : ∃ y_ : List (S39), y_ = (x10_1 ++ [(⟨(⟨#[107]⟩ : ByteArray), x13_1, ((Go.bits .and .u32 (ji18) 1) == 1), (⟨#[]⟩ : ByteArray)⟩ : S39)]) := ⟨_, rfl⟩
    replace H : (ravelinlaw11_MergeHeld.l0 k1 l1 a2 a3 (wrap64 ((wrap64 (Int.tmod a0 20)) + 1)) y383 y380 (wrap64 (x13_1 - 1))) = some r := by first | (rw [hy383]; with_reducible exact H) | (have H2_ := (Option.bind_some _ _).symm.trans H; rw [hy383]; with_reducible exact H2_) | (have H2_ := (Option.bind_some _ _).symm.trans H; with_reducible exact H2_) | with_reducible exact H | (rw [hy383]; exact H) | exact H
    have Ny383 := Aside0.mk hy383
    clear hy383
    have H' := Aside0.mk H
    clear H
    go_wp2_with (first | ((with_reducible refine gate_builtin (b := .append) (xs := #[.tmp 37, .tmp 46]) rfl ?_); at_builtin; refine Kd.R_append k39 (w0 := w) w.heap.size rfl (.tmp 37) (.tmp 46) 23 39 (.agg #[(.string ⟨#[]⟩), (.int .i64 0), (.bool false), (.string ⟨#[]⟩)]) 48 rfl Try.underlying23 info39 rfl (by decide) (by omega) u10 x10_1 (⟨(⟨#[107]⟩ : ByteArray), x13_1, ((Go.bits .and .u32 (ji18) 1) == 1), (⟨#[]⟩ : ByteArray)⟩ : S39) [.string (⟨#[107]⟩ : ByteArray), .int .i64 x13_1, .bool ((Go.bits .and .u32 (ji18) 1) == 1), .string (⟨#[]⟩ : ByteArray)] (fun _ => True) (fun _ => False) rfl rfl ?aP (fun _ hk => hk.elim) ?aF ?aO ?aB ?aS ?aL ?_; (case aP => exact k39_mkM _ _ _ (⟨(⟨#[107]⟩ : ByteArray), x13_1, ((Go.bits .and .u32 (ji18) 1) == 1), (⟨#[]⟩ : ByteArray)⟩ : S39)); (case aB => exact (by repeat (first | (with_reducible first | exact HB.out | apply below_alloc | apply pw_below_drewN | apply below_drew1) | exact HB.out))); (case aF => exact (fun _ _ => trivial)); (case aO => exact (by (with_reducible repeat (first | apply Kd.R_alloc | apply Kd.R_drewN | apply Kd.R_drew)); exact HO_10.out)); (case aS => exact (below_size (by repeat (first | (with_reducible first | exact HB.out | apply below_alloc | apply pw_below_drewN | apply below_drew1) | exact HB.out)))); (case aL => have := LMc19.out; omega); intro v384 w20 ho hb hg hat; rw [← Ny383.out] at ho; have n0_ := Aside0.mk (Kd.R_over' (by (with_reducible repeat (first | apply Kd.R_alloc | apply Kd.R_drewN | apply Kd.R_drew)); exact HO_11.out) (Kd.R_typed (by (with_reducible repeat (first | apply Kd.R_alloc | apply Kd.R_drewN | apply Kd.R_drew)); exact HO_10.out)) (by decide) hg); have n1_ := Aside0.mk (hb); have n2_ := Aside0.mk (ho); clear HO_11; clear HB; clear HO_10; have HO_11 := n0_; have HB := n1_; have HO385 := n2_; clear n0_ n1_ n2_; clear ho hb hg hat))
    go_roundg k1
    case measure => have := HK1.out; omega
    case rel => exact ⟨(y383), (wrap64 (x13_1 - 1)), (by first | rfl | (simp; done) | (simp [*]; done)), H', ⟨by have := HK1.out; omega⟩, ⟨by (with_reducible repeat (first | apply Kd.R_alloc | apply Kd.R_drewN | apply Kd.R_drew)); exact HO385.out⟩, ⟨by (with_reducible repeat (first | apply Kd.R_alloc | apply Kd.R_drewN | apply Kd.R_drew)); exact HO_11.out⟩, ⟨by repeat (first | (with_reducible first | exact HB.out | apply below_alloc | apply pw_below_drewN | apply below_drew1) | exact HB.out)⟩⟩
  rw [if_neg c15] at H
  have c15b0 : decide (1 ≤ x13_1) = false := decide_eq_false c15
  clear c15
  obtain ⟨ji21, hji21⟩ : ∃ j_ : Int, (wrap64 ((wrap64 (Int.tmod a0 20)) + 1)) = j_ := ⟨_, rfl⟩
  replace H : (if 0 ≤ (ji21) then (if (ji21) < (y380.length : Int) then (ravelinlaw11_MergeHeld.l1 k1 l1 a2 a3 (ji21) x10_1 (y380.set ((ji21) : Int).toNat true) ([] : List Int) 0) else (none)) else (none)) = some r := by first | (rw [hji21] at H; exact H) | (simp only [hji21] at H ⊢; exact H)
  (try (have hji9ji21 := hji9; rw [hji21] at hji9ji21))
  (try (have hji9wji21 := hji9w; rw [hji21] at hji9wji21))
  (try (have hji9_ji21 := hji9_; rw [hji21] at hji9_ji21))
  have hji21w : (IntKind.i64.wrap ((wrap64 (Int.tmod a0 20)) + 1)) = ji21 := (i64_w _).trans hji21
  by_cases c22 : 0 ≤ (ji21)
  rotate_left
  · rw [if_neg c22] at H
    exact absurd H (by simp)
  rw [if_pos c22] at H
  have c22b0 : decide (0 ≤ (ji21)) = true := decide_eq_true c22
  clear c22
  by_cases c23 : (ji21) < (y380.length : Int)
  rotate_left
  · rw [if_neg c23] at H
    exact absurd H (by simp)
  rw [if_pos c23] at H
  have c23b0 : decide ((ji21) < (y380.length : Int)) = true := decide_eq_true c23
  clear c23
  obtain ⟨y386, hy386⟩ : ∃ y_ : List Bool, y_ = (y380.set ((ji21) : Int).toNat true) := ⟨_, rfl⟩
  replace H : (ravelinlaw11_MergeHeld.l1 k1 l1 a2 a3 (ji21) x10_1 y386 ([] : List Int) 0) = some r := by first | (rw [hy386]; with_reducible exact H) | (have H2_ := (Option.bind_some _ _).symm.trans H; rw [hy386]; with_reducible exact H2_) | (have H2_ := (Option.bind_some _ _).symm.trans H; with_reducible exact H2_) | with_reducible exact H | (rw [hy386]; exact H) | exact H
  have Ny386 := Aside0.mk hy386
  clear hy386
  have H' := Aside0.mk H
  clear H
  have p24 : 0 ≤ ((ji21) : Int) := of_decide_eq_true (by first | (with_reducible assumption) | assumption)
  have q24 : ((ji21) : Int) < ((y380.length : Int) : Int) := of_decide_eq_true (by first | (with_reducible assumption) | assumption)
  obtain ⟨go24, co24, eo24, gb24, gl24, cl24, HG24⟩ := Kd.R_form HO_11.out (by omega)
  (first | cases eo24 | (injection eo24 with ea_ en_ ec_; (first | subst ea_ | (injection ea_ with ea_; subst ea_)); subst ec_; clear en_))
  have GB24 := Aside0.mk gb24
  have GG24 := Aside0.mk HG24
  clear gb24 gl24 HG24
  obtain ⟨hx24_0, hf24_0⟩ := Kd.R_celln false HO_11.out ((ji21) : Int) p24 q24
  replace p24 := eq_true p24
  replace q24 := eq_true q24
  have HP25 := Kd.R_putg HO_11.out ((ji21) : Int) true
  go_wp2_with (first | ((with_reducible refine gate_store (t := 4) (p := 50) rfl ?_); refine store_event (t := 4) (p := 50) (v := ?vo_w26) (w1 := (wr.setCell ⟨go24, ((ji21) : Int).toNat, none⟩ (.bool true))) ?hg ?ho ?hn ?hr ?_; (case ho => rfl); (case hg => rfl); (case hn => rfl); (case hr => first | (go_simp; done) | (go_simp; rfl)); intro w26 hw; have hg : wr.grownBy w26 (some go24) := (by rw [hw]; exact HP25.2); have hp_ : Kd.R Kd.bool 4 w26 w.heap.size (fun _ => True) (.slice (some ⟨go24, 0, none⟩) y380.length co24) y386 := (by rw [hw, Ny386.out]; exact HP25.1); clear HP25; have n0_ := Aside0.mk (Kd.R_over' (v := (.slice (some ⟨go24, 0, none⟩) y380.length co24)) (by (with_reducible repeat (first | apply Kd.R_alloc | apply Kd.R_drewN | apply Kd.R_drew)); exact HO_10.out) (Kd.R_typed HO_11.out) (by decide) hg); have n1_ := Aside0.mk (hp_); have n2_ := Aside0.mk ((by rw [hw]; exact below_set (HB.out) GB24.out : Below w.heap.size w w26)); clear HO_10; clear HO_11; clear HB; have HO_10 := n0_; have HO_11 := n1_; have HB := n2_; clear n0_ n1_ n2_; clear hg hw hp_))
  go_loopg [12, 14] k1 (fun kq v12 v14 w' => ∃ (x11_2 : List Bool) (x12_2 : List Int) (x14_2 : Int), v14 = .int .i64 x14_2 ∧ Aside0 (ravelinlaw11_MergeHeld.l1 kq l1 a2 a3 (ji21) x10_1 x11_2 x12_2 x14_2 = some r) ∧ Aside0 (kq ≤ k1) ∧ Aside0 (Kd.R k39 39 w' w.heap.size (fun _ => True) u10 x10_1) ∧ Aside0 (Kd.R Kd.bool 4 w' w.heap.size (fun _ => True) (.slice (some ⟨go24, 0, none⟩) y380.length co24) x11_2) ∧ Aside0 (Kd.R (Kd.int .i64) 3 w' w.heap.size (fun _ => True) v12 x12_2) ∧ Aside0 (Below w.heap.size w w'))
  case atStart => exact ⟨(y386), (([] : List Int)), (0), (by first | rfl | (simp; done) | (simp [*]; done)), H', ⟨Nat.le_refl _⟩, ⟨by (with_reducible repeat (first | apply Kd.R_alloc | apply Kd.R_drewN | apply Kd.R_drew)); exact HO_10.out⟩, ⟨by (with_reducible repeat (first | apply Kd.R_alloc | apply Kd.R_drewN | apply Kd.R_drew)); exact HO_11.out⟩, ⟨by first | exact Kd.R_nil _ _ _ _ _ | exact Kd.N_nil _ _ _ _ _ | exact Kd.V_nil _ _ _ _ _ | exact Kd.Q_nil _ _ _ _ _ | exact Kd.S_nil _ _ _ _ _⟩, ⟨by repeat (first | (with_reducible first | exact HB.out | apply below_alloc | apply pw_below_drewN | apply below_drew1) | exact HB.out)⟩⟩
  clear H'
  try clear c1
  try clear c2
  try clear p2
  try clear q2
  try clear hx2
  try clear c6
  try clear p6
  try clear c7
  try clear c7b0
  try clear c7b1
  try clear c8
  try clear c10
  try clear c10b0
  try clear c10b1
  try clear c11
  try clear c11b0
  try clear c11b1
  try clear c15
  try clear c15b0
  try clear c17
  try clear c17b0
  try clear c17b1
  try clear c19
  try clear c22
  try clear c22b0
  try clear c23
  try clear c23b0
  try clear p24
  try clear q24
  try clear hx24
  try clear hf24
  try clear hx24_0
  try clear p2
  try clear p24
  try clear p6
  try clear q24
  obtain ⟨x11_2, x12_2, x14_2, rfl, HA, HK2, HO_10, HO_11, HO_12, HB⟩ := hrel
  have hl11_2 := (Kd.R_reads' HO_11.out).1
  rw [hl11_2] at HO_11
  (try simp only [hl11_2])
  (try simp only [hl11_2] at HO_10)
  (try simp only [hl11_2] at HO_12)
  cases gk with
  | zero => exact absurd HA.out (by simp [ravelinlaw11_MergeHeld.l1])
  | succ k2 => ?_
  have H := HA.out
  clear HA
  simp only [ravelinlaw11_MergeHeld.l1] at H
  by_cases c27 : x14_2 < (l1.length : Int)
  · rw [if_pos c27] at H
    have c27b0 : decide (x14_2 < (l1.length : Int)) = true := decide_eq_true c27
    clear c27
    by_cases c28 : 0 ≤ x14_2
    rotate_left
    · rw [if_neg c28] at H
      exact absurd H (by simp)
    rw [if_pos c28] at H
    have c28b0 : decide (0 ≤ x14_2) = true := decide_eq_true c28
    clear c28
    by_cases c29 : x12_2.length < 17592186044416
    rotate_left
    · rw [if_neg c29] at H
      exact absurd H (by simp)
    rw [if_pos c29] at H
    have LMc29 := Aside0.mk c29
    clear c29
    obtain ⟨y388, hy388⟩ : ∃ y_ : List Int, y_ = (x12_2 ++ [wrap64 (Int.tmod (rd l1 x14_2) 25)]) := ⟨_, rfl⟩
    replace H : (if 0 ≤ (mn (wrap64 (Int.tmod (rd l1 x14_2) 25)) (ji21)) then (if (mn (wrap64 (Int.tmod (rd l1 x14_2) 25)) (ji21)) < (x11_2.length : Int) then (ravelinlaw11_MergeHeld.l1 k2 l1 a2 a3 (ji21) x10_1 (x11_2.set ((mn (wrap64 (Int.tmod (rd l1 x14_2) 25)) (ji21)) : Int).toNat true) y388 (wrap64 (x14_2 + 1))) else (none)) else (none)) = some r := by first | (rw [hy388]; with_reducible exact H) | (have H2_ := (Option.bind_some _ _).symm.trans H; rw [hy388]; with_reducible exact H2_) | (have H2_ := (Option.bind_some _ _).symm.trans H; with_reducible exact H2_) | with_reducible exact H | (rw [hy388]; exact H) | exact H
    have Ny388 := Aside0.mk hy388
    clear hy388
    obtain ⟨ji30, hji30⟩ : ∃ j_ : Int, (mn (wrap64 (Int.tmod (rd l1 x14_2) 25)) (ji21)) = j_ := ⟨_, rfl⟩
    replace H : (if 0 ≤ (ji30) then (if (ji30) < (x11_2.length : Int) then (ravelinlaw11_MergeHeld.l1 k2 l1 a2 a3 (ji21) x10_1 (x11_2.set ((ji30) : Int).toNat true) y388 (wrap64 (x14_2 + 1))) else (none)) else (none)) = some r := by first | (rw [hji30] at H; exact H) | (simp only [hji30] at H ⊢; exact H)
    have hji30_ : (if (ji21) < (wrap64 (Int.tmod (rd l1 x14_2) 25)) then (ji21) else (wrap64 (Int.tmod (rd l1 x14_2) 25))) = ji30 := hji30
    (try (have hji30_n := hji30_; simp only [Int.ofNat_lt] at hji30_n))
    by_cases c31 : 0 ≤ (ji30)
    rotate_left
    · rw [if_neg c31] at H
      exact absurd H (by simp)
    rw [if_pos c31] at H
    have c31b0 : decide (0 ≤ (ji30)) = true := decide_eq_true c31
    clear c31
    by_cases c32 : (ji30) < (x11_2.length : Int)
    rotate_left
    · rw [if_neg c32] at H
      exact absurd H (by simp)
    rw [if_pos c32] at H
    have c32b0 : decide ((ji30) < (x11_2.length : Int)) = true := decide_eq_true c32
    clear c32
    obtain ⟨y391, hy391⟩ : ∃ y_ : List Bool, y_ = (x11_2.set ((ji30) : Int).toNat true) := ⟨_, rfl⟩
    replace H : (ravelinlaw11_MergeHeld.l1 k2 l1 a2 a3 (ji21) x10_1 y391 y388 (wrap64 (x14_2 + 1))) = some r := by first | (rw [hy391]; with_reducible exact H) | (have H2_ := (Option.bind_some _ _).symm.trans H; rw [hy391]; with_reducible exact H2_) | (have H2_ := (Option.bind_some _ _).symm.trans H; with_reducible exact H2_) | with_reducible exact H | (rw [hy391]; exact H) | exact H
    have Ny391 := Aside0.mk hy391
    clear hy391
    have H' := Aside0.mk H
    clear H
    have p387 : 0 ≤ (x14_2 : Int) := of_decide_eq_true (by first | (with_reducible assumption) | assumption)
    have q387 : x14_2 < (l1.length : Int) := of_decide_eq_true (by first | (with_reducible assumption) | assumption)
    obtain ⟨ad387, e387, hx387_0⟩ := Kd.at_int HR1.out x14_2 p387 q387
    cases e387
    replace hx387_0 := (HB.out.cell (World.block_lt_of_cell? w _ hx387_0)).trans hx387_0
    replace p387 := eq_true p387
    replace q387 := eq_true q387
    go_wp2_with (first | ((with_reducible refine gate_builtin (b := .append) (xs := #[.tmp 63, .tmp 65]) rfl ?_); at_builtin; refine Kd.R_append (Kd.int .i64) (w0 := w) w.heap.size rfl (.tmp 63) (.tmp 65) 24 3 (.int .i64 0) 8 rfl Try.underlying24 info3 rfl (by decide) (by omega) u12 x12_2 (wrap64 (Int.tmod (rd l1 x14_2) 25)) [.int .i64 (wrap64 (Int.tmod (rd l1 x14_2) 25))] (fun _ => True) (fun _ => False) rfl rfl ?aP (fun _ hk => hk.elim) ?aF ?aO ?aB ?aS ?aL ?_; (case aP => exact rfl); (case aB => exact (by repeat (first | (with_reducible first | exact HB.out | apply below_alloc | apply pw_below_drewN | apply below_drew1) | exact HB.out))); (case aF => exact (fun _ _ => trivial)); (case aO => exact (by (with_reducible repeat (first | apply Kd.R_alloc | apply Kd.R_drewN | apply Kd.R_drew)); exact HO_12.out)); (case aS => exact (below_size (by repeat (first | (with_reducible first | exact HB.out | apply below_alloc | apply pw_below_drewN | apply below_drew1) | exact HB.out)))); (case aL => have := LMc29.out; omega); intro v389 w34 ho hb hg hat; rw [← Ny388.out] at ho; have n0_ := Aside0.mk (Kd.R_over' (by (with_reducible repeat (first | apply Kd.R_alloc | apply Kd.R_drewN | apply Kd.R_drew)); exact HO_10.out) (Kd.R_typed (by (with_reducible repeat (first | apply Kd.R_alloc | apply Kd.R_drewN | apply Kd.R_drew)); exact HO_12.out)) (by decide) hg); have n1_ := Aside0.mk (Kd.R_over' (by (with_reducible repeat (first | apply Kd.R_alloc | apply Kd.R_drewN | apply Kd.R_drew)); exact HO_11.out) (Kd.R_typed (by (with_reducible repeat (first | apply Kd.R_alloc | apply Kd.R_drewN | apply Kd.R_drew)); exact HO_12.out)) (by decide) hg); have n2_ := Aside0.mk (hb); have n3_ := Aside0.mk (ho); clear HO_10; clear HO_11; clear HB; clear HO_12; have HO_10 := n0_; have HO_11 := n1_; have HB := n2_; have HO390 := n3_; clear n0_ n1_ n2_ n3_; clear ho hb hg hat; have p33 : 0 ≤ ((ji30) : Int) := of_decide_eq_true (by first | (with_reducible assumption) | assumption); have q33 : ((ji30) : Int) < ((x11_2.length : Int) : Int) := of_decide_eq_true (by first | (with_reducible assumption) | assumption); obtain ⟨hx33_0, hf33_0⟩ := Kd.R_celln false HO_11.out ((ji30) : Int) p33 q33; replace p33 := eq_true p33; replace q33 := eq_true q33; obtain ⟨hy35_, hz35_⟩ := Kd.R_celln false HO_11.out ((ji30) : Int) (of_decide_eq_true (by first | (with_reducible assumption) | assumption)) (of_decide_eq_true (by first | (with_reducible assumption) | assumption)); have HP35 := Kd.R_putg HO_11.out ((ji30) : Int) true) | ((with_reducible refine gate_store (t := 4) (p := 71) rfl ?_); refine store_event (t := 4) (p := 71) (v := ?vo_w36) (w1 := (w34.setCell ⟨go24, ((ji30) : Int).toNat, none⟩ (.bool true))) ?hg ?ho ?hn ?hr ?_; (case ho => rfl); (case hg => rfl); (case hn => rfl); (case hr => first | (go_simp; done) | (go_simp; rfl)); intro w36 hw; have hg : w34.grownBy w36 (some go24) := (by rw [hw]; exact HP35.2); have hp_ : Kd.R Kd.bool 4 w36 w.heap.size (fun _ => True) (.slice (some ⟨go24, 0, none⟩) x11_2.length co24) y391 := (by rw [hw, Ny391.out]; exact HP35.1); clear HP35; have n0_ := Aside0.mk (Kd.R_over' (v := (.slice (some ⟨go24, 0, none⟩) x11_2.length co24)) (by (with_reducible repeat (first | apply Kd.R_alloc | apply Kd.R_drewN | apply Kd.R_drew)); exact HO_10.out) (Kd.R_typed HO_11.out) (by decide) hg); have n1_ := Aside0.mk (hp_); have n2_ := Aside0.mk (Kd.R_over' (v := (.slice (some ⟨go24, 0, none⟩) x11_2.length co24)) (by (with_reducible repeat (first | apply Kd.R_alloc | apply Kd.R_drewN | apply Kd.R_drew)); exact HO390.out) (Kd.R_typed HO_11.out) (by decide) hg); have n3_ := Aside0.mk ((by rw [hw]; exact below_set (HB.out) GB24.out : Below w.heap.size w w36)); clear HO_10; clear HO_11; clear HO390; clear HB; have HO_10 := n0_; have HO_11 := n1_; have HO390 := n2_; have HB := n3_; clear n0_ n1_ n2_ n3_; clear hg hw hp_))
    (try simp only [← hl11_2])
    go_roundg k2
    case measure => have := HK1.out; have := HK2.out; omega
    case rel => exact ⟨(y391), (y388), (wrap64 (x14_2 + 1)), (by first | rfl | (simp; done) | (simp [*]; done)), H', ⟨by have := HK1.out; have := HK2.out; omega⟩, ⟨by (try simp only [hl11_2]); (with_reducible repeat (first | apply Kd.R_alloc | apply Kd.R_drewN | apply Kd.R_drew)); exact HO_10.out⟩, ⟨by (try simp only [hl11_2]); (with_reducible repeat (first | apply Kd.R_alloc | apply Kd.R_drewN | apply Kd.R_drew)); exact HO_11.out⟩, ⟨by (try simp only [hl11_2]); (with_reducible repeat (first | apply Kd.R_alloc | apply Kd.R_drewN | apply Kd.R_drew)); exact HO390.out⟩, ⟨by repeat (first | (with_reducible first | exact HB.out | apply below_alloc | apply pw_below_drewN | apply below_drew1) | exact HB.out)⟩⟩
  rw [if_neg c27] at H
  have c27b0 : decide (x14_2 < (l1.length : Int)) = false := decide_eq_false c27
  clear c27
  by_cases c37 : 0 < (x11_2.length : Int)
  rotate_left
  · rw [if_neg c37] at H
    exact absurd H (by simp)
  rw [if_pos c37] at H
  have c37b0 : decide (0 < (x11_2.length : Int)) = true := decide_eq_true c37
  have c37b1 : decide (0 < x11_2.length) = true := decide_eq_true (by omega)
  clear c37
  obtain ⟨y392, hy392⟩ : ∃ y_ : List Bool, y_ = (x11_2.set (0 : Int).toNat false) := ⟨_, rfl⟩
  replace H : (ravelinlaw11_MergeHeld.l2 k2 a2 a3 (ji21) x10_1 y392 x12_2 1) = some r := by first | (rw [hy392]; with_reducible exact H) | (have H2_ := (Option.bind_some _ _).symm.trans H; rw [hy392]; with_reducible exact H2_) | (have H2_ := (Option.bind_some _ _).symm.trans H; with_reducible exact H2_) | with_reducible exact H | (rw [hy392]; exact H) | exact H
  have Ny392 := Aside0.mk hy392
  clear hy392
  have HC39 := Aside0.mk H
  clear H
  have p38 : 0 ≤ (0 : Int) := (by omega)
  have q38 : (0 : Int) < ((x11_2.length : Int) : Int) := of_decide_eq_true (by first | (with_reducible assumption) | assumption)
  have qi38 : (0 < x11_2.length) = True := eq_true (by omega)
  obtain ⟨hx38_0, hf38_0⟩ := Kd.R_celln false HO_11.out (0 : Int) p38 q38
  (try rw [show ((0 : Int)).toNat = 0 from rfl] at hx38_0)
  (try simp only [Nat.reduceMul, Nat.zero_mul, Nat.zero_add, Nat.reduceAdd] at hx38_0)
  (try rw [show ((0 : Int)).toNat = 0 from rfl] at hf38_0)
  (try simp only [Nat.reduceMul, Nat.zero_mul, Nat.zero_add, Nat.reduceAdd] at hf38_0)
  replace p38 := eq_true p38
  replace q38 := eq_true q38
  have HP40 := Kd.R_putg HO_11.out (0 : Int) false
  go_upto_block 4 with (first | ((with_reducible refine gate_store (t := 4) (p := 73) rfl ?_); refine store_event (t := 4) (p := 73) (v := ?vo_w41) (w1 := (wr.setCell ⟨go24, (0 : Int).toNat, none⟩ (.bool false))) ?hg ?ho ?hn ?hr ?_; (case ho => rfl); (case hg => rfl); (case hn => rfl); (case hr => first | (go_simp; done) | (go_simp; rfl)); intro w41 hw; have hg : wr.grownBy w41 (some go24) := (by rw [hw]; exact HP40.2); have hp_ : Kd.R Kd.bool 4 w41 w.heap.size (fun _ => True) (.slice (some ⟨go24, 0, none⟩) x11_2.length co24) y392 := (by rw [hw, Ny392.out]; exact HP40.1); clear HP40; have n0_ := Aside0.mk (Kd.R_over' (v := (.slice (some ⟨go24, 0, none⟩) x11_2.length co24)) (by (with_reducible repeat (first | apply Kd.R_alloc | apply Kd.R_drewN | apply Kd.R_drew)); exact HO_10.out) (Kd.R_typed HO_11.out) (by decide) hg); have n1_ := Aside0.mk (hp_); have n2_ := Aside0.mk (Kd.R_over' (v := (.slice (some ⟨go24, 0, none⟩) x11_2.length co24)) (by (with_reducible repeat (first | apply Kd.R_alloc | apply Kd.R_drewN | apply Kd.R_drew)); exact HO_12.out) (Kd.R_typed HO_11.out) (by decide) hg); have n3_ := Aside0.mk ((by rw [hw]; exact below_set (HB.out) GB24.out : Below w.heap.size w w41)); clear HO_10; clear HO_11; clear HO_12; clear HB; have HO_10 := n0_; have HO_11 := n1_; have HO_12 := n2_; have HB := n3_; clear n0_ n1_ n2_ n3_; clear hg hw hp_))
  (try simp only [Act.put, List.setIfInBounds_toArray, List.set_cons_zero, List.set_cons_succ])
  go_cut [] (fun wc => ∃ (kq : Nat) (x11_38 : List Bool), Aside0 (ravelinlaw11_MergeHeld.j4 kq a3 (ji21) x10_1 x11_38 x12_2 = some r) ∧ Aside0 (kq ≤ k2) ∧ Aside0 (Kd.R k39 39 wc w.heap.size (fun _ => True) u10 x10_1) ∧ Aside0 (Kd.R Kd.bool 4 wc w.heap.size (fun _ => True) (.slice (some ⟨go24, 0, none⟩) x11_2.length co24) x11_38) ∧ Aside0 (Kd.R (Kd.int .i64) 3 wc w.heap.size (fun _ => True) u12 x12_2) ∧ Aside0 (Below w.heap.size w wc))
  case first =>
    have H := HC39.out
    clear HC39
    have H' := Aside0.mk H
    clear H
    go_wp2
    go_loopg [16] k2 (fun kq v16 w' => ∃ (x11_3 : List Bool) (x16_3 : Int), v16 = .int .i64 x16_3 ∧ Aside0 (ravelinlaw11_MergeHeld.l2 kq a2 a3 (ji21) x10_1 x11_3 x12_2 x16_3 = some r) ∧ Aside0 (kq ≤ k2) ∧ Aside0 (Kd.R k39 39 w' w.heap.size (fun _ => True) u10 x10_1) ∧ Aside0 (Kd.R Kd.bool 4 w' w.heap.size (fun _ => True) (.slice (some ⟨go24, 0, none⟩) x11_2.length co24) x11_3) ∧ Aside0 (Kd.R (Kd.int .i64) 3 w' w.heap.size (fun _ => True) u12 x12_2) ∧ Aside0 (Below w.heap.size w w'))
    case atStart => exact ⟨(y392), (1), (by first | rfl | (simp; done) | (simp [*]; done)), H', ⟨Nat.le_refl _⟩, ⟨by (try simp only [hl11_2]); (with_reducible repeat (first | apply Kd.R_alloc | apply Kd.R_drewN | apply Kd.R_drew)); exact HO_10.out⟩, ⟨by (try simp only [hl11_2]); (with_reducible repeat (first | apply Kd.R_alloc | apply Kd.R_drewN | apply Kd.R_drew)); exact HO_11.out⟩, ⟨by (try simp only [hl11_2]); (with_reducible repeat (first | apply Kd.R_alloc | apply Kd.R_drewN | apply Kd.R_drew)); exact HO_12.out⟩, ⟨by repeat (first | (with_reducible first | exact HB.out | apply below_alloc | apply pw_below_drewN | apply below_drew1) | exact HB.out)⟩⟩
    clear H'
    try clear c1
    try clear c2
    try clear p2
    try clear q2
    try clear hx2
    try clear c3
    try clear p3
    try clear q3
    try clear hx3
    try clear qi3
    try clear c6
    try clear p6
    try clear c7
    try clear c7b0
    try clear c7b1
    try clear c8
    try clear c10
    try clear c10b0
    try clear c10b1
    try clear c11
    try clear c11b0
    try clear c11b1
    try clear c15
    try clear c15b0
    try clear c17
    try clear c17b0
    try clear c17b1
    try clear c19
    try clear c22
    try clear c22b0
    try clear c23
    try clear c23b0
    try clear p24
    try clear q24
    try clear hx24
    try clear hf24
    try clear c27
    try clear c27b0
    try clear c28
    try clear c28b0
    try clear c29
    try clear c31
    try clear c31b0
    try clear c32
    try clear c32b0
    try clear p33
    try clear q33
    try clear hx33
    try clear hf33
    try clear c37
    try clear c37b0
    try clear c37b1
    try clear p38
    try clear q38
    try clear hx38
    try clear qi38
    try clear hf38
    try clear hx24_0
    try clear hx33_0
    try clear hx387_0
    try clear hx38_0
    try clear p2
    try clear p24
    try clear p33
    try clear p38
    try clear p387
    try clear p6
    try clear q2
    try clear q24
    try clear q33
    try clear q38
    try clear q387
    obtain ⟨x11_3, x16_3, rfl, HA, HK3, HO_10, HO_11, HO_12, HB⟩ := hrel
    have hl11_3 := (Kd.R_reads' HO_11.out).1
    rw [hl11_3] at HO_11
    (try simp only [hl11_3])
    (try simp only [hl11_3] at HO_10)
    (try simp only [hl11_3] at HO_12)
    cases gk with
    | zero => exact absurd HA.out (by simp [ravelinlaw11_MergeHeld.l2])
    | succ k3 => ?_
    have H := HA.out
    clear HA
    simp only [ravelinlaw11_MergeHeld.l2] at H
    have HC42 := Aside0.mk H
    clear H
    go_upto_region 22 with (fail)
    go_cut [79] (fun v79 wc => ∃ (kq : Nat) (x79_41 : Bool), v79 = .bool x79_41 ∧ Aside0 (ravelinlaw11_MergeHeld.j3 kq a2 a3 (ji21) x10_1 x11_3 x12_2 x16_3 x79_41 = some r) ∧ Aside0 (kq ≤ k3) ∧ Aside0 (Kd.R k39 39 wc w.heap.size (fun _ => True) u10 x10_1) ∧ Aside0 (Kd.R Kd.bool 4 wc w.heap.size (fun _ => True) (.slice (some ⟨go24, 0, none⟩) x11_3.length co24) x11_3) ∧ Aside0 (Kd.R (Kd.int .i64) 3 wc w.heap.size (fun _ => True) u12 x12_2) ∧ Aside0 (Below w.heap.size w wc))
    case first =>
      have H := HC42.out
      clear HC42
      by_cases c43 : x16_3 ≤ (ji21)
      · rw [if_pos c43] at H
        have c43b0 : decide (x16_3 ≤ (ji21)) = true := decide_eq_true c43
        clear c43
        (first | rw [c43b0] | (simp only [i64_w, i32_w]; rw [c43b0]) | skip)
        have H' := Aside0.mk H
        clear H
        go_wp2
        go_meet
        case rel => exact ⟨_, (a3), (by first | rfl | (simp; done) | (simp [*]; done)), H', ⟨by have := HK1.out; have := HK2.out; have := HK3.out; first | omega | exact Nat.le_refl _⟩, ⟨by (try simp only [hl11_2]); (try simp only [hl11_3]); (with_reducible repeat (first | apply Kd.R_alloc | apply Kd.R_drewN | apply Kd.R_drew)); exact HO_10.out⟩, ⟨by (try simp only [hl11_2]); (try simp only [hl11_3]); (with_reducible repeat (first | apply Kd.R_alloc | apply Kd.R_drewN | apply Kd.R_drew)); exact HO_11.out⟩, ⟨by (try simp only [hl11_2]); (try simp only [hl11_3]); (with_reducible repeat (first | apply Kd.R_alloc | apply Kd.R_drewN | apply Kd.R_drew)); exact HO_12.out⟩, ⟨by repeat (first | (with_reducible first | exact HB.out | apply below_alloc | apply pw_below_drewN | apply below_drew1) | exact HB.out)⟩⟩
      rw [if_neg c43] at H
      have c43b0 : decide (x16_3 ≤ (ji21)) = false := decide_eq_false c43
      clear c43
      (first | rw [c43b0] | (simp only [i64_w, i32_w]; rw [c43b0]) | skip)
      have H' := Aside0.mk H
      clear H
      go_wp2
      go_meet
      case rel => exact ⟨_, (false), (by first | rfl | (simp; done) | (simp [*]; done)), H', ⟨by have := HK1.out; have := HK2.out; have := HK3.out; first | omega | exact Nat.le_refl _⟩, ⟨by (try simp only [hl11_2]); (try simp only [hl11_3]); (with_reducible repeat (first | apply Kd.R_alloc | apply Kd.R_drewN | apply Kd.R_drew)); exact HO_10.out⟩, ⟨by (try simp only [hl11_2]); (try simp only [hl11_3]); (with_reducible repeat (first | apply Kd.R_alloc | apply Kd.R_drewN | apply Kd.R_drew)); exact HO_11.out⟩, ⟨by (try simp only [hl11_2]); (try simp only [hl11_3]); (with_reducible repeat (first | apply Kd.R_alloc | apply Kd.R_drewN | apply Kd.R_drew)); exact HO_12.out⟩, ⟨by repeat (first | (with_reducible first | exact HB.out | apply below_alloc | apply pw_below_drewN | apply below_drew1) | exact HB.out)⟩⟩
    clear HC42
    try clear c1
    try clear c2
    try clear p2
    try clear q2
    try clear hx2
    try clear c3
    try clear p3
    try clear q3
    try clear hx3
    try clear qi3
    try clear c4
    try clear c6
    try clear p6
    try clear c7
    try clear c7b0
    try clear c7b1
    try clear c8
    try clear c10
    try clear c10b0
    try clear c10b1
    try clear c11
    try clear c11b0
    try clear c11b1
    try clear c15
    try clear c15b0
    try clear c17
    try clear c17b0
    try clear c17b1
    try clear c19
    try clear c22
    try clear c22b0
    try clear c23
    try clear c23b0
    try clear p24
    try clear q24
    try clear hx24
    try clear hf24
    try clear c27
    try clear c27b0
    try clear c28
    try clear c28b0
    try clear c29
    try clear c31
    try clear c31b0
    try clear c32
    try clear c32b0
    try clear p33
    try clear q33
    try clear hx33
    try clear hf33
    try clear c37
    try clear c37b0
    try clear c37b1
    try clear p38
    try clear q38
    try clear hx38
    try clear qi38
    try clear hf38
    try clear c43
    try clear c43b0
    try clear hx24_0
    try clear hx33_0
    try clear hx387_0
    try clear hx38_0
    try clear p2
    try clear p24
    try clear p3
    try clear p33
    try clear p38
    try clear p387
    try clear p6
    try clear q2
    try clear q24
    try clear q3
    try clear q33
    try clear q38
    try clear q387
    obtain ⟨kq, x79_41, rfl, HA, HJ41, HO_10, HO_11, HO_12, HB⟩ := hcut
    cases kq with
    | zero => exact absurd HA.out (by simp [ravelinlaw11_MergeHeld.j3])
    | succ kj41 => ?_
    have H := HA.out
    clear HA
    simp only [ravelinlaw11_MergeHeld.j3] at H
    by_cases c44 : x79_41 = true
    rotate_left
    · replace c44 := Bool.eq_false_iff.mpr c44
      subst c44
      have H1 : (ravelinlaw11_MergeHeld.j4 kj41 a3 (ji21) x10_1 x11_3 x12_2) = some r := by rw [if_neg (show ¬ (false = true) by decide)] at H; exact H
      clear H
      have H := H1
      clear H1
      have H' := Aside0.mk H
      clear H
      go_wp2
      (try simp only [← hl11_3])
      go_meet
      case rel => exact ⟨_, (x11_3), H', ⟨by have := HK1.out; have := HK2.out; have := HK3.out; have := HJ41.out; first | omega | exact Nat.le_refl _⟩, ⟨by (try simp only [hl11_2]); (try simp only [hl11_3]); (with_reducible repeat (first | apply Kd.R_alloc | apply Kd.R_drewN | apply Kd.R_drew)); exact HO_10.out⟩, ⟨by (try simp only [hl11_2]); (try simp only [hl11_3]); (with_reducible repeat (first | apply Kd.R_alloc | apply Kd.R_drewN | apply Kd.R_drew)); exact HO_11.out⟩, ⟨by (try simp only [hl11_2]); (try simp only [hl11_3]); (with_reducible repeat (first | apply Kd.R_alloc | apply Kd.R_drewN | apply Kd.R_drew)); exact HO_12.out⟩, ⟨by repeat (first | (with_reducible first | exact HB.out | apply below_alloc | apply pw_below_drewN | apply below_drew1) | exact HB.out)⟩⟩
    subst c44
    have H1 : (if 0 ≤ x16_3 then (if x16_3 < (x11_3.length : Int) then (if rdOf false x11_3 x16_3 = true then (if 0 ≤ (IntKind.u64.wrap (x16_3)) then (if (Go.bits .and .u32 (shr .u32 a2 (IntKind.u64.wrap (x16_3))) 1) = 0 then (ravelinlaw11_MergeHeld.j4 kj41 a3 (ji21) x10_1 x11_3 x12_2) else (ravelinlaw11_MergeHeld.l2 kj41 a2 a3 (ji21) x10_1 (x11_3.set (x16_3 : Int).toNat false) x12_2 (wrap64 (x16_3 + 1)))) else (none)) else (ravelinlaw11_MergeHeld.l2 kj41 a2 a3 (ji21) x10_1 x11_3 x12_2 (wrap64 (x16_3 + 1)))) else (none)) else (none)) = some r := by rw [if_pos rfl] at H; exact H
    clear H
    have H := H1
    clear H1
    by_cases c45 : 0 ≤ x16_3
    rotate_left
    · rw [if_neg c45] at H
      exact absurd H (by simp)
    rw [if_pos c45] at H
    have c45b0 : decide (0 ≤ x16_3) = true := decide_eq_true c45
    clear c45
    by_cases c46 : x16_3 < (x11_3.length : Int)
    rotate_left
    · rw [if_neg c46] at H
      exact absurd H (by simp)
    rw [if_pos c46] at H
    have c46b0 : decide (x16_3 < (x11_3.length : Int)) = true := decide_eq_true c46
    clear c46
    obtain ⟨bq47, hbq47⟩ : ∃ b_ : Bool, b_ = (rdOf false x11_3 x16_3) := ⟨_, rfl⟩
    replace H : (if bq47 = true then (if 0 ≤ (IntKind.u64.wrap (x16_3)) then (if (Go.bits .and .u32 (shr .u32 a2 (IntKind.u64.wrap (x16_3))) 1) = 0 then (ravelinlaw11_MergeHeld.j4 kj41 a3 (ji21) x10_1 x11_3 x12_2) else (ravelinlaw11_MergeHeld.l2 kj41 a2 a3 (ji21) x10_1 (x11_3.set (x16_3 : Int).toNat false) x12_2 (wrap64 (x16_3 + 1)))) else (none)) else (ravelinlaw11_MergeHeld.l2 kj41 a2 a3 (ji21) x10_1 x11_3 x12_2 (wrap64 (x16_3 + 1)))) = some r := by rw [← hbq47] at H; exact H
    have Nbq47 := Aside0.mk hbq47
    clear hbq47
    by_cases c48 : bq47 = true
    rotate_left
    · replace c48 := Bool.eq_false_iff.mpr c48
      subst c48
      have H1 : (ravelinlaw11_MergeHeld.l2 kj41 a2 a3 (ji21) x10_1 x11_3 x12_2 (wrap64 (x16_3 + 1))) = some r := by rw [if_neg (show ¬ (false = true) by decide)] at H; exact H
      clear H
      have H := H1
      clear H1
      have H' := Aside0.mk H
      clear H
      have p393 : 0 ≤ (x16_3 : Int) := of_decide_eq_true (by first | (with_reducible assumption) | assumption)
      have q393 : x16_3 < (x11_3.length : Int) := of_decide_eq_true (by first | (with_reducible assumption) | assumption)
      obtain ⟨ad393, e393, hx393_0⟩ := Kd.at_bool (Kd.R_reads' HO_11.out).2.2 x16_3 p393 q393
      (try rw [← Nbq47.out] at hx393_0)
      obtain rfl : (⟨go24, 0, none⟩ : Addr) = ad393 := (by injection e393)
      (first | simp only [add_plain] at hx393_0 | simp only [add_at] at hx393_0 | simp only [Addr.add, Nat.zero_add] at hx393_0 | skip)
      replace p393 := eq_true p393
      replace q393 := eq_true q393
      go_wp2
      (try simp only [← hl11_3])
      go_roundg kj41
      case measure => have := HK1.out; have := HK2.out; have := HK3.out; have := HJ41.out; omega
      case rel => exact ⟨(x11_3), (wrap64 (x16_3 + 1)), (by first | rfl | (simp; done) | (simp [*]; done)), H', ⟨by have := HK1.out; have := HK2.out; have := HK3.out; have := HJ41.out; omega⟩, ⟨by (try simp only [hl11_2]); (try simp only [hl11_3]); (with_reducible repeat (first | apply Kd.R_alloc | apply Kd.R_drewN | apply Kd.R_drew)); exact HO_10.out⟩, ⟨by (try simp only [hl11_2]); (try simp only [hl11_3]); (with_reducible repeat (first | apply Kd.R_alloc | apply Kd.R_drewN | apply Kd.R_drew)); exact HO_11.out⟩, ⟨by (try simp only [hl11_2]); (try simp only [hl11_3]); (with_reducible repeat (first | apply Kd.R_alloc | apply Kd.R_drewN | apply Kd.R_drew)); exact HO_12.out⟩, ⟨by repeat (first | (with_reducible first | exact HB.out | apply below_alloc | apply pw_below_drewN | apply below_drew1) | exact HB.out)⟩⟩
    subst c48
    have H1 : (if 0 ≤ (IntKind.u64.wrap (x16_3)) then (if (Go.bits .and .u32 (shr .u32 a2 (IntKind.u64.wrap (x16_3))) 1) = 0 then (ravelinlaw11_MergeHeld.j4 kj41 a3 (ji21) x10_1 x11_3 x12_2) else (ravelinlaw11_MergeHeld.l2 kj41 a2 a3 (ji21) x10_1 (x11_3.set (x16_3 : Int).toNat false) x12_2 (wrap64 (x16_3 + 1)))) else (none)) = some r := by rw [if_pos rfl] at H; exact H
    clear H
    have H := H1
    clear H1
    obtain ⟨ji49, hji49⟩ : ∃ j_ : Int, (IntKind.u64.wrap (x16_3)) = j_ := ⟨_, rfl⟩
    replace H : (if 0 ≤ (ji49) then (if (Go.bits .and .u32 (shr .u32 a2 (ji49)) 1) = 0 then (ravelinlaw11_MergeHeld.j4 kj41 a3 (ji21) x10_1 x11_3 x12_2) else (ravelinlaw11_MergeHeld.l2 kj41 a2 a3 (ji21) x10_1 (x11_3.set (x16_3 : Int).toNat false) x12_2 (wrap64 (x16_3 + 1)))) else (none)) = some r := by first | (rw [hji49] at H; exact H) | (simp only [hji49] at H ⊢; exact H)
    by_cases c50 : 0 ≤ (ji49)
    rotate_left
    · rw [if_neg c50] at H
      exact absurd H (by simp)
    rw [if_pos c50] at H
    have c50b0 := eq_true c50
    have c50b1 : decide (0 ≤ (ji49)) = true := decide_eq_true c50
    clear c50
    obtain ⟨ji51, hji51⟩ : ∃ j_ : Int, (shr .u32 a2 (ji49)) = j_ := ⟨_, rfl⟩
    replace H : (if (Go.bits .and .u32 (ji51) 1) = 0 then (ravelinlaw11_MergeHeld.j4 kj41 a3 (ji21) x10_1 x11_3 x12_2) else (ravelinlaw11_MergeHeld.l2 kj41 a2 a3 (ji21) x10_1 (x11_3.set (x16_3 : Int).toNat false) x12_2 (wrap64 (x16_3 + 1)))) = some r := by first | (rw [hji51] at H; exact H) | (simp only [hji51] at H ⊢; exact H)
    have hji51_ : (a2 / 2 ^ min (ji49).toNat 32) = ji51 := hji51
    have hji51z : (ji49) ≤ 32 → (a2 / 2 ^ (ji49).toNat) = ji51 := shr_small hji51
    by_cases c52 : (Go.bits .and .u32 (ji51) 1) = 0
    · rw [if_pos c52] at H
      have c52b0 : ((Go.bits .and .u32 (ji51) 1) == 0) = true := beq_iff_eq.mpr c52
      have c52b1 : ((Go.bits .and .u32 (ji51) 1) != 0) = false := bne_eq_false_iff_eq.mpr c52
      clear c52
      have H' := Aside0.mk H
      clear H
      have p393 : 0 ≤ (x16_3 : Int) := of_decide_eq_true (by first | (with_reducible assumption) | assumption)
      have q393 : x16_3 < (x11_3.length : Int) := of_decide_eq_true (by first | (with_reducible assumption) | assumption)
      obtain ⟨ad393, e393, hx393_0⟩ := Kd.at_bool (Kd.R_reads' HO_11.out).2.2 x16_3 p393 q393
      (try rw [← Nbq47.out] at hx393_0)
      obtain rfl : (⟨go24, 0, none⟩ : Addr) = ad393 := (by injection e393)
      (first | simp only [add_plain] at hx393_0 | simp only [add_at] at hx393_0 | simp only [Addr.add, Nat.zero_add] at hx393_0 | skip)
      replace p393 := eq_true p393
      replace q393 := eq_true q393
      go_wp2
      (try simp only [← hl11_3])
      go_meet
      case rel => exact ⟨_, (x11_3), H', ⟨by have := HK1.out; have := HK2.out; have := HK3.out; have := HJ41.out; first | omega | exact Nat.le_refl _⟩, ⟨by (try simp only [hl11_2]); (try simp only [hl11_3]); (with_reducible repeat (first | apply Kd.R_alloc | apply Kd.R_drewN | apply Kd.R_drew)); exact HO_10.out⟩, ⟨by (try simp only [hl11_2]); (try simp only [hl11_3]); (with_reducible repeat (first | apply Kd.R_alloc | apply Kd.R_drewN | apply Kd.R_drew)); exact HO_11.out⟩, ⟨by (try simp only [hl11_2]); (try simp only [hl11_3]); (with_reducible repeat (first | apply Kd.R_alloc | apply Kd.R_drewN | apply Kd.R_drew)); exact HO_12.out⟩, ⟨by repeat (first | (with_reducible first | exact HB.out | apply below_alloc | apply pw_below_drewN | apply below_drew1) | exact HB.out)⟩⟩
    rw [if_neg c52] at H
    have c52b0 : ((Go.bits .and .u32 (ji51) 1) == 0) = false := beq_eq_false_iff_ne.mpr c52
    have c52b1 : ((Go.bits .and .u32 (ji51) 1) != 0) = true := bne_iff_ne.mpr c52
    obtain ⟨y394, hy394⟩ : ∃ y_ : List Bool, y_ = (x11_3.set (x16_3 : Int).toNat false) := ⟨_, rfl⟩
    replace H : (ravelinlaw11_MergeHeld.l2 kj41 a2 a3 (ji21) x10_1 y394 x12_2 (wrap64 (x16_3 + 1))) = some r := by first | (rw [hy394]; with_reducible exact H) | (have H2_ := (Option.bind_some _ _).symm.trans H; rw [hy394]; with_reducible exact H2_) | (have H2_ := (Option.bind_some _ _).symm.trans H; with_reducible exact H2_) | with_reducible exact H | (rw [hy394]; exact H) | exact H
    have Ny394 := Aside0.mk hy394
    clear hy394
    have H' := Aside0.mk H
    clear H
    have p393 : 0 ≤ (x16_3 : Int) := of_decide_eq_true (by first | (with_reducible assumption) | assumption)
    have q393 : x16_3 < (x11_3.length : Int) := of_decide_eq_true (by first | (with_reducible assumption) | assumption)
    obtain ⟨ad393, e393, hx393_0⟩ := Kd.at_bool (Kd.R_reads' HO_11.out).2.2 x16_3 p393 q393
    (try rw [← Nbq47.out] at hx393_0)
    obtain rfl : (⟨go24, 0, none⟩ : Addr) = ad393 := (by injection e393)
    (first | simp only [add_plain] at hx393_0 | simp only [add_at] at hx393_0 | simp only [Addr.add, Nat.zero_add] at hx393_0 | skip)
    replace p393 := eq_true p393
    replace q393 := eq_true q393
    have p53 : 0 ≤ (x16_3 : Int) := of_decide_eq_true (by first | (with_reducible assumption) | assumption)
    have q53 : (x16_3 : Int) < ((x11_3.length : Int) : Int) := of_decide_eq_true (by first | (with_reducible assumption) | assumption)
    obtain ⟨hx53_0, hf53_0⟩ := Kd.R_celln false HO_11.out (x16_3 : Int) p53 q53
    replace p53 := eq_true p53
    replace q53 := eq_true q53
    have HP54 := Kd.R_putg HO_11.out (x16_3 : Int) false
    go_wp2_with (first | ((with_reducible refine gate_store (t := 4) (p := 95) rfl ?_); refine store_event (t := 4) (p := 95) (v := ?vo_w55) (w1 := (wc.setCell ⟨go24, (x16_3 : Int).toNat, none⟩ (.bool false))) ?hg ?ho ?hn ?hr ?_; (case ho => rfl); (case hg => rfl); (case hn => rfl); (case hr => first | (go_simp; done) | (go_simp; rfl)); intro w55 hw; have hg : wc.grownBy w55 (some go24) := (by rw [hw]; exact HP54.2); have hp_ : Kd.R Kd.bool 4 w55 w.heap.size (fun _ => True) (.slice (some ⟨go24, 0, none⟩) x11_3.length co24) y394 := (by rw [hw, Ny394.out]; exact HP54.1); clear HP54; have n0_ := Aside0.mk (Kd.R_over' (v := (.slice (some ⟨go24, 0, none⟩) x11_3.length co24)) (by (with_reducible repeat (first | apply Kd.R_alloc | apply Kd.R_drewN | apply Kd.R_drew)); exact HO_10.out) (Kd.R_typed HO_11.out) (by decide) hg); have n1_ := Aside0.mk (hp_); have n2_ := Aside0.mk (Kd.R_over' (v := (.slice (some ⟨go24, 0, none⟩) x11_3.length co24)) (by (with_reducible repeat (first | apply Kd.R_alloc | apply Kd.R_drewN | apply Kd.R_drew)); exact HO_12.out) (Kd.R_typed HO_11.out) (by decide) hg); have n3_ := Aside0.mk ((by rw [hw]; exact below_set (HB.out) GB24.out : Below w.heap.size w w55)); clear HO_10; clear HO_11; clear HO_12; clear HB; have HO_10 := n0_; have HO_11 := n1_; have HO_12 := n2_; have HB := n3_; clear n0_ n1_ n2_ n3_; clear hg hw hp_))
    (try simp only [← hl11_3])
    go_roundg kj41
    case measure => have := HK1.out; have := HK2.out; have := HK3.out; have := HJ41.out; omega
    case rel => exact ⟨(y394), (wrap64 (x16_3 + 1)), (by first | rfl | (simp; done) | (simp [*]; done)), H', ⟨by have := HK1.out; have := HK2.out; have := HK3.out; have := HJ41.out; omega⟩, ⟨by (try simp only [hl11_2]); (try simp only [hl11_3]); (with_reducible repeat (first | apply Kd.R_alloc | apply Kd.R_drewN | apply Kd.R_drew)); exact HO_10.out⟩, ⟨by (try simp only [hl11_2]); (try simp only [hl11_3]); (with_reducible repeat (first | apply Kd.R_alloc | apply Kd.R_drewN | apply Kd.R_drew)); exact HO_11.out⟩, ⟨by (try simp only [hl11_2]); (try simp only [hl11_3]); (with_reducible repeat (first | apply Kd.R_alloc | apply Kd.R_drewN | apply Kd.R_drew)); exact HO_12.out⟩, ⟨by repeat (first | (with_reducible first | exact HB.out | apply below_alloc | apply pw_below_drewN | apply below_drew1) | exact HB.out)⟩⟩
  clear HC39
  try clear c1
  try clear c2
  try clear p2
  try clear q2
  try clear hx2
  try clear c3
  try clear p3
  try clear q3
  try clear hx3
  try clear qi3
  try clear c4
  try clear q4
  try clear c5
  try clear p5
  try clear q5
  try clear hx5
  try clear hf5
  try clear c6
  try clear p6
  try clear c7
  try clear c7b0
  try clear c7b1
  try clear c8
  try clear c10
  try clear c10b0
  try clear c10b1
  try clear c11
  try clear c11b0
  try clear c11b1
  try clear c15
  try clear c15b0
  try clear c17
  try clear c17b0
  try clear c17b1
  try clear c19
  try clear c22
  try clear c22b0
  try clear c23
  try clear c23b0
  try clear p24
  try clear q24
  try clear hx24
  try clear hf24
  try clear c27
  try clear c27b0
  try clear c28
  try clear c28b0
  try clear c29
  try clear c31
  try clear c31b0
  try clear c32
  try clear c32b0
  try clear p33
  try clear q33
  try clear hx33
  try clear hf33
  try clear c37
  try clear c37b0
  try clear c37b1
  try clear p38
  try clear q38
  try clear hx38
  try clear qi38
  try clear hf38
  try clear p39
  try clear q39
  try clear hx39
  try clear c43
  try clear c43b0
  try clear c44
  try clear c45
  try clear c45b0
  try clear c46
  try clear c46b0
  try clear q47
  try clear c48
  try clear c50
  try clear c50b0
  try clear c50b1
  try clear c52
  try clear c52b0
  try clear c52b1
  try clear p53
  try clear q53
  try clear hx53
  try clear hf53
  try clear hx24_0
  try clear hx33_0
  try clear hx387_0
  try clear hx38_0
  try clear hx393_0
  try clear hx53_0
  try clear p2
  try clear p24
  try clear p3
  try clear p33
  try clear p38
  try clear p387
  try clear p393
  try clear p53
  try clear p6
  try clear q2
  try clear q24
  try clear q3
  try clear q33
  try clear q38
  try clear q387
  try clear q393
  try clear q53
  obtain ⟨kq, x11_38, HA, HJ38, HO_10, HO_11, HO_12, HB⟩ := hcut
  have hl11_38 := (Kd.R_reads' HO_11.out).1
  rw [hl11_38] at HO_11
  (try simp only [hl11_38])
  (try simp only [hl11_38] at HO_10)
  (try simp only [hl11_38] at HO_12)
  cases kq with
  | zero => exact absurd HA.out (by simp [ravelinlaw11_MergeHeld.j4])
  | succ kj38 => ?_
  have H := HA.out
  clear HA
  simp only [ravelinlaw11_MergeHeld.j4] at H
  replace H := Option.bind_eq_some_iff.mp H
  obtain ⟨t395, A560, H⟩ := H
  replace H : (ravelinlaw11_MergeHeld.l3 kj38 x11_38 t395 0 (ji21)) = some r := H
  have A56 := Aside0.mk A560
  clear A560
  have H' := Aside0.mk H
  clear H
  obtain ⟨Ao57, co57, eo57⟩ := Kd.R_slice HO_10.out
  subst eo57
  obtain ⟨Ao58, co58, eo58⟩ := Kd.R_slice HO_12.out
  subst eo58
  go_wp2_with (first | ((with_reducible refine gate_callee (f := 16) rfl ?_); refine goesL_ (some 99) rfl rfl Try.func16 (by kernel_rfl) rfl #[.slice Ao57 x10_1.length co57, .slice Ao58 x12_2.length co58, .bool a3] rfl (by (try simp only [List.map_toArray, List.map_cons, List.map_nil]); first | done | rfl | (simp only [List.length_drop, List.length_take]; rfl)) ?_; (with_reducible refine (merge_Pack.calls kj38 _ _ x10_1 _ _ x12_2 a3 t395 _ ?side1 ?side2 ?side3 ?side4 A56.out).mono ?_); (case side1 => repeat (first | exact (Kd.R_reads' HO_10.out).2.2 | (with_reducible refine Kd.C_alloc ?_ _) | (with_reducible refine Kd.C_drewN ?_ _) | (with_reducible refine Kd.C_drew ?_))); (case side2 => exact (Kd.R_reads' HO_10.out).2.1); (case side3 => repeat (first | exact (Kd.R_reads' HO_12.out).2.2 | (with_reducible refine Kd.C_alloc ?_ _) | (with_reducible refine Kd.C_drewN ?_ _) | (with_reducible refine Kd.C_drew ?_))); (case side4 => exact (Kd.R_reads' HO_12.out).2.1); rintro e w59 ⟨v396, rfl, ho0, hb⟩; refine ⟨_, rfl, ?_⟩; have n0_ := Aside0.mk (Kd.R_elder' (by (with_reducible repeat (first | apply Kd.R_alloc | apply Kd.R_drewN | apply Kd.R_drew)); exact HO_10.out) (Kd.R_base ho0) hb); have n1_ := Aside0.mk (Kd.R_below (by (with_reducible repeat (first | apply Kd.R_alloc | apply Kd.R_drewN | apply Kd.R_drew)); exact HO_11.out) hb); have n2_ := Aside0.mk (Kd.R_below (by (with_reducible repeat (first | apply Kd.R_alloc | apply Kd.R_drewN | apply Kd.R_drew)); exact HO_12.out) hb); have n3_ := Aside0.mk (Kd.R_lower (Kd.R_new' ho0 (Kd.R_lt (by (with_reducible repeat (first | apply Kd.R_alloc | apply Kd.R_drewN | apply Kd.R_drew)); exact HO_10.out))) (below_size (by repeat (first | (with_reducible first | exact HB.out | apply below_alloc | apply pw_below_drewN | apply below_drew1) | exact HB.out)))); have n4_ := Aside0.mk (below_step (by repeat (first | (with_reducible first | exact HB.out | apply below_alloc | apply pw_below_drewN | apply below_drew1) | exact HB.out)) hb); clear HO_10; clear HO_11; clear HO_12; clear HB; have HO_10 := n0_; have HO_11 := n1_; have HO_12 := n2_; have HO397 := n3_; have HB := n4_; clear n0_ n1_ n2_ n3_ n4_; (try clear hb); (try clear hb2); (try clear hk); (try clear hi); (try clear ho0)))
  go_loopg [18, 19] kj38 (fun kq v18 v19 w' => ∃ (x18_4 : Int) (x19_4 : Int), v18 = .int .i64 x18_4 ∧ v19 = .int .i64 x19_4 ∧ Aside0 (ravelinlaw11_MergeHeld.l3 kq x11_38 t395 x18_4 x19_4 = some r) ∧ Aside0 (kq ≤ kj38) ∧ Aside0 (Kd.R Kd.bool 4 w' w.heap.size (fun _ => True) (.slice (some ⟨go24, 0, none⟩) x11_38.length co24) x11_38) ∧ Aside0 (Kd.R k39 39 w' w.heap.size (fun _ => True) v396 t395) ∧ Aside0 (Below w.heap.size w w'))
  case atStart => exact ⟨(0), ((ji21)), (by first | rfl | (simp; done) | (simp [*]; done)), (by first | rfl | (simp; done) | (simp only [← hji21] <;> (first | rfl | simp)) | (simp [*]; done)), H', ⟨Nat.le_refl _⟩, ⟨by (try simp only [hl11_2]); (try simp only [hl11_38]); (with_reducible repeat (first | apply Kd.R_alloc | apply Kd.R_drewN | apply Kd.R_drew)); exact HO_11.out⟩, ⟨by (try simp only [hl11_2]); (try simp only [hl11_38]); (with_reducible repeat (first | apply Kd.R_alloc | apply Kd.R_drewN | apply Kd.R_drew)); exact Kd.R_mono HO397.out (fun _ hk => trivial)⟩, ⟨by repeat (first | (with_reducible first | exact HB.out | apply below_alloc | apply pw_below_drewN | apply below_drew1) | exact HB.out)⟩⟩
  clear H'
  try clear c1
  try clear c2
  try clear p2
  try clear q2
  try clear hx2
  try clear c3
  try clear p3
  try clear q3
  try clear hx3
  try clear qi3
  try clear c4
  try clear q4
  try clear c5
  try clear p5
  try clear q5
  try clear hx5
  try clear hf5
  try clear c6
  try clear p6
  try clear c7
  try clear c7b0
  try clear c7b1
  try clear c8
  try clear c10
  try clear c10b0
  try clear c10b1
  try clear c11
  try clear c11b0
  try clear c11b1
  try clear c15
  try clear c15b0
  try clear c16
  try clear c17
  try clear c17b0
  try clear c17b1
  try clear c19
  try clear c22
  try clear c22b0
  try clear c23
  try clear c23b0
  try clear p24
  try clear q24
  try clear hx24
  try clear hf24
  try clear c27
  try clear c27b0
  try clear c28
  try clear c28b0
  try clear c29
  try clear c31
  try clear c31b0
  try clear c32
  try clear c32b0
  try clear p33
  try clear q33
  try clear hx33
  try clear hf33
  try clear c37
  try clear c37b0
  try clear c37b1
  try clear p38
  try clear q38
  try clear hx38
  try clear qi38
  try clear hf38
  try clear p39
  try clear q39
  try clear hx39
  try clear c43
  try clear c43b0
  try clear c44
  try clear c45
  try clear c45b0
  try clear c46
  try clear c46b0
  try clear q47
  try clear c48
  try clear c50
  try clear c50b0
  try clear c50b1
  try clear c52
  try clear c52b0
  try clear c52b1
  try clear p53
  try clear q53
  try clear hx53
  try clear hf53
  try clear hx24_0
  try clear hx33_0
  try clear hx387_0
  try clear hx38_0
  try clear hx393_0
  try clear hx53_0
  try clear p2
  try clear p24
  try clear p3
  try clear p33
  try clear p38
  try clear p387
  try clear p39
  try clear p393
  try clear p5
  try clear p53
  try clear p6
  try clear q2
  try clear q24
  try clear q3
  try clear q33
  try clear q38
  try clear q387
  try clear q39
  try clear q393
  try clear q4
  try clear q47
  try clear q5
  try clear q53
  obtain ⟨x18_4, x19_4, rfl, rfl, HA, HK4, HO_11, HO_17, HB⟩ := hrel
  cases gk with
  | zero => exact absurd HA.out (by simp [ravelinlaw11_MergeHeld.l3])
  | succ k4 => ?_
  have H := HA.out
  clear HA
  simp only [ravelinlaw11_MergeHeld.l3] at H
  by_cases c60 : x19_4 ≥ 1
  rotate_left
  · rw [if_neg c60] at H
    have c60b0 : decide (1 ≤ x19_4) = false := decide_eq_false c60
    clear c60
    obtain rfl := Option.some.inj H
    obtain ⟨Ao70, co70, eo70⟩ := Kd.R_slice HO_17.out
    subst eo70
    go_wp2
    go_ret
    exact ⟨by first | rfl | (simp [errW_none, errW_some] <;> rfl) | (simp only [← hji9, ← hji21]; first | rfl | (simp [errW_none, errW_some] <;> rfl)) | (simp [*, errW_none, errW_some] <;> rfl), by repeat (first | (with_reducible first | exact HB.out | apply below_alloc | apply pw_below_drewN | apply below_drew1) | exact HB.out)⟩
  rw [if_pos c60] at H
  have c60b0 : decide (1 ≤ x19_4) = true := decide_eq_true c60
  clear c60
  by_cases c61 : 0 ≤ x19_4
  rotate_left
  · rw [if_neg c61] at H
    exact absurd H (by simp)
  rw [if_pos c61] at H
  have c61b0 : decide (0 ≤ x19_4) = true := decide_eq_true c61
  clear c61
  by_cases c62 : x19_4 < (x11_38.length : Int)
  rotate_left
  · rw [if_neg c62] at H
    exact absurd H (by simp)
  rw [if_pos c62] at H
  have c62b0 : decide (x19_4 < (x11_38.length : Int)) = true := decide_eq_true c62
  clear c62
  obtain ⟨bq63, hbq63⟩ : ∃ b_ : Bool, b_ = (rdOf false x11_38 x19_4) := ⟨_, rfl⟩
  replace H : (if bq63 = true then (if x18_4 ≥ (t395.length : Int) then (some false) else (if 0 ≤ x18_4 then (if x18_4 < (t395.length : Int) then (if ((rd_T39 t395 x18_4).f1) = x19_4 then (ravelinlaw11_MergeHeld.l3 k4 x11_38 t395 (wrap64 (x18_4 + 1)) (wrap64 (x19_4 - 1))) else (some false)) else (none)) else (none))) else (ravelinlaw11_MergeHeld.l3 k4 x11_38 t395 x18_4 (wrap64 (x19_4 - 1)))) = some r := by rw [← hbq63] at H; exact H
  have Nbq63 := Aside0.mk hbq63
  clear hbq63
  by_cases c64 : bq63 = true
  rotate_left
  · replace c64 := Bool.eq_false_iff.mpr c64
    subst c64
    have H1 : (ravelinlaw11_MergeHeld.l3 k4 x11_38 t395 x18_4 (wrap64 (x19_4 - 1))) = some r := by rw [if_neg (show ¬ (false = true) by decide)] at H; exact H
    clear H
    have H := H1
    clear H1
    have H' := Aside0.mk H
    clear H
    have p398 : 0 ≤ (x19_4 : Int) := of_decide_eq_true (by first | (with_reducible assumption) | assumption)
    have q398 : x19_4 < (x11_38.length : Int) := of_decide_eq_true (by first | (with_reducible assumption) | assumption)
    obtain ⟨ad398, e398, hx398_0⟩ := Kd.at_bool (Kd.R_reads' HO_11.out).2.2 x19_4 p398 q398
    (try rw [← Nbq63.out] at hx398_0)
    obtain rfl : (⟨go24, 0, none⟩ : Addr) = ad398 := (by injection e398)
    (first | simp only [add_plain] at hx398_0 | simp only [add_at] at hx398_0 | simp only [Addr.add, Nat.zero_add] at hx398_0 | skip)
    replace p398 := eq_true p398
    replace q398 := eq_true q398
    go_wp2
    go_roundg k4
    case measure => have := HK1.out; have := HK2.out; have := HJ38.out; have := HK4.out; omega
    case rel => exact ⟨(x18_4), (wrap64 (x19_4 - 1)), (by first | rfl | (simp; done) | (simp [*]; done)), (by first | rfl | (simp; done) | (simp [*]; done)), H', ⟨by have := HK1.out; have := HK2.out; have := HJ38.out; have := HK4.out; omega⟩, ⟨by (try simp only [hl11_2]); (try simp only [hl11_38]); (with_reducible repeat (first | apply Kd.R_alloc | apply Kd.R_drewN | apply Kd.R_drew)); exact HO_11.out⟩, ⟨by (try simp only [hl11_2]); (try simp only [hl11_38]); (with_reducible repeat (first | apply Kd.R_alloc | apply Kd.R_drewN | apply Kd.R_drew)); exact HO_17.out⟩, ⟨by repeat (first | (with_reducible first | exact HB.out | apply below_alloc | apply pw_below_drewN | apply below_drew1) | exact HB.out)⟩⟩
  subst c64
  have H1 : (if x18_4 ≥ (t395.length : Int) then (some false) else (if 0 ≤ x18_4 then (if x18_4 < (t395.length : Int) then (if ((rd_T39 t395 x18_4).f1) = x19_4 then (ravelinlaw11_MergeHeld.l3 k4 x11_38 t395 (wrap64 (x18_4 + 1)) (wrap64 (x19_4 - 1))) else (some false)) else (none)) else (none))) = some r := by rw [if_pos rfl] at H; exact H
  clear H
  have H := H1
  clear H1
  by_cases c65 : x18_4 ≥ (t395.length : Int)
  · rw [if_pos c65] at H
    have c65b0 : decide ((t395.length : Int) ≤ x18_4) = true := decide_eq_true c65
    clear c65
    exact absurd ((Option.some.inj H).trans HR_.out) (by decide)
  rw [if_neg c65] at H
  have c65b0 : decide ((t395.length : Int) ≤ x18_4) = false := decide_eq_false c65
  clear c65
  by_cases c66 : 0 ≤ x18_4
  rotate_left
  · rw [if_neg c66] at H
    exact absurd H (by simp)
  rw [if_pos c66] at H
  have c66b0 : decide (0 ≤ x18_4) = true := decide_eq_true c66
  clear c66
  by_cases c67 : x18_4 < (t395.length : Int)
  rotate_left
  · rw [if_neg c67] at H
    exact absurd H (by simp)
  rw [if_pos c67] at H
  have c67b0 : decide (x18_4 < (t395.length : Int)) = true := decide_eq_true c67
  clear c67
  by_cases c68 : ((rd_T39 t395 x18_4).f1) = x19_4
  rotate_left
  · rw [if_neg c68] at H
    have c68b0 : (((rd_T39 t395 x18_4).f1) == x19_4) = false := beq_eq_false_iff_ne.mpr c68
    have c68b1 : (((rd_T39 t395 x18_4).f1) != x19_4) = true := bne_iff_ne.mpr c68
    exact absurd ((Option.some.inj H).trans HR_.out) (by decide)
  rw [if_pos c68] at H
  have c68b0 : (((rd_T39 t395 x18_4).f1) == x19_4) = true := beq_iff_eq.mpr c68
  have c68b1 : (((rd_T39 t395 x18_4).f1) != x19_4) = false := bne_eq_false_iff_eq.mpr c68
  clear c68
  have H' := Aside0.mk H
  clear H
  have p398 : 0 ≤ (x19_4 : Int) := of_decide_eq_true (by first | (with_reducible assumption) | assumption)
  have q398 : x19_4 < (x11_38.length : Int) := of_decide_eq_true (by first | (with_reducible assumption) | assumption)
  obtain ⟨ad398, e398, hx398_0⟩ := Kd.at_bool (Kd.R_reads' HO_11.out).2.2 x19_4 p398 q398
  (try rw [← Nbq63.out] at hx398_0)
  obtain rfl : (⟨go24, 0, none⟩ : Addr) = ad398 := (by injection e398)
  (first | simp only [add_plain] at hx398_0 | simp only [add_at] at hx398_0 | simp only [Addr.add, Nat.zero_add] at hx398_0 | skip)
  replace p398 := eq_true p398
  replace q398 := eq_true q398
  obtain ⟨Ao69, co69, eo69⟩ := Kd.R_slice HO_17.out
  subst eo69
  have p399 : 0 ≤ (x18_4 : Int) := of_decide_eq_true (by first | (with_reducible assumption) | assumption)
  have q399 : x18_4 < (t395.length : Int) := of_decide_eq_true (by first | (with_reducible assumption) | assumption)
  obtain ⟨ad399, e399, hx399_0, hx399_1, hx399_2, hx399_3⟩ := at_T39 (Kd.R_reads' HO_17.out).2.2 x18_4 p399 q399
  (try rw [← Nbq63.out] at hx399_2)
  cases e399
  replace p399 := eq_true p399
  replace q399 := eq_true q399
  go_wp2
  go_roundg k4
  case measure => have := HK1.out; have := HK2.out; have := HJ38.out; have := HK4.out; omega
  case rel => exact ⟨(wrap64 (x18_4 + 1)), (wrap64 (x19_4 - 1)), (by first | rfl | (simp; done) | (simp [*]; done)), (by first | rfl | (simp; done) | (simp [*]; done)), H', ⟨by have := HK1.out; have := HK2.out; have := HJ38.out; have := HK4.out; omega⟩, ⟨by (try simp only [hl11_2]); (try simp only [hl11_38]); (with_reducible repeat (first | apply Kd.R_alloc | apply Kd.R_drewN | apply Kd.R_drew)); exact HO_11.out⟩, ⟨by (try simp only [hl11_2]); (try simp only [hl11_38]); (with_reducible repeat (first | apply Kd.R_alloc | apply Kd.R_drewN | apply Kd.R_drew)); exact HO_17.out⟩, ⟨by repeat (first | (with_reducible first | exact HB.out | apply below_alloc | apply pw_below_drewN | apply below_drew1) | exact HB.out)⟩⟩

/-- THE ONE PURE STATEMENT of ravelinlaw11_MergeHeld: yours. -/
def ravelinlaw11_MergeHeld.Pure : Prop := ∀ (a0 : Int) (l1 : List Int) (a2 : Int) (a3 : Bool), (Lit.int .u8 a0).wf = true → l1.length ≤ maxLen → l1.length * 1 ≤ 140737488351232 → (∀ x ∈ l1, (Lit.int .u8 x).wf = true) → (Lit.int .u32 a2).wf = true → ∃ k, ravelinlaw11_MergeHeld.f k a0 l1 a2 a3 = some true
theorem ravelinlaw11_MergeHeld.walk (P : ravelinlaw11_MergeHeld.Pure) (a0 : Int) (a1 : Option Addr) (len1 cap1 : Nat) (z1 : List Int) (a2 : Int) (a3 : Bool) (w : World) (w0 : (Lit.int .u8 a0).wf = true) (w1 : (a1 = none ∧ len1 = 0 ∧ cap1 = 0 ∧ z1 = []) ∨ ∃ x, a1 = some x ∧ len1 ≤ cap1 ∧ cap1 ≤ maxLen ∧ z1.length = cap1 ∧ (∀ i, i < z1.length → w.cell? (x.add i) = some (.int .u8 (z1.getD i 0))) ∧ ∀ n ∈ z1, (Lit.int .u8 n).wf = true) (y1 : len1 * 1 ≤ 140737488351232) (w2 : (Lit.int .u32 a2).wf = true) :
    Calls Try.prog 6 #[.int .u8 a0, .slice a1 len1 cap1, .int .u32 a2, .bool a3] w fun e w' => e = .returned (.bool true) ∧ Below w.heap.size w w' := by
  obtain ⟨l1, rfl, hr1, hm1, hw1, hc1⟩ := ReadsInt.ofRowC w1
  obtain ⟨k, h⟩ := P a0 l1 a2 a3 w0 hm1 y1 hw1 w2
  refine (ravelinlaw11_MergeHeld.calls k a0 _ _ l1 a2 a3 true w (Kd.C_of_reads (d := (0 : Int)) (h1 := fun _ => rfl) hr1) hc1 h rfl).mono ?_
  rintro e w' ⟨rfl, hd⟩
  exact ⟨rfl, hd⟩

end Go.Proofs.Ytjcpdbekdimceaa.P
