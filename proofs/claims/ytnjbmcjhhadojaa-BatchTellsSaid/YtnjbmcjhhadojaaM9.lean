-- Printed by a changed copy of the kit's printer (wip/tools/ext.py); labels and more
import Derived.Test.YtnjbmcjhhadojaaM0
import Derived.Test.YtnjbmcjhhadojaaM8
namespace Go.Proofs.Ytnjbmcjhhadojaa.P
open Go.RowKit Go.Proofs.YtnjbmcjhhadojaaW.PrintWords Go.Proofs.YtnjbmcjhhadojaaW.PrintLast Go.Proofs.YtnjbmcjhhadojaaW.PrintMore
attribute [local go_sem] max2_int min2_int max_two min_two max_three min_three max_four min_four   -- for this text's walks alone
attribute [local go_sem high] string_leq string_geq string_gtr
set_option linter.unusedVariables false
set_option linter.unusedSimpArgs false

/-! ### ravelinref3_Num: function 27 -/
def ravelinref3_Num.l0 : Nat → ByteArray → Int → Option (ByteArray)
  | 0, _, _ => none
  | k + 1, x3, x4 => if x4 > 0 then ((some (([(Int.tmod x4 256) % 256] : List Int) : List Int)).bind fun y256 => (if (strOfNums y256).size + x3.size ≤ 9223372036854775807 then (ravelinref3_Num.l0 k ((strOfNums y256) ++ x3) (wrap64 (Int.tdiv x4 256))) else (none))) else ((some (([((x3.size : Int)) % 256] : List Int) : List Int)).bind fun y259 => (if (strOfNums y259).size + x3.size ≤ 9223372036854775807 then (some ((strOfNums y259) ++ x3)) else (none)))
def ravelinref3_Num.f (k : Nat) (a0 : Int) : Option (ByteArray) := ravelinref3_Num.l0 k (⟨#[]⟩ : ByteArray) (mx 0 a0)
theorem ravelinref3_Num.mono_l : ∀ k, (∀ y0 y1, LeO (ravelinref3_Num.l0 k y0 y1) (ravelinref3_Num.l0 (k + 1) y0 y1))
  | 0 => fun _ _ r h => by simp [ravelinref3_Num.l0] at h
  | k + 1 => by
    have ih0 := ravelinref3_Num.mono_l k
    · intro y0 y1
      unfold ravelinref3_Num.l0
      repeat' first
      | (with_reducible exact ih0 _ _)
      | (with_reducible exact LeO.refl _)
      | (with_reducible exact LeO.none _)
      | (with_reducible refine LeO.ite ?_ ?_)
      | (with_reducible refine LeO.bind ?_ (fun _ => ?_))
      | exact ih0 _ _
      | exact LeO.none _
      | refine LeO.ite ?_ ?_
      | refine LeO.bind ?_ (fun _ => ?_)
theorem ravelinref3_Num.mono : ∀ a0 k, LeO (ravelinref3_Num.f k a0) (ravelinref3_Num.f (k + 1) a0) := by
  intro a0 k
  have ih0 := ravelinref3_Num.mono_l k
  unfold ravelinref3_Num.f
  repeat' first
      | (with_reducible exact ih0 _ _)
      | (with_reducible exact LeO.refl _)
      | (with_reducible exact LeO.none _)
      | (with_reducible refine LeO.ite ?_ ?_)
      | (with_reducible refine LeO.bind ?_ (fun _ => ?_))
      | exact ih0 _ _
      | exact LeO.none _
      | refine LeO.ite ?_ ?_
      | refine LeO.bind ?_ (fun _ => ?_)
set_option maxHeartbeats 8000000 in
set_option maxRecDepth 100000 in
theorem ravelinref3_Num.calls (k : Nat) (a0 : Int) (r : ByteArray) (w : World) (h : ravelinref3_Num.f k a0 = some r) :
    Calls Try.prog 27 #[.int .i64 a0] w fun e w' => e = .returned (.string r) ∧ Below w.heap.size w w' := by
  have HB := Aside0.mk (Below.refl w.heap.size w)
  have H : (ravelinref3_Num.l0 k (⟨#[]⟩ : ByteArray) (mx 0 a0)) = some r := h
  clear h
  obtain ⟨ji2, hji2⟩ : ∃ j_ : Int, (mx 0 a0) = j_ := ⟨_, rfl⟩
  replace H : (ravelinref3_Num.l0 k (⟨#[]⟩ : ByteArray) ji2) = some r := by first | (rw [hji2] at H; exact H) | (simp only [hji2] at H ⊢; exact H)
  (try (have hji2l : 0 ≤ ji2 := by (rw [← hji2]; unfold mx; (repeat' split) <;> omega)))
  (try (have hji2m : 0 ≤ ji2 := by omega))
  have hji2_ : (if 0 < a0 then a0 else 0) = ji2 := hji2
  (try (have hji2_n := hji2_; simp only [Int.ofNat_lt] at hji2_n))
  have H' := Aside0.mk H
  clear H
  go_enter Try.func27, Try.ntmps27
  go_wp2
  go_loopg [3, 4] k (fun kq v3 v4 w' => ∃ (x3_1 : ByteArray) (x4_1 : Int), v3 = .string x3_1 ∧ v4 = .int .i64 x4_1 ∧ Aside0 (ravelinref3_Num.l0 kq x3_1 x4_1 = some r) ∧ Aside0 (kq ≤ k) ∧ Aside0 (Below w.heap.size w w'))
  case atStart => exact ⟨((⟨#[]⟩ : ByteArray)), (ji2), (by first | rfl | (simp; done) | (simp [*]; done)), (by first | rfl | (simp; done) | (simp only [← hji2] <;> (first | rfl | simp)) | (simp [*]; done)), H', ⟨Nat.le_refl _⟩, ⟨by repeat (first | (with_reducible first | exact HB.out | apply below_alloc | apply pw_below_drewN | apply below_drew1) | exact HB.out)⟩⟩
  case round =>
    clear H'
    try clear c2
    try clear p2
    obtain ⟨x3_1, x4_1, rfl, rfl, HA, HK1, HB⟩ := hrel
    cases gk with
    | zero => exact absurd HA.out (by simp [ravelinref3_Num.l0])
    | succ k1 =>
      have H := HA.out
      clear HA
      simp only [ravelinref3_Num.l0] at H
      by_cases c3 : x4_1 > 0
      · rw [if_pos c3] at H
        have c3b0 : decide (0 < x4_1) = true := decide_eq_true c3
        clear c3
        obtain ⟨y256, hy256⟩ : ∃ y_ : List Int, y_ = (([(Int.tmod x4_1 256) % 256] : List Int)) := ⟨_, rfl⟩
        replace H : (if (strOfNums y256).size + x3_1.size ≤ 9223372036854775807 then (ravelinref3_Num.l0 k1 ((strOfNums y256) ++ x3_1) (wrap64 (Int.tdiv x4_1 256))) else (none)) = some r := by first | (rw [hy256]; with_reducible exact H) | (have H2_ := (Option.bind_some _ _).symm.trans H; rw [hy256]; with_reducible exact H2_) | (have H2_ := (Option.bind_some _ _).symm.trans H; with_reducible exact H2_) | with_reducible exact H | (rw [hy256]; exact H) | exact H
        have Ny256 := Aside0.mk hy256
        clear hy256
        by_cases c4 : (strOfNums y256).size + x3_1.size ≤ 9223372036854775807
        · rw [if_pos c4] at H
          have c4b0 := eq_true c4
          have c4b1 : decide ((strOfNums y256).size + x3_1.size ≤ 9223372036854775807) = true := decide_eq_true c4
          try have c4b2 : (9223372036854775807 < (strOfNums y256).size + x3_1.size) = False := eq_false (Nat.not_lt.2 c4)
          have H' := Aside0.mk H
          clear H
          go_wp2_with (first | ((with_reducible refine gate_dst (N := 14) rfl ?_); refine Kd.R_lit (Kd.int .u8) _ 5 ?hg (N := 14) ?hd (xs := ([(Int.tmod x4_1 256) % 256] : List Int)) (inner := [.int .u8 ((Int.tmod x4_1 256) % 256)]) (ok := fun _ => True) (okp := fun _ => True) ?hr ?hp (fun _ hk => hk) trivial (Below.refl _ _) (Nat.le_refl _) (by simp) ?_; (case hd => rfl); (case hg => rfl); (case hr => first | (go_simp; done) | (go_simp; rfl)); (case hp => exact (Reps.one (show Kd.M (Kd.int .u8) _ _ _ ((Int.tmod x4_1 256) % 256) [.int .u8 ((Int.tmod x4_1 256) % 256)] from rfl) (Reps.none _ _))); intro v257 w5 ho6 hb hg_ hnew_; clear hg_ hnew_; (first | rw [← Ny256.out] at ho6 | (simp only [Int.reduceToNat] at ho6; rw [← Ny256.out] at ho6)); have n0_ := Aside0.mk (Kd.R_lower ho6 (below_size (by repeat (first | (with_reducible first | exact HB.out | apply below_alloc | apply pw_below_drewN | apply below_drew1) | exact HB.out)))); have n1_ := Aside0.mk (below_step (by repeat (first | (with_reducible first | exact HB.out | apply below_alloc | apply pw_below_drewN | apply below_drew1) | exact HB.out)) hb); clear HB; have HO258 := n0_; have HB := n1_; clear n0_ n1_; clear hb ho6; have hcv7 := own_string (P := Try.prog) Try.underlying46 Try.underlying5 Try.underlying9 (Kd.own_of_R HO258.out)))
          go_roundg k1
          case measure => have := HK1.out; omega
          case rel => exact ⟨((strOfNums y256) ++ x3_1), (wrap64 (Int.tdiv x4_1 256)), (by first | rfl | (simp; done) | (simp [*]; done)), (by first | rfl | (simp; done) | (simp [*]; done)), H', ⟨by have := HK1.out; omega⟩, ⟨by repeat (first | (with_reducible first | exact HB.out | apply below_alloc | apply pw_below_drewN | apply below_drew1) | exact HB.out)⟩⟩
        · rw [if_neg c4] at H
          exact absurd H (by simp)
      · rw [if_neg c3] at H
        have c3b0 : decide (0 < x4_1) = false := decide_eq_false c3
        clear c3
        obtain ⟨y259, hy259⟩ : ∃ y_ : List Int, y_ = (([((x3_1.size : Int)) % 256] : List Int)) := ⟨_, rfl⟩
        replace H : (if (strOfNums y259).size + x3_1.size ≤ 9223372036854775807 then (some ((strOfNums y259) ++ x3_1)) else (none)) = some r := by first | (rw [hy259]; with_reducible exact H) | (have H2_ := (Option.bind_some _ _).symm.trans H; rw [hy259]; with_reducible exact H2_) | (have H2_ := (Option.bind_some _ _).symm.trans H; with_reducible exact H2_) | with_reducible exact H | (rw [hy259]; exact H) | exact H
        have Ny259 := Aside0.mk hy259
        clear hy259
        by_cases c8 : (strOfNums y259).size + x3_1.size ≤ 9223372036854775807
        · rw [if_pos c8] at H
          have c8b0 := eq_true c8
          have c8b1 : decide ((strOfNums y259).size + x3_1.size ≤ 9223372036854775807) = true := decide_eq_true c8
          try have c8b2 : (9223372036854775807 < (strOfNums y259).size + x3_1.size) = False := eq_false (Nat.not_lt.2 c8)
          obtain rfl := Option.some.inj H
          go_wp2_with (first | ((with_reducible refine gate_dst (N := 21) rfl ?_); refine Kd.R_lit (Kd.int .u8) _ 5 ?hg (N := 21) ?hd (xs := ([((x3_1.size : Int)) % 256] : List Int)) (inner := [.int .u8 (((x3_1.size : Int)) % 256)]) (ok := fun _ => True) (okp := fun _ => True) ?hr ?hp (fun _ hk => hk) trivial (Below.refl _ _) (Nat.le_refl _) (by simp) ?_; (case hd => rfl); (case hg => rfl); (case hr => first | (go_simp; done) | (go_simp; rfl)); (case hp => exact (Reps.one (show Kd.M (Kd.int .u8) _ _ _ (((x3_1.size : Int)) % 256) [.int .u8 (((x3_1.size : Int)) % 256)] from rfl) (Reps.none _ _))); intro v260 w9 ho10 hb hg_ hnew_; clear hg_ hnew_; (first | rw [← Ny259.out] at ho10 | (simp only [Int.reduceToNat] at ho10; rw [← Ny259.out] at ho10)); have n0_ := Aside0.mk (Kd.R_lower ho10 (below_size (by repeat (first | (with_reducible first | exact HB.out | apply below_alloc | apply pw_below_drewN | apply below_drew1) | exact HB.out)))); have n1_ := Aside0.mk (below_step (by repeat (first | (with_reducible first | exact HB.out | apply below_alloc | apply pw_below_drewN | apply below_drew1) | exact HB.out)) hb); clear HB; have HO261 := n0_; have HB := n1_; clear n0_ n1_; clear hb ho10; have hcv11 := own_string (P := Try.prog) Try.underlying46 Try.underlying5 Try.underlying9 (Kd.own_of_R HO261.out)))
          go_ret
          exact ⟨by first | rfl | (simp [errW_none, errW_some] <;> rfl) | (simp only [← hji2]; first | rfl | (simp [errW_none, errW_some] <;> rfl)) | (simp [*, errW_none, errW_some] <;> rfl), by repeat (first | (with_reducible first | exact HB.out | apply below_alloc | apply pw_below_drewN | apply below_drew1) | exact HB.out)⟩
        · rw [if_neg c8] at H
          exact absurd H (by simp)

/-! ### ravelinref3_four: function 45 -/
def ravelinref3_four.f (a0 : Int) : Option (ByteArray) := some (strOfNums (([(a0 / 16777216) % 256, (a0 / 65536) % 256, (a0 / 256) % 256, (a0) % 256] : List Int)))
set_option maxHeartbeats 8000000 in
set_option maxRecDepth 100000 in
theorem ravelinref3_four.calls (a0 : Int) (r : ByteArray) (w : World) (h : ravelinref3_four.f a0 = some r) :
    Calls Try.prog 45 #[.int .u32 a0] w fun e w' => e = .returned (.string r) ∧ Below w.heap.size w w' := by
  have HB := Aside0.mk (Below.refl w.heap.size w)
  have H : (some (strOfNums (([(a0 / 16777216) % 256, (a0 / 65536) % 256, (a0 / 256) % 256, (a0) % 256] : List Int)))) = some r := h
  clear h
  obtain ⟨y262, hy262⟩ : ∃ y_ : List Int, y_ = (([(a0 / 16777216) % 256, (a0 / 65536) % 256, (a0 / 256) % 256, (a0) % 256] : List Int)) := ⟨_, rfl⟩
  replace H : (some (strOfNums y262)) = some r := by first | (rw [hy262]; with_reducible exact H) | (have H2_ := (Option.bind_some _ _).symm.trans H; rw [hy262]; with_reducible exact H2_) | (have H2_ := (Option.bind_some _ _).symm.trans H; with_reducible exact H2_) | with_reducible exact H | (rw [hy262]; exact H) | exact H
  have Ny262 := Aside0.mk hy262
  clear hy262
  obtain rfl := Option.some.inj H
  go_enter Try.func45, Try.ntmps45
  go_wp2_with (first | ((with_reducible refine gate_dst (N := 14) rfl ?_); refine Kd.R_lit (Kd.int .u8) _ 5 ?hg (N := 14) ?hd (xs := ([(a0 / 16777216) % 256, (a0 / 65536) % 256, (a0 / 256) % 256, (a0) % 256] : List Int)) (inner := [.int .u8 ((a0 / 16777216) % 256), .int .u8 ((a0 / 65536) % 256), .int .u8 ((a0 / 256) % 256), .int .u8 ((a0) % 256)]) (ok := fun _ => True) (okp := fun _ => True) ?hr ?hp (fun _ hk => hk) trivial (Below.refl _ _) (Nat.le_refl _) (by simp) ?_; (case hd => rfl); (case hg => rfl); (case hr => first | (go_simp; done) | (go_simp; rfl)); (case hp => exact (Reps.one (show Kd.M (Kd.int .u8) _ _ _ ((a0 / 16777216) % 256) [.int .u8 ((a0 / 16777216) % 256)] from rfl) (Reps.one (show Kd.M (Kd.int .u8) _ _ _ ((a0 / 65536) % 256) [.int .u8 ((a0 / 65536) % 256)] from rfl) (Reps.one (show Kd.M (Kd.int .u8) _ _ _ ((a0 / 256) % 256) [.int .u8 ((a0 / 256) % 256)] from rfl) (Reps.one (show Kd.M (Kd.int .u8) _ _ _ ((a0) % 256) [.int .u8 ((a0) % 256)] from rfl) (Reps.none _ _)))))); intro v263 w2 ho3 hb hg_ hnew_; clear hg_ hnew_; (first | rw [← Ny262.out] at ho3 | (simp only [Int.reduceToNat] at ho3; rw [← Ny262.out] at ho3)); have n0_ := Aside0.mk (Kd.R_lower ho3 (below_size (by repeat (first | (with_reducible first | exact HB.out | apply below_alloc | apply pw_below_drewN | apply below_drew1) | exact HB.out)))); have n1_ := Aside0.mk (below_step (by repeat (first | (with_reducible first | exact HB.out | apply below_alloc | apply pw_below_drewN | apply below_drew1) | exact HB.out)) hb); clear HB; have HO264 := n0_; have HB := n1_; clear n0_ n1_; clear hb ho3; have hcv4 := own_string (P := Try.prog) Try.underlying46 Try.underlying5 Try.underlying9 (Kd.own_of_R HO264.out)))
  go_ret
  exact ⟨by first | rfl | (simp [errW_none, errW_some] <;> rfl) | (simp [*, errW_none, errW_some] <;> rfl), by repeat (first | (with_reducible first | exact HB.out | apply below_alloc | apply pw_below_drewN | apply below_drew1) | exact HB.out)⟩

/-! ### ravelinref3_Sum: function 46 -/
def ravelinref3_Sum.l0 : Nat → ByteArray → Int → Int → Int → Option (Int)
  | 0, _, _, _, _ => none
  | k + 1, x0, x3, x4, x5 => if x5 < (x0.size : Int) then (if 0 ≤ x5 then (ravelinref3_Sum.l0 k x0 (((x3 + ((bt x0 x5) % 4294967296)) % 4294967296) % 65521) (((x4 + (((x3 + ((bt x0 x5) % 4294967296)) % 4294967296) % 65521)) % 4294967296) % 65521) (wrap64 (x5 + 1))) else (none)) else (some ((((x4 * 65536) % 4294967296) + x3) % 4294967296))
def ravelinref3_Sum.f (k : Nat) (a0 : ByteArray) : Option (Int) := ravelinref3_Sum.l0 k a0 1 0 0
theorem ravelinref3_Sum.mono_l : ∀ k, (∀ y0 y1 y2 y3, LeO (ravelinref3_Sum.l0 k y0 y1 y2 y3) (ravelinref3_Sum.l0 (k + 1) y0 y1 y2 y3))
  | 0 => fun _ _ _ _ r h => by simp [ravelinref3_Sum.l0] at h
  | k + 1 => by
    have ih0 := ravelinref3_Sum.mono_l k
    · intro y0 y1 y2 y3
      unfold ravelinref3_Sum.l0
      repeat' first
      | (with_reducible exact ih0 _ _ _ _)
      | (with_reducible exact LeO.refl _)
      | (with_reducible exact LeO.none _)
      | (with_reducible refine LeO.ite ?_ ?_)
      | (with_reducible refine LeO.bind ?_ (fun _ => ?_))
      | exact ih0 _ _ _ _
      | exact LeO.none _
      | refine LeO.ite ?_ ?_
      | refine LeO.bind ?_ (fun _ => ?_)
theorem ravelinref3_Sum.mono : ∀ a0 k, LeO (ravelinref3_Sum.f k a0) (ravelinref3_Sum.f (k + 1) a0) := by
  intro a0 k
  have ih0 := ravelinref3_Sum.mono_l k
  unfold ravelinref3_Sum.f
  repeat' first
      | (with_reducible exact ih0 _ _ _ _)
      | (with_reducible exact LeO.refl _)
      | (with_reducible exact LeO.none _)
      | (with_reducible refine LeO.ite ?_ ?_)
      | (with_reducible refine LeO.bind ?_ (fun _ => ?_))
      | exact ih0 _ _ _ _
      | exact LeO.none _
      | refine LeO.ite ?_ ?_
      | refine LeO.bind ?_ (fun _ => ?_)
set_option maxHeartbeats 8000000 in
set_option maxRecDepth 100000 in
theorem ravelinref3_Sum.calls (k : Nat) (a0 : ByteArray) (r : Int) (w : World) (h : ravelinref3_Sum.f k a0 = some r) :
    Calls Try.prog 46 #[.string a0] w fun e w' => e = .returned (.int .u32 r) ∧ Drawn0 w w' := by
  have H : (ravelinref3_Sum.l0 k a0 1 0 0) = some r := h
  clear h
  have H' := Aside0.mk H
  clear H
  go_enter Try.func46, Try.ntmps46
  go_wp2
  go_loopg [3, 4, 5] k (fun kq v3 v4 v5 w' => ∃ (x3_1 : Int) (x4_1 : Int) (x5_1 : Int), v3 = .int .u32 x3_1 ∧ v4 = .int .u32 x4_1 ∧ v5 = .int .i64 x5_1 ∧ Aside0 (ravelinref3_Sum.l0 kq a0 x3_1 x4_1 x5_1 = some r) ∧ Aside0 (kq ≤ k) ∧ Drawn0 w w')
  case atStart => exact ⟨(1), (0), (0), (by first | rfl | (simp; done) | (simp [*]; done)), (by first | rfl | (simp; done) | (simp [*]; done)), (by first | rfl | (simp; done) | (simp [*]; done)), H', ⟨Nat.le_refl _⟩, by repeat (first | exact Drawn0.refl _ | apply Drawn0.step)⟩
  case round =>
    clear H'
    obtain ⟨x3_1, x4_1, x5_1, rfl, rfl, rfl, HA, HK1, ⟨m1, rfl⟩⟩ := hrel
    cases gk with
    | zero => exact absurd HA.out (by simp [ravelinref3_Sum.l0])
    | succ k1 =>
      have H := HA.out
      clear HA
      simp only [ravelinref3_Sum.l0] at H
      by_cases c2 : x5_1 < (a0.size : Int)
      · rw [if_pos c2] at H
        have c2b0 : decide (x5_1 < (a0.size : Int)) = true := decide_eq_true c2
        clear c2
        by_cases c3 : 0 ≤ x5_1
        · rw [if_pos c3] at H
          have c3b0 : decide (0 ≤ x5_1) = true := decide_eq_true c3
          clear c3
          have H' := Aside0.mk H
          clear H
          have p4 : 0 ≤ (x5_1 : Int) := of_decide_eq_true (by first | (with_reducible assumption) | assumption)
          have q4 : x5_1 < (a0.size : Int) := of_decide_eq_true (by first | (with_reducible assumption) | assumption)
          have hx4 := bt_at a0 x5_1
          replace p4 := eq_true p4
          replace q4 := eq_true q4
          go_wp2
          go_roundg k1
          case measure => have := HK1.out; omega
          case rel => exact ⟨(((x3_1 + ((bt a0 x5_1) % 4294967296)) % 4294967296) % 65521), (((x4_1 + (((x3_1 + ((bt a0 x5_1) % 4294967296)) % 4294967296) % 65521)) % 4294967296) % 65521), (wrap64 (x5_1 + 1)), (by first | rfl | (simp; done) | (simp [*]; done)), (by first | rfl | (simp; done) | (simp [*]; done)), (by first | rfl | (simp; done) | (simp [*]; done)), H', ⟨by have := HK1.out; omega⟩, by repeat (first | exact Drawn0.refl _ | apply Drawn0.step)⟩
        · rw [if_neg c3] at H
          exact absurd H (by simp)
      · rw [if_neg c2] at H
        have c2b0 : decide (x5_1 < (a0.size : Int)) = false := decide_eq_false c2
        clear c2
        obtain rfl := Option.some.inj H
        go_wp2
        go_ret
        exact ⟨by first | rfl | (simp; done) | (simp [*]; done), by repeat (first | exact Drawn0.refl _ | apply Drawn0.step)⟩

/-! ### ravelinref3_Seal: function 26 -/
def ravelinref3_Seal.f (k : Nat) (a0 : ByteArray) : Option (ByteArray) := (ravelinref3_Num.f k (a0.size : Int)).bind fun t265 => ((ravelinref3_Sum.f k a0).bind fun t266 => ((ravelinref3_four.f t266).bind fun t267 => (if t265.size + t267.size ≤ 9223372036854775807 then (if (t265 ++ t267).size + a0.size ≤ 9223372036854775807 then (some ((t265 ++ t267) ++ a0)) else (none)) else (none))))
theorem ravelinref3_Seal.mono : ∀ a0 k, LeO (ravelinref3_Seal.f k a0) (ravelinref3_Seal.f (k + 1) a0) := by
  intro a0 k
  unfold ravelinref3_Seal.f
  repeat' first
      | (with_reducible exact ravelinref3_Num.mono _ _)
      | (with_reducible exact ravelinref3_Sum.mono _ _)
      | (with_reducible exact LeO.refl _)
      | (with_reducible exact LeO.none _)
      | (with_reducible refine LeO.ite ?_ ?_)
      | (with_reducible refine LeO.bind ?_ (fun _ => ?_))
      | exact ravelinref3_Num.mono _ _
      | exact ravelinref3_Sum.mono _ _
      | exact LeO.none _
      | refine LeO.ite ?_ ?_
      | refine LeO.bind ?_ (fun _ => ?_)
set_option maxHeartbeats 8000000 in
set_option maxRecDepth 100000 in
theorem ravelinref3_Seal.calls (k : Nat) (a0 : ByteArray) (r : ByteArray) (w : World) (h : ravelinref3_Seal.f k a0 = some r) :
    Calls Try.prog 26 #[.string a0] w fun e w' => e = .returned (.string r) ∧ Below w.heap.size w w' := by
  have HB := Aside0.mk (Below.refl w.heap.size w)
  have H : ((ravelinref3_Num.f k (a0.size : Int)).bind fun t265 => ((ravelinref3_Sum.f k a0).bind fun t266 => ((ravelinref3_four.f t266).bind fun t267 => (if t265.size + t267.size ≤ 9223372036854775807 then (if (t265 ++ t267).size + a0.size ≤ 9223372036854775807 then (some ((t265 ++ t267) ++ a0)) else (none)) else (none))))) = some r := h
  clear h
  replace H := Option.bind_eq_some_iff.mp H
  obtain ⟨t265, A20, H⟩ := H
  replace H : ((ravelinref3_Sum.f k a0).bind fun t266 => ((ravelinref3_four.f t266).bind fun t267 => (if t265.size + t267.size ≤ 9223372036854775807 then (if (t265 ++ t267).size + a0.size ≤ 9223372036854775807 then (some ((t265 ++ t267) ++ a0)) else (none)) else (none)))) = some r := H
  have A2 := Aside0.mk A20
  clear A20
  replace H := Option.bind_eq_some_iff.mp H
  obtain ⟨t266, A30, H⟩ := H
  replace H : ((ravelinref3_four.f t266).bind fun t267 => (if t265.size + t267.size ≤ 9223372036854775807 then (if (t265 ++ t267).size + a0.size ≤ 9223372036854775807 then (some ((t265 ++ t267) ++ a0)) else (none)) else (none))) = some r := H
  have A3 := Aside0.mk A30
  clear A30
  replace H := Option.bind_eq_some_iff.mp H
  obtain ⟨t267, A40, H⟩ := H
  replace H : (if t265.size + t267.size ≤ 9223372036854775807 then (if (t265 ++ t267).size + a0.size ≤ 9223372036854775807 then (some ((t265 ++ t267) ++ a0)) else (none)) else (none)) = some r := H
  have A4 := Aside0.mk A40
  clear A40
  by_cases c5 : t265.size + t267.size ≤ 9223372036854775807
  · rw [if_pos c5] at H
    have c5b0 := eq_true c5
    have c5b1 : decide (t265.size + t267.size ≤ 9223372036854775807) = true := decide_eq_true c5
    try have c5b2 : (9223372036854775807 < t265.size + t267.size) = False := eq_false (Nat.not_lt.2 c5)
    by_cases c6 : (t265 ++ t267).size + a0.size ≤ 9223372036854775807
    · rw [if_pos c6] at H
      have c6b0 := eq_true c6
      have c6b1 : decide ((t265 ++ t267).size + a0.size ≤ 9223372036854775807) = true := decide_eq_true c6
      (try (have c6b1s := c6b1; simp only [ByteArray.size_append] at c6b1s))
      try have c6b2 : (9223372036854775807 < (t265 ++ t267).size + a0.size) = False := eq_false (Nat.not_lt.2 c6)
      (try (have c6b2s := c6b2; simp only [ByteArray.size_append] at c6b2s))
      obtain rfl := Option.some.inj H
      go_enter Try.func26, Try.ntmps26
      go_wp2_with (first | ((with_reducible refine gate_callee (f := 27) rfl ?_); refine goesL_ (some 5) rfl rfl Try.func27 (by kernel_rfl) rfl #[.int .i64 (a0.size : Int)] rfl (by (try simp only [List.map_toArray, List.map_cons, List.map_nil]); first | done | rfl | (simp only [List.length_drop, List.length_take]; rfl)) ?_; (with_reducible refine (ravelinref3_Num.calls k (a0.size : Int) t265 _ A2.out).mono ?_); rintro e w7 ⟨rfl, hb⟩; refine ⟨_, rfl, ?_⟩; have n0_ := Aside0.mk (below_step (by repeat (first | (with_reducible first | exact HB.out | apply below_alloc | apply pw_below_drewN | apply below_drew1) | exact HB.out)) hb); clear HB; have HB := n0_; clear n0_; (try clear hb); (try clear hb2); (try clear hk); (try clear hi)) | ((with_reducible refine gate_callee (f := 46) rfl ?_); refine goesL_ (some 7) rfl rfl Try.func46 (by kernel_rfl) rfl #[.string a0] rfl (by (try simp only [List.map_toArray, List.map_cons, List.map_nil]); first | done | rfl | (simp only [List.length_drop, List.length_take]; rfl)) ?_; (with_reducible refine (ravelinref3_Sum.calls k a0 t266 _ A3.out).mono ?_); rintro e w' ⟨rfl, ⟨nd, rfl⟩⟩; refine ⟨_, rfl, ?_⟩) | ((with_reducible refine gate_callee (f := 45) rfl ?_); refine goesL_ (some 8) rfl rfl Try.func45 (by kernel_rfl) rfl #[.int .u32 t266] rfl (by (try simp only [List.map_toArray, List.map_cons, List.map_nil]); first | done | rfl | (simp only [List.length_drop, List.length_take]; rfl)) ?_; (with_reducible refine (ravelinref3_four.calls t266 t267 _ A4.out).mono ?_); rintro e w8 ⟨rfl, hb⟩; refine ⟨_, rfl, ?_⟩; have n0_ := Aside0.mk (below_step (by repeat (first | (with_reducible first | exact HB.out | apply below_alloc | apply pw_below_drewN | apply below_drew1) | exact HB.out)) hb); clear HB; have HB := n0_; clear n0_; (try clear hb); (try clear hb2); (try clear hk); (try clear hi)))
      go_ret
      exact ⟨by first | rfl | (simp [errW_none, errW_some] <;> rfl) | (simp [*, errW_none, errW_some] <;> rfl), by repeat (first | (with_reducible first | exact HB.out | apply below_alloc | apply pw_below_drewN | apply below_drew1) | exact HB.out)⟩
    · rw [if_neg c6] at H
      exact absurd H (by simp)
  · rw [if_neg c5] at H
    exact absurd H (by simp)

/-! ### ravelinref3_Text: function 47 -/
def ravelinref3_Text.f (k : Nat) (a0 : ByteArray) : Option (ByteArray) := (ravelinref3_Num.f k (a0.size : Int)).bind fun t268 => (if t268.size + a0.size ≤ 9223372036854775807 then (some (t268 ++ a0)) else (none))
theorem ravelinref3_Text.mono : ∀ a0 k, LeO (ravelinref3_Text.f k a0) (ravelinref3_Text.f (k + 1) a0) := by
  intro a0 k
  unfold ravelinref3_Text.f
  repeat' first
      | (with_reducible exact ravelinref3_Num.mono _ _)
      | (with_reducible exact LeO.refl _)
      | (with_reducible exact LeO.none _)
      | (with_reducible refine LeO.ite ?_ ?_)
      | (with_reducible refine LeO.bind ?_ (fun _ => ?_))
      | exact ravelinref3_Num.mono _ _
      | exact LeO.none _
      | refine LeO.ite ?_ ?_
      | refine LeO.bind ?_ (fun _ => ?_)
set_option maxHeartbeats 8000000 in
set_option maxRecDepth 100000 in
theorem ravelinref3_Text.calls (k : Nat) (a0 : ByteArray) (r : ByteArray) (w : World) (h : ravelinref3_Text.f k a0 = some r) :
    Calls Try.prog 47 #[.string a0] w fun e w' => e = .returned (.string r) ∧ Below w.heap.size w w' := by
  have HB := Aside0.mk (Below.refl w.heap.size w)
  have H : ((ravelinref3_Num.f k (a0.size : Int)).bind fun t268 => (if t268.size + a0.size ≤ 9223372036854775807 then (some (t268 ++ a0)) else (none))) = some r := h
  clear h
  replace H := Option.bind_eq_some_iff.mp H
  obtain ⟨t268, A20, H⟩ := H
  replace H : (if t268.size + a0.size ≤ 9223372036854775807 then (some (t268 ++ a0)) else (none)) = some r := H
  have A2 := Aside0.mk A20
  clear A20
  by_cases c3 : t268.size + a0.size ≤ 9223372036854775807
  · rw [if_pos c3] at H
    have c3b0 := eq_true c3
    have c3b1 : decide (t268.size + a0.size ≤ 9223372036854775807) = true := decide_eq_true c3
    try have c3b2 : (9223372036854775807 < t268.size + a0.size) = False := eq_false (Nat.not_lt.2 c3)
    obtain rfl := Option.some.inj H
    go_enter Try.func47, Try.ntmps47
    go_wp2_with (first | ((with_reducible refine gate_callee (f := 27) rfl ?_); refine goesL_ (some 5) rfl rfl Try.func27 (by kernel_rfl) rfl #[.int .i64 (a0.size : Int)] rfl (by (try simp only [List.map_toArray, List.map_cons, List.map_nil]); first | done | rfl | (simp only [List.length_drop, List.length_take]; rfl)) ?_; (with_reducible refine (ravelinref3_Num.calls k (a0.size : Int) t268 _ A2.out).mono ?_); rintro e w4 ⟨rfl, hb⟩; refine ⟨_, rfl, ?_⟩; have n0_ := Aside0.mk (below_step (by repeat (first | (with_reducible first | exact HB.out | apply below_alloc | apply pw_below_drewN | apply below_drew1) | exact HB.out)) hb); clear HB; have HB := n0_; clear n0_; (try clear hb); (try clear hb2); (try clear hk); (try clear hi)))
    go_ret
    exact ⟨by first | rfl | (simp [errW_none, errW_some] <;> rfl) | (simp [*, errW_none, errW_some] <;> rfl), by repeat (first | (with_reducible first | exact HB.out | apply below_alloc | apply pw_below_drewN | apply below_drew1) | exact HB.out)⟩
  · rw [if_neg c3] at H
    exact absurd H (by simp)

/-! ### ravelinref12_Row: function 28 -/
def ravelinref12_Row.l0 : Nat → List (S49) → ByteArray → Int → Option (ByteArray)
  | 0, _, _, _ => none
  | k + 1, x0, x3, x4 => if x4 < (x0.length : Int) then (if 0 ≤ x4 then ((ravelinref3_Text.f k ((rd_T49 x0 x4).f0)).bind fun t271 => (if x3.size + t271.size ≤ 9223372036854775807 then (if (rd_T49 x0 x4).f1 = true then (if (x3 ++ t271).size + 1 ≤ 9223372036854775807 then (ravelinref12_Row.l0 k x0 ((x3 ++ t271) ++ (⟨#[1]⟩ : ByteArray)) (wrap64 (x4 + 1))) else (none)) else (if (x3 ++ t271).size + 1 ≤ 9223372036854775807 then ((ravelinref3_Text.f k ((rd_T49 x0 x4).f2)).bind fun t274 => (if ((x3 ++ t271) ++ (⟨#[0]⟩ : ByteArray)).size + t274.size ≤ 9223372036854775807 then (ravelinref12_Row.l0 k x0 (((x3 ++ t271) ++ (⟨#[0]⟩ : ByteArray)) ++ t274) (wrap64 (x4 + 1))) else (none))) else (none))) else (none))) else (none)) else (some x3)
def ravelinref12_Row.f (k : Nat) (l0 : List (S49)) : Option (ByteArray) := (ravelinref3_Num.f k (l0.length : Int)).bind fun t269 => (ravelinref12_Row.l0 k l0 t269 0)
theorem ravelinref12_Row.mono_l : ∀ k, (∀ y0 y1 y2, LeO (ravelinref12_Row.l0 k y0 y1 y2) (ravelinref12_Row.l0 (k + 1) y0 y1 y2))
  | 0 => fun _ _ _ r h => by simp [ravelinref12_Row.l0] at h
  | k + 1 => by
    have ih0 := ravelinref12_Row.mono_l k
    · intro y0 y1 y2
      unfold ravelinref12_Row.l0
      repeat' first
      | (with_reducible exact ih0 _ _ _)
      | (with_reducible exact ravelinref3_Num.mono _ _)
      | (with_reducible exact ravelinref3_Text.mono _ _)
      | (with_reducible exact LeO.refl _)
      | (with_reducible exact LeO.none _)
      | (with_reducible refine LeO.ite ?_ ?_)
      | (with_reducible refine LeO.bind ?_ (fun _ => ?_))
      | exact ih0 _ _ _
      | exact ravelinref3_Num.mono _ _
      | exact ravelinref3_Text.mono _ _
      | exact LeO.none _
      | refine LeO.ite ?_ ?_
      | refine LeO.bind ?_ (fun _ => ?_)
theorem ravelinref12_Row.mono : ∀ a0 k, LeO (ravelinref12_Row.f k a0) (ravelinref12_Row.f (k + 1) a0) := by
  intro a0 k
  have ih0 := ravelinref12_Row.mono_l k
  unfold ravelinref12_Row.f
  repeat' first
      | (with_reducible exact ih0 _ _ _)
      | (with_reducible exact ravelinref3_Num.mono _ _)
      | (with_reducible exact ravelinref3_Text.mono _ _)
      | (with_reducible exact LeO.refl _)
      | (with_reducible exact LeO.none _)
      | (with_reducible refine LeO.ite ?_ ?_)
      | (with_reducible refine LeO.bind ?_ (fun _ => ?_))
      | exact ih0 _ _ _
      | exact ravelinref3_Num.mono _ _
      | exact ravelinref3_Text.mono _ _
      | exact LeO.none _
      | refine LeO.ite ?_ ?_
      | refine LeO.bind ?_ (fun _ => ?_)
set_option maxHeartbeats 8000000 in
set_option maxRecDepth 100000 in
theorem ravelinref12_Row.calls (k : Nat) (A0 : Option Addr) (c0 : Nat) (l0 : List (S49)) (r : ByteArray) (w : World) (hr0 : Kd.C k49 w A0 l0.length l0) (hc0 : l0.length ≤ c0) (h : ravelinref12_Row.f k l0 = some r) :
    Calls Try.prog 28 #[.slice A0 l0.length c0] w fun e w' => e = .returned (.string r) ∧ Below w.heap.size w w' := by
  have HR0 := Aside0.mk hr0
  have HC0 := Aside0.mk hc0
  clear hr0 hc0
  have HB := Aside0.mk (Below.refl w.heap.size w)
  have H : ((ravelinref3_Num.f k (l0.length : Int)).bind fun t269 => (ravelinref12_Row.l0 k l0 t269 0)) = some r := h
  clear h
  replace H := Option.bind_eq_some_iff.mp H
  obtain ⟨t269, A20, H⟩ := H
  replace H : (ravelinref12_Row.l0 k l0 t269 0) = some r := H
  have A2 := Aside0.mk A20
  clear A20
  have H' := Aside0.mk H
  clear H
  go_enter Try.func28, Try.ntmps28
  go_wp2_with (first | ((with_reducible refine gate_callee (f := 27) rfl ?_); refine goesL_ (some 7) rfl rfl Try.func27 (by kernel_rfl) rfl #[.int .i64 (l0.length : Int)] rfl (by (try simp only [List.map_toArray, List.map_cons, List.map_nil]); first | done | rfl | (simp only [List.length_drop, List.length_take]; rfl)) ?_; (with_reducible refine (ravelinref3_Num.calls k (l0.length : Int) t269 _ A2.out).mono ?_); rintro e w3 ⟨rfl, hb⟩; refine ⟨_, rfl, ?_⟩; have n0_ := Aside0.mk (below_step (by repeat (first | (with_reducible first | exact HB.out | apply below_alloc | apply pw_below_drewN | apply below_drew1) | exact HB.out)) hb); clear HB; have HB := n0_; clear n0_; (try clear hb); (try clear hb2); (try clear hk); (try clear hi)))
  go_loopg [3, 4] k (fun kq v3 v4 w' => ∃ (x3_1 : ByteArray) (x4_1 : Int), v3 = .string x3_1 ∧ v4 = .int .i64 x4_1 ∧ Aside0 (ravelinref12_Row.l0 kq l0 x3_1 x4_1 = some r) ∧ Aside0 (kq ≤ k) ∧ Aside0 (Below w.heap.size w w'))
  case atStart => exact ⟨(t269), (0), (by first | rfl | (simp; done) | (simp [*]; done)), (by first | rfl | (simp; done) | (simp [*]; done)), H', ⟨Nat.le_refl _⟩, ⟨by repeat (first | (with_reducible first | exact HB.out | apply below_alloc | apply pw_below_drewN | apply below_drew1) | exact HB.out)⟩⟩
  case round =>
    clear H'
    try clear c2
    try clear p2
    obtain ⟨x3_1, x4_1, rfl, rfl, HA, HK1, HB⟩ := hrel
    cases gk with
    | zero => exact absurd HA.out (by simp [ravelinref12_Row.l0])
    | succ k1 =>
      have H := HA.out
      clear HA
      simp only [ravelinref12_Row.l0] at H
      by_cases c4 : x4_1 < (l0.length : Int)
      · rw [if_pos c4] at H
        have c4b0 : decide (x4_1 < (l0.length : Int)) = true := decide_eq_true c4
        clear c4
        by_cases c5 : 0 ≤ x4_1
        · rw [if_pos c5] at H
          have c5b0 : decide (0 ≤ x4_1) = true := decide_eq_true c5
          clear c5
          replace H := Option.bind_eq_some_iff.mp H
          obtain ⟨t271, A60, H⟩ := H
          replace H : (if x3_1.size + t271.size ≤ 9223372036854775807 then (if (rd_T49 l0 x4_1).f1 = true then (if (x3_1 ++ t271).size + 1 ≤ 9223372036854775807 then (ravelinref12_Row.l0 k1 l0 ((x3_1 ++ t271) ++ (⟨#[1]⟩ : ByteArray)) (wrap64 (x4_1 + 1))) else (none)) else (if (x3_1 ++ t271).size + 1 ≤ 9223372036854775807 then ((ravelinref3_Text.f k1 ((rd_T49 l0 x4_1).f2)).bind fun t274 => (if ((x3_1 ++ t271) ++ (⟨#[0]⟩ : ByteArray)).size + t274.size ≤ 9223372036854775807 then (ravelinref12_Row.l0 k1 l0 (((x3_1 ++ t271) ++ (⟨#[0]⟩ : ByteArray)) ++ t274) (wrap64 (x4_1 + 1))) else (none))) else (none))) else (none)) = some r := H
          have A6 := Aside0.mk A60
          clear A60
          by_cases c7 : x3_1.size + t271.size ≤ 9223372036854775807
          · rw [if_pos c7] at H
            have c7b0 := eq_true c7
            have c7b1 : decide (x3_1.size + t271.size ≤ 9223372036854775807) = true := decide_eq_true c7
            try have c7b2 : (9223372036854775807 < x3_1.size + t271.size) = False := eq_false (Nat.not_lt.2 c7)
            obtain ⟨bq8, hbq8⟩ : ∃ b_ : Bool, b_ = ((rd_T49 l0 x4_1).f1) := ⟨_, rfl⟩
            replace H : (if bq8 = true then (if (x3_1 ++ t271).size + 1 ≤ 9223372036854775807 then (ravelinref12_Row.l0 k1 l0 ((x3_1 ++ t271) ++ (⟨#[1]⟩ : ByteArray)) (wrap64 (x4_1 + 1))) else (none)) else (if (x3_1 ++ t271).size + 1 ≤ 9223372036854775807 then ((ravelinref3_Text.f k1 ((rd_T49 l0 x4_1).f2)).bind fun t274 => (if ((x3_1 ++ t271) ++ (⟨#[0]⟩ : ByteArray)).size + t274.size ≤ 9223372036854775807 then (ravelinref12_Row.l0 k1 l0 (((x3_1 ++ t271) ++ (⟨#[0]⟩ : ByteArray)) ++ t274) (wrap64 (x4_1 + 1))) else (none))) else (none))) = some r := by rw [← hbq8] at H; exact H
            have Nbq8 := Aside0.mk hbq8
            clear hbq8
            by_cases c9 : bq8 = true
            · subst c9
              have H1 : (if (x3_1 ++ t271).size + 1 ≤ 9223372036854775807 then (ravelinref12_Row.l0 k1 l0 ((x3_1 ++ t271) ++ (⟨#[1]⟩ : ByteArray)) (wrap64 (x4_1 + 1))) else (none)) = some r := by rw [if_pos rfl] at H; exact H
              clear H
              have H := H1
              clear H1
              by_cases c10 : (x3_1 ++ t271).size + 1 ≤ 9223372036854775807
              · rw [if_pos c10] at H
                have c10b0 := eq_true c10
                have c10b1 : decide ((x3_1 ++ t271).size + 1 ≤ 9223372036854775807) = true := decide_eq_true c10
                (try (have c10b1s := c10b1; simp only [ByteArray.size_append] at c10b1s))
                try have c10b2 : (9223372036854775807 < (x3_1 ++ t271).size + 1) = False := eq_false (Nat.not_lt.2 c10)
                (try (have c10b2s := c10b2; simp only [ByteArray.size_append] at c10b2s))
                have H' := Aside0.mk H
                clear H
                have p270 : 0 ≤ (x4_1 : Int) := of_decide_eq_true (by first | (with_reducible assumption) | assumption)
                have q270 : x4_1 < (l0.length : Int) := of_decide_eq_true (by first | (with_reducible assumption) | assumption)
                obtain ⟨ad270, e270, hx270_0, hx270_1, hx270_2⟩ := at_T49 HR0.out x4_1 p270 q270
                (try rw [← Nbq8.out] at hx270_1)
                cases e270
                replace hx270_0 := (HB.out.cell (World.block_lt_of_cell? w _ hx270_0)).trans hx270_0
                replace hx270_1 := (HB.out.cell (World.block_lt_of_cell? w _ hx270_1)).trans hx270_1
                replace hx270_2 := (HB.out.cell (World.block_lt_of_cell? w _ hx270_2)).trans hx270_2
                replace p270 := eq_true p270
                replace q270 := eq_true q270
                go_wp2_with (first | ((with_reducible refine gate_callee (f := 47) rfl ?_); refine goesL_ (some 20) rfl rfl Try.func47 (by kernel_rfl) rfl #[.string ((rd_T49 l0 x4_1).f0)] rfl (by (try simp only [List.map_toArray, List.map_cons, List.map_nil]); first | done | rfl | (simp only [List.length_drop, List.length_take]; rfl)) ?_; (with_reducible refine (ravelinref3_Text.calls k1 ((rd_T49 l0 x4_1).f0) t271 _ A6.out).mono ?_); rintro e w11 ⟨rfl, hb⟩; refine ⟨_, rfl, ?_⟩; have n0_ := Aside0.mk (below_step (by repeat (first | (with_reducible first | exact HB.out | apply below_alloc | apply pw_below_drewN | apply below_drew1) | exact HB.out)) hb); clear HB; have HB := n0_; clear n0_; (try clear hb); (try clear hb2); (try clear hk); (try clear hi); have p272 : 0 ≤ (x4_1 : Int) := of_decide_eq_true (by first | (with_reducible assumption) | assumption); have q272 : x4_1 < (l0.length : Int) := of_decide_eq_true (by first | (with_reducible assumption) | assumption); obtain ⟨ad272, e272, hx272_0, hx272_1, hx272_2⟩ := at_T49 HR0.out x4_1 p272 q272; (try rw [← Nbq8.out] at hx272_1); obtain rfl : ad270 = ad272 := (by injection e272); replace hx272_0 := (HB.out.cell (World.block_lt_of_cell? w _ hx272_0)).trans hx272_0; replace hx272_1 := (HB.out.cell (World.block_lt_of_cell? w _ hx272_1)).trans hx272_1; replace hx272_2 := (HB.out.cell (World.block_lt_of_cell? w _ hx272_2)).trans hx272_2; replace p272 := eq_true p272; replace q272 := eq_true q272))
                go_roundg k1
                case measure => have := HK1.out; omega
                case rel => exact ⟨((x3_1 ++ t271) ++ (⟨#[1]⟩ : ByteArray)), (wrap64 (x4_1 + 1)), (by first | rfl | (simp; done) | (simp [*]; done)), (by first | rfl | (simp; done) | (simp [*]; done)), H', ⟨by have := HK1.out; omega⟩, ⟨by repeat (first | (with_reducible first | exact HB.out | apply below_alloc | apply pw_below_drewN | apply below_drew1) | exact HB.out)⟩⟩
              · rw [if_neg c10] at H
                exact absurd H (by simp)
            · replace c9 := Bool.eq_false_iff.mpr c9
              subst c9
              have H1 : (if (x3_1 ++ t271).size + 1 ≤ 9223372036854775807 then ((ravelinref3_Text.f k1 ((rd_T49 l0 x4_1).f2)).bind fun t274 => (if ((x3_1 ++ t271) ++ (⟨#[0]⟩ : ByteArray)).size + t274.size ≤ 9223372036854775807 then (ravelinref12_Row.l0 k1 l0 (((x3_1 ++ t271) ++ (⟨#[0]⟩ : ByteArray)) ++ t274) (wrap64 (x4_1 + 1))) else (none))) else (none)) = some r := by rw [if_neg (show ¬ (false = true) by decide)] at H; exact H
              clear H
              have H := H1
              clear H1
              by_cases c12 : (x3_1 ++ t271).size + 1 ≤ 9223372036854775807
              · rw [if_pos c12] at H
                have c12b0 := eq_true c12
                have c12b1 : decide ((x3_1 ++ t271).size + 1 ≤ 9223372036854775807) = true := decide_eq_true c12
                (try (have c12b1s := c12b1; simp only [ByteArray.size_append] at c12b1s))
                try have c12b2 : (9223372036854775807 < (x3_1 ++ t271).size + 1) = False := eq_false (Nat.not_lt.2 c12)
                (try (have c12b2s := c12b2; simp only [ByteArray.size_append] at c12b2s))
                replace H := Option.bind_eq_some_iff.mp H
                obtain ⟨t274, A130, H⟩ := H
                replace H : (if ((x3_1 ++ t271) ++ (⟨#[0]⟩ : ByteArray)).size + t274.size ≤ 9223372036854775807 then (ravelinref12_Row.l0 k1 l0 (((x3_1 ++ t271) ++ (⟨#[0]⟩ : ByteArray)) ++ t274) (wrap64 (x4_1 + 1))) else (none)) = some r := H
                have A13 := Aside0.mk A130
                clear A130
                by_cases c14 : ((x3_1 ++ t271) ++ (⟨#[0]⟩ : ByteArray)).size + t274.size ≤ 9223372036854775807
                · rw [if_pos c14] at H
                  have c14b0 := eq_true c14
                  have c14b1 : decide (((x3_1 ++ t271) ++ (⟨#[0]⟩ : ByteArray)).size + t274.size ≤ 9223372036854775807) = true := decide_eq_true c14
                  (try (have c14b1s := c14b1; simp only [ByteArray.size_append, show (⟨#[0]⟩ : ByteArray).size = 1 from rfl] at c14b1s))
                  try have c14b2 : (9223372036854775807 < ((x3_1 ++ t271) ++ (⟨#[0]⟩ : ByteArray)).size + t274.size) = False := eq_false (Nat.not_lt.2 c14)
                  (try (have c14b2s := c14b2; simp only [ByteArray.size_append, show (⟨#[0]⟩ : ByteArray).size = 1 from rfl] at c14b2s))
                  have H' := Aside0.mk H
                  clear H
                  have p270 : 0 ≤ (x4_1 : Int) := of_decide_eq_true (by first | (with_reducible assumption) | assumption)
                  have q270 : x4_1 < (l0.length : Int) := of_decide_eq_true (by first | (with_reducible assumption) | assumption)
                  obtain ⟨ad270, e270, hx270_0, hx270_1, hx270_2⟩ := at_T49 HR0.out x4_1 p270 q270
                  (try rw [← Nbq8.out] at hx270_1)
                  cases e270
                  replace hx270_0 := (HB.out.cell (World.block_lt_of_cell? w _ hx270_0)).trans hx270_0
                  replace hx270_1 := (HB.out.cell (World.block_lt_of_cell? w _ hx270_1)).trans hx270_1
                  replace hx270_2 := (HB.out.cell (World.block_lt_of_cell? w _ hx270_2)).trans hx270_2
                  replace p270 := eq_true p270
                  replace q270 := eq_true q270
                  go_wp2_with (first | ((with_reducible refine gate_callee (f := 47) rfl ?_); refine goesL_ (some 20) rfl rfl Try.func47 (by kernel_rfl) rfl #[.string ((rd_T49 l0 x4_1).f0)] rfl (by (try simp only [List.map_toArray, List.map_cons, List.map_nil]); first | done | rfl | (simp only [List.length_drop, List.length_take]; rfl)) ?_; (with_reducible refine (ravelinref3_Text.calls k1 ((rd_T49 l0 x4_1).f0) t271 _ A6.out).mono ?_); rintro e w15 ⟨rfl, hb⟩; refine ⟨_, rfl, ?_⟩; have n0_ := Aside0.mk (below_step (by repeat (first | (with_reducible first | exact HB.out | apply below_alloc | apply pw_below_drewN | apply below_drew1) | exact HB.out)) hb); clear HB; have HB := n0_; clear n0_; (try clear hb); (try clear hb2); (try clear hk); (try clear hi); have p272 : 0 ≤ (x4_1 : Int) := of_decide_eq_true (by first | (with_reducible assumption) | assumption); have q272 : x4_1 < (l0.length : Int) := of_decide_eq_true (by first | (with_reducible assumption) | assumption); obtain ⟨ad272, e272, hx272_0, hx272_1, hx272_2⟩ := at_T49 HR0.out x4_1 p272 q272; (try rw [← Nbq8.out] at hx272_1); obtain rfl : ad270 = ad272 := (by injection e272); replace hx272_0 := (HB.out.cell (World.block_lt_of_cell? w _ hx272_0)).trans hx272_0; replace hx272_1 := (HB.out.cell (World.block_lt_of_cell? w _ hx272_1)).trans hx272_1; replace hx272_2 := (HB.out.cell (World.block_lt_of_cell? w _ hx272_2)).trans hx272_2; replace p272 := eq_true p272; replace q272 := eq_true q272; have p273 : 0 ≤ (x4_1 : Int) := of_decide_eq_true (by first | (with_reducible assumption) | assumption); have q273 : x4_1 < (l0.length : Int) := of_decide_eq_true (by first | (with_reducible assumption) | assumption); obtain ⟨ad273, e273, hx273_0, hx273_1, hx273_2⟩ := at_T49 HR0.out x4_1 p273 q273; (try rw [← Nbq8.out] at hx273_1); obtain rfl : ad270 = ad273 := (by injection e273); replace hx273_0 := (HB.out.cell (World.block_lt_of_cell? w _ hx273_0)).trans hx273_0; replace hx273_1 := (HB.out.cell (World.block_lt_of_cell? w _ hx273_1)).trans hx273_1; replace hx273_2 := (HB.out.cell (World.block_lt_of_cell? w _ hx273_2)).trans hx273_2; replace p273 := eq_true p273; replace q273 := eq_true q273) | ((with_reducible refine gate_callee (f := 47) rfl ?_); refine goesL_ (some 36) rfl rfl Try.func47 (by kernel_rfl) rfl #[.string ((rd_T49 l0 x4_1).f2)] rfl (by (try simp only [List.map_toArray, List.map_cons, List.map_nil]); first | done | rfl | (simp only [List.length_drop, List.length_take]; rfl)) ?_; (with_reducible refine (ravelinref3_Text.calls k1 ((rd_T49 l0 x4_1).f2) t274 _ A13.out).mono ?_); rintro e w16 ⟨rfl, hb⟩; refine ⟨_, rfl, ?_⟩; have n0_ := Aside0.mk (below_step (by repeat (first | (with_reducible first | exact HB.out | apply below_alloc | apply pw_below_drewN | apply below_drew1) | exact HB.out)) hb); clear HB; have HB := n0_; clear n0_; (try clear hb); (try clear hb2); (try clear hk); (try clear hi)))
                  go_roundg k1
                  case measure => have := HK1.out; omega
                  case rel => exact ⟨(((x3_1 ++ t271) ++ (⟨#[0]⟩ : ByteArray)) ++ t274), (wrap64 (x4_1 + 1)), (by first | rfl | (simp; done) | (simp [*]; done)), (by first | rfl | (simp; done) | (simp [*]; done)), H', ⟨by have := HK1.out; omega⟩, ⟨by repeat (first | (with_reducible first | exact HB.out | apply below_alloc | apply pw_below_drewN | apply below_drew1) | exact HB.out)⟩⟩
                · rw [if_neg c14] at H
                  exact absurd H (by simp)
              · rw [if_neg c12] at H
                exact absurd H (by simp)
          · rw [if_neg c7] at H
            exact absurd H (by simp)
        · rw [if_neg c5] at H
          exact absurd H (by simp)
      · rw [if_neg c4] at H
        have c4b0 : decide (x4_1 < (l0.length : Int)) = false := decide_eq_false c4
        clear c4
        obtain rfl := Option.some.inj H
        go_wp2
        go_ret
        exact ⟨by first | rfl | (simp [errW_none, errW_some] <;> rfl) | (simp [*, errW_none, errW_some] <;> rfl), by repeat (first | (with_reducible first | exact HB.out | apply below_alloc | apply pw_below_drewN | apply below_drew1) | exact HB.out)⟩

/-! ### ravelinref12_Bytes: function 10 -/
def ravelinref12_Bytes.j0 : Nat → Int → List (S49) → Bool → Option (ByteArray × Int)
  | 0, _, _, _ => none
  | k + 1, x0, x1, x16 => if x16 = true then (some ((⟨#[]⟩ : ByteArray), 10)) else ((ravelinref3_Num.f k x0).bind fun t276 => ((ravelinref12_Row.f k x1).bind fun t277 => (if t276.size + t277.size ≤ 9223372036854775807 then ((ravelinref3_Seal.f k (t276 ++ t277)).bind fun t278 => (some (t278, 0))) else (none))))
def ravelinref12_Bytes.f (k : Nat) (a0 : Int) (l1 : List (S49)) : Option (ByteArray × Int) := (ravelinref12_Is.f k l1).bind fun t275 => (if t275 = true then (if a0 < 1 then (ravelinref12_Bytes.j0 k a0 l1 true) else (ravelinref12_Bytes.j0 k a0 l1 (decide (a0 > 1000000)))) else (ravelinref12_Bytes.j0 k a0 l1 true))
theorem ravelinref12_Bytes.mono_l : ∀ k, (∀ y0 y1 y2, LeO (ravelinref12_Bytes.j0 k y0 y1 y2) (ravelinref12_Bytes.j0 (k + 1) y0 y1 y2))
  | 0 => fun _ _ _ r h => by simp [ravelinref12_Bytes.j0] at h
  | k + 1 => by
    have ih0 := ravelinref12_Bytes.mono_l k
    · intro y0 y1 y2
      unfold ravelinref12_Bytes.j0
      repeat' first
      | (with_reducible exact ih0 _ _ _)
      | (with_reducible exact ravelinref12_Is.mono _ _)
      | (with_reducible exact ravelinref12_Row.mono _ _)
      | (with_reducible exact ravelinref3_Num.mono _ _)
      | (with_reducible exact ravelinref3_Seal.mono _ _)
      | (with_reducible exact LeO.refl _)
      | (with_reducible exact LeO.none _)
      | (with_reducible refine LeO.ite ?_ ?_)
      | (with_reducible refine LeO.bind ?_ (fun _ => ?_))
      | exact ih0 _ _ _
      | exact ravelinref12_Is.mono _ _
      | exact ravelinref12_Row.mono _ _
      | exact ravelinref3_Num.mono _ _
      | exact ravelinref3_Seal.mono _ _
      | exact LeO.none _
      | refine LeO.ite ?_ ?_
      | refine LeO.bind ?_ (fun _ => ?_)
theorem ravelinref12_Bytes.mono : ∀ a0 a1 k, LeO (ravelinref12_Bytes.f k a0 a1) (ravelinref12_Bytes.f (k + 1) a0 a1) := by
  intro a0 a1 k
  have ih0 := ravelinref12_Bytes.mono_l k
  unfold ravelinref12_Bytes.f
  repeat' first
      | (with_reducible exact ih0 _ _ _)
      | (with_reducible exact ravelinref12_Is.mono _ _)
      | (with_reducible exact ravelinref12_Row.mono _ _)
      | (with_reducible exact ravelinref3_Num.mono _ _)
      | (with_reducible exact ravelinref3_Seal.mono _ _)
      | (with_reducible exact LeO.refl _)
      | (with_reducible exact LeO.none _)
      | (with_reducible refine LeO.ite ?_ ?_)
      | (with_reducible refine LeO.bind ?_ (fun _ => ?_))
      | exact ih0 _ _ _
      | exact ravelinref12_Is.mono _ _
      | exact ravelinref12_Row.mono _ _
      | exact ravelinref3_Num.mono _ _
      | exact ravelinref3_Seal.mono _ _
      | exact LeO.none _
      | refine LeO.ite ?_ ?_
      | refine LeO.bind ?_ (fun _ => ?_)
set_option maxHeartbeats 8000000 in
set_option maxRecDepth 100000 in
theorem ravelinref12_Bytes.calls (k : Nat) (a0 : Int) (A1 : Option Addr) (c1 : Nat) (l1 : List (S49)) (r1 : ByteArray) (r2 : Int) (w : World) (hr1 : Kd.C k49 w A1 l1.length l1) (hc1 : l1.length ≤ c1) (h : ravelinref12_Bytes.f k a0 l1 = some (r1, r2)) :
    Calls Try.prog 10 #[.int .i64 a0, .slice A1 l1.length c1] w fun e w' => e = .returned (.tuple #[.string r1, .int .i64 r2]) ∧ Below w.heap.size w w' := by
  have HR1 := Aside0.mk hr1
  have HC1 := Aside0.mk hc1
  clear hr1 hc1
  have HB := Aside0.mk (Below.refl w.heap.size w)
  have H : ((ravelinref12_Is.f k l1).bind fun t275 => (if t275 = true then (if a0 < 1 then (ravelinref12_Bytes.j0 k a0 l1 true) else (ravelinref12_Bytes.j0 k a0 l1 (decide (a0 > 1000000)))) else (ravelinref12_Bytes.j0 k a0 l1 true))) = some (r1, r2) := h
  clear h
  have HC3 := Aside0.mk H
  clear H
  go_enter Try.func10, Try.ntmps10
  go_upto_region 1 with (fail)
  go_cut [16] (fun v16 wc => ∃ (kq : Nat) (x16_2 : Bool), v16 = .bool x16_2 ∧ Aside0 (ravelinref12_Bytes.j0 kq a0 l1 x16_2 = some (r1, r2)) ∧ Aside0 (kq ≤ k) ∧ Aside0 (Below w.heap.size w wc))
  case first =>
    have H := HC3.out
    clear HC3
    replace H := Option.bind_eq_some_iff.mp H
    obtain ⟨t275, A40, H⟩ := H
    replace H : (if t275 = true then (if a0 < 1 then (ravelinref12_Bytes.j0 k a0 l1 true) else (ravelinref12_Bytes.j0 k a0 l1 (decide (a0 > 1000000)))) else (ravelinref12_Bytes.j0 k a0 l1 true)) = some (r1, r2) := H
    have A4 := Aside0.mk A40
    clear A40
    by_cases c5 : t275 = true
    · subst c5
      have H1 : (if a0 < 1 then (ravelinref12_Bytes.j0 k a0 l1 true) else (ravelinref12_Bytes.j0 k a0 l1 (decide (a0 > 1000000)))) = some (r1, r2) := by rw [if_pos rfl] at H; exact H
      clear H
      have H := H1
      clear H1
      by_cases c6 : a0 < 1
      · rw [if_pos c6] at H
        have c6b0 : decide (a0 < 1) = true := decide_eq_true c6
        clear c6
        (first | rw [c6b0] | (simp only [i64_w, i32_w]; rw [c6b0]) | skip)
        have H' := Aside0.mk H
        clear H
        go_wp2_with (first | ((with_reducible refine gate_callee (f := 16) rfl ?_); refine goesL_ (some 7) rfl rfl Try.func16 (by kernel_rfl) rfl #[.slice A1 l1.length c1] rfl (by (try simp only [List.map_toArray, List.map_cons, List.map_nil]); first | done | rfl | (simp only [List.length_drop, List.length_take]; rfl)) ?_; (with_reducible refine (ravelinref12_Is.calls k _ _ l1 true _ ?side1 ?side2 A4.out).mono ?_); (case side1 => repeat (first | exact (Kd.C_below HR1.out HB.out) | (with_reducible refine Kd.C_alloc ?_ _) | (with_reducible refine Kd.C_drewN ?_ _) | (with_reducible refine Kd.C_drew ?_))); (case side2 => exact HC1.out); rintro e w7 ⟨rfl, hb⟩; refine ⟨_, rfl, ?_⟩; have n0_ := Aside0.mk (below_step (by repeat (first | (with_reducible first | exact HB.out | apply below_alloc | apply pw_below_drewN | apply below_drew1) | exact HB.out)) hb); clear HB; have HB := n0_; clear n0_; (try clear hb); (try clear hb2); (try clear hk); (try clear hi)))
        go_meet
        case rel => exact ⟨_, (true), (by first | rfl | (simp; done) | (simp [*]; done)), H', ⟨by first | omega | exact Nat.le_refl _⟩, ⟨by repeat (first | (with_reducible first | exact HB.out | apply below_alloc | apply pw_below_drewN | apply below_drew1) | exact HB.out)⟩⟩
      · rw [if_neg c6] at H
        have c6b0 : decide (a0 < 1) = false := decide_eq_false c6
        clear c6
        (first | rw [c6b0] | (simp only [i64_w, i32_w]; rw [c6b0]) | skip)
        have H' := Aside0.mk H
        clear H
        go_wp2_with (first | ((with_reducible refine gate_callee (f := 16) rfl ?_); refine goesL_ (some 7) rfl rfl Try.func16 (by kernel_rfl) rfl #[.slice A1 l1.length c1] rfl (by (try simp only [List.map_toArray, List.map_cons, List.map_nil]); first | done | rfl | (simp only [List.length_drop, List.length_take]; rfl)) ?_; (with_reducible refine (ravelinref12_Is.calls k _ _ l1 true _ ?side1 ?side2 A4.out).mono ?_); (case side1 => repeat (first | exact (Kd.C_below HR1.out HB.out) | (with_reducible refine Kd.C_alloc ?_ _) | (with_reducible refine Kd.C_drewN ?_ _) | (with_reducible refine Kd.C_drew ?_))); (case side2 => exact HC1.out); rintro e w8 ⟨rfl, hb⟩; refine ⟨_, rfl, ?_⟩; have n0_ := Aside0.mk (below_step (by repeat (first | (with_reducible first | exact HB.out | apply below_alloc | apply pw_below_drewN | apply below_drew1) | exact HB.out)) hb); clear HB; have HB := n0_; clear n0_; (try clear hb); (try clear hb2); (try clear hk); (try clear hi)))
        go_meet
        case rel => exact ⟨_, (decide (a0 > 1000000)), (by first | rfl | (simp; done) | (simp [*]; done)), H', ⟨by first | omega | exact Nat.le_refl _⟩, ⟨by repeat (first | (with_reducible first | exact HB.out | apply below_alloc | apply pw_below_drewN | apply below_drew1) | exact HB.out)⟩⟩
    · replace c5 := Bool.eq_false_iff.mpr c5
      subst c5
      have H1 : (ravelinref12_Bytes.j0 k a0 l1 true) = some (r1, r2) := by rw [if_neg (show ¬ (false = true) by decide)] at H; exact H
      clear H
      have H := H1
      clear H1
      have H' := Aside0.mk H
      clear H
      go_wp2_with (first | ((with_reducible refine gate_callee (f := 16) rfl ?_); refine goesL_ (some 7) rfl rfl Try.func16 (by kernel_rfl) rfl #[.slice A1 l1.length c1] rfl (by (try simp only [List.map_toArray, List.map_cons, List.map_nil]); first | done | rfl | (simp only [List.length_drop, List.length_take]; rfl)) ?_; (with_reducible refine (ravelinref12_Is.calls k _ _ l1 false _ ?side1 ?side2 A4.out).mono ?_); (case side1 => repeat (first | exact (Kd.C_below HR1.out HB.out) | (with_reducible refine Kd.C_alloc ?_ _) | (with_reducible refine Kd.C_drewN ?_ _) | (with_reducible refine Kd.C_drew ?_))); (case side2 => exact HC1.out); rintro e w9 ⟨rfl, hb⟩; refine ⟨_, rfl, ?_⟩; have n0_ := Aside0.mk (below_step (by repeat (first | (with_reducible first | exact HB.out | apply below_alloc | apply pw_below_drewN | apply below_drew1) | exact HB.out)) hb); clear HB; have HB := n0_; clear n0_; (try clear hb); (try clear hb2); (try clear hk); (try clear hi)))
      go_meet
      case rel => exact ⟨_, (true), (by first | rfl | (simp; done) | (simp [*]; done)), H', ⟨by first | omega | exact Nat.le_refl _⟩, ⟨by repeat (first | (with_reducible first | exact HB.out | apply below_alloc | apply pw_below_drewN | apply below_drew1) | exact HB.out)⟩⟩
  case rest =>
    clear HC3
    try clear c1
    try clear p2
    try clear c5
    try clear c6
    try clear c6b0
    obtain ⟨kq, x16_2, rfl, HA, HJ2, HB⟩ := hcut
    cases kq with
    | zero => exact absurd HA.out (by simp [ravelinref12_Bytes.j0])
    | succ kj2 =>
      have H := HA.out
      clear HA
      simp only [ravelinref12_Bytes.j0] at H
      by_cases c10 : x16_2 = true
      · subst c10
        have H1 : (some ((⟨#[]⟩ : ByteArray), 10)) = some (r1, r2) := by rw [if_pos rfl] at H; exact H
        clear H
        have H := H1
        clear H1
        simp only [Option.some.injEq, Prod.mk.injEq] at H
        obtain ⟨rfl, rfl⟩ := H
        go_wp2
        go_ret2
        exact ⟨by first | rfl | (simp [errW_none, errW_some] <;> rfl) | (simp [*, errW_none, errW_some] <;> rfl), by repeat (first | (with_reducible first | exact HB.out | apply below_alloc | apply pw_below_drewN | apply below_drew1) | exact HB.out)⟩
      · replace c10 := Bool.eq_false_iff.mpr c10
        subst c10
        have H1 : ((ravelinref3_Num.f kj2 a0).bind fun t276 => ((ravelinref12_Row.f kj2 l1).bind fun t277 => (if t276.size + t277.size ≤ 9223372036854775807 then ((ravelinref3_Seal.f kj2 (t276 ++ t277)).bind fun t278 => (some (t278, 0))) else (none)))) = some (r1, r2) := by rw [if_neg (show ¬ (false = true) by decide)] at H; exact H
        clear H
        have H := H1
        clear H1
        replace H := Option.bind_eq_some_iff.mp H
        obtain ⟨t276, A110, H⟩ := H
        replace H : ((ravelinref12_Row.f kj2 l1).bind fun t277 => (if t276.size + t277.size ≤ 9223372036854775807 then ((ravelinref3_Seal.f kj2 (t276 ++ t277)).bind fun t278 => (some (t278, 0))) else (none))) = some (r1, r2) := H
        have A11 := Aside0.mk A110
        clear A110
        replace H := Option.bind_eq_some_iff.mp H
        obtain ⟨t277, A120, H⟩ := H
        replace H : (if t276.size + t277.size ≤ 9223372036854775807 then ((ravelinref3_Seal.f kj2 (t276 ++ t277)).bind fun t278 => (some (t278, 0))) else (none)) = some (r1, r2) := H
        have A12 := Aside0.mk A120
        clear A120
        by_cases c13 : t276.size + t277.size ≤ 9223372036854775807
        · rw [if_pos c13] at H
          have c13b0 := eq_true c13
          have c13b1 : decide (t276.size + t277.size ≤ 9223372036854775807) = true := decide_eq_true c13
          try have c13b2 : (9223372036854775807 < t276.size + t277.size) = False := eq_false (Nat.not_lt.2 c13)
          replace H := Option.bind_eq_some_iff.mp H
          obtain ⟨t278, A140, H⟩ := H
          replace H : (some (t278, 0)) = some (r1, r2) := H
          have A14 := Aside0.mk A140
          clear A140
          simp only [Option.some.injEq, Prod.mk.injEq] at H
          obtain ⟨rfl, rfl⟩ := H
          go_wp2_with (first | ((with_reducible refine gate_callee (f := 27) rfl ?_); refine goesL_ (some 18) rfl rfl Try.func27 (by kernel_rfl) rfl #[.int .i64 a0] rfl (by (try simp only [List.map_toArray, List.map_cons, List.map_nil]); first | done | rfl | (simp only [List.length_drop, List.length_take]; rfl)) ?_; (with_reducible refine (ravelinref3_Num.calls kj2 a0 t276 _ A11.out).mono ?_); rintro e w15 ⟨rfl, hb⟩; refine ⟨_, rfl, ?_⟩; have n0_ := Aside0.mk (below_step (by repeat (first | (with_reducible first | exact HB.out | apply below_alloc | apply pw_below_drewN | apply below_drew1) | exact HB.out)) hb); clear HB; have HB := n0_; clear n0_; (try clear hb); (try clear hb2); (try clear hk); (try clear hi)) | ((with_reducible refine gate_callee (f := 28) rfl ?_); refine goesL_ (some 20) rfl rfl Try.func28 (by kernel_rfl) rfl #[.slice A1 l1.length c1] rfl (by (try simp only [List.map_toArray, List.map_cons, List.map_nil]); first | done | rfl | (simp only [List.length_drop, List.length_take]; rfl)) ?_; (with_reducible refine (ravelinref12_Row.calls kj2 _ _ l1 t277 _ ?side1 ?side2 A12.out).mono ?_); (case side1 => repeat (first | exact (Kd.C_below HR1.out HB.out) | (with_reducible refine Kd.C_alloc ?_ _) | (with_reducible refine Kd.C_drewN ?_ _) | (with_reducible refine Kd.C_drew ?_))); (case side2 => exact HC1.out); rintro e w16 ⟨rfl, hb⟩; refine ⟨_, rfl, ?_⟩; have n0_ := Aside0.mk (below_step (by repeat (first | (with_reducible first | exact HB.out | apply below_alloc | apply pw_below_drewN | apply below_drew1) | exact HB.out)) hb); clear HB; have HB := n0_; clear n0_; (try clear hb); (try clear hb2); (try clear hk); (try clear hi)) | ((with_reducible refine gate_callee (f := 26) rfl ?_); refine goesL_ (some 22) rfl rfl Try.func26 (by kernel_rfl) rfl #[.string (t276 ++ t277)] rfl (by (try simp only [List.map_toArray, List.map_cons, List.map_nil]); first | done | rfl | (simp only [List.length_drop, List.length_take]; rfl)) ?_; (with_reducible refine (ravelinref3_Seal.calls kj2 (t276 ++ t277) t278 _ A14.out).mono ?_); rintro e w17 ⟨rfl, hb⟩; refine ⟨_, rfl, ?_⟩; have n0_ := Aside0.mk (below_step (by repeat (first | (with_reducible first | exact HB.out | apply below_alloc | apply pw_below_drewN | apply below_drew1) | exact HB.out)) hb); clear HB; have HB := n0_; clear n0_; (try clear hb); (try clear hb2); (try clear hk); (try clear hi)))
          go_ret2
          exact ⟨by first | rfl | (simp [errW_none, errW_some] <;> rfl) | (simp [*, errW_none, errW_some] <;> rfl), by repeat (first | (with_reducible first | exact HB.out | apply below_alloc | apply pw_below_drewN | apply below_drew1) | exact HB.out)⟩
        · rw [if_neg c13] at H
          exact absurd H (by simp)

end Go.Proofs.Ytnjbmcjhhadojaa.P
