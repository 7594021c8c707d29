-- Printed by a changed copy of the kit's printer (wip/tools/ext.py); labels and more
import Derived.Test.YtkmbgihfdfgmgaaQShort
import Derived.Test.YtkmbgihfdfgmgaaM0
import Derived.Test.YtkmbgihfdfgmgaaM8
namespace Go.Proofs.Ytkmbgihfdfgmgaa.P
open Go.RowKit Go.Proofs.YtkmbgihfdfgmgaaW.PrintWords Go.Proofs.YtkmbgihfdfgmgaaW.PrintLast Go.Proofs.YtkmbgihfdfgmgaaW.PrintMore
attribute [local go_sem] max2_int min2_int max_two min_two max_three min_three max_four min_four   -- for this text's walks alone
attribute [local go_sem high] string_leq string_geq string_gtr
set_option linter.unusedVariables false
set_option linter.unusedSimpArgs false

/-! ### ravelinref18_Is: function 16 -/
mutual
def ravelinref18_Is.j0 : Nat → Bool → Int → Int → Int → Bool → List (S39) → Option (Bool)
  | 0, _, _, _, _, _, _ => none
  | k + 1, x31, x276000, x276001, x276002, x276003, x276004 => if x31 = true then (some false) else (ravelinref18_Is.l0 k 0 x276000 x276001 x276002 x276003 x276004)
def ravelinref18_Is.l0 : Nat → Int → Int → Int → Int → Bool → List (S39) → Option (Bool)
  | 0, _, _, _, _, _, _ => none
  | k + 1, x3, x276000, x276001, x276002, x276003, x276004 => if x3 < (x276004.length : Int) then (if 0 ≤ x3 then (if (((rd_T39 x276004 x3).f0).size : Int) > 12 then (some false) else (ravelinref18_Is.l0 k (wrap64 (x3 + 1)) x276000 x276001 x276002 x276003 x276004)) else (none)) else (if x276003 = true then (if (x276004.length : Int) = 0 then (some true) else (some false)) else (if (x276004.length : Int) > 0 then ((ravelinref12_Is.f k x276004).bind fun t277 => (some t277)) else (some false)))
end
def ravelinref18_Is.f (k : Nat) (a0_0 : Int) (a0_1 : Int) (a0_2 : Int) (a0_3 : Bool) (l0_4 : List (S39)) : Option (Bool) := if a0_0 < 0 then (ravelinref18_Is.j0 k true a0_0 a0_1 a0_2 a0_3 l0_4) else (if a0_0 ≥ 6 then (ravelinref18_Is.j0 k true a0_0 a0_1 a0_2 a0_3 l0_4) else (if a0_1 < 1 then (ravelinref18_Is.j0 k true a0_0 a0_1 a0_2 a0_3 l0_4) else (if a0_1 > 1000000 then (ravelinref18_Is.j0 k true a0_0 a0_1 a0_2 a0_3 l0_4) else (if a0_2 < 0 then (ravelinref18_Is.j0 k true a0_0 a0_1 a0_2 a0_3 l0_4) else (ravelinref18_Is.j0 k (decide (a0_2 > 1000000)) a0_0 a0_1 a0_2 a0_3 l0_4)))))
theorem ravelinref18_Is.mono_l : ∀ k, (∀ y0 y1 y2 y3 y4 y5, LeO (ravelinref18_Is.j0 k y0 y1 y2 y3 y4 y5) (ravelinref18_Is.j0 (k + 1) y0 y1 y2 y3 y4 y5)) ∧ (∀ y0 y1 y2 y3 y4 y5, LeO (ravelinref18_Is.l0 k y0 y1 y2 y3 y4 y5) (ravelinref18_Is.l0 (k + 1) y0 y1 y2 y3 y4 y5))
  | 0 => ⟨fun _ _ _ _ _ _ r h => by simp [ravelinref18_Is.j0] at h, fun _ _ _ _ _ _ r h => by simp [ravelinref18_Is.l0] at h⟩
  | k + 1 => by
    obtain ⟨ih0, ih1⟩ := ravelinref18_Is.mono_l k
    refine ⟨?_, ?_⟩
    all_goals
      intros
      first | unfold ravelinref18_Is.j0 | unfold ravelinref18_Is.l0
      repeat' first
      | (with_reducible exact ih0 _ _ _ _ _ _)
      | (with_reducible exact ih1 _ _ _ _ _ _)
      | (with_reducible exact ravelinref12_Is.mono _ _)
      | (with_reducible exact LeO.refl _)
      | (with_reducible exact LeO.none _)
      | (with_reducible refine LeO.ite ?_ ?_)
      | (with_reducible refine LeO.bind ?_ (fun _ => ?_))
      | exact ih0 _ _ _ _ _ _
      | exact ih1 _ _ _ _ _ _
      | exact ravelinref12_Is.mono _ _
      | exact LeO.none _
      | refine LeO.ite ?_ ?_
      | refine LeO.bind ?_ (fun _ => ?_)
theorem ravelinref18_Is.mono : ∀ a0 a1 a2 a3 a4 k, LeO (ravelinref18_Is.f k a0 a1 a2 a3 a4) (ravelinref18_Is.f (k + 1) a0 a1 a2 a3 a4) := by
  intro a0 a1 a2 a3 a4 k
  obtain ⟨ih0, ih1⟩ := ravelinref18_Is.mono_l k
  unfold ravelinref18_Is.f
  repeat' first
      | (with_reducible exact ih0 _ _ _ _ _ _)
      | (with_reducible exact ih1 _ _ _ _ _ _)
      | (with_reducible exact ravelinref12_Is.mono _ _)
      | (with_reducible exact LeO.refl _)
      | (with_reducible exact LeO.none _)
      | (with_reducible refine LeO.ite ?_ ?_)
      | (with_reducible refine LeO.bind ?_ (fun _ => ?_))
      | exact ih0 _ _ _ _ _ _
      | exact ih1 _ _ _ _ _ _
      | exact ravelinref12_Is.mono _ _
      | exact LeO.none _
      | refine LeO.ite ?_ ?_
      | refine LeO.bind ?_ (fun _ => ?_)
set_option maxHeartbeats 8000000 in
set_option maxRecDepth 100000 in
theorem ravelinref18_Is.calls (k : Nat) (a0_0 : Int) (a0_1 : Int) (a0_2 : Int) (a0_3 : Bool) (A0_4 : Option Addr) (c0_4 : Nat) (l0_4 : List (S39)) (r : Bool) (w : World) (hr0_4 : Kd.C k39 w A0_4 l0_4.length l0_4) (hc0_4 : l0_4.length ≤ c0_4) (h : ravelinref18_Is.f k a0_0 a0_1 a0_2 a0_3 l0_4 = some r) :
    Calls Try.prog 16 #[.agg #[.int .i64 a0_0, .int .i64 a0_1, .int .i64 a0_2, .bool a0_3, .slice A0_4 l0_4.length c0_4]] w fun e w' => e = .returned (.bool r) ∧ Below w.heap.size w w' := by
  have hu24 := Try.underlying24
  have HR0_4 := Aside0.mk hr0_4
  have HC0_4 := Aside0.mk hc0_4
  clear hr0_4 hc0_4
  have HB := Aside0.mk (Below.refl w.heap.size w)
  have H : (if a0_0 < 0 then (ravelinref18_Is.j0 k true a0_0 a0_1 a0_2 a0_3 l0_4) else (if a0_0 ≥ 6 then (ravelinref18_Is.j0 k true a0_0 a0_1 a0_2 a0_3 l0_4) else (if a0_1 < 1 then (ravelinref18_Is.j0 k true a0_0 a0_1 a0_2 a0_3 l0_4) else (if a0_1 > 1000000 then (ravelinref18_Is.j0 k true a0_0 a0_1 a0_2 a0_3 l0_4) else (if a0_2 < 0 then (ravelinref18_Is.j0 k true a0_0 a0_1 a0_2 a0_3 l0_4) else (ravelinref18_Is.j0 k (decide (a0_2 > 1000000)) a0_0 a0_1 a0_2 a0_3 l0_4)))))) = some r := h
  clear h
  have HC2 := Aside0.mk H
  clear H
  go_enter Try.func16, Try.ntmps16
  go_upto_region 1 with (first | ((with_reducible refine gate_dst (N := 1) rfl ?_); (try (refine gate_guard (by rfl) ?_; dsimp only)); refine box_event ?hg (N := 1) ?hd (cs := #[.int .i64 a0_0, .int .i64 a0_1, .int .i64 a0_2, .bool a0_3, .slice A0_4 l0_4.length c0_4]) (t := 24) ?hr ?_; (case hd => rfl); (case hg => rfl); (case hr => first | (go_simp; done) | (go_simp; rfl)); intro gb275 hg w3 hbox hb; have n0_ := bs_ HB hb; have n1_ := Aside0.mk (hbox); have n2_ := gz_ HB hg; have n3_ := gz_ HB hg; clear HB; have HB := n0_; have BK275 := n1_; have GW275 := n2_; have GE275 := n3_; clear n0_ n1_ n2_ n3_; clear hb hbox hg))
  (try simp only [Act.put, lists_])
  go_cut [31] (fun v31 wc => ∃ (kq : Nat) (x31_1 : Bool), v31 = .bool x31_1 ∧ Aside0 (ravelinref18_Is.j0 kq x31_1 a0_0 a0_1 a0_2 a0_3 l0_4 = some r) ∧ Aside0 (kq ≤ k) ∧ Aside0 (wc.heap[gb275]? = some (.cells #[.int .i64 a0_0, .int .i64 a0_1, .int .i64 a0_2, .bool a0_3, (.slice A0_4 l0_4.length c0_4)] 24 (0, 0))) ∧ Aside0 (Below w.heap.size w wc))
  case first =>
    have H := HC2.out
    clear HC2
    by_cases c4 : a0_0 < 0
    · rw [if_pos c4] at H
      have c4b0 : decide (a0_0 < 0) = true := decide_eq_true c4
      clear c4
      (first | rw [c4b0] | (simp only [i64_w, i32_w]; rw [c4b0]) | skip)
      have H' := Aside0.mk H
      clear H
      have hcz5_0 := bc0 BK275
      have hcz5_1 := bc1 BK275
      have hcz5_2 := bc2 BK275
      have hcz5_3 := bc3 BK275
      have hcz5_4 := bc4 BK275
      have hfz5_0 := bf_ BK275 0
      have hfz5_1 := bf_ BK275 1
      have hfz5_2 := bf_ BK275 2
      have hfz5_3 := bf_ BK275 3
      have hfz5_4 := bf_ BK275 4
      go_wp2
      go_meet
      case rel => exact ⟨_, (true), (by first | rfl | (simp; done) | (simp [*]; done)), H', ⟨by first | omega | exact Nat.le_refl _⟩, ⟨gb_ BK275⟩, ⟨gwl_ [gb275] HB ⟨GE275, ⟨⟩⟩⟩⟩
    rw [if_neg c4] at H
    have c4b0 : decide (a0_0 < 0) = false := decide_eq_false c4
    clear c4
    (first | rw [c4b0] | (simp only [i64_w, i32_w]; rw [c4b0]) | skip)
    by_cases c6 : a0_0 ≥ 6
    · rw [if_pos c6] at H
      have c6b0 : decide (6 ≤ a0_0) = true := decide_eq_true c6
      clear c6
      have H' := Aside0.mk H
      clear H
      have hcz7_0 := bc0 BK275
      have hcz7_1 := bc1 BK275
      have hcz7_2 := bc2 BK275
      have hcz7_3 := bc3 BK275
      have hcz7_4 := bc4 BK275
      have hfz7_0 := bf_ BK275 0
      have hfz7_1 := bf_ BK275 1
      have hfz7_2 := bf_ BK275 2
      have hfz7_3 := bf_ BK275 3
      have hfz7_4 := bf_ BK275 4
      go_wp2
      go_meet
      case rel => exact ⟨_, (true), (by first | rfl | (simp; done) | (simp [*]; done)), H', ⟨by first | omega | exact Nat.le_refl _⟩, ⟨gb_ BK275⟩, ⟨gwl_ [gb275] HB ⟨GE275, ⟨⟩⟩⟩⟩
    rw [if_neg c6] at H
    have c6b0 : decide (6 ≤ a0_0) = false := decide_eq_false c6
    clear c6
    by_cases c8 : a0_1 < 1
    · rw [if_pos c8] at H
      have c8b0 : decide (a0_1 < 1) = true := decide_eq_true c8
      clear c8
      have H' := Aside0.mk H
      clear H
      have hcz9_0 := bc0 BK275
      have hcz9_1 := bc1 BK275
      have hcz9_2 := bc2 BK275
      have hcz9_3 := bc3 BK275
      have hcz9_4 := bc4 BK275
      have hfz9_0 := bf_ BK275 0
      have hfz9_1 := bf_ BK275 1
      have hfz9_2 := bf_ BK275 2
      have hfz9_3 := bf_ BK275 3
      have hfz9_4 := bf_ BK275 4
      go_wp2
      go_meet
      case rel => exact ⟨_, (true), (by first | rfl | (simp; done) | (simp [*]; done)), H', ⟨by first | omega | exact Nat.le_refl _⟩, ⟨gb_ BK275⟩, ⟨gwl_ [gb275] HB ⟨GE275, ⟨⟩⟩⟩⟩
    rw [if_neg c8] at H
    have c8b0 : decide (a0_1 < 1) = false := decide_eq_false c8
    clear c8
    by_cases c10 : a0_1 > 1000000
    · rw [if_pos c10] at H
      have c10b0 : decide (1000000 < a0_1) = true := decide_eq_true c10
      clear c10
      have H' := Aside0.mk H
      clear H
      have hcz11_0 := bc0 BK275
      have hcz11_1 := bc1 BK275
      have hcz11_2 := bc2 BK275
      have hcz11_3 := bc3 BK275
      have hcz11_4 := bc4 BK275
      have hfz11_0 := bf_ BK275 0
      have hfz11_1 := bf_ BK275 1
      have hfz11_2 := bf_ BK275 2
      have hfz11_3 := bf_ BK275 3
      have hfz11_4 := bf_ BK275 4
      go_wp2
      go_meet
      case rel => exact ⟨_, (true), (by first | rfl | (simp; done) | (simp [*]; done)), H', ⟨by first | omega | exact Nat.le_refl _⟩, ⟨gb_ BK275⟩, ⟨gwl_ [gb275] HB ⟨GE275, ⟨⟩⟩⟩⟩
    rw [if_neg c10] at H
    have c10b0 : decide (1000000 < a0_1) = false := decide_eq_false c10
    clear c10
    by_cases c12 : a0_2 < 0
    · rw [if_pos c12] at H
      have c12b0 : decide (a0_2 < 0) = true := decide_eq_true c12
      clear c12
      have H' := Aside0.mk H
      clear H
      have hcz13_0 := bc0 BK275
      have hcz13_1 := bc1 BK275
      have hcz13_2 := bc2 BK275
      have hcz13_3 := bc3 BK275
      have hcz13_4 := bc4 BK275
      have hfz13_0 := bf_ BK275 0
      have hfz13_1 := bf_ BK275 1
      have hfz13_2 := bf_ BK275 2
      have hfz13_3 := bf_ BK275 3
      have hfz13_4 := bf_ BK275 4
      go_wp2
      go_meet
      case rel => exact ⟨_, (true), (by first | rfl | (simp; done) | (simp [*]; done)), H', ⟨by first | omega | exact Nat.le_refl _⟩, ⟨gb_ BK275⟩, ⟨gwl_ [gb275] HB ⟨GE275, ⟨⟩⟩⟩⟩
    rw [if_neg c12] at H
    have c12b0 : decide (a0_2 < 0) = false := decide_eq_false c12
    clear c12
    have H' := Aside0.mk H
    clear H
    have hcz14_0 := bc0 BK275
    have hcz14_1 := bc1 BK275
    have hcz14_2 := bc2 BK275
    have hcz14_3 := bc3 BK275
    have hcz14_4 := bc4 BK275
    have hfz14_0 := bf_ BK275 0
    have hfz14_1 := bf_ BK275 1
    have hfz14_2 := bf_ BK275 2
    have hfz14_3 := bf_ BK275 3
    have hfz14_4 := bf_ BK275 4
    go_wp2
    go_meet
    case rel => exact ⟨_, (decide (a0_2 > 1000000)), (by first | rfl | (simp; done) | (simp [*]; done)), H', ⟨by first | omega | exact Nat.le_refl _⟩, ⟨gb_ BK275⟩, ⟨gwl_ [gb275] HB ⟨GE275, ⟨⟩⟩⟩⟩
  clear HC2
  try clear c1
  try clear p2
  try clear c4
  try clear c4b0
  try clear c6
  try clear c6b0
  try clear c8
  try clear c8b0
  try clear c10
  try clear c10b0
  try clear c12
  try clear c12b0
  try clear hcz11_0
  try clear hcz11_1
  try clear hcz11_2
  try clear hcz11_3
  try clear hcz11_4
  try clear hcz13_0
  try clear hcz13_1
  try clear hcz13_2
  try clear hcz13_3
  try clear hcz13_4
  try clear hcz14_0
  try clear hcz14_1
  try clear hcz14_2
  try clear hcz14_3
  try clear hcz14_4
  try clear hcz5_0
  try clear hcz5_1
  try clear hcz5_2
  try clear hcz5_3
  try clear hcz5_4
  try clear hcz7_0
  try clear hcz7_1
  try clear hcz7_2
  try clear hcz7_3
  try clear hcz7_4
  try clear hcz9_0
  try clear hcz9_1
  try clear hcz9_2
  try clear hcz9_3
  try clear hcz9_4
  try clear hfz11_0
  try clear hfz11_1
  try clear hfz11_2
  try clear hfz11_3
  try clear hfz11_4
  try clear hfz13_0
  try clear hfz13_1
  try clear hfz13_2
  try clear hfz13_3
  try clear hfz13_4
  try clear hfz14_0
  try clear hfz14_1
  try clear hfz14_2
  try clear hfz14_3
  try clear hfz14_4
  try clear hfz5_0
  try clear hfz5_1
  try clear hfz5_2
  try clear hfz5_3
  try clear hfz5_4
  try clear hfz7_0
  try clear hfz7_1
  try clear hfz7_2
  try clear hfz7_3
  try clear hfz7_4
  try clear hfz9_0
  try clear hfz9_1
  try clear hfz9_2
  try clear hfz9_3
  try clear hfz9_4
  obtain ⟨kq, x31_1, rfl, HA, HJ1, BK275, HB⟩ := hcut
  cases kq with
  | zero => exact absurd HA.out (by simp [ravelinref18_Is.j0])
  | succ kj1 => ?_
  have H := HA.out
  clear HA
  simp only [ravelinref18_Is.j0] at H
  by_cases c15 : x31_1 = true
  · subst c15
    have H1 : (some false) = some r := by rw [if_pos rfl] at H; exact H
    clear H
    have H := H1
    clear H1
    obtain rfl := Option.some.inj H
    go_wp2
    go_ret
    exact ⟨by first | rfl | (simp [*, errW_none, errW_some] <;> rfl), gwl_ [gb275] HB ⟨GE275, ⟨⟩⟩⟩
  replace c15 := Bool.eq_false_iff.mpr c15
  subst c15
  have H1 : (ravelinref18_Is.l0 kj1 0 a0_0 a0_1 a0_2 a0_3 l0_4) = some r := by rw [if_neg (show ¬ (false = true) by decide)] at H; exact H
  clear H
  have H := H1
  clear H1
  have H' := Aside0.mk H
  clear H
  go_wp2
  go_loopg [3] kj1 (fun kq v3 w' => ∃ (x3_2 : Int), v3 = .int .i64 x3_2 ∧ Aside0 (ravelinref18_Is.l0 kq x3_2 a0_0 a0_1 a0_2 a0_3 l0_4 = some r) ∧ Aside0 (kq ≤ kj1) ∧ Aside0 (w'.heap[gb275]? = some (.cells #[.int .i64 a0_0, .int .i64 a0_1, .int .i64 a0_2, .bool a0_3, (.slice A0_4 l0_4.length c0_4)] 24 (0, 0))) ∧ Aside0 (Below w.heap.size w w'))
  case atStart => exact ⟨(0), (by first | rfl | (simp; done) | (simp [*]; done)), H', ⟨Nat.le_refl _⟩, ⟨gb_ BK275⟩, ⟨gwl_ [gb275] HB ⟨GE275, ⟨⟩⟩⟩⟩
  clear H'
  try clear c1
  try clear p2
  try clear c4
  try clear c4b0
  try clear c6
  try clear c6b0
  try clear c8
  try clear c8b0
  try clear c10
  try clear c10b0
  try clear c12
  try clear c12b0
  try clear c15
  try clear hcz11_0
  try clear hcz11_1
  try clear hcz11_2
  try clear hcz11_3
  try clear hcz11_4
  try clear hcz13_0
  try clear hcz13_1
  try clear hcz13_2
  try clear hcz13_3
  try clear hcz13_4
  try clear hcz14_0
  try clear hcz14_1
  try clear hcz14_2
  try clear hcz14_3
  try clear hcz14_4
  try clear hcz5_0
  try clear hcz5_1
  try clear hcz5_2
  try clear hcz5_3
  try clear hcz5_4
  try clear hcz7_0
  try clear hcz7_1
  try clear hcz7_2
  try clear hcz7_3
  try clear hcz7_4
  try clear hcz9_0
  try clear hcz9_1
  try clear hcz9_2
  try clear hcz9_3
  try clear hcz9_4
  try clear hfz11_0
  try clear hfz11_1
  try clear hfz11_2
  try clear hfz11_3
  try clear hfz11_4
  try clear hfz13_0
  try clear hfz13_1
  try clear hfz13_2
  try clear hfz13_3
  try clear hfz13_4
  try clear hfz14_0
  try clear hfz14_1
  try clear hfz14_2
  try clear hfz14_3
  try clear hfz14_4
  try clear hfz5_0
  try clear hfz5_1
  try clear hfz5_2
  try clear hfz5_3
  try clear hfz5_4
  try clear hfz7_0
  try clear hfz7_1
  try clear hfz7_2
  try clear hfz7_3
  try clear hfz7_4
  try clear hfz9_0
  try clear hfz9_1
  try clear hfz9_2
  try clear hfz9_3
  try clear hfz9_4
  try clear p2
  obtain ⟨x3_2, rfl, HA, HK2, BK275, HB⟩ := hrel
  cases gk with
  | zero => exact absurd HA.out (by simp [ravelinref18_Is.l0])
  | succ k2 => ?_
  have H := HA.out
  clear HA
  simp only [ravelinref18_Is.l0] at H
  by_cases c16 : x3_2 < (l0_4.length : Int)
  · rw [if_pos c16] at H
    have c16b0 : decide (x3_2 < (l0_4.length : Int)) = true := decide_eq_true c16
    clear c16
    by_cases c17 : 0 ≤ x3_2
    rotate_left
    · rw [if_neg c17] at H
      exact absurd H (by simp)
    rw [if_pos c17] at H
    have c17b0 : decide (0 ≤ x3_2) = true := decide_eq_true c17
    clear c17
    by_cases c18 : (((rd_T39 l0_4 x3_2).f0).size : Int) > 12
    · rw [if_pos c18] at H
      have c18b0 : decide (12 < (((rd_T39 l0_4 x3_2).f0).size : Int)) = true := decide_eq_true c18
      have c18b1 : decide (12 < ((rd_T39 l0_4 x3_2).f0).size) = true := decide_eq_true (by omega)
      clear c18
      obtain rfl := Option.some.inj H
      have hcz19_0 := bc0 BK275
      have hcz19_1 := bc1 BK275
      have hcz19_2 := bc2 BK275
      have hcz19_3 := bc3 BK275
      have hcz19_4 := bc4 BK275
      have hfz19_0 := bf_ BK275 0
      have hfz19_1 := bf_ BK275 1
      have hfz19_2 := bf_ BK275 2
      have hfz19_3 := bf_ BK275 3
      have hfz19_4 := bf_ BK275 4
      have p276 : 0 ≤ (x3_2 : Int) := of_decide_eq_true (by assumption)
      have q276 : x3_2 < (l0_4.length : Int) := of_decide_eq_true (by assumption)
      obtain ⟨ad276, e276, hx276_0, hx276_1, hx276_2⟩ := at_T39 HR0_4.out x3_2 p276 q276
      cases e276
      replace hx276_0 := hc_ HB hx276_0
      replace hx276_1 := hc_ HB hx276_1
      replace hx276_2 := hc_ HB hx276_2
      replace p276 := eq_true p276
      replace q276 := eq_true q276
      go_wp2
      go_ret
      exact ⟨by first | rfl | (simp [*, errW_none, errW_some] <;> rfl), gwl_ [gb275] HB ⟨GE275, ⟨⟩⟩⟩
    rw [if_neg c18] at H
    have c18b0 : decide (12 < (((rd_T39 l0_4 x3_2).f0).size : Int)) = false := decide_eq_false c18
    have c18b1 : decide (12 < ((rd_T39 l0_4 x3_2).f0).size) = false := decide_eq_false (by omega)
    clear c18
    have H' := Aside0.mk H
    clear H
    have hcz20_0 := bc0 BK275
    have hcz20_1 := bc1 BK275
    have hcz20_2 := bc2 BK275
    have hcz20_3 := bc3 BK275
    have hcz20_4 := bc4 BK275
    have hfz20_0 := bf_ BK275 0
    have hfz20_1 := bf_ BK275 1
    have hfz20_2 := bf_ BK275 2
    have hfz20_3 := bf_ BK275 3
    have hfz20_4 := bf_ BK275 4
    have p276 : 0 ≤ (x3_2 : Int) := of_decide_eq_true (by assumption)
    have q276 : x3_2 < (l0_4.length : Int) := of_decide_eq_true (by assumption)
    obtain ⟨ad276, e276, hx276_0, hx276_1, hx276_2⟩ := at_T39 HR0_4.out x3_2 p276 q276
    cases e276
    replace hx276_0 := hc_ HB hx276_0
    replace hx276_1 := hc_ HB hx276_1
    replace hx276_2 := hc_ HB hx276_2
    replace p276 := eq_true p276
    replace q276 := eq_true q276
    go_wp2
    go_roundg k2
    case measure => have := HJ1.out; have := HK2.out; omega
    case rel => exact ⟨(wrap64 (x3_2 + 1)), (by first | rfl | (simp; done) | (simp [*]; done)), H', ⟨by have := HJ1.out; have := HK2.out; omega⟩, ⟨gb_ BK275⟩, ⟨gwl_ [gb275] HB ⟨GE275, ⟨⟩⟩⟩⟩
  rw [if_neg c16] at H
  have c16b0 : decide (x3_2 < (l0_4.length : Int)) = false := decide_eq_false c16
  clear c16
  by_cases c21 : a0_3 = true
  · subst c21
    have H1 : (if (l0_4.length : Int) = 0 then (some true) else (some false)) = some r := by rw [if_pos rfl] at H; exact H
    clear H
    have H := H1
    clear H1
    by_cases c22 : (l0_4.length : Int) = 0
    · rw [if_pos c22] at H
      have c22b0 : ((l0_4.length : Int) == 0) = true := beq_iff_eq.mpr c22
      have c22b1 : ((l0_4.length : Int) != 0) = false := bne_eq_false_iff_eq.mpr c22
      clear c22
      obtain rfl := Option.some.inj H
      have hcz23_0 := bc0 BK275
      have hcz23_1 := bc1 BK275
      have hcz23_2 := bc2 BK275
      have hcz23_3 := bc3 BK275
      have hcz23_4 := bc4 BK275
      have hfz23_0 := bf_ BK275 0
      have hfz23_1 := bf_ BK275 1
      have hfz23_2 := bf_ BK275 2
      have hfz23_3 := bf_ BK275 3
      have hfz23_4 := bf_ BK275 4
      go_wp2
      go_ret
      exact ⟨by first | rfl | (simp [*, errW_none, errW_some] <;> rfl), gwl_ [gb275] HB ⟨GE275, ⟨⟩⟩⟩
    rw [if_neg c22] at H
    have c22b0 : ((l0_4.length : Int) == 0) = false := beq_eq_false_iff_ne.mpr c22
    have c22b1 : ((l0_4.length : Int) != 0) = true := bne_iff_ne.mpr c22
    have c22b2 : ¬ (l0_4 = []) := fun h_ => c22 (by rw [h_]; rfl)
    obtain rfl := Option.some.inj H
    have hcz24_0 := bc0 BK275
    have hcz24_1 := bc1 BK275
    have hcz24_2 := bc2 BK275
    have hcz24_3 := bc3 BK275
    have hcz24_4 := bc4 BK275
    have hfz24_0 := bf_ BK275 0
    have hfz24_1 := bf_ BK275 1
    have hfz24_2 := bf_ BK275 2
    have hfz24_3 := bf_ BK275 3
    have hfz24_4 := bf_ BK275 4
    go_wp2
    go_ret
    exact ⟨by first | rfl | (simp [*, errW_none, errW_some] <;> rfl), gwl_ [gb275] HB ⟨GE275, ⟨⟩⟩⟩
  replace c21 := Bool.eq_false_iff.mpr c21
  subst c21
  have H1 : (if (l0_4.length : Int) > 0 then ((ravelinref12_Is.f k2 l0_4).bind fun t277 => (some t277)) else (some false)) = some r := by rw [if_neg (show ¬ (false = true) by decide)] at H; exact H
  clear H
  have H := H1
  clear H1
  by_cases c25 : (l0_4.length : Int) > 0
  rotate_left
  · rw [if_neg c25] at H
    have c25b0 : decide (0 < (l0_4.length : Int)) = false := decide_eq_false c25
    have c25b1 : decide (0 < l0_4.length) = false := decide_eq_false (by omega)
    clear c25
    obtain rfl := Option.some.inj H
    have hcz29_0 := bc0 BK275
    have hcz29_1 := bc1 BK275
    have hcz29_2 := bc2 BK275
    have hcz29_3 := bc3 BK275
    have hcz29_4 := bc4 BK275
    have hfz29_0 := bf_ BK275 0
    have hfz29_1 := bf_ BK275 1
    have hfz29_2 := bf_ BK275 2
    have hfz29_3 := bf_ BK275 3
    have hfz29_4 := bf_ BK275 4
    go_wp2
    go_ret
    exact ⟨by first | rfl | (simp [*, errW_none, errW_some] <;> rfl), gwl_ [gb275] HB ⟨GE275, ⟨⟩⟩⟩
  rw [if_pos c25] at H
  have c25b0 : decide (0 < (l0_4.length : Int)) = true := decide_eq_true c25
  have c25b1 : decide (0 < l0_4.length) = true := decide_eq_true (by omega)
  clear c25
  replace H := Option.bind_eq_some_iff.mp H
  obtain ⟨t277, A260, H⟩ := H
  try dsimp only at H
  have A26 := Aside0.mk A260
  clear A260
  obtain rfl := Option.some.inj H
  have hcz27_0 := bc0 BK275
  have hcz27_1 := bc1 BK275
  have hcz27_2 := bc2 BK275
  have hcz27_3 := bc3 BK275
  have hcz27_4 := bc4 BK275
  have hfz27_0 := bf_ BK275 0
  have hfz27_1 := bf_ BK275 1
  have hfz27_2 := bf_ BK275 2
  have hfz27_3 := bf_ BK275 3
  have hfz27_4 := bf_ BK275 4
  go_wp2_with (first | (go_at_call 33; (with_reducible refine (ravelinref12_Is.calls k2 _ _ l0_4 t277 _ ?side1 ?side2 A26.out).mono ?_); (case side1 => exact cb_ HR0_4 HB); (case side2 => exact HC0_4.out); rintro e w28 ⟨rfl, hb⟩; have n0_ := bb_ BK275 hb; have n1_ := bl_ [gb275] HB ⟨GE275, ⟨⟩⟩ hb; clear BK275; clear HB; have BK275 := n0_; have HB := n1_; clear n0_ n1_; (try clear hb); (try clear hb2); (try clear hk); (try clear hi)))
  go_ret
  exact ⟨by first | rfl | (simp [*, errW_none, errW_some] <;> rfl), gwl_ [gb275] HB ⟨GE275, ⟨⟩⟩⟩

/-! ### ravelinref3_Num: function 22 -/
def ravelinref3_Num.l0 : Nat → ByteArray → Int → Option (ByteArray)
  | 0, _, _ => none
  | k + 1, x3, x4 => if x4 > 0 then ((some (([(Int.tmod x4 256) % 256] : List Int) : List Int)).bind fun y278 => (if (strOfNums y278).size + x3.size ≤ 9223372036854775807 then (ravelinref3_Num.l0 k ((strOfNums y278) ++ x3) (wrap64 (Int.tdiv x4 256))) else (none))) else ((some (([((x3.size : Int)) % 256] : List Int) : List Int)).bind fun y281 => (if (strOfNums y281).size + x3.size ≤ 9223372036854775807 then (some ((strOfNums y281) ++ x3)) else (none)))
def ravelinref3_Num.f (k : Nat) (a0 : Int) : Option (ByteArray) := ravelinref3_Num.l0 k (⟨#[]⟩ : ByteArray) (mx 0 a0)
theorem ravelinref3_Num.mono_l : ∀ k, (∀ y0 y1, LeO (ravelinref3_Num.l0 k y0 y1) (ravelinref3_Num.l0 (k + 1) y0 y1))
  | 0 => fun _ _ r h => by simp [ravelinref3_Num.l0] at h
  | k + 1 => by
    have ih0 := ravelinref3_Num.mono_l k
    · intro y0 y1
      unfold ravelinref3_Num.l0
      repeat' first
      | (with_reducible exact ih0 _ _)
      | (with_reducible exact LeO.refl _)
      | (with_reducible exact LeO.none _)
      | (with_reducible refine LeO.ite ?_ ?_)
      | (with_reducible refine LeO.bind ?_ (fun _ => ?_))
      | exact ih0 _ _
      | exact LeO.none _
      | refine LeO.ite ?_ ?_
      | refine LeO.bind ?_ (fun _ => ?_)
theorem ravelinref3_Num.mono : ∀ a0 k, LeO (ravelinref3_Num.f k a0) (ravelinref3_Num.f (k + 1) a0) := by
  intro a0 k
  have ih0 := ravelinref3_Num.mono_l k
  unfold ravelinref3_Num.f
  repeat' first
      | (with_reducible exact ih0 _ _)
      | (with_reducible exact LeO.refl _)
      | (with_reducible exact LeO.none _)
      | (with_reducible refine LeO.ite ?_ ?_)
      | (with_reducible refine LeO.bind ?_ (fun _ => ?_))
      | exact ih0 _ _
      | exact LeO.none _
      | refine LeO.ite ?_ ?_
      | refine LeO.bind ?_ (fun _ => ?_)
set_option maxHeartbeats 8000000 in
set_option maxRecDepth 100000 in
theorem ravelinref3_Num.calls (k : Nat) (a0 : Int) (r : ByteArray) (w : World) (h : ravelinref3_Num.f k a0 = some r) :
    Calls Try.prog 22 #[.int .i64 a0] w fun e w' => e = .returned (.string r) ∧ Below w.heap.size w w' := by
  have HB := Aside0.mk (Below.refl w.heap.size w)
  have H : (ravelinref3_Num.l0 k (⟨#[]⟩ : ByteArray) (mx 0 a0)) = some r := h
  clear h
  obtain ⟨ji2, hji2⟩ : ∃ j_ : Int, (mx 0 a0) = j_ := ⟨_, rfl⟩
  replace H : (ravelinref3_Num.l0 k (⟨#[]⟩ : ByteArray) ji2) = some r := by first | (rw [hji2] at H; exact H) | (simp only [hji2] at H ⊢; exact H)
  (try (have hji2l : 0 ≤ ji2 := by (rw [← hji2]; unfold mx; (repeat' split) <;> omega)))
  (try (have hji2m : 0 ≤ ji2 := by omega))
  have hji2_ : (if 0 < a0 then a0 else 0) = ji2 := hji2
  (try (have hji2_n := hji2_; simp only [Int.ofNat_lt] at hji2_n))
  have H' := Aside0.mk H
  clear H
  go_enter Try.func22, Try.ntmps22
  go_wp2
  go_loopg [3, 4] k (fun kq v3 v4 w' => ∃ (x3_1 : ByteArray) (x4_1 : Int), v3 = .string x3_1 ∧ v4 = .int .i64 x4_1 ∧ Aside0 (ravelinref3_Num.l0 kq x3_1 x4_1 = some r) ∧ Aside0 (kq ≤ k) ∧ Aside0 (Below w.heap.size w w'))
  case atStart => exact ⟨((⟨#[]⟩ : ByteArray)), (ji2), (by first | rfl | (simp; done) | (simp [*]; done)), (by first | rfl | (simp; done) | (simp only [← hji2] <;> (first | rfl | simp)) | (simp [*]; done)), H', ⟨Nat.le_refl _⟩, ⟨gw_ HB⟩⟩
  clear H'
  try clear c2
  try clear p2
  obtain ⟨x3_1, x4_1, rfl, rfl, HA, HK1, HB⟩ := hrel
  cases gk with
  | zero => exact absurd HA.out (by simp [ravelinref3_Num.l0])
  | succ k1 => ?_
  have H := HA.out
  clear HA
  simp only [ravelinref3_Num.l0] at H
  by_cases c3 : x4_1 > 0
  rotate_left
  · rw [if_neg c3] at H
    have c3b0 : decide (0 < x4_1) = false := decide_eq_false c3
    clear c3
    obtain ⟨y281, hy281⟩ : ∃ y_ : List Int, y_ = (([((x3_1.size : Int)) % 256] : List Int)) := ⟨_, rfl⟩
    replace H : (if (strOfNums y281).size + x3_1.size ≤ 9223372036854775807 then (some ((strOfNums y281) ++ x3_1)) else (none)) = some r := by first | (rw [hy281]; with_reducible exact H) | (have H2_ := (Option.bind_some _ _).symm.trans H; rw [hy281]; with_reducible exact H2_) | (have H2_ := (Option.bind_some _ _).symm.trans H; with_reducible exact H2_) | with_reducible exact H | (rw [hy281]; exact H) | exact H
    have Ny281 := Aside0.mk hy281
    clear hy281
    by_cases c8 : (strOfNums y281).size + x3_1.size ≤ 9223372036854775807
    rotate_left
    · rw [if_neg c8] at H
      exact absurd H (by simp)
    rw [if_pos c8] at H
    have c8b0 := eq_true c8
    have c8b1 : decide ((strOfNums y281).size + x3_1.size ≤ 9223372036854775807) = true := decide_eq_true c8
    try have c8b2 : (9223372036854775807 < (strOfNums y281).size + x3_1.size) = False := eq_false (Nat.not_lt.2 c8)
    obtain rfl := Option.some.inj H
    go_wp2_with (first | ((with_reducible refine gate_dst (N := 21) rfl ?_); refine Kd.R_lit (Kd.int .u8) _ 5 ?hg (N := 21) ?hd (xs := ([((x3_1.size : Int)) % 256] : List Int)) (inner := [.int .u8 (((x3_1.size : Int)) % 256)]) (ok := fun _ => True) (okp := fun _ => True) ?hr ?hp (fun _ hk => hk) trivial (Below.refl _ _) (Nat.le_refl _) (by simp) ?_; (case hd => rfl); (case hg => rfl); (case hr => first | (go_simp; done) | (go_simp; rfl)); (case hp => exact (Reps.one (show Kd.M (Kd.int .u8) _ _ _ (((x3_1.size : Int)) % 256) [.int .u8 (((x3_1.size : Int)) % 256)] from rfl) (Reps.none _ _))); intro v282 w9 ho10 hb hg_ hnew_; clear hg_ hnew_; (first | rw [← Ny281.out] at ho10 | (simp only [Int.reduceToNat] at ho10; rw [← Ny281.out] at ho10)); have n0_ := Aside0.mk (Kd.R_lower ho10 (below_size (gw_ HB))); have n1_ := bs_ HB hb; clear HB; have HO283 := n0_; have HB := n1_; clear n0_ n1_; clear hb ho10; have hcv11 := own_string (P := Try.prog) Try.underlying42 Try.underlying5 Try.underlying9 (Kd.own_of_R HO283.out)))
    go_ret
    exact ⟨by first | rfl | (simp [errW_none, errW_some] <;> rfl) | (simp only [← hji2]; first | rfl | (simp [errW_none, errW_some] <;> rfl)) | (simp [*, errW_none, errW_some] <;> rfl), gw_ HB⟩
  rw [if_pos c3] at H
  have c3b0 : decide (0 < x4_1) = true := decide_eq_true c3
  clear c3
  obtain ⟨y278, hy278⟩ : ∃ y_ : List Int, y_ = (([(Int.tmod x4_1 256) % 256] : List Int)) := ⟨_, rfl⟩
  replace H : (if (strOfNums y278).size + x3_1.size ≤ 9223372036854775807 then (ravelinref3_Num.l0 k1 ((strOfNums y278) ++ x3_1) (wrap64 (Int.tdiv x4_1 256))) else (none)) = some r := by first | (rw [hy278]; with_reducible exact H) | (have H2_ := (Option.bind_some _ _).symm.trans H; rw [hy278]; with_reducible exact H2_) | (have H2_ := (Option.bind_some _ _).symm.trans H; with_reducible exact H2_) | with_reducible exact H | (rw [hy278]; exact H) | exact H
  have Ny278 := Aside0.mk hy278
  clear hy278
  by_cases c4 : (strOfNums y278).size + x3_1.size ≤ 9223372036854775807
  rotate_left
  · rw [if_neg c4] at H
    exact absurd H (by simp)
  rw [if_pos c4] at H
  have c4b0 := eq_true c4
  have c4b1 : decide ((strOfNums y278).size + x3_1.size ≤ 9223372036854775807) = true := decide_eq_true c4
  try have c4b2 : (9223372036854775807 < (strOfNums y278).size + x3_1.size) = False := eq_false (Nat.not_lt.2 c4)
  have H' := Aside0.mk H
  clear H
  go_wp2_with (first | ((with_reducible refine gate_dst (N := 14) rfl ?_); refine Kd.R_lit (Kd.int .u8) _ 5 ?hg (N := 14) ?hd (xs := ([(Int.tmod x4_1 256) % 256] : List Int)) (inner := [.int .u8 ((Int.tmod x4_1 256) % 256)]) (ok := fun _ => True) (okp := fun _ => True) ?hr ?hp (fun _ hk => hk) trivial (Below.refl _ _) (Nat.le_refl _) (by simp) ?_; (case hd => rfl); (case hg => rfl); (case hr => first | (go_simp; done) | (go_simp; rfl)); (case hp => exact (Reps.one (show Kd.M (Kd.int .u8) _ _ _ ((Int.tmod x4_1 256) % 256) [.int .u8 ((Int.tmod x4_1 256) % 256)] from rfl) (Reps.none _ _))); intro v279 w5 ho6 hb hg_ hnew_; clear hg_ hnew_; (first | rw [← Ny278.out] at ho6 | (simp only [Int.reduceToNat] at ho6; rw [← Ny278.out] at ho6)); have n0_ := Aside0.mk (Kd.R_lower ho6 (below_size (gw_ HB))); have n1_ := bs_ HB hb; clear HB; have HO280 := n0_; have HB := n1_; clear n0_ n1_; clear hb ho6; have hcv7 := own_string (P := Try.prog) Try.underlying42 Try.underlying5 Try.underlying9 (Kd.own_of_R HO280.out)))
  go_roundg k1
  case measure => have := HK1.out; omega
  case rel => exact ⟨((strOfNums y278) ++ x3_1), (wrap64 (Int.tdiv x4_1 256)), (by first | rfl | (simp; done) | (simp [*]; done)), (by first | rfl | (simp; done) | (simp [*]; done)), H', ⟨by have := HK1.out; omega⟩, ⟨gw_ HB⟩⟩

/-! ### ravelinref3_four: function 39 -/
def ravelinref3_four.f (a0 : Int) : Option (ByteArray) := some (strOfNums (([(a0 / 16777216) % 256, (a0 / 65536) % 256, (a0 / 256) % 256, (a0) % 256] : List Int)))
set_option maxHeartbeats 8000000 in
set_option maxRecDepth 100000 in
theorem ravelinref3_four.calls (a0 : Int) (r : ByteArray) (w : World) (h : ravelinref3_four.f a0 = some r) :
    Calls Try.prog 39 #[.int .u32 a0] w fun e w' => e = .returned (.string r) ∧ Below w.heap.size w w' := by
  have HB := Aside0.mk (Below.refl w.heap.size w)
  have H : (some (strOfNums (([(a0 / 16777216) % 256, (a0 / 65536) % 256, (a0 / 256) % 256, (a0) % 256] : List Int)))) = some r := h
  clear h
  obtain ⟨y284, hy284⟩ : ∃ y_ : List Int, y_ = (([(a0 / 16777216) % 256, (a0 / 65536) % 256, (a0 / 256) % 256, (a0) % 256] : List Int)) := ⟨_, rfl⟩
  replace H : (some (strOfNums y284)) = some r := by first | (rw [hy284]; with_reducible exact H) | (have H2_ := (Option.bind_some _ _).symm.trans H; rw [hy284]; with_reducible exact H2_) | (have H2_ := (Option.bind_some _ _).symm.trans H; with_reducible exact H2_) | with_reducible exact H | (rw [hy284]; exact H) | exact H
  have Ny284 := Aside0.mk hy284
  clear hy284
  obtain rfl := Option.some.inj H
  go_enter Try.func39, Try.ntmps39
  go_wp2_with (first | ((with_reducible refine gate_dst (N := 14) rfl ?_); refine Kd.R_lit (Kd.int .u8) _ 5 ?hg (N := 14) ?hd (xs := ([(a0 / 16777216) % 256, (a0 / 65536) % 256, (a0 / 256) % 256, (a0) % 256] : List Int)) (inner := [.int .u8 ((a0 / 16777216) % 256), .int .u8 ((a0 / 65536) % 256), .int .u8 ((a0 / 256) % 256), .int .u8 ((a0) % 256)]) (ok := fun _ => True) (okp := fun _ => True) ?hr ?hp (fun _ hk => hk) trivial (Below.refl _ _) (Nat.le_refl _) (by simp) ?_; (case hd => rfl); (case hg => rfl); (case hr => first | (go_simp; done) | (go_simp; rfl)); (case hp => exact (Reps.one (show Kd.M (Kd.int .u8) _ _ _ ((a0 / 16777216) % 256) [.int .u8 ((a0 / 16777216) % 256)] from rfl) (Reps.one (show Kd.M (Kd.int .u8) _ _ _ ((a0 / 65536) % 256) [.int .u8 ((a0 / 65536) % 256)] from rfl) (Reps.one (show Kd.M (Kd.int .u8) _ _ _ ((a0 / 256) % 256) [.int .u8 ((a0 / 256) % 256)] from rfl) (Reps.one (show Kd.M (Kd.int .u8) _ _ _ ((a0) % 256) [.int .u8 ((a0) % 256)] from rfl) (Reps.none _ _)))))); intro v285 w2 ho3 hb hg_ hnew_; clear hg_ hnew_; (first | rw [← Ny284.out] at ho3 | (simp only [Int.reduceToNat] at ho3; rw [← Ny284.out] at ho3)); have n0_ := Aside0.mk (Kd.R_lower ho3 (below_size (gw_ HB))); have n1_ := bs_ HB hb; clear HB; have HO286 := n0_; have HB := n1_; clear n0_ n1_; clear hb ho3; have hcv4 := own_string (P := Try.prog) Try.underlying42 Try.underlying5 Try.underlying9 (Kd.own_of_R HO286.out)))
  go_ret
  exact ⟨by first | rfl | (simp [*, errW_none, errW_some] <;> rfl), gw_ HB⟩

/-! ### ravelinref3_Sum: function 40 -/
def ravelinref3_Sum.l0 : Nat → ByteArray → Int → Int → Int → Option (Int)
  | 0, _, _, _, _ => none
  | k + 1, x0, x3, x4, x5 => if x5 < (x0.size : Int) then (if 0 ≤ x5 then (ravelinref3_Sum.l0 k x0 (((x3 + ((bt x0 x5) % 4294967296)) % 4294967296) % 65521) (((x4 + (((x3 + ((bt x0 x5) % 4294967296)) % 4294967296) % 65521)) % 4294967296) % 65521) (wrap64 (x5 + 1))) else (none)) else (some ((((x4 * 65536) % 4294967296) + x3) % 4294967296))
def ravelinref3_Sum.f (k : Nat) (a0 : ByteArray) : Option (Int) := ravelinref3_Sum.l0 k a0 1 0 0
theorem ravelinref3_Sum.mono_l : ∀ k, (∀ y0 y1 y2 y3, LeO (ravelinref3_Sum.l0 k y0 y1 y2 y3) (ravelinref3_Sum.l0 (k + 1) y0 y1 y2 y3))
  | 0 => fun _ _ _ _ r h => by simp [ravelinref3_Sum.l0] at h
  | k + 1 => by
    have ih0 := ravelinref3_Sum.mono_l k
    · intro y0 y1 y2 y3
      unfold ravelinref3_Sum.l0
      repeat' first
      | (with_reducible exact ih0 _ _ _ _)
      | (with_reducible exact LeO.refl _)
      | (with_reducible exact LeO.none _)
      | (with_reducible refine LeO.ite ?_ ?_)
      | (with_reducible refine LeO.bind ?_ (fun _ => ?_))
      | exact ih0 _ _ _ _
      | exact LeO.none _
      | refine LeO.ite ?_ ?_
      | refine LeO.bind ?_ (fun _ => ?_)
theorem ravelinref3_Sum.mono : ∀ a0 k, LeO (ravelinref3_Sum.f k a0) (ravelinref3_Sum.f (k + 1) a0) := by
  intro a0 k
  have ih0 := ravelinref3_Sum.mono_l k
  unfold ravelinref3_Sum.f
  repeat' first
      | (with_reducible exact ih0 _ _ _ _)
      | (with_reducible exact LeO.refl _)
      | (with_reducible exact LeO.none _)
      | (with_reducible refine LeO.ite ?_ ?_)
      | (with_reducible refine LeO.bind ?_ (fun _ => ?_))
      | exact ih0 _ _ _ _
      | exact LeO.none _
      | refine LeO.ite ?_ ?_
      | refine LeO.bind ?_ (fun _ => ?_)
set_option maxHeartbeats 8000000 in
set_option maxRecDepth 100000 in
theorem ravelinref3_Sum.calls (k : Nat) (a0 : ByteArray) (r : Int) (w : World) (h : ravelinref3_Sum.f k a0 = some r) :
    Calls Try.prog 40 #[.string a0] w fun e w' => e = .returned (.int .u32 r) ∧ Drawn0 w w' := by
  have H : (ravelinref3_Sum.l0 k a0 1 0 0) = some r := h
  clear h
  have H' := Aside0.mk H
  clear H
  go_enter Try.func40, Try.ntmps40
  go_wp2
  go_loopg [3, 4, 5] k (fun kq v3 v4 v5 w' => ∃ (x3_1 : Int) (x4_1 : Int) (x5_1 : Int), v3 = .int .u32 x3_1 ∧ v4 = .int .u32 x4_1 ∧ v5 = .int .i64 x5_1 ∧ Aside0 (ravelinref3_Sum.l0 kq a0 x3_1 x4_1 x5_1 = some r) ∧ Aside0 (kq ≤ k) ∧ Drawn0 w w')
  case atStart => exact ⟨(1), (0), (0), (by first | rfl | (simp; done) | (simp [*]; done)), (by first | rfl | (simp; done) | (simp [*]; done)), (by first | rfl | (simp; done) | (simp [*]; done)), H', ⟨Nat.le_refl _⟩, by repeat (first | exact Drawn0.refl _ | apply Drawn0.step)⟩
  clear H'
  obtain ⟨x3_1, x4_1, x5_1, rfl, rfl, rfl, HA, HK1, ⟨m1, rfl⟩⟩ := hrel
  cases gk with
  | zero => exact absurd HA.out (by simp [ravelinref3_Sum.l0])
  | succ k1 => ?_
  have H := HA.out
  clear HA
  simp only [ravelinref3_Sum.l0] at H
  by_cases c2 : x5_1 < (a0.size : Int)
  rotate_left
  · rw [if_neg c2] at H
    have c2b0 : decide (x5_1 < (a0.size : Int)) = false := decide_eq_false c2
    clear c2
    obtain rfl := Option.some.inj H
    go_wp2
    go_ret
    exact ⟨by first | rfl | (simp; done) | (simp [*]; done), by repeat (first | exact Drawn0.refl _ | apply Drawn0.step)⟩
  rw [if_pos c2] at H
  have c2b0 : decide (x5_1 < (a0.size : Int)) = true := decide_eq_true c2
  clear c2
  by_cases c3 : 0 ≤ x5_1
  rotate_left
  · rw [if_neg c3] at H
    exact absurd H (by simp)
  rw [if_pos c3] at H
  have c3b0 : decide (0 ≤ x5_1) = true := decide_eq_true c3
  clear c3
  have H' := Aside0.mk H
  clear H
  have p4 : 0 ≤ (x5_1 : Int) := of_decide_eq_true (by assumption)
  have q4 : x5_1 < (a0.size : Int) := of_decide_eq_true (by assumption)
  have hx4 := bt_at a0 x5_1
  replace p4 := eq_true p4
  replace q4 := eq_true q4
  go_wp2
  go_roundg k1
  case measure => have := HK1.out; omega
  case rel => exact ⟨(((x3_1 + ((bt a0 x5_1) % 4294967296)) % 4294967296) % 65521), (((x4_1 + (((x3_1 + ((bt a0 x5_1) % 4294967296)) % 4294967296) % 65521)) % 4294967296) % 65521), (wrap64 (x5_1 + 1)), (by first | rfl | (simp; done) | (simp [*]; done)), (by first | rfl | (simp; done) | (simp [*]; done)), (by first | rfl | (simp; done) | (simp [*]; done)), H', ⟨by have := HK1.out; omega⟩, by repeat (first | exact Drawn0.refl _ | apply Drawn0.step)⟩

/-! ### ravelinref3_Seal: function 21 -/
def ravelinref3_Seal.f (k : Nat) (a0 : ByteArray) : Option (ByteArray) := (ravelinref3_Num.f k (a0.size : Int)).bind fun t287 => ((ravelinref3_Sum.f k a0).bind fun t288 => ((ravelinref3_four.f t288).bind fun t289 => (if t287.size + t289.size ≤ 9223372036854775807 then (if (t287 ++ t289).size + a0.size ≤ 9223372036854775807 then (some ((t287 ++ t289) ++ a0)) else (none)) else (none))))
theorem ravelinref3_Seal.mono : ∀ a0 k, LeO (ravelinref3_Seal.f k a0) (ravelinref3_Seal.f (k + 1) a0) := by
  intro a0 k
  unfold ravelinref3_Seal.f
  repeat' first
      | (with_reducible exact ravelinref3_Num.mono _ _)
      | (with_reducible exact ravelinref3_Sum.mono _ _)
      | (with_reducible exact LeO.refl _)
      | (with_reducible exact LeO.none _)
      | (with_reducible refine LeO.ite ?_ ?_)
      | (with_reducible refine LeO.bind ?_ (fun _ => ?_))
      | exact ravelinref3_Num.mono _ _
      | exact ravelinref3_Sum.mono _ _
      | exact LeO.none _
      | refine LeO.ite ?_ ?_
      | refine LeO.bind ?_ (fun _ => ?_)
set_option maxHeartbeats 8000000 in
set_option maxRecDepth 100000 in
theorem ravelinref3_Seal.calls (k : Nat) (a0 : ByteArray) (r : ByteArray) (w : World) (h : ravelinref3_Seal.f k a0 = some r) :
    Calls Try.prog 21 #[.string a0] w fun e w' => e = .returned (.string r) ∧ Below w.heap.size w w' := by
  have HB := Aside0.mk (Below.refl w.heap.size w)
  have H : ((ravelinref3_Num.f k (a0.size : Int)).bind fun t287 => ((ravelinref3_Sum.f k a0).bind fun t288 => ((ravelinref3_four.f t288).bind fun t289 => (if t287.size + t289.size ≤ 9223372036854775807 then (if (t287 ++ t289).size + a0.size ≤ 9223372036854775807 then (some ((t287 ++ t289) ++ a0)) else (none)) else (none))))) = some r := h
  clear h
  replace H := Option.bind_eq_some_iff.mp H
  obtain ⟨t287, A20, H⟩ := H
  try dsimp only at H
  have A2 := Aside0.mk A20
  clear A20
  replace H := Option.bind_eq_some_iff.mp H
  obtain ⟨t288, A30, H⟩ := H
  try dsimp only at H
  have A3 := Aside0.mk A30
  clear A30
  replace H := Option.bind_eq_some_iff.mp H
  obtain ⟨t289, A40, H⟩ := H
  try dsimp only at H
  have A4 := Aside0.mk A40
  clear A40
  by_cases c5 : t287.size + t289.size ≤ 9223372036854775807
  rotate_left
  · rw [if_neg c5] at H
    exact absurd H (by simp)
  rw [if_pos c5] at H
  have c5b0 := eq_true c5
  have c5b1 : decide (t287.size + t289.size ≤ 9223372036854775807) = true := decide_eq_true c5
  try have c5b2 : (9223372036854775807 < t287.size + t289.size) = False := eq_false (Nat.not_lt.2 c5)
  by_cases c6 : (t287 ++ t289).size + a0.size ≤ 9223372036854775807
  rotate_left
  · rw [if_neg c6] at H
    exact absurd H (by simp)
  rw [if_pos c6] at H
  have c6b0 := eq_true c6
  have c6b1 : decide ((t287 ++ t289).size + a0.size ≤ 9223372036854775807) = true := decide_eq_true c6
  (try (have c6b1s := c6b1; simp only [ByteArray.size_append] at c6b1s))
  try have c6b2 : (9223372036854775807 < (t287 ++ t289).size + a0.size) = False := eq_false (Nat.not_lt.2 c6)
  (try (have c6b2s := c6b2; simp only [ByteArray.size_append] at c6b2s))
  obtain rfl := Option.some.inj H
  go_enter Try.func21, Try.ntmps21
  go_wp2_with (first | ((with_reducible refine gate_callee (f := 22) rfl ?_); refine goesL_ (some 5) rfl rfl Try.func22 (by kernel_rfl) rfl #[.int .i64 (a0.size : Int)] rfl (by (try simp only [maps_]); first | done | rfl) ?_; (with_reducible refine (ravelinref3_Num.calls k (a0.size : Int) t287 _ A2.out).mono ?_); rintro e w7 ⟨rfl, hb⟩; refine ⟨_, rfl, ?_⟩; have n0_ := bs_ HB hb; clear HB; have HB := n0_; clear n0_; (try clear hb); (try clear hb2); (try clear hk); (try clear hi)) | ((with_reducible refine gate_callee (f := 40) rfl ?_); refine goesL_ (some 7) rfl rfl Try.func40 (by kernel_rfl) rfl #[.string a0] rfl (by (try simp only [maps_]); first | done | rfl) ?_; (with_reducible refine (ravelinref3_Sum.calls k a0 t288 _ A3.out).mono ?_); rintro e w' ⟨rfl, ⟨nd, rfl⟩⟩; refine ⟨_, rfl, ?_⟩) | ((with_reducible refine gate_callee (f := 39) rfl ?_); refine goesL_ (some 8) rfl rfl Try.func39 (by kernel_rfl) rfl #[.int .u32 t288] rfl (by (try simp only [maps_]); first | done | rfl) ?_; (with_reducible refine (ravelinref3_four.calls t288 t289 _ A4.out).mono ?_); rintro e w8 ⟨rfl, hb⟩; refine ⟨_, rfl, ?_⟩; have n0_ := bs_ HB hb; clear HB; have HB := n0_; clear n0_; (try clear hb); (try clear hb2); (try clear hk); (try clear hi)))
  go_ret
  exact ⟨by first | rfl | (simp [*, errW_none, errW_some] <;> rfl), gw_ HB⟩

/-! ### ravelinref3_Text: function 41 -/
def ravelinref3_Text.f (k : Nat) (a0 : ByteArray) : Option (ByteArray) := (ravelinref3_Num.f k (a0.size : Int)).bind fun t290 => (if t290.size + a0.size ≤ 9223372036854775807 then (some (t290 ++ a0)) else (none))
theorem ravelinref3_Text.mono : ∀ a0 k, LeO (ravelinref3_Text.f k a0) (ravelinref3_Text.f (k + 1) a0) := by
  intro a0 k
  unfold ravelinref3_Text.f
  repeat' first
      | (with_reducible exact ravelinref3_Num.mono _ _)
      | (with_reducible exact LeO.refl _)
      | (with_reducible exact LeO.none _)
      | (with_reducible refine LeO.ite ?_ ?_)
      | (with_reducible refine LeO.bind ?_ (fun _ => ?_))
      | exact ravelinref3_Num.mono _ _
      | exact LeO.none _
      | refine LeO.ite ?_ ?_
      | refine LeO.bind ?_ (fun _ => ?_)
set_option maxHeartbeats 8000000 in
set_option maxRecDepth 100000 in
theorem ravelinref3_Text.calls (k : Nat) (a0 : ByteArray) (r : ByteArray) (w : World) (h : ravelinref3_Text.f k a0 = some r) :
    Calls Try.prog 41 #[.string a0] w fun e w' => e = .returned (.string r) ∧ Below w.heap.size w w' := by
  have HB := Aside0.mk (Below.refl w.heap.size w)
  have H : ((ravelinref3_Num.f k (a0.size : Int)).bind fun t290 => (if t290.size + a0.size ≤ 9223372036854775807 then (some (t290 ++ a0)) else (none))) = some r := h
  clear h
  replace H := Option.bind_eq_some_iff.mp H
  obtain ⟨t290, A20, H⟩ := H
  try dsimp only at H
  have A2 := Aside0.mk A20
  clear A20
  by_cases c3 : t290.size + a0.size ≤ 9223372036854775807
  rotate_left
  · rw [if_neg c3] at H
    exact absurd H (by simp)
  rw [if_pos c3] at H
  have c3b0 := eq_true c3
  have c3b1 : decide (t290.size + a0.size ≤ 9223372036854775807) = true := decide_eq_true c3
  try have c3b2 : (9223372036854775807 < t290.size + a0.size) = False := eq_false (Nat.not_lt.2 c3)
  obtain rfl := Option.some.inj H
  go_enter Try.func41, Try.ntmps41
  go_wp2_with (first | ((with_reducible refine gate_callee (f := 22) rfl ?_); refine goesL_ (some 5) rfl rfl Try.func22 (by kernel_rfl) rfl #[.int .i64 (a0.size : Int)] rfl (by (try simp only [maps_]); first | done | rfl) ?_; (with_reducible refine (ravelinref3_Num.calls k (a0.size : Int) t290 _ A2.out).mono ?_); rintro e w4 ⟨rfl, hb⟩; refine ⟨_, rfl, ?_⟩; have n0_ := bs_ HB hb; clear HB; have HB := n0_; clear n0_; (try clear hb); (try clear hb2); (try clear hk); (try clear hi)))
  go_ret
  exact ⟨by first | rfl | (simp [*, errW_none, errW_some] <;> rfl), gw_ HB⟩

end Go.Proofs.Ytkmbgihfdfgmgaa.P

namespace Go.Proofs.Ytkmbgihfdfgmgaa.P
open Go.RowKit Go.Proofs.YtkmbgihfdfgmgaaW.PrintWords Go.Proofs.YtkmbgihfdfgmgaaW.PrintLast Go.Proofs.YtkmbgihfdfgmgaaW.PrintMore
attribute [local go_sem] max2_int min2_int max_two min_two max_three min_three max_four min_four   -- for this text's walks alone
attribute [local go_sem high] string_leq string_geq string_gtr
set_option linter.unusedVariables false
set_option linter.unusedSimpArgs false

abbrev mkPx13_0 : Array Bool := #[false, false, false, false, false, false, false, false, false, false, false, false, false, false, false, false, false, false, false, false]
abbrev mkPx13_1 : Array Bool := #[true, false, false, false, false, false, false, false, false, false, false, false, false, false, false, false, false, false, false, false]
abbrev mkPx13_2 : Array Bool := #[true, false, false, true, false, false, false, false, false, false, false, false, false, false, false, false, false, false, false, false]
abbrev mkPx13_3 : Array Bool := #[true, false, false, true, false, false, false, true, false, false, false, false, false, false, false, false, false, false, false, false]
abbrev mkPx13_4 : Array Bool := #[true, false, false, true, false, false, false, true, false, false, false, true, false, false, false, false, false, false, false, false]
abbrev mkPx13_5 : Array Bool := #[true, false, false, true, false, false, false, true, false, false, false, true, false, true, false, false, false, false, false, false]
abbrev mkPx13_6 : Array Bool := #[true, true, false, true, false, false, false, true, false, false, false, true, false, true, false, false, false, false, false, false]
abbrev mkPx13_7 : Array Bool := #[true, true, false, true, true, false, false, true, false, false, false, true, false, true, false, false, false, false, false, false]
abbrev mkPx13_8 : Array Bool := #[true, true, false, true, true, false, false, true, true, false, false, true, false, true, false, false, false, false, false, false]
abbrev mkPx13_9 : Array Bool := #[true, true, false, true, true, false, false, true, true, false, false, true, false, true, true, false, false, false, false, false]
abbrev mkPx13_10 : Array Bool := #[true, true, true, true, true, false, false, true, true, false, false, true, false, true, true, false, false, false, false, false]
abbrev mkPx13_11 : Array Bool := #[true, true, true, true, true, true, false, true, true, false, false, true, false, true, true, false, false, false, false, false]
abbrev mkPx13_12 : Array Bool := #[true, true, true, true, true, true, true, true, true, false, false, true, false, true, true, false, false, false, false, false]
abbrev mkPx13_13 : Array Bool := #[true, true, true, true, true, true, true, true, true, true, false, true, false, true, true, false, false, false, false, false]
abbrev mkPx13_14 : Array Bool := #[true, true, true, true, true, true, true, true, true, true, true, true, false, true, true, false, false, false, false, false]
abbrev mkPx13_15 : Array Bool := #[true, true, true, true, true, true, true, true, true, true, true, true, true, true, true, false, false, false, false, false]
abbrev mkPx13_16 : Array Bool := #[true, true, true, true, true, true, true, true, true, true, true, true, true, true, true, true, false, false, false, false]
abbrev mkPx13_17 : Array Bool := #[true, true, true, true, true, true, true, true, true, true, true, true, true, true, true, true, true, false, false, false]
abbrev mkPx13_18 : Array Bool := #[true, true, true, true, true, true, true, true, true, true, true, true, true, true, true, true, true, true, false, false]
abbrev mkPx13_19 : Array Bool := #[true, true, true, true, true, true, true, true, true, true, true, true, true, true, true, true, true, true, true, false]
abbrev mkPx13_20 : Array Bool := #[true, true, true, true, true, true, true, true, true, true, true, true, true, true, true, true, true, true, true, true]
/-! ### ravelinref12_Row: function 23 -/
def ravelinref12_Row.l0 : Nat → List (S39) → ByteArray → Int → Option (ByteArray)
  | 0, _, _, _ => none
  | k + 1, x0, x3, x4 => if x4 < (x0.length : Int) then (if 0 ≤ x4 then ((ravelinref3_Text.f k ((rd_T39 x0 x4).f0)).bind fun t293 => (if x3.size + t293.size ≤ 9223372036854775807 then (if (rd_T39 x0 x4).f1 = true then (if (x3 ++ t293).size + 1 ≤ 9223372036854775807 then (ravelinref12_Row.l0 k x0 ((x3 ++ t293) ++ (⟨#[1]⟩ : ByteArray)) (wrap64 (x4 + 1))) else (none)) else (if (x3 ++ t293).size + 1 ≤ 9223372036854775807 then ((ravelinref3_Text.f k ((rd_T39 x0 x4).f2)).bind fun t296 => (if ((x3 ++ t293) ++ (⟨#[0]⟩ : ByteArray)).size + t296.size ≤ 9223372036854775807 then (ravelinref12_Row.l0 k x0 (((x3 ++ t293) ++ (⟨#[0]⟩ : ByteArray)) ++ t296) (wrap64 (x4 + 1))) else (none))) else (none))) else (none))) else (none)) else (some x3)
def ravelinref12_Row.f (k : Nat) (l0 : List (S39)) : Option (ByteArray) := (ravelinref3_Num.f k (l0.length : Int)).bind fun t291 => (ravelinref12_Row.l0 k l0 t291 0)
theorem ravelinref12_Row.mono_l : ∀ k, (∀ y0 y1 y2, LeO (ravelinref12_Row.l0 k y0 y1 y2) (ravelinref12_Row.l0 (k + 1) y0 y1 y2))
  | 0 => fun _ _ _ r h => by simp [ravelinref12_Row.l0] at h
  | k + 1 => by
    have ih0 := ravelinref12_Row.mono_l k
    · intro y0 y1 y2
      unfold ravelinref12_Row.l0
      repeat' first
      | (with_reducible exact ih0 _ _ _)
      | (with_reducible exact ravelinref3_Num.mono _ _)
      | (with_reducible exact ravelinref3_Text.mono _ _)
      | (with_reducible exact LeO.refl _)
      | (with_reducible exact LeO.none _)
      | (with_reducible refine LeO.ite ?_ ?_)
      | (with_reducible refine LeO.bind ?_ (fun _ => ?_))
      | exact ih0 _ _ _
      | exact ravelinref3_Num.mono _ _
      | exact ravelinref3_Text.mono _ _
      | exact LeO.none _
      | refine LeO.ite ?_ ?_
      | refine LeO.bind ?_ (fun _ => ?_)
theorem ravelinref12_Row.mono : ∀ a0 k, LeO (ravelinref12_Row.f k a0) (ravelinref12_Row.f (k + 1) a0) := by
  intro a0 k
  have ih0 := ravelinref12_Row.mono_l k
  unfold ravelinref12_Row.f
  repeat' first
      | (with_reducible exact ih0 _ _ _)
      | (with_reducible exact ravelinref3_Num.mono _ _)
      | (with_reducible exact ravelinref3_Text.mono _ _)
      | (with_reducible exact LeO.refl _)
      | (with_reducible exact LeO.none _)
      | (with_reducible refine LeO.ite ?_ ?_)
      | (with_reducible refine LeO.bind ?_ (fun _ => ?_))
      | exact ih0 _ _ _
      | exact ravelinref3_Num.mono _ _
      | exact ravelinref3_Text.mono _ _
      | exact LeO.none _
      | refine LeO.ite ?_ ?_
      | refine LeO.bind ?_ (fun _ => ?_)
set_option maxHeartbeats 8000000 in
set_option maxRecDepth 100000 in
theorem ravelinref12_Row.calls (k : Nat) (A0 : Option Addr) (c0 : Nat) (l0 : List (S39)) (r : ByteArray) (w : World) (hr0 : Kd.C k39 w A0 l0.length l0) (hc0 : l0.length ≤ c0) (h : ravelinref12_Row.f k l0 = some r) :
    Calls Try.prog 23 #[.slice A0 l0.length c0] w fun e w' => e = .returned (.string r) ∧ Below w.heap.size w w' := by
  have HR0 := Aside0.mk hr0
  have HC0 := Aside0.mk hc0
  clear hr0 hc0
  have HB := Aside0.mk (Below.refl w.heap.size w)
  have H : ((ravelinref3_Num.f k (l0.length : Int)).bind fun t291 => (ravelinref12_Row.l0 k l0 t291 0)) = some r := h
  clear h
  replace H := Option.bind_eq_some_iff.mp H
  obtain ⟨t291, A20, H⟩ := H
  try dsimp only at H
  have A2 := Aside0.mk A20
  clear A20
  have H' := Aside0.mk H
  clear H
  go_enter Try.func23, Try.ntmps23
  go_wp2_with (first | ((with_reducible refine gate_callee (f := 22) rfl ?_); refine goesL_ (some 7) rfl rfl Try.func22 (by kernel_rfl) rfl #[.int .i64 (l0.length : Int)] rfl (by (try simp only [maps_]); first | done | rfl) ?_; (with_reducible refine (ravelinref3_Num.calls k (l0.length : Int) t291 _ A2.out).mono ?_); rintro e w3 ⟨rfl, hb⟩; refine ⟨_, rfl, ?_⟩; have n0_ := bs_ HB hb; clear HB; have HB := n0_; clear n0_; (try clear hb); (try clear hb2); (try clear hk); (try clear hi)))
  go_loopg [3, 4] k (fun kq v3 v4 w' => ∃ (x3_1 : ByteArray) (x4_1 : Int), v3 = .string x3_1 ∧ v4 = .int .i64 x4_1 ∧ Aside0 (ravelinref12_Row.l0 kq l0 x3_1 x4_1 = some r) ∧ Aside0 (kq ≤ k) ∧ Aside0 (Below w.heap.size w w'))
  case atStart => exact ⟨(t291), (0), (by first | rfl | (simp; done) | (simp [*]; done)), (by first | rfl | (simp; done) | (simp [*]; done)), H', ⟨Nat.le_refl _⟩, ⟨gw_ HB⟩⟩
  clear H'
  try clear c2
  try clear p2
  obtain ⟨x3_1, x4_1, rfl, rfl, HA, HK1, HB⟩ := hrel
  cases gk with
  | zero => exact absurd HA.out (by simp [ravelinref12_Row.l0])
  | succ k1 => ?_
  have H := HA.out
  clear HA
  simp only [ravelinref12_Row.l0] at H
  by_cases c4 : x4_1 < (l0.length : Int)
  rotate_left
  · rw [if_neg c4] at H
    have c4b0 : decide (x4_1 < (l0.length : Int)) = false := decide_eq_false c4
    clear c4
    obtain rfl := Option.some.inj H
    go_wp2
    go_ret
    exact ⟨by first | rfl | (simp [*, errW_none, errW_some] <;> rfl), gw_ HB⟩
  rw [if_pos c4] at H
  have c4b0 : decide (x4_1 < (l0.length : Int)) = true := decide_eq_true c4
  clear c4
  by_cases c5 : 0 ≤ x4_1
  rotate_left
  · rw [if_neg c5] at H
    exact absurd H (by simp)
  rw [if_pos c5] at H
  have c5b0 : decide (0 ≤ x4_1) = true := decide_eq_true c5
  clear c5
  replace H := Option.bind_eq_some_iff.mp H
  obtain ⟨t293, A60, H⟩ := H
  try dsimp only at H
  have A6 := Aside0.mk A60
  clear A60
  by_cases c7 : x3_1.size + t293.size ≤ 9223372036854775807
  rotate_left
  · rw [if_neg c7] at H
    exact absurd H (by simp)
  rw [if_pos c7] at H
  have c7b0 := eq_true c7
  have c7b1 : decide (x3_1.size + t293.size ≤ 9223372036854775807) = true := decide_eq_true c7
  try have c7b2 : (9223372036854775807 < x3_1.size + t293.size) = False := eq_false (Nat.not_lt.2 c7)
  obtain ⟨bq8, hbq8⟩ : ∃ b_ : Bool, b_ = ((rd_T39 l0 x4_1).f1) := ⟨_, rfl⟩
  replace H : (if bq8 = true then (if (x3_1 ++ t293).size + 1 ≤ 9223372036854775807 then (ravelinref12_Row.l0 k1 l0 ((x3_1 ++ t293) ++ (⟨#[1]⟩ : ByteArray)) (wrap64 (x4_1 + 1))) else (none)) else (if (x3_1 ++ t293).size + 1 ≤ 9223372036854775807 then ((ravelinref3_Text.f k1 ((rd_T39 l0 x4_1).f2)).bind fun t296 => (if ((x3_1 ++ t293) ++ (⟨#[0]⟩ : ByteArray)).size + t296.size ≤ 9223372036854775807 then (ravelinref12_Row.l0 k1 l0 (((x3_1 ++ t293) ++ (⟨#[0]⟩ : ByteArray)) ++ t296) (wrap64 (x4_1 + 1))) else (none))) else (none))) = some r := by rw [← hbq8] at H; exact H
  have Nbq8 := Aside0.mk hbq8
  clear hbq8
  by_cases c9 : bq8 = true
  · subst c9
    have H1 : (if (x3_1 ++ t293).size + 1 ≤ 9223372036854775807 then (ravelinref12_Row.l0 k1 l0 ((x3_1 ++ t293) ++ (⟨#[1]⟩ : ByteArray)) (wrap64 (x4_1 + 1))) else (none)) = some r := by rw [if_pos rfl] at H; exact H
    clear H
    have H := H1
    clear H1
    by_cases c10 : (x3_1 ++ t293).size + 1 ≤ 9223372036854775807
    rotate_left
    · rw [if_neg c10] at H
      exact absurd H (by simp)
    rw [if_pos c10] at H
    have c10b0 := eq_true c10
    have c10b1 : decide ((x3_1 ++ t293).size + 1 ≤ 9223372036854775807) = true := decide_eq_true c10
    (try (have c10b1s := c10b1; simp only [ByteArray.size_append] at c10b1s))
    try have c10b2 : (9223372036854775807 < (x3_1 ++ t293).size + 1) = False := eq_false (Nat.not_lt.2 c10)
    (try (have c10b2s := c10b2; simp only [ByteArray.size_append] at c10b2s))
    have H' := Aside0.mk H
    clear H
    have p292 : 0 ≤ (x4_1 : Int) := of_decide_eq_true (by assumption)
    have q292 : x4_1 < (l0.length : Int) := of_decide_eq_true (by assumption)
    obtain ⟨ad292, e292, hx292_0, hx292_1, hx292_2⟩ := at_T39 HR0.out x4_1 p292 q292
    (try rw [← Nbq8.out] at hx292_1)
    cases e292
    replace hx292_0 := hc_ HB hx292_0
    replace hx292_1 := hc_ HB hx292_1
    replace hx292_2 := hc_ HB hx292_2
    replace p292 := eq_true p292
    replace q292 := eq_true q292
    go_wp2_with (first | ((with_reducible refine gate_callee (f := 41) rfl ?_); refine goesL_ (some 20) rfl rfl Try.func41 (by kernel_rfl) rfl #[.string ((rd_T39 l0 x4_1).f0)] rfl (by (try simp only [maps_]); first | done | rfl) ?_; (with_reducible refine (ravelinref3_Text.calls k1 ((rd_T39 l0 x4_1).f0) t293 _ A6.out).mono ?_); rintro e w11 ⟨rfl, hb⟩; refine ⟨_, rfl, ?_⟩; have n0_ := bs_ HB hb; clear HB; have HB := n0_; clear n0_; (try clear hb); (try clear hb2); (try clear hk); (try clear hi); have p294 : 0 ≤ (x4_1 : Int) := of_decide_eq_true (by assumption); have q294 : x4_1 < (l0.length : Int) := of_decide_eq_true (by assumption); obtain ⟨ad294, e294, hx294_0, hx294_1, hx294_2⟩ := at_T39 HR0.out x4_1 p294 q294; (try rw [← Nbq8.out] at hx294_1); obtain rfl : ad292 = ad294 := (by injection e294); replace hx294_0 := hc_ HB hx294_0; replace hx294_1 := hc_ HB hx294_1; replace hx294_2 := hc_ HB hx294_2; replace p294 := eq_true p294; replace q294 := eq_true q294))
    go_roundg k1
    case measure => have := HK1.out; omega
    case rel => exact ⟨((x3_1 ++ t293) ++ (⟨#[1]⟩ : ByteArray)), (wrap64 (x4_1 + 1)), (by first | rfl | (simp; done) | (simp [*]; done)), (by first | rfl | (simp; done) | (simp [*]; done)), H', ⟨by have := HK1.out; omega⟩, ⟨gw_ HB⟩⟩
  replace c9 := Bool.eq_false_iff.mpr c9
  subst c9
  have H1 : (if (x3_1 ++ t293).size + 1 ≤ 9223372036854775807 then ((ravelinref3_Text.f k1 ((rd_T39 l0 x4_1).f2)).bind fun t296 => (if ((x3_1 ++ t293) ++ (⟨#[0]⟩ : ByteArray)).size + t296.size ≤ 9223372036854775807 then (ravelinref12_Row.l0 k1 l0 (((x3_1 ++ t293) ++ (⟨#[0]⟩ : ByteArray)) ++ t296) (wrap64 (x4_1 + 1))) else (none))) else (none)) = some r := by rw [if_neg (show ¬ (false = true) by decide)] at H; exact H
  clear H
  have H := H1
  clear H1
  by_cases c12 : (x3_1 ++ t293).size + 1 ≤ 9223372036854775807
  rotate_left
  · rw [if_neg c12] at H
    exact absurd H (by simp)
  rw [if_pos c12] at H
  have c12b0 := eq_true c12
  have c12b1 : decide ((x3_1 ++ t293).size + 1 ≤ 9223372036854775807) = true := decide_eq_true c12
  (try (have c12b1s := c12b1; simp only [ByteArray.size_append] at c12b1s))
  try have c12b2 : (9223372036854775807 < (x3_1 ++ t293).size + 1) = False := eq_false (Nat.not_lt.2 c12)
  (try (have c12b2s := c12b2; simp only [ByteArray.size_append] at c12b2s))
  replace H := Option.bind_eq_some_iff.mp H
  obtain ⟨t296, A130, H⟩ := H
  try dsimp only at H
  have A13 := Aside0.mk A130
  clear A130
  by_cases c14 : ((x3_1 ++ t293) ++ (⟨#[0]⟩ : ByteArray)).size + t296.size ≤ 9223372036854775807
  rotate_left
  · rw [if_neg c14] at H
    exact absurd H (by simp)
  rw [if_pos c14] at H
  have c14b0 := eq_true c14
  have c14b1 : decide (((x3_1 ++ t293) ++ (⟨#[0]⟩ : ByteArray)).size + t296.size ≤ 9223372036854775807) = true := decide_eq_true c14
  (try (have c14b1s := c14b1; simp only [ByteArray.size_append, show (⟨#[0]⟩ : ByteArray).size = 1 from rfl] at c14b1s))
  try have c14b2 : (9223372036854775807 < ((x3_1 ++ t293) ++ (⟨#[0]⟩ : ByteArray)).size + t296.size) = False := eq_false (Nat.not_lt.2 c14)
  (try (have c14b2s := c14b2; simp only [ByteArray.size_append, show (⟨#[0]⟩ : ByteArray).size = 1 from rfl] at c14b2s))
  have H' := Aside0.mk H
  clear H
  have p292 : 0 ≤ (x4_1 : Int) := of_decide_eq_true (by assumption)
  have q292 : x4_1 < (l0.length : Int) := of_decide_eq_true (by assumption)
  obtain ⟨ad292, e292, hx292_0, hx292_1, hx292_2⟩ := at_T39 HR0.out x4_1 p292 q292
  (try rw [← Nbq8.out] at hx292_1)
  cases e292
  replace hx292_0 := hc_ HB hx292_0
  replace hx292_1 := hc_ HB hx292_1
  replace hx292_2 := hc_ HB hx292_2
  replace p292 := eq_true p292
  replace q292 := eq_true q292
  go_wp2_with (first | ((with_reducible refine gate_callee (f := 41) rfl ?_); refine goesL_ (some 20) rfl rfl Try.func41 (by kernel_rfl) rfl #[.string ((rd_T39 l0 x4_1).f0)] rfl (by (try simp only [maps_]); first | done | rfl) ?_; (with_reducible refine (ravelinref3_Text.calls k1 ((rd_T39 l0 x4_1).f0) t293 _ A6.out).mono ?_); rintro e w15 ⟨rfl, hb⟩; refine ⟨_, rfl, ?_⟩; have n0_ := bs_ HB hb; clear HB; have HB := n0_; clear n0_; (try clear hb); (try clear hb2); (try clear hk); (try clear hi); have p294 : 0 ≤ (x4_1 : Int) := of_decide_eq_true (by assumption); have q294 : x4_1 < (l0.length : Int) := of_decide_eq_true (by assumption); obtain ⟨ad294, e294, hx294_0, hx294_1, hx294_2⟩ := at_T39 HR0.out x4_1 p294 q294; (try rw [← Nbq8.out] at hx294_1); obtain rfl : ad292 = ad294 := (by injection e294); replace hx294_0 := hc_ HB hx294_0; replace hx294_1 := hc_ HB hx294_1; replace hx294_2 := hc_ HB hx294_2; replace p294 := eq_true p294; replace q294 := eq_true q294; have p295 : 0 ≤ (x4_1 : Int) := of_decide_eq_true (by assumption); have q295 : x4_1 < (l0.length : Int) := of_decide_eq_true (by assumption); obtain ⟨ad295, e295, hx295_0, hx295_1, hx295_2⟩ := at_T39 HR0.out x4_1 p295 q295; (try rw [← Nbq8.out] at hx295_1); obtain rfl : ad292 = ad295 := (by injection e295); replace hx295_0 := hc_ HB hx295_0; replace hx295_1 := hc_ HB hx295_1; replace hx295_2 := hc_ HB hx295_2; replace p295 := eq_true p295; replace q295 := eq_true q295) | ((with_reducible refine gate_callee (f := 41) rfl ?_); refine goesL_ (some 36) rfl rfl Try.func41 (by kernel_rfl) rfl #[.string ((rd_T39 l0 x4_1).f2)] rfl (by (try simp only [maps_]); first | done | rfl) ?_; (with_reducible refine (ravelinref3_Text.calls k1 ((rd_T39 l0 x4_1).f2) t296 _ A13.out).mono ?_); rintro e w16 ⟨rfl, hb⟩; refine ⟨_, rfl, ?_⟩; have n0_ := bs_ HB hb; clear HB; have HB := n0_; clear n0_; (try clear hb); (try clear hb2); (try clear hk); (try clear hi)))
  go_roundg k1
  case measure => have := HK1.out; omega
  case rel => exact ⟨(((x3_1 ++ t293) ++ (⟨#[0]⟩ : ByteArray)) ++ t296), (wrap64 (x4_1 + 1)), (by first | rfl | (simp; done) | (simp [*]; done)), (by first | rfl | (simp; done) | (simp [*]; done)), H', ⟨by have := HK1.out; omega⟩, ⟨gw_ HB⟩⟩

/-! ### ravelinref18_Bytes: function 10 -/
def ravelinref18_Bytes.j0 : Nat → ByteArray → Int → Int → Int → Bool → List (S39) → Option (ByteArray × Bool)
  | 0, _, _, _, _, _, _ => none
  | k + 1, x4, x298000, x298001, x298002, x298003, x298004 => (ravelinref3_Num.f k x298000).bind fun t299 => ((ravelinref3_Num.f k x298001).bind fun t300 => (if t299.size + t300.size ≤ 9223372036854775807 then ((ravelinref3_Num.f k x298002).bind fun t301 => (if (t299 ++ t300).size + t301.size ≤ 9223372036854775807 then (if ((t299 ++ t300) ++ t301).size + x4.size ≤ 9223372036854775807 then ((ravelinref12_Row.f k x298004).bind fun t302 => (if (((t299 ++ t300) ++ t301) ++ x4).size + t302.size ≤ 9223372036854775807 then ((ravelinref3_Seal.f k ((((t299 ++ t300) ++ t301) ++ x4) ++ t302)).bind fun t303 => (some (t303, true))) else (none))) else (none)) else (none))) else (none)))
def ravelinref18_Bytes.f (k : Nat) (a0_0 : Int) (a0_1 : Int) (a0_2 : Int) (a0_3 : Bool) (l0_4 : List (S39)) : Option (ByteArray × Bool) := (ravelinref18_Is.f k a0_0 a0_1 a0_2 a0_3 l0_4).bind fun t298 => (if t298 = true then (if a0_3 = true then (ravelinref18_Bytes.j0 k (⟨#[1]⟩ : ByteArray) a0_0 a0_1 a0_2 a0_3 l0_4) else (ravelinref18_Bytes.j0 k (⟨#[0]⟩ : ByteArray) a0_0 a0_1 a0_2 a0_3 l0_4)) else (some ((⟨#[]⟩ : ByteArray), false)))
theorem ravelinref18_Bytes.mono_l : ∀ k, (∀ y0 y1 y2 y3 y4 y5, LeO (ravelinref18_Bytes.j0 k y0 y1 y2 y3 y4 y5) (ravelinref18_Bytes.j0 (k + 1) y0 y1 y2 y3 y4 y5))
  | 0 => fun _ _ _ _ _ _ r h => by simp [ravelinref18_Bytes.j0] at h
  | k + 1 => by
    have ih0 := ravelinref18_Bytes.mono_l k
    · intro y0 y1 y2 y3 y4 y5
      unfold ravelinref18_Bytes.j0
      repeat' first
      | (with_reducible exact ih0 _ _ _ _ _ _)
      | (with_reducible exact ravelinref12_Row.mono _ _)
      | (with_reducible exact ravelinref18_Is.mono _ _ _ _ _ _)
      | (with_reducible exact ravelinref3_Num.mono _ _)
      | (with_reducible exact ravelinref3_Seal.mono _ _)
      | (with_reducible exact LeO.refl _)
      | (with_reducible exact LeO.none _)
      | (with_reducible refine LeO.ite ?_ ?_)
      | (with_reducible refine LeO.bind ?_ (fun _ => ?_))
      | exact ih0 _ _ _ _ _ _
      | exact ravelinref12_Row.mono _ _
      | exact ravelinref18_Is.mono _ _ _ _ _ _
      | exact ravelinref3_Num.mono _ _
      | exact ravelinref3_Seal.mono _ _
      | exact LeO.none _
      | refine LeO.ite ?_ ?_
      | refine LeO.bind ?_ (fun _ => ?_)
theorem ravelinref18_Bytes.mono : ∀ a0 a1 a2 a3 a4 k, LeO (ravelinref18_Bytes.f k a0 a1 a2 a3 a4) (ravelinref18_Bytes.f (k + 1) a0 a1 a2 a3 a4) := by
  intro a0 a1 a2 a3 a4 k
  have ih0 := ravelinref18_Bytes.mono_l k
  unfold ravelinref18_Bytes.f
  repeat' first
      | (with_reducible exact ih0 _ _ _ _ _ _)
      | (with_reducible exact ravelinref12_Row.mono _ _)
      | (with_reducible exact ravelinref18_Is.mono _ _ _ _ _ _)
      | (with_reducible exact ravelinref3_Num.mono _ _)
      | (with_reducible exact ravelinref3_Seal.mono _ _)
      | (with_reducible exact LeO.refl _)
      | (with_reducible exact LeO.none _)
      | (with_reducible refine LeO.ite ?_ ?_)
      | (with_reducible refine LeO.bind ?_ (fun _ => ?_))
      | exact ih0 _ _ _ _ _ _
      | exact ravelinref12_Row.mono _ _
      | exact ravelinref18_Is.mono _ _ _ _ _ _
      | exact ravelinref3_Num.mono _ _
      | exact ravelinref3_Seal.mono _ _
      | exact LeO.none _
      | refine LeO.ite ?_ ?_
      | refine LeO.bind ?_ (fun _ => ?_)
def ravelinref18_Bytes.T6 : Bool × List (List Nat × List Nat) := (true, [([], []), ([0], [0]), ([1], [1]), ([], []), ([3], [3]), ([4, 2], [4]), ([2, 5], [2, 5]), ([], []), ([7], [7]), ([8, 5], [8]), ([6, 9], [6, 9]), ([], []), ([10, 11], [10, 11]), ([], []), ([13], [13]), ([14, 9], [14]), ([12, 15], [12, 15]), ([16, 15], [16]), ([17, 17, 0, 1, 2, 3, 4, 5, 6, 7, 8, 9, 10, 11, 12, 13, 14, 15, 16, 17], [17]), ([18, 0, 1, 2, 3, 4, 5, 6, 7, 8, 9, 10, 11, 12, 13, 14, 15, 16, 17, 18], [])])
def ravelinref18_Bytes.B6 : List Nat := [0, 1, 3, 0, 8, 31, 63, 0, 128, 447, 1023, 0, 4095, 0, 8192, 25535, 65535, 131071, 262143, 524287]
theorem ravelinref18_Bytes.tab6 : rtab .any (opsOf Try.f10 6) = ravelinref18_Bytes.T6 := by kernel_rfl
theorem ravelinref18_Bytes.bits6 : waitsOk ravelinref18_Bytes.T6.2 ravelinref18_Bytes.B6 = true := by kernel_rfl
set_option maxHeartbeats 8000000 in
set_option maxRecDepth 100000 in
theorem ravelinref18_Bytes.calls (k : Nat) (a0_0 : Int) (a0_1 : Int) (a0_2 : Int) (a0_3 : Bool) (A0_4 : Option Addr) (c0_4 : Nat) (l0_4 : List (S39)) (r1 : ByteArray) (r2 : Bool) (w : World) (hr0_4 : Kd.C k39 w A0_4 l0_4.length l0_4) (hc0_4 : l0_4.length ≤ c0_4) (h : ravelinref18_Bytes.f k a0_0 a0_1 a0_2 a0_3 l0_4 = some (r1, r2)) :
    Calls Try.prog 10 #[.agg #[.int .i64 a0_0, .int .i64 a0_1, .int .i64 a0_2, .bool a0_3, .slice A0_4 l0_4.length c0_4]] w fun e w' => e = .returned (.tuple #[.string r1, .bool r2]) ∧ Below w.heap.size w w' := by
  have hu24 := Try.underlying24
  have HR0_4 := Aside0.mk hr0_4
  have HC0_4 := Aside0.mk hc0_4
  clear hr0_4 hc0_4
  have HB := Aside0.mk (Below.refl w.heap.size w)
  have H : ((ravelinref18_Is.f k a0_0 a0_1 a0_2 a0_3 l0_4).bind fun t298 => (if t298 = true then (if a0_3 = true then (ravelinref18_Bytes.j0 k (⟨#[1]⟩ : ByteArray) a0_0 a0_1 a0_2 a0_3 l0_4) else (ravelinref18_Bytes.j0 k (⟨#[0]⟩ : ByteArray) a0_0 a0_1 a0_2 a0_3 l0_4)) else (some ((⟨#[]⟩ : ByteArray), false)))) = some (r1, r2) := h
  clear h
  replace H := Option.bind_eq_some_iff.mp H
  obtain ⟨t298, A20, H⟩ := H
  try dsimp only at H
  have A2 := Aside0.mk A20
  clear A20
  by_cases c3 : t298 = true
  rotate_left
  · replace c3 := Bool.eq_false_iff.mpr c3
    subst c3
    have H1 : (some ((⟨#[]⟩ : ByteArray), false)) = some (r1, r2) := by rw [if_neg (show ¬ (false = true) by decide)] at H; exact H
    clear H
    have H := H1
    clear H1
    simp only [Option.some.injEq, Prod.mk.injEq] at H
    obtain ⟨rfl, rfl⟩ := H
    go_enter Try.func10, Try.ntmps10
    go_wp2_with (first | ((with_reducible refine gate_dst (N := 1) rfl ?_); refine box_event ?hg (N := 1) ?hd (cs := #[.int .i64 a0_0, .int .i64 a0_1, .int .i64 a0_2, .bool a0_3, .slice A0_4 l0_4.length c0_4]) (t := 24) ?hr ?_; (case hd => rfl); (case hg => rfl); (case hr => first | (go_simp; done) | (go_simp; rfl)); intro gb297 hg w25 hbox hb; have n0_ := bs_ HB hb; have n1_ := Aside0.mk (hbox); have n2_ := gz_ HB hg; have n3_ := gz_ HB hg; clear HB; have HB := n0_; have BK297 := n1_; have GW297 := n2_; have GE297 := n3_; clear n0_ n1_ n2_ n3_; clear hb hbox hg; have hcz26_0 := bc0 BK297; have hcz26_1 := bc1 BK297; have hcz26_2 := bc2 BK297; have hcz26_3 := bc3 BK297; have hcz26_4 := bc4 BK297; have hfz26_0 := bf_ BK297 0; have hfz26_1 := bf_ BK297 1; have hfz26_2 := bf_ BK297 2; have hfz26_3 := bf_ BK297 3; have hfz26_4 := bf_ BK297 4) | ((with_reducible refine gate_callee (f := 16) rfl ?_); refine goesL_ (some 6) rfl rfl Try.func16 (by kernel_rfl) rfl #[.agg #[.int .i64 a0_0, .int .i64 a0_1, .int .i64 a0_2, .bool a0_3, .slice A0_4 l0_4.length c0_4]] rfl (by (try simp only [maps_]); first | done | rfl) ?_; (with_reducible refine (ravelinref18_Is.calls k a0_0 a0_1 a0_2 a0_3 _ _ l0_4 false _ ?side1 ?side2 A2.out).mono ?_); (case side1 => exact cb_ HR0_4 HB); (case side2 => exact HC0_4.out); rintro e w27 ⟨rfl, hb⟩; refine ⟨_, rfl, ?_⟩; have n0_ := bb_ BK297 hb; have n1_ := bl_ [gb297] HB ⟨GE297, ⟨⟩⟩ hb; clear BK297; clear HB; have BK297 := n0_; have HB := n1_; clear n0_ n1_; (try clear hb); (try clear hb2); (try clear hk); (try clear hi)))
    go_ret2
    exact ⟨by first | rfl | (simp [*, errW_none, errW_some] <;> rfl), gwl_ [gb297] HB ⟨GE297, ⟨⟩⟩⟩
  subst c3
  have H1 : (if a0_3 = true then (ravelinref18_Bytes.j0 k (⟨#[1]⟩ : ByteArray) a0_0 a0_1 a0_2 a0_3 l0_4) else (ravelinref18_Bytes.j0 k (⟨#[0]⟩ : ByteArray) a0_0 a0_1 a0_2 a0_3 l0_4)) = some (r1, r2) := by rw [if_pos rfl] at H; exact H
  clear H
  have H := H1
  clear H1
  have HC4 := Aside0.mk H
  clear H
  go_enter Try.func10, Try.ntmps10
  go_upto_if 9 with (first | ((with_reducible refine gate_dst (N := 1) rfl ?_); refine box_event ?hg (N := 1) ?hd (cs := #[.int .i64 a0_0, .int .i64 a0_1, .int .i64 a0_2, .bool a0_3, .slice A0_4 l0_4.length c0_4]) (t := 24) ?hr ?_; (case hd => rfl); (case hg => rfl); (case hr => first | (go_simp; done) | (go_simp; rfl)); intro gb297 hg w5 hbox hb; have n0_ := bs_ HB hb; have n1_ := Aside0.mk (hbox); have n2_ := gz_ HB hg; have n3_ := gz_ HB hg; clear HB; have HB := n0_; have BK297 := n1_; have GW297 := n2_; have GE297 := n3_; clear n0_ n1_ n2_ n3_; clear hb hbox hg; have hcz6_0 := bc0 BK297; have hcz6_1 := bc1 BK297; have hcz6_2 := bc2 BK297; have hcz6_3 := bc3 BK297; have hcz6_4 := bc4 BK297; have hfz6_0 := bf_ BK297 0; have hfz6_1 := bf_ BK297 1; have hfz6_2 := bf_ BK297 2; have hfz6_3 := bf_ BK297 3; have hfz6_4 := bf_ BK297 4) | ((with_reducible refine gate_callee (f := 16) rfl ?_); refine goesL_ (some 6) rfl rfl Try.func16 (by kernel_rfl) rfl #[.agg #[.int .i64 a0_0, .int .i64 a0_1, .int .i64 a0_2, .bool a0_3, .slice A0_4 l0_4.length c0_4]] rfl (by (try simp only [maps_]); first | done | rfl) ?_; (with_reducible refine (ravelinref18_Is.calls k a0_0 a0_1 a0_2 a0_3 _ _ l0_4 true _ ?side1 ?side2 A2.out).mono ?_); (case side1 => exact cb_ HR0_4 HB); (case side2 => exact HC0_4.out); rintro e w7 ⟨rfl, hb⟩; refine ⟨_, rfl, ?_⟩; have n0_ := bb_ BK297 hb; have n1_ := bl_ [gb297] HB ⟨GE297, ⟨⟩⟩ hb; clear BK297; clear HB; have BK297 := n0_; have HB := n1_; clear n0_ n1_; (try clear hb); (try clear hb2); (try clear hk); (try clear hi); have hcz8_0 := bc0 BK297; have hcz8_1 := bc1 BK297; have hcz8_2 := bc2 BK297; have hcz8_3 := bc3 BK297; have hcz8_4 := bc4 BK297; have hfz8_0 := bf_ BK297 0; have hfz8_1 := bf_ BK297 1; have hfz8_2 := bf_ BK297 2; have hfz8_3 := bf_ BK297 3; have hfz8_4 := bf_ BK297 4))
  (try simp only [Act.put, lists_])
  go_cut [4] (fun v4 wc => ∃ (kq : Nat) (x4_3 : ByteArray), v4 = .string x4_3 ∧ Aside0 (ravelinref18_Bytes.j0 kq x4_3 a0_0 a0_1 a0_2 a0_3 l0_4 = some (r1, r2)) ∧ Aside0 (kq ≤ k) ∧ Aside0 (wc.heap[gb297]? = some (.cells #[.int .i64 a0_0, .int .i64 a0_1, .int .i64 a0_2, .bool a0_3, (.slice A0_4 l0_4.length c0_4)] 24 (0, 0))) ∧ Aside0 (Below w.heap.size w wc))
  case first =>
    have H := HC4.out
    clear HC4
    by_cases c9 : a0_3 = true
    · subst c9
      have H1 : (ravelinref18_Bytes.j0 k (⟨#[1]⟩ : ByteArray) a0_0 a0_1 a0_2 true l0_4) = some (r1, r2) := by rw [if_pos rfl] at H; exact H
      clear H
      have H := H1
      clear H1
      have H' := Aside0.mk H
      clear H
      go_wp2
      go_meet
      case rel => exact ⟨_, ((⟨#[1]⟩ : ByteArray)), (by first | rfl | (simp; done) | (simp [*]; done)), H', ⟨by first | omega | exact Nat.le_refl _⟩, ⟨gb_ BK297⟩, ⟨gwl_ [gb297] HB ⟨GE297, ⟨⟩⟩⟩⟩
    replace c9 := Bool.eq_false_iff.mpr c9
    subst c9
    have H1 : (ravelinref18_Bytes.j0 k (⟨#[0]⟩ : ByteArray) a0_0 a0_1 a0_2 false l0_4) = some (r1, r2) := by rw [if_neg (show ¬ (false = true) by decide)] at H; exact H
    clear H
    have H := H1
    clear H1
    have H' := Aside0.mk H
    clear H
    go_wp2
    go_meet
    case rel => exact ⟨_, ((⟨#[0]⟩ : ByteArray)), (by first | rfl | (simp; done) | (simp [*]; done)), H', ⟨by first | omega | exact Nat.le_refl _⟩, ⟨gb_ BK297⟩, ⟨gwl_ [gb297] HB ⟨GE297, ⟨⟩⟩⟩⟩
  clear HC4
  try clear c1
  try clear p2
  try clear c3
  try clear c9
  try clear hcz6_0
  try clear hcz6_1
  try clear hcz6_2
  try clear hcz6_3
  try clear hcz6_4
  try clear hcz8_0
  try clear hcz8_1
  try clear hcz8_2
  try clear hcz8_3
  try clear hcz8_4
  try clear hfz6_0
  try clear hfz6_1
  try clear hfz6_2
  try clear hfz6_3
  try clear hfz6_4
  try clear hfz8_0
  try clear hfz8_1
  try clear hfz8_2
  try clear hfz8_3
  try clear hfz8_4
  obtain ⟨kq, x4_3, rfl, HA, HJ3, BK297, HB⟩ := hcut
  cases kq with
  | zero => exact absurd HA.out (by simp [ravelinref18_Bytes.j0])
  | succ kj3 => ?_
  have H := HA.out
  clear HA
  simp only [ravelinref18_Bytes.j0] at H
  replace H := Option.bind_eq_some_iff.mp H
  obtain ⟨t299, A100, H⟩ := H
  try dsimp only at H
  have A10 := Aside0.mk A100
  clear A100
  replace H := Option.bind_eq_some_iff.mp H
  obtain ⟨t300, A110, H⟩ := H
  try dsimp only at H
  have A11 := Aside0.mk A110
  clear A110
  by_cases c12 : t299.size + t300.size ≤ 9223372036854775807
  rotate_left
  · rw [if_neg c12] at H
    exact absurd H (by simp)
  rw [if_pos c12] at H
  have c12b0 := eq_true c12
  have c12b1 : decide (t299.size + t300.size ≤ 9223372036854775807) = true := decide_eq_true c12
  try have c12b2 : (9223372036854775807 < t299.size + t300.size) = False := eq_false (Nat.not_lt.2 c12)
  replace H := Option.bind_eq_some_iff.mp H
  obtain ⟨t301, A130, H⟩ := H
  try dsimp only at H
  have A13 := Aside0.mk A130
  clear A130
  by_cases c14 : (t299 ++ t300).size + t301.size ≤ 9223372036854775807
  rotate_left
  · rw [if_neg c14] at H
    exact absurd H (by simp)
  rw [if_pos c14] at H
  have c14b0 := eq_true c14
  have c14b1 : decide ((t299 ++ t300).size + t301.size ≤ 9223372036854775807) = true := decide_eq_true c14
  (try (have c14b1s := c14b1; simp only [ByteArray.size_append] at c14b1s))
  try have c14b2 : (9223372036854775807 < (t299 ++ t300).size + t301.size) = False := eq_false (Nat.not_lt.2 c14)
  (try (have c14b2s := c14b2; simp only [ByteArray.size_append] at c14b2s))
  by_cases c15 : ((t299 ++ t300) ++ t301).size + x4_3.size ≤ 9223372036854775807
  rotate_left
  · rw [if_neg c15] at H
    exact absurd H (by simp)
  rw [if_pos c15] at H
  have c15b0 := eq_true c15
  have c15b1 : decide (((t299 ++ t300) ++ t301).size + x4_3.size ≤ 9223372036854775807) = true := decide_eq_true c15
  (try (have c15b1s := c15b1; simp only [ByteArray.size_append] at c15b1s))
  try have c15b2 : (9223372036854775807 < ((t299 ++ t300) ++ t301).size + x4_3.size) = False := eq_false (Nat.not_lt.2 c15)
  (try (have c15b2s := c15b2; simp only [ByteArray.size_append] at c15b2s))
  replace H := Option.bind_eq_some_iff.mp H
  obtain ⟨t302, A160, H⟩ := H
  try dsimp only at H
  have A16 := Aside0.mk A160
  clear A160
  by_cases c17 : (((t299 ++ t300) ++ t301) ++ x4_3).size + t302.size ≤ 9223372036854775807
  rotate_left
  · rw [if_neg c17] at H
    exact absurd H (by simp)
  rw [if_pos c17] at H
  have c17b0 := eq_true c17
  have c17b1 : decide ((((t299 ++ t300) ++ t301) ++ x4_3).size + t302.size ≤ 9223372036854775807) = true := decide_eq_true c17
  (try (have c17b1s := c17b1; simp only [ByteArray.size_append] at c17b1s))
  try have c17b2 : (9223372036854775807 < (((t299 ++ t300) ++ t301) ++ x4_3).size + t302.size) = False := eq_false (Nat.not_lt.2 c17)
  (try (have c17b2s := c17b2; simp only [ByteArray.size_append] at c17b2s))
  replace H := Option.bind_eq_some_iff.mp H
  obtain ⟨t303, A180, H⟩ := H
  try dsimp only at H
  have A18 := Aside0.mk A180
  clear A180
  simp only [Option.some.injEq, Prod.mk.injEq] at H
  obtain ⟨rfl, rfl⟩ := H
  try go_wp2
  have n0_ := Aside0.mk (blk_drew BK297.out)
  have n1_ := Aside0.mk (below_drew1 HB.out)
  clear BK297
  clear HB
  have BK297 := n0_
  have HB := n1_
  clear n0_ n1_
  refine start_ (n := 20) (S := fun w' => w'.cell? ⟨gb297, 0, none⟩ = some (.int .i64 a0_0) ∧ w'.cell? ⟨gb297, 1, none⟩ = some (.int .i64 a0_1) ∧ w'.cell? ⟨gb297, 2, none⟩ = some (.int .i64 a0_2) ∧ w'.cell? ⟨gb297, 3, none⟩ = some (.bool a0_3) ∧ w'.cell? ⟨gb297, 4, none⟩ = some (.slice A0_4 l0_4.length c0_4)) (ds := []) mkPx13_0 (by kernel_rfl) rfl rfl ⟨bc0 BK297, bc1 BK297, bc2 BK297, bc3 BK297, bc4 BK297⟩ (fun hHeld => ?_); refine with_tabW ravelinref18_Bytes.tab6 ravelinref18_Bytes.bits6 (fun HT_ HW_ => ?_)
  generalize wc.drew = w19 at BK297 HB hHeld ⊢
  refine pu_ 0 (some 10) mkPx13_1 HT_ ?_ rfl rfl (by kernel_rfl) (fun _ _ _ h => h) (Or.inl ⟨by rfl, ?_⟩) ?_ ?_ ?_
  rotate_left
  · intro w'
    go_simp
    with_reducible rfl
  rotate_left
  · simp only [Act.put, lists_, i64_w, i32_w]
    rfl
  refine pu_ 3 (some 13) mkPx13_2 HT_ ?_ rfl rfl (by kernel_rfl) (fun _ _ _ h => h) (Or.inl ⟨by rfl, ?_⟩) ?_ ?_ ?_
  rotate_left
  · intro w'
    go_simp
    with_reducible rfl
  rotate_left
  · simp only [Act.put, lists_, i64_w, i32_w]
    rfl
  refine pu_ 7 (some 17) mkPx13_3 HT_ ?_ rfl rfl (by kernel_rfl) (fun _ _ _ h => h) (Or.inl ⟨by rfl, ?_⟩) ?_ ?_ ?_
  rotate_left
  · intro w'
    go_simp
    with_reducible rfl
  rotate_left
  · simp only [Act.put, lists_, i64_w, i32_w]
    rfl
  refine pu_ 11 (some 21) mkPx13_4 HT_ ?_ rfl rfl (by kernel_rfl) (fun _ _ _ h => h) (Or.inl ⟨by rfl, ?_⟩) ?_ ?_ ?_
  rotate_left
  · intro w'
    go_simp
    with_reducible rfl
  rotate_left
  · simp only [Act.put, lists_, i64_w, i32_w]
    rfl
  refine pu_ 13 (some 23) mkPx13_5 HT_ ?_ rfl rfl (by kernel_rfl) (fun _ _ _ h => h) (Or.inl ⟨by rfl, ?_⟩) ?_ ?_ ?_
  rotate_left
  · intro w'
    go_simp
    with_reducible rfl
  rotate_left
  · simp only [Act.put, lists_, i64_w, i32_w]
    rfl
  refine take_ (i := 1) (N := some 11) (v := ?_) (a' := ?_) mkPx13_6 rfl rfl (take_ofW HT_.out HW_.out (by kernel_rfl)) (fun _ _ _ h => h) (Or.inl ⟨by rfl, ?_⟩) hHeld ?_ ?_
  rotate_left
  · rintro w' ⟨s0, s1, s2, s3, s4⟩
    go_simp
    with_reducible rfl
  rotate_left
  · simp only [Act.put, lists_, i64_w, i32_w]
    rfl
  refine take_ (i := 4) (N := some 14) (v := ?_) (a' := ?_) mkPx13_7 rfl rfl (take_ofW HT_.out HW_.out (by kernel_rfl)) (fun _ _ _ h => h) (Or.inl ⟨by rfl, ?_⟩) hHeld ?_ ?_
  rotate_left
  · rintro w' ⟨s0, s1, s2, s3, s4⟩
    go_simp
    with_reducible rfl
  rotate_left
  · simp only [Act.put, lists_, i64_w, i32_w]
    rfl
  refine take_ (i := 8) (N := some 18) (v := ?_) (a' := ?_) mkPx13_8 rfl rfl (take_ofW HT_.out HW_.out (by kernel_rfl)) (fun _ _ _ h => h) (Or.inl ⟨by rfl, ?_⟩) hHeld ?_ ?_
  rotate_left
  · rintro w' ⟨s0, s1, s2, s3, s4⟩
    go_simp
    with_reducible rfl
  rotate_left
  · simp only [Act.put, lists_, i64_w, i32_w]
    rfl
  refine take_ (i := 14) (N := some 24) (v := ?_) (a' := ?_) mkPx13_9 rfl rfl (take_ofW HT_.out HW_.out (by kernel_rfl)) (fun _ _ _ h => h) (Or.inl ⟨by rfl, ?_⟩) hHeld ?_ ?_
  rotate_left
  · rintro w' ⟨s0, s1, s2, s3, s4⟩
    go_simp
    with_reducible rfl
  rotate_left
  · simp only [Act.put, lists_, i64_w, i32_w]
    rfl
  refine one_ (i := 2) (N := some 12) mkPx13_10 rfl rfl (one_of HT_.out (by kernel_rfl)) (by decide) (fun K hK => ?_)
  refine goes_ Try.func22 (by kernel_rfl) rfl #[.int .i64 a0_0] (by rfl) rfl rfl (by (try simp only [maps_]); first | done | rfl) ?_
  with_reducible refine (ravelinref3_Num.calls kj3 a0_0 t299 _ A10.out).mono ?_
  rintro e w20 ⟨rfl, hb⟩
  refine ⟨_, rfl, ?_⟩
  have n0_ := bb_ BK297 hb
  have n1_ := bl_ [gb297] HB ⟨GE297, ⟨⟩⟩ hb
  clear BK297
  clear HB
  have BK297 := n0_
  have HB := n1_
  clear n0_ n1_
  (try clear hb)
  (try clear hb2)
  (try clear hk)
  (try clear hi)
  refine hK.out _ _ ⟨bc0 BK297, bc1 BK297, bc2 BK297, bc3 BK297, bc4 BK297⟩ (fun hHeld => ?_)
  clear hK K
  refine norm_ (a' := ?_) ?_ ?_
  rotate_left
  · show Act.put _ (some 12) _ = _
    simp only [Act.put, lists_, i64_w, i32_w]
    rfl
  refine one_ (i := 5) (N := some 15) mkPx13_11 rfl rfl (one_of HT_.out (by kernel_rfl)) (by decide) (fun K hK => ?_)
  refine goes_ Try.func22 (by kernel_rfl) rfl #[.int .i64 a0_1] (by rfl) rfl rfl (by (try simp only [maps_]); first | done | rfl) ?_
  with_reducible refine (ravelinref3_Num.calls kj3 a0_1 t300 _ A11.out).mono ?_
  rintro e w21 ⟨rfl, hb⟩
  refine ⟨_, rfl, ?_⟩
  have n0_ := bb_ BK297 hb
  have n1_ := bl_ [gb297] HB ⟨GE297, ⟨⟩⟩ hb
  clear BK297
  clear HB
  have BK297 := n0_
  have HB := n1_
  clear n0_ n1_
  (try clear hb)
  (try clear hb2)
  (try clear hk)
  (try clear hi)
  refine hK.out _ _ ⟨bc0 BK297, bc1 BK297, bc2 BK297, bc3 BK297, bc4 BK297⟩ (fun hHeld => ?_)
  clear hK K
  refine norm_ (a' := ?_) ?_ ?_
  rotate_left
  · show Act.put _ (some 15) _ = _
    simp only [Act.put, lists_, i64_w, i32_w]
    rfl
  refine pu_ 6 (some 16) mkPx13_12 HT_ ?_ rfl rfl (by kernel_rfl) (fun _ _ _ h => h) (Or.inl ⟨by rfl, ?_⟩) ?_ ?_ ?_
  rotate_left
  · intro w'
    go_simp
    with_reducible rfl
  rotate_left
  · simp only [Act.put, lists_, i64_w, i32_w]
    rfl
  refine one_ (i := 9) (N := some 19) mkPx13_13 rfl rfl (one_of HT_.out (by kernel_rfl)) (by decide) (fun K hK => ?_)
  refine goes_ Try.func22 (by kernel_rfl) rfl #[.int .i64 a0_2] (by rfl) rfl rfl (by (try simp only [maps_]); first | done | rfl) ?_
  with_reducible refine (ravelinref3_Num.calls kj3 a0_2 t301 _ A13.out).mono ?_
  rintro e w22 ⟨rfl, hb⟩
  refine ⟨_, rfl, ?_⟩
  have n0_ := bb_ BK297 hb
  have n1_ := bl_ [gb297] HB ⟨GE297, ⟨⟩⟩ hb
  clear BK297
  clear HB
  have BK297 := n0_
  have HB := n1_
  clear n0_ n1_
  (try clear hb)
  (try clear hb2)
  (try clear hk)
  (try clear hi)
  refine hK.out _ _ ⟨bc0 BK297, bc1 BK297, bc2 BK297, bc3 BK297, bc4 BK297⟩ (fun hHeld => ?_)
  clear hK K
  refine norm_ (a' := ?_) ?_ ?_
  rotate_left
  · show Act.put _ (some 19) _ = _
    simp only [Act.put, lists_, i64_w, i32_w]
    rfl
  refine pu_ 10 (some 20) mkPx13_14 HT_ ?_ rfl rfl (by kernel_rfl) (fun _ _ _ h => h) (Or.inl ⟨by rfl, ?_⟩) ?_ ?_ ?_
  rotate_left
  · intro w'
    go_simp
    with_reducible rfl
  rotate_left
  · simp only [Act.put, lists_, i64_w, i32_w]
    rfl
  refine pu_ 12 (some 22) mkPx13_15 HT_ ?_ rfl rfl (by kernel_rfl) (fun _ _ _ h => h) (Or.inl ⟨by rfl, ?_⟩) ?_ ?_ ?_
  rotate_left
  · intro w'
    go_simp
    with_reducible rfl
  rotate_left
  · simp only [Act.put, lists_, i64_w, i32_w]
    rfl
  refine one_ (i := 15) (N := some 25) mkPx13_16 rfl rfl (one_of HT_.out (by kernel_rfl)) (by decide) (fun K hK => ?_)
  refine goes_ Try.func23 (by kernel_rfl) rfl #[.slice A0_4 l0_4.length c0_4] (by rfl) rfl rfl (by (try simp only [maps_]); first | done | rfl) ?_
  with_reducible refine (ravelinref12_Row.calls kj3 _ _ l0_4 t302 _ ?side1 ?side2 A16.out).mono ?_
  (case side1 => exact cb_ HR0_4 HB)
  (case side2 => exact HC0_4.out)
  rintro e w23 ⟨rfl, hb⟩
  refine ⟨_, rfl, ?_⟩
  have n0_ := bb_ BK297 hb
  have n1_ := bl_ [gb297] HB ⟨GE297, ⟨⟩⟩ hb
  clear BK297
  clear HB
  have BK297 := n0_
  have HB := n1_
  clear n0_ n1_
  (try clear hb)
  (try clear hb2)
  (try clear hk)
  (try clear hi)
  refine hK.out _ _ ⟨bc0 BK297, bc1 BK297, bc2 BK297, bc3 BK297, bc4 BK297⟩ (fun hHeld => ?_)
  clear hK K
  refine norm_ (a' := ?_) ?_ ?_
  rotate_left
  · show Act.put _ (some 25) _ = _
    simp only [Act.put, lists_, i64_w, i32_w]
    rfl
  refine pu_ 16 (some 26) mkPx13_17 HT_ ?_ rfl rfl (by kernel_rfl) (fun _ _ _ h => h) (Or.inl ⟨by rfl, ?_⟩) ?_ ?_ ?_
  rotate_left
  · intro w'
    go_simp
    with_reducible rfl
  rotate_left
  · simp only [Act.put, lists_, i64_w, i32_w]
    rfl
  refine one_ (i := 17) (N := some 27) mkPx13_18 rfl rfl (one_of HT_.out (by kernel_rfl)) (by decide) (fun K hK => ?_)
  refine goes_ Try.func21 (by kernel_rfl) rfl #[.string ((((t299 ++ t300) ++ t301) ++ x4_3) ++ t302)] (by rfl) rfl rfl (by (try simp only [maps_]); first | done | rfl) ?_
  with_reducible refine (ravelinref3_Seal.calls kj3 ((((t299 ++ t300) ++ t301) ++ x4_3) ++ t302) t303 _ A18.out).mono ?_
  rintro e w24 ⟨rfl, hb⟩
  refine ⟨_, rfl, ?_⟩
  have n0_ := bb_ BK297 hb
  have n1_ := bl_ [gb297] HB ⟨GE297, ⟨⟩⟩ hb
  clear BK297
  clear HB
  have BK297 := n0_
  have HB := n1_
  clear n0_ n1_
  (try clear hb)
  (try clear hb2)
  (try clear hk)
  (try clear hi)
  refine hK.out _ _ ⟨bc0 BK297, bc1 BK297, bc2 BK297, bc3 BK297, bc4 BK297⟩ (fun hHeld => ?_)
  clear hK K
  refine norm_ (a' := ?_) ?_ ?_
  rotate_left
  · show Act.put _ (some 27) _ = _
    simp only [Act.put, lists_, i64_w, i32_w]
    rfl
  refine pu_ 18 (some 2) mkPx13_19 HT_ ?_ rfl rfl (by kernel_rfl) (fun _ _ _ h => h) (Or.inl ⟨by rfl, ?_⟩) ?_ ?_ ?_
  rotate_left
  · intro w'
    go_simp
    with_reducible rfl
  rotate_left
  · simp only [Act.put, lists_, i64_w, i32_w]
    rfl
  refine pu_ 19 (some 3) mkPx13_20 HT_ ?_ rfl rfl (by kernel_rfl) (fun _ _ _ h => h) (Or.inl ⟨by rfl, ?_⟩) ?_ ?_ ?_
  rotate_left
  · intro w'
    go_simp
    with_reducible rfl
  rotate_left
  · simp only [Act.put, lists_, i64_w, i32_w]
    rfl
  refine done_ (done_of HT_.out (by kernel_rfl)) ?_
  try go_wp2
  go_ret2
  exact ⟨by first | rfl | (simp [*, errW_none, errW_some] <;> rfl), gwl_ [gb297] HB ⟨GE297, ⟨⟩⟩⟩

end Go.Proofs.Ytkmbgihfdfgmgaa.P
