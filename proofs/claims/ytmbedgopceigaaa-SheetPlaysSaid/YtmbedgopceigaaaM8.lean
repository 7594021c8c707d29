-- Printed by a changed copy of the kit's printer (wip/tools/ext.py); labels and more
import Derived.Test.YtmbedgopceigaaaQShort
import Derived.Test.YtmbedgopceigaaaM0
import Derived.Test.YtmbedgopceigaaaM7
namespace Go.Proofs.Ytmbedgopceigaaa.P
open Go.RowKit Go.Proofs.YtmbedgopceigaaaW.PrintWords Go.Proofs.YtmbedgopceigaaaW.PrintLast Go.Proofs.YtmbedgopceigaaaW.PrintMore
attribute [local go_sem] max2_int min2_int max_two min_two max_three min_three max_four min_four   -- for this text's walks alone
attribute [local go_sem high] string_leq string_geq string_gtr
set_option linter.unusedVariables false
set_option linter.unusedSimpArgs false

abbrev mkM8_0 : Array Bool := #[false, false, false, false, false, false, false, false, false, false, false, false, false, false, false, false, false, false, false, false, false, false, false, false, false, false, false]
abbrev mkM8_1 : Array Bool := #[true, false, false, false, false, false, false, false, false, false, false, false, false, false, false, false, false, false, false, false, false, false, false, false, false, false, false]
abbrev mkM8_2 : Array Bool := #[true, false, true, false, false, false, false, false, false, false, false, false, false, false, false, false, false, false, false, false, false, false, false, false, false, false, false]
abbrev mkM8_3 : Array Bool := #[true, true, true, false, false, false, false, false, false, false, false, false, false, false, false, false, false, false, false, false, false, false, false, false, false, false, false]
abbrev mkM8_4 : Array Bool := #[true, true, true, true, false, false, false, false, false, false, false, false, false, false, false, false, false, false, false, false, false, false, false, false, false, false, false]
abbrev mkM8_5 : Array Bool := #[true, true, true, true, true, false, false, false, false, false, false, false, false, false, false, false, false, false, false, false, false, false, false, false, false, false, false]
abbrev mkM8_6 : Array Bool := #[true, true, true, true, true, true, false, false, false, false, false, false, false, false, false, false, false, false, false, false, false, false, false, false, false, false, false]
abbrev mkM8_7 : Array Bool := #[true, true, true, true, true, true, true, false, false, false, false, false, false, false, false, false, false, false, false, false, false, false, false, false, false, false, false]
abbrev mkM8_8 : Array Bool := #[true, true, true, true, true, true, true, true, false, false, false, false, false, false, false, false, false, false, false, false, false, false, false, false, false, false, false]
abbrev mkM8_9 : Array Bool := #[true, true, true, true, true, true, true, true, true, false, false, false, false, false, false, false, false, false, false, false, false, false, false, false, false, false, false]
abbrev mkM8_10 : Array Bool := #[true, true, true, true, true, true, true, true, true, true, false, false, false, false, false, false, false, false, false, false, false, false, false, false, false, false, false]
abbrev mkM8_11 : Array Bool := #[true, true, true, true, true, true, true, true, true, true, true, false, false, false, false, false, false, false, false, false, false, false, false, false, false, false, false]
abbrev mkM8_12 : Array Bool := #[true, true, true, true, true, true, true, true, true, true, true, true, false, false, false, false, false, false, false, false, false, false, false, false, false, false, false]
abbrev mkM8_13 : Array Bool := #[true, true, true, true, true, true, true, true, true, true, true, true, true, false, false, false, false, false, false, false, false, false, false, false, false, false, false]
abbrev mkM8_14 : Array Bool := #[true, true, true, true, true, true, true, true, true, true, true, true, true, true, false, false, false, false, false, false, false, false, false, false, false, false, false]
abbrev mkM8_15 : Array Bool := #[true, true, true, true, true, true, true, true, true, true, true, true, true, true, true, false, false, false, false, false, false, false, false, false, false, false, false]
abbrev mkM8_16 : Array Bool := #[true, true, true, true, true, true, true, true, true, true, true, true, true, true, true, true, false, false, false, false, false, false, false, false, false, false, false]
abbrev mkM8_17 : Array Bool := #[true, true, true, true, true, true, true, true, true, true, true, true, true, true, true, true, true, false, false, false, false, false, false, false, false, false, false]
abbrev mkM8_18 : Array Bool := #[true, true, true, true, true, true, true, true, true, true, true, true, true, true, true, true, true, true, false, false, false, false, false, false, false, false, false]
abbrev mkM8_19 : Array Bool := #[true, true, true, true, true, true, true, true, true, true, true, true, true, true, true, true, true, true, true, false, false, false, false, false, false, false, false]
abbrev mkM8_20 : Array Bool := #[true, true, true, true, true, true, true, true, true, true, true, true, true, true, true, true, true, true, true, true, false, false, false, false, false, false, false]
abbrev mkM8_21 : Array Bool := #[true, true, true, true, true, true, true, true, true, true, true, true, true, true, true, true, true, true, true, true, true, false, false, false, false, false, false]
abbrev mkM8_22 : Array Bool := #[true, true, true, true, true, true, true, true, true, true, true, true, true, true, true, true, true, true, true, true, true, true, false, false, false, false, false]
abbrev mkM8_23 : Array Bool := #[true, true, true, true, true, true, true, true, true, true, true, true, true, true, true, true, true, true, true, true, true, true, true, false, false, false, false]
abbrev mkM8_24 : Array Bool := #[true, true, true, true, true, true, true, true, true, true, true, true, true, true, true, true, true, true, true, true, true, true, true, true, false, false, false]
abbrev mkM8_25 : Array Bool := #[true, true, true, true, true, true, true, true, true, true, true, true, true, true, true, true, true, true, true, true, true, true, true, true, true, false, false]
abbrev mkM8_26 : Array Bool := #[true, true, true, true, true, true, true, true, true, true, true, true, true, true, true, true, true, true, true, true, true, true, true, true, true, true, false]
abbrev mkM8_27 : Array Bool := #[true, true, true, true, true, true, true, true, true, true, true, true, true, true, true, true, true, true, true, true, true, true, true, true, true, true, true]
abbrev mkM8_28 : Array Bool := #[true, true, true, true, true, true, true, true, true, true, true, true, false, true, false, false, false, false, false, false, false, false, false, false, false, false, false]
abbrev mkM8_29 : Array Bool := #[true, true, true, true, true, true, true, true, true, true, true, true, false, true, false, false, false, true, false, false, false, false, false, false, false, false, false]
abbrev mkM8_30 : Array Bool := #[true, true, true, true, true, true, true, true, true, true, true, true, false, true, false, false, false, true, false, true, false, false, false, false, false, false, false]
abbrev mkM8_31 : Array Bool := #[true, true, true, true, true, true, true, true, true, true, true, true, false, true, false, false, false, true, false, true, true, false, false, false, false, false, false]
abbrev mkM8_32 : Array Bool := #[true, true, true, true, true, true, true, true, true, true, true, true, true, true, false, false, false, true, false, true, true, false, false, false, false, false, false]
abbrev mkM8_33 : Array Bool := #[true, true, true, true, true, true, true, true, true, true, true, true, true, true, true, false, false, true, false, true, true, false, false, false, false, false, false]
abbrev mkM8_34 : Array Bool := #[true, true, true, true, true, true, true, true, true, true, true, true, true, true, true, true, false, true, false, true, true, false, false, false, false, false, false]
abbrev mkM8_35 : Array Bool := #[true, true, true, true, true, true, true, true, true, true, true, true, true, true, true, true, true, true, false, true, true, false, false, false, false, false, false]
/-! ### ravelinref9_IsEdit: function 17 -/
mutual
def ravelinref9_IsEdit.j0 : Nat → Bool → List Int → List (S32) → Int → Int → Option (Bool)
  | 0, _, _, _, _, _ => none
  | k + 1, x13, x256000, x256001, x256002, x256003 => if x13 = true then (some false) else (ravelinref9_IsEdit.l0 k 0 x256000 x256001 x256002 x256003)
def ravelinref9_IsEdit.l0 : Nat → Int → List Int → List (S32) → Int → Int → Option (Bool)
  | 0, _, _, _, _, _ => none
  | k + 1, x3, x256000, x256001, x256002, x256003 => if x3 < (x256001.length : Int) then (if 0 ≤ x3 then ((ravelinref9_IsTable.f ((rd_T32 x256001 x3).f0) ((rd_T32 x256001 x3).f1) ((rd_T32 x256001 x3).f2) ((rd_T32 x256001 x3).f3) ((rd_T32 x256001 x3).f4)).bind fun t257 => (if t257 = true then (if x3 > 0 then (if 0 ≤ (wrap64 (x3 - 1)) then (if (wrap64 (x3 - 1)) < (x256001.length : Int) then (if ((rd_T32 x256001 x3).f0) ≤ ((rd_T32 x256001 (wrap64 (x3 - 1))).f0) then (some false) else (ravelinref9_IsEdit.l0 k (wrap64 (x3 + 1)) x256000 x256001 x256002 x256003)) else (none)) else (none)) else (ravelinref9_IsEdit.l0 k (wrap64 (x3 + 1)) x256000 x256001 x256002 x256003)) else (some false))) else (none)) else (if x256002 ≥ 0 then (if x256002 ≤ 1000000 then (if x256003 ≥ 0 then (some (decide (x256003 ≤ 1000000))) else (some false)) else (some false)) else (some false))
end
def ravelinref9_IsEdit.f (k : Nat) (l0_0 : List Int) (l0_1 : List (S32)) (a0_2 : Int) (a0_3 : Int) : Option (Bool) := if (l0_0.length : Int) > 40 then (ravelinref9_IsEdit.j0 k true l0_0 l0_1 a0_2 a0_3) else (ravelinref9_IsEdit.j0 k (decide ((l0_1.length : Int) > 40)) l0_0 l0_1 a0_2 a0_3)
theorem ravelinref9_IsEdit.mono_l : ∀ k, (∀ y0 y1 y2 y3 y4, LeO (ravelinref9_IsEdit.j0 k y0 y1 y2 y3 y4) (ravelinref9_IsEdit.j0 (k + 1) y0 y1 y2 y3 y4)) ∧ (∀ y0 y1 y2 y3 y4, LeO (ravelinref9_IsEdit.l0 k y0 y1 y2 y3 y4) (ravelinref9_IsEdit.l0 (k + 1) y0 y1 y2 y3 y4))
  | 0 => ⟨fun _ _ _ _ _ r h => by simp [ravelinref9_IsEdit.j0] at h, fun _ _ _ _ _ r h => by simp [ravelinref9_IsEdit.l0] at h⟩
  | k + 1 => by
    obtain ⟨ih0, ih1⟩ := ravelinref9_IsEdit.mono_l k
    refine ⟨?_, ?_⟩
    all_goals
      intros
      first | unfold ravelinref9_IsEdit.j0 | unfold ravelinref9_IsEdit.l0
      repeat' first
      | (with_reducible exact ih0 _ _ _ _ _)
      | (with_reducible exact ih1 _ _ _ _ _)
      | (with_reducible exact LeO.refl _)
      | (with_reducible exact LeO.none _)
      | (with_reducible refine LeO.ite ?_ ?_)
      | (with_reducible refine LeO.bind ?_ (fun _ => ?_))
      | exact ih0 _ _ _ _ _
      | exact ih1 _ _ _ _ _
      | exact LeO.none _
      | refine LeO.ite ?_ ?_
      | refine LeO.bind ?_ (fun _ => ?_)
theorem ravelinref9_IsEdit.mono : ∀ a0 a1 a2 a3 k, LeO (ravelinref9_IsEdit.f k a0 a1 a2 a3) (ravelinref9_IsEdit.f (k + 1) a0 a1 a2 a3) := by
  intro a0 a1 a2 a3 k
  obtain ⟨ih0, ih1⟩ := ravelinref9_IsEdit.mono_l k
  unfold ravelinref9_IsEdit.f
  repeat' first
      | (with_reducible exact ih0 _ _ _ _ _)
      | (with_reducible exact ih1 _ _ _ _ _)
      | (with_reducible exact LeO.refl _)
      | (with_reducible exact LeO.none _)
      | (with_reducible refine LeO.ite ?_ ?_)
      | (with_reducible refine LeO.bind ?_ (fun _ => ?_))
      | exact ih0 _ _ _ _ _
      | exact ih1 _ _ _ _ _
      | exact LeO.none _
      | refine LeO.ite ?_ ?_
      | refine LeO.bind ?_ (fun _ => ?_)
def ravelinref9_IsEdit.T6 : Bool × List (List Nat × List Nat) := (true, [([], []), ([0], [0]), ([], []), ([1, 2], [1, 2]), ([3], [3]), ([4], [4]), ([5], [5]), ([6, 5], [6]), ([7], [7]), ([8, 7], [7, 8]), ([9, 7, 7], [7, 9]), ([10], [10]), ([11, 10], [10, 11]), ([10], [10]), ([12, 13, 10], [10, 12, 13]), ([14, 10], [10, 14]), ([15, 10], [10, 15]), ([10], [10]), ([17, 10], [10, 17]), ([10], [10]), ([19, 10], [10, 19]), ([18, 20, 10], [10, 18, 20]), ([21, 10], [10, 21]), ([22, 10], [10, 22]), ([16, 23, 10], [10, 16, 23]), ([10, 24, 7], [7, 10, 24]), ([7, 25], [7, 25])])
def ravelinref9_IsEdit.B6 : List Nat := [0, 1, 0, 7, 15, 31, 63, 127, 255, 511, 1023, 2047, 4095, 2047, 16383, 32767, 65535, 2047, 133119, 2047, 526335, 1968127, 4065279, 8259583, 16777215, 33554431, 67108863]
theorem ravelinref9_IsEdit.tab6 : rtab .any (opsOf Try.f17 6) = ravelinref9_IsEdit.T6 := by kernel_rfl
theorem ravelinref9_IsEdit.bits6 : waitsOk ravelinref9_IsEdit.T6.2 ravelinref9_IsEdit.B6 = true := by kernel_rfl
set_option maxHeartbeats 8000000 in
set_option maxRecDepth 100000 in
theorem ravelinref9_IsEdit.calls (k : Nat) (A0_0 : Option Addr) (c0_0 : Nat) (l0_0 : List Int) (A0_1 : Option Addr) (c0_1 : Nat) (l0_1 : List (S32)) (a0_2 : Int) (a0_3 : Int) (r : Bool) (w : World) (hr0_0 : Kd.C (Kd.int .i64) w A0_0 l0_0.length l0_0) (hc0_0 : l0_0.length ≤ c0_0) (hr0_1 : Kd.C k32 w A0_1 l0_1.length l0_1) (hc0_1 : l0_1.length ≤ c0_1) (h : ravelinref9_IsEdit.f k l0_0 l0_1 a0_2 a0_3 = some r) :
    Calls Try.prog 17 #[.agg #[.slice A0_0 l0_0.length c0_0, .slice A0_1 l0_1.length c0_1, .int .i64 a0_2, .int .i64 a0_3]] w fun e w' => e = .returned (.bool r) ∧ Below w.heap.size w w' := by
  have hu36 := Try.underlying36
  have hu32 := Try.underlying32
  have HR0_0 := Aside0.mk hr0_0
  have HC0_0 := Aside0.mk hc0_0
  clear hr0_0 hc0_0
  have HR0_1 := Aside0.mk hr0_1
  have HC0_1 := Aside0.mk hc0_1
  clear hr0_1 hc0_1
  have HB := Aside0.mk (Below.refl w.heap.size w)
  have H : (if (l0_0.length : Int) > 40 then (ravelinref9_IsEdit.j0 k true l0_0 l0_1 a0_2 a0_3) else (ravelinref9_IsEdit.j0 k (decide ((l0_1.length : Int) > 40)) l0_0 l0_1 a0_2 a0_3)) = some r := h
  clear h
  have HC2 := Aside0.mk H
  clear H
  go_enter Try.func17, Try.ntmps17
  go_upto_region 1 with (first | ((with_reducible refine gate_dst (N := 1) rfl ?_); (try (refine gate_guard (by rfl) ?_; dsimp only)); refine box_event ?hg (N := 1) ?hd (cs := #[.slice A0_0 l0_0.length c0_0, .slice A0_1 l0_1.length c0_1, .int .i64 a0_2, .int .i64 a0_3]) (t := 36) ?hr ?_; (case hd => rfl); (case hg => rfl); (case hr => first | (go_simp; done) | (go_simp; rfl)); intro gb255 hg w3 hbox hb; have n0_ := bs_ HB hb; have n1_ := Aside0.mk (hbox); have n2_ := gz_ HB hg; have n3_ := gz_ HB hg; clear HB; have HB := n0_; have BK255 := n1_; have GW255 := n2_; have GE255 := n3_; clear n0_ n1_ n2_ n3_; clear hb hbox hg))
  (try simp only [Act.put, lists_])
  go_cut [13] (fun v13 wc => ∃ (kq : Nat) (x13_1 : Bool), v13 = .bool x13_1 ∧ Aside0 (ravelinref9_IsEdit.j0 kq x13_1 l0_0 l0_1 a0_2 a0_3 = some r) ∧ Aside0 (kq ≤ k) ∧ Aside0 (wc.heap[gb255]? = some (.cells #[(.slice A0_0 l0_0.length c0_0), (.slice A0_1 l0_1.length c0_1), .int .i64 a0_2, .int .i64 a0_3] 36 (0, 0))) ∧ Aside0 (Below w.heap.size w wc))
  case first =>
    have H := HC2.out
    clear HC2
    by_cases c4 : (l0_0.length : Int) > 40
    · rw [if_pos c4] at H
      have c4b0 : decide (40 < (l0_0.length : Int)) = true := decide_eq_true c4
      have c4b1 : decide (40 < l0_0.length) = true := decide_eq_true (by omega)
      clear c4
      (first | rw [c4b0] | (simp only [i64_w, i32_w]; rw [c4b0]) | skip)
      have H' := Aside0.mk H
      clear H
      have hcz5_0 := bc0 BK255
      have hcz5_1 := bc1 BK255
      have hcz5_2 := bc2 BK255
      have hcz5_3 := bc3 BK255
      have hfz5_0 := bf_ BK255 0
      have hfz5_1 := bf_ BK255 1
      have hfz5_2 := bf_ BK255 2
      have hfz5_3 := bf_ BK255 3
      go_wp2
      go_meet
      case rel => exact ⟨_, (true), (by first | rfl | (simp; done) | (simp [*]; done)), H', ⟨by first | omega | exact Nat.le_refl _⟩, ⟨gb_ BK255⟩, ⟨gwl_ [gb255] HB ⟨GE255, ⟨⟩⟩⟩⟩
    rw [if_neg c4] at H
    have c4b0 : decide (40 < (l0_0.length : Int)) = false := decide_eq_false c4
    have c4b1 : decide (40 < l0_0.length) = false := decide_eq_false (by omega)
    clear c4
    (first | rw [c4b0] | (simp only [i64_w, i32_w]; rw [c4b0]) | skip)
    have H' := Aside0.mk H
    clear H
    have hcz6_0 := bc0 BK255
    have hcz6_1 := bc1 BK255
    have hcz6_2 := bc2 BK255
    have hcz6_3 := bc3 BK255
    have hfz6_0 := bf_ BK255 0
    have hfz6_1 := bf_ BK255 1
    have hfz6_2 := bf_ BK255 2
    have hfz6_3 := bf_ BK255 3
    go_wp2
    go_meet
    case rel => exact ⟨_, (decide ((l0_1.length : Int) > 40)), (by first | rfl | (simp; done) | (simp [*]; done)), H', ⟨by first | omega | exact Nat.le_refl _⟩, ⟨gb_ BK255⟩, ⟨gwl_ [gb255] HB ⟨GE255, ⟨⟩⟩⟩⟩
  clear HC2
  try clear c1
  try clear p2
  try clear c4
  try clear c4b0
  try clear c4b1
  try clear hcz5_0
  try clear hcz5_1
  try clear hcz5_2
  try clear hcz5_3
  try clear hcz6_0
  try clear hcz6_1
  try clear hcz6_2
  try clear hcz6_3
  try clear hfz5_0
  try clear hfz5_1
  try clear hfz5_2
  try clear hfz5_3
  try clear hfz6_0
  try clear hfz6_1
  try clear hfz6_2
  try clear hfz6_3
  obtain ⟨kq, x13_1, rfl, HA, HJ1, BK255, HB⟩ := hcut
  cases kq with
  | zero => exact absurd HA.out (by simp [ravelinref9_IsEdit.j0])
  | succ kj1 => ?_
  have H := HA.out
  clear HA
  simp only [ravelinref9_IsEdit.j0] at H
  by_cases c7 : x13_1 = true
  · subst c7
    have H1 : (some false) = some r := by rw [if_pos rfl] at H; exact H
    clear H
    have H := H1
    clear H1
    obtain rfl := Option.some.inj H
    go_wp2
    go_ret
    exact ⟨by first | rfl | (simp [*, errW_none, errW_some] <;> rfl), gwl_ [gb255] HB ⟨GE255, ⟨⟩⟩⟩
  replace c7 := Bool.eq_false_iff.mpr c7
  subst c7
  have H1 : (ravelinref9_IsEdit.l0 kj1 0 l0_0 l0_1 a0_2 a0_3) = some r := by rw [if_neg (show ¬ (false = true) by decide)] at H; exact H
  clear H
  have H := H1
  clear H1
  have H' := Aside0.mk H
  clear H
  go_wp2
  go_loopg [3] kj1 (fun kq v3 w' => ∃ (x3_2 : Int), v3 = .int .i64 x3_2 ∧ Aside0 (ravelinref9_IsEdit.l0 kq x3_2 l0_0 l0_1 a0_2 a0_3 = some r) ∧ Aside0 (kq ≤ kj1) ∧ Aside0 (w'.heap[gb255]? = some (.cells #[(.slice A0_0 l0_0.length c0_0), (.slice A0_1 l0_1.length c0_1), .int .i64 a0_2, .int .i64 a0_3] 36 (0, 0))) ∧ Aside0 (Below w.heap.size w w'))
  case atStart => exact ⟨(0), (by first | rfl | (simp; done) | (simp [*]; done)), H', ⟨Nat.le_refl _⟩, ⟨gb_ BK255⟩, ⟨gwl_ [gb255] HB ⟨GE255, ⟨⟩⟩⟩⟩
  clear H'
  try clear c1
  try clear p2
  try clear c4
  try clear c4b0
  try clear c4b1
  try clear c7
  try clear hcz5_0
  try clear hcz5_1
  try clear hcz5_2
  try clear hcz5_3
  try clear hcz6_0
  try clear hcz6_1
  try clear hcz6_2
  try clear hcz6_3
  try clear hfz5_0
  try clear hfz5_1
  try clear hfz5_2
  try clear hfz5_3
  try clear hfz6_0
  try clear hfz6_1
  try clear hfz6_2
  try clear hfz6_3
  try clear p2
  obtain ⟨x3_2, rfl, HA, HK2, BK255, HB⟩ := hrel
  cases gk with
  | zero => exact absurd HA.out (by simp [ravelinref9_IsEdit.l0])
  | succ k2 => ?_
  have H := HA.out
  clear HA
  simp only [ravelinref9_IsEdit.l0] at H
  by_cases c8 : x3_2 < (l0_1.length : Int)
  rotate_left
  · rw [if_neg c8] at H
    have c8b0 : decide (x3_2 < (l0_1.length : Int)) = false := decide_eq_false c8
    clear c8
    by_cases c29 : a0_2 ≥ 0
    rotate_left
    · rw [if_neg c29] at H
      have c29b0 : decide (0 ≤ a0_2) = false := decide_eq_false c29
      clear c29
      obtain rfl := Option.some.inj H
      have hcz35_0 := bc0 BK255
      have hcz35_1 := bc1 BK255
      have hcz35_2 := bc2 BK255
      have hcz35_3 := bc3 BK255
      have hfz35_0 := bf_ BK255 0
      have hfz35_1 := bf_ BK255 1
      have hfz35_2 := bf_ BK255 2
      have hfz35_3 := bf_ BK255 3
      go_wp2
      go_ret
      exact ⟨by first | rfl | (simp [*, errW_none, errW_some] <;> rfl), gwl_ [gb255] HB ⟨GE255, ⟨⟩⟩⟩
    rw [if_pos c29] at H
    have c29b0 : decide (0 ≤ a0_2) = true := decide_eq_true c29
    clear c29
    by_cases c30 : a0_2 ≤ 1000000
    rotate_left
    · rw [if_neg c30] at H
      have c30b0 : decide (a0_2 ≤ 1000000) = false := decide_eq_false c30
      clear c30
      obtain rfl := Option.some.inj H
      have hcz34_0 := bc0 BK255
      have hcz34_1 := bc1 BK255
      have hcz34_2 := bc2 BK255
      have hcz34_3 := bc3 BK255
      have hfz34_0 := bf_ BK255 0
      have hfz34_1 := bf_ BK255 1
      have hfz34_2 := bf_ BK255 2
      have hfz34_3 := bf_ BK255 3
      go_wp2
      go_ret
      exact ⟨by first | rfl | (simp [*, errW_none, errW_some] <;> rfl), gwl_ [gb255] HB ⟨GE255, ⟨⟩⟩⟩
    rw [if_pos c30] at H
    have c30b0 : decide (a0_2 ≤ 1000000) = true := decide_eq_true c30
    clear c30
    by_cases c31 : a0_3 ≥ 0
    · rw [if_pos c31] at H
      have c31b0 : decide (0 ≤ a0_3) = true := decide_eq_true c31
      clear c31
      obtain rfl := Option.some.inj H
      have hcz32_0 := bc0 BK255
      have hcz32_1 := bc1 BK255
      have hcz32_2 := bc2 BK255
      have hcz32_3 := bc3 BK255
      have hfz32_0 := bf_ BK255 0
      have hfz32_1 := bf_ BK255 1
      have hfz32_2 := bf_ BK255 2
      have hfz32_3 := bf_ BK255 3
      go_wp2
      go_ret
      exact ⟨by first | rfl | (simp [*, errW_none, errW_some] <;> rfl), gwl_ [gb255] HB ⟨GE255, ⟨⟩⟩⟩
    rw [if_neg c31] at H
    have c31b0 : decide (0 ≤ a0_3) = false := decide_eq_false c31
    clear c31
    obtain rfl := Option.some.inj H
    have hcz33_0 := bc0 BK255
    have hcz33_1 := bc1 BK255
    have hcz33_2 := bc2 BK255
    have hcz33_3 := bc3 BK255
    have hfz33_0 := bf_ BK255 0
    have hfz33_1 := bf_ BK255 1
    have hfz33_2 := bf_ BK255 2
    have hfz33_3 := bf_ BK255 3
    go_wp2
    go_ret
    exact ⟨by first | rfl | (simp [*, errW_none, errW_some] <;> rfl), gwl_ [gb255] HB ⟨GE255, ⟨⟩⟩⟩
  rw [if_pos c8] at H
  have c8b0 : decide (x3_2 < (l0_1.length : Int)) = true := decide_eq_true c8
  clear c8
  by_cases c9 : 0 ≤ x3_2
  rotate_left
  · rw [if_neg c9] at H
    exact absurd H (by simp)
  rw [if_pos c9] at H
  have c9b0 : decide (0 ≤ x3_2) = true := decide_eq_true c9
  clear c9
  replace H := Option.bind_eq_some_iff.mp H
  obtain ⟨t257, A100, H⟩ := H
  try dsimp only at H
  have A10 := Aside0.mk A100
  clear A100
  by_cases c11 : t257 = true
  rotate_left
  · replace c11 := Bool.eq_false_iff.mpr c11
    subst c11
    have H1 : (some false) = some r := by rw [if_neg (show ¬ (false = true) by decide)] at H; exact H
    clear H
    have H := H1
    clear H1
    obtain rfl := Option.some.inj H
    have hcz26_0 := bc0 BK255
    have hcz26_1 := bc1 BK255
    have hcz26_2 := bc2 BK255
    have hcz26_3 := bc3 BK255
    have hfz26_0 := bf_ BK255 0
    have hfz26_1 := bf_ BK255 1
    have hfz26_2 := bf_ BK255 2
    have hfz26_3 := bf_ BK255 3
    try go_wp2
    have n0_ := Aside0.mk (blk_drew BK255.out)
    have n1_ := Aside0.mk (below_drew1 HB.out)
    clear BK255
    clear HB
    have BK255 := n0_
    have HB := n1_
    clear n0_ n1_
    have p256 : 0 ≤ (x3_2 : Int) := of_decide_eq_true (by assumption)
    have q256 : x3_2 < (l0_1.length : Int) := of_decide_eq_true (by assumption)
    obtain ⟨ad256, e256, hx256_0, hx256_1, hx256_2, hx256_3, hx256_4⟩ := at_T32 HR0_1.out x3_2 p256 q256
    have hw256_4 := hx256_4
    have hw256_3 := hx256_3
    have hw256_2 := hx256_2
    have hw256_1 := hx256_1
    have hw256_0 := hx256_0
    cases e256
    replace hx256_0 := hc_ HB hx256_0
    replace hx256_1 := hc_ HB hx256_1
    replace hx256_2 := hc_ HB hx256_2
    replace hx256_3 := hc_ HB hx256_3
    replace hx256_4 := hc_ HB hx256_4
    replace p256 := eq_true p256
    replace q256 := eq_true q256
    refine start_ (n := 27) (S := fun w' => w'.cell? ⟨gb255, 0, none⟩ = some (.slice A0_0 l0_0.length c0_0) ∧ w'.cell? ⟨gb255, 1, none⟩ = some (.slice (some ad256) l0_1.length c0_1) ∧ w'.cell? ⟨gb255, 2, none⟩ = some (.int .i64 a0_2) ∧ w'.cell? ⟨gb255, 3, none⟩ = some (.int .i64 a0_3) ∧ w'.cell? (ad256.add ((x3_2).toNat * 5)) = some (.int .i64 ((rd_T32 l0_1 x3_2).f0)) ∧ w'.cell? ⟨(ad256.add ((x3_2).toNat * 5)).block, (ad256.add ((x3_2).toNat * 5)).off + 1, none⟩ = some (.int .i64 ((rd_T32 l0_1 x3_2).f1)) ∧ w'.cell? ⟨(ad256.add ((x3_2).toNat * 5)).block, (ad256.add ((x3_2).toNat * 5)).off + 2, none⟩ = some (.string ((rd_T32 l0_1 x3_2).f2)) ∧ w'.cell? ⟨(ad256.add ((x3_2).toNat * 5)).block, (ad256.add ((x3_2).toNat * 5)).off + 3, none⟩ = some (.string ((rd_T32 l0_1 x3_2).f3)) ∧ w'.cell? ⟨(ad256.add ((x3_2).toNat * 5)).block, (ad256.add ((x3_2).toNat * 5)).off + 4, none⟩ = some (.int .i64 ((rd_T32 l0_1 x3_2).f4))) (ds := []) mkM8_0 (by kernel_rfl) rfl rfl ⟨bc0 BK255, bc1 BK255, bc2 BK255, bc3 BK255, ((HB.out.cell (World.block_lt_of_cell? w _ hw256_0)).trans hw256_0), ((HB.out.cell (World.block_lt_of_cell? w _ hw256_1)).trans hw256_1), ((HB.out.cell (World.block_lt_of_cell? w _ hw256_2)).trans hw256_2), ((HB.out.cell (World.block_lt_of_cell? w _ hw256_3)).trans hw256_3), ((HB.out.cell (World.block_lt_of_cell? w _ hw256_4)).trans hw256_4)⟩ (fun hHeld => ?_); refine with_tabW ravelinref9_IsEdit.tab6 ravelinref9_IsEdit.bits6 (fun HT_ HW_ => ?_)
    generalize wr.drew = w27 at BK255 HB hx256_0 hx256_1 hx256_2 hx256_3 hx256_4 hHeld ⊢
    refine pu_ 0 (some 21) mkM8_1 HT_ ?_ rfl rfl (by kernel_rfl) (fun _ _ _ h => h) (Or.inl ⟨by rfl, ?_⟩) ?_ ?_ ?_
    rotate_left
    · intro w'
      go_simp
      with_reducible rfl
    rotate_left
    · simp only [Act.put, lists_, i64_w, i32_w]
      rfl
    refine pu_ 2 (some 23) mkM8_2 HT_ ?_ rfl rfl (by kernel_rfl) (fun _ _ _ h => h) (Or.inl ⟨by rfl, ?_⟩) ?_ ?_ ?_
    rotate_left
    · intro w'
      go_simp
      with_reducible rfl
    rotate_left
    · simp only [Act.put, lists_, i64_w, i32_w]
      rfl
    refine take_ (i := 1) (N := some 22) (v := ?_) (a' := ?_) mkM8_3 rfl rfl (take_ofW HT_.out HW_.out (by kernel_rfl)) (fun _ _ _ h => h) (Or.inl ⟨by rfl, ?_⟩) hHeld ?_ ?_
    rotate_left
    · rintro w' ⟨s0, s1, s2, s3, s4, s5, s6, s7, s8⟩
      go_simp
      with_reducible rfl
    rotate_left
    · simp only [Act.put, lists_, i64_w, i32_w]
      rfl
    refine pu_ 3 (some 24) mkM8_4 HT_ ?_ rfl rfl (by kernel_rfl) (fun _ _ _ h => h) (Or.inl ⟨by rfl, ?_⟩) ?_ ?_ ?_
    rotate_left
    · intro w'
      go_simp
      with_reducible rfl
    rotate_left
    · simp only [Act.put, lists_, i64_w, i32_w]
      rfl
    refine take_ (i := 4) (N := some 25) (v := ?_) (a' := ?_) mkM8_5 rfl rfl (take_ofW HT_.out HW_.out (by kernel_rfl)) (fun _ _ _ h => h) (Or.inl ⟨by rfl, ?_⟩) hHeld ?_ ?_
    rotate_left
    · rintro w' ⟨s0, s1, s2, s3, s4, s5, s6, s7, s8⟩
      go_simp
      with_reducible rfl
    rotate_left
    · simp only [Act.put, lists_, i64_w, i32_w]
      rfl
    refine one_ (i := 5) (N := some 26) mkM8_6 rfl rfl (one_of HT_.out (by kernel_rfl)) (by decide) (fun K hK => ?_)
    refine goes_ Try.func41 (by kernel_rfl) rfl #[.agg #[.int .i64 ((rd_T32 l0_1 x3_2).f0), .int .i64 ((rd_T32 l0_1 x3_2).f1), .string ((rd_T32 l0_1 x3_2).f2), .string ((rd_T32 l0_1 x3_2).f3), .int .i64 ((rd_T32 l0_1 x3_2).f4)]] (by rfl) rfl rfl (by (try simp only [maps_]); first | done | rfl) ?_
    with_reducible refine (ravelinref9_IsTable.calls ((rd_T32 l0_1 x3_2).f0) ((rd_T32 l0_1 x3_2).f1) ((rd_T32 l0_1 x3_2).f2) ((rd_T32 l0_1 x3_2).f3) ((rd_T32 l0_1 x3_2).f4) false _ A10.out).mono ?_
    rintro e w28 ⟨rfl, hb⟩
    refine ⟨_, rfl, ?_⟩
    have n0_ := bb_ BK255 hb
    have n1_ := bl_ [gb255] HB ⟨GE255, ⟨⟩⟩ hb
    clear BK255
    clear HB
    have BK255 := n0_
    have HB := n1_
    clear n0_ n1_
    (try clear hb)
    (try clear hb2)
    (try clear hk)
    (try clear hi)
    refine hK.out _ _ ⟨bc0 BK255, bc1 BK255, bc2 BK255, bc3 BK255, ((HB.out.cell (World.block_lt_of_cell? w _ hw256_0)).trans hw256_0), ((HB.out.cell (World.block_lt_of_cell? w _ hw256_1)).trans hw256_1), ((HB.out.cell (World.block_lt_of_cell? w _ hw256_2)).trans hw256_2), ((HB.out.cell (World.block_lt_of_cell? w _ hw256_3)).trans hw256_3), ((HB.out.cell (World.block_lt_of_cell? w _ hw256_4)).trans hw256_4)⟩ (fun hHeld => ?_)
    clear hK K
    refine norm_ (a' := ?_) ?_ ?_
    rotate_left
    · show Act.put _ (some 26) _ = _
      simp only [Act.put, lists_, i64_w, i32_w]
      rfl
    refine pu_ 6 (some 27) mkM8_7 HT_ ?_ rfl rfl (by kernel_rfl) (fun _ _ _ h => h) (Or.inl ⟨by rfl, ?_⟩) ?_ ?_ ?_
    rotate_left
    · intro w'
      go_simp
      with_reducible rfl
    rotate_left
    · simp only [Act.put, lists_, i64_w, i32_w]
      rfl
    refine pu_ 7 (some 28) mkM8_8 HT_ ?_ rfl rfl (by kernel_rfl) (fun _ _ _ h => h) (Or.inl ⟨by rfl, ?_⟩) ?_ ?_ ?_
    rotate_left
    · intro w'
      go_simp
      with_reducible rfl
    rotate_left
    · simp only [Act.put, lists_, i64_w, i32_w]
      rfl
    refine pu_ 8 (some 29) mkM8_9 HT_ undef rfl rfl (by kernel_rfl) (fun _ _ _ h => h) (Or.inr ⟨by rfl, rfl⟩) ?_ ?_ ?_
    rotate_left
    · simp only [Act.put, lists_, i64_w, i32_w]
      rfl
    refine pu_ 9 (some 30) mkM8_10 HT_ undef rfl rfl (by kernel_rfl) (fun _ _ _ h => h) (Or.inr ⟨by rfl, rfl⟩) ?_ ?_ ?_
    rotate_left
    · simp only [Act.put, lists_, i64_w, i32_w]
      rfl
    refine pu_ 10 (some 31) mkM8_11 HT_ undef rfl rfl (by kernel_rfl) (fun _ _ _ h => h) (Or.inr ⟨by rfl, rfl⟩) ?_ ?_ ?_
    rotate_left
    · simp only [Act.put, lists_, i64_w, i32_w]
      rfl
    refine pu_ 11 (some 32) mkM8_12 HT_ undef rfl rfl (by kernel_rfl) (fun _ _ _ h => h) (Or.inr ⟨by rfl, rfl⟩) ?_ ?_ ?_
    rotate_left
    · simp only [Act.put, lists_, i64_w, i32_w]
      rfl
    refine pu_ 12 (some 33) mkM8_13 HT_ undef rfl rfl (by kernel_rfl) (fun _ _ _ h => h) (Or.inr ⟨by rfl, rfl⟩) ?_ ?_ ?_
    rotate_left
    · simp only [Act.put, lists_, i64_w, i32_w]
      rfl
    refine pu_ 13 (some 34) mkM8_14 HT_ undef rfl rfl (by kernel_rfl) (fun _ _ _ h => h) (Or.inr ⟨by rfl, rfl⟩) ?_ ?_ ?_
    rotate_left
    · simp only [Act.put, lists_, i64_w, i32_w]
      rfl
    refine pu_ 14 (some 35) mkM8_15 HT_ undef rfl rfl (by kernel_rfl) (fun _ _ _ h => h) (Or.inr ⟨by rfl, rfl⟩) ?_ ?_ ?_
    rotate_left
    · simp only [Act.put, lists_, i64_w, i32_w]
      rfl
    refine pu_ 15 (some 36) mkM8_16 HT_ undef rfl rfl (by kernel_rfl) (fun _ _ _ h => h) (Or.inr ⟨by rfl, rfl⟩) ?_ ?_ ?_
    rotate_left
    · simp only [Act.put, lists_, i64_w, i32_w]
      rfl
    refine pu_ 16 (some 37) mkM8_17 HT_ undef rfl rfl (by kernel_rfl) (fun _ _ _ h => h) (Or.inr ⟨by rfl, rfl⟩) ?_ ?_ ?_
    rotate_left
    · simp only [Act.put, lists_, i64_w, i32_w]
      rfl
    refine pu_ 17 (some 38) mkM8_18 HT_ undef rfl rfl (by kernel_rfl) (fun _ _ _ h => h) (Or.inr ⟨by rfl, rfl⟩) ?_ ?_ ?_
    rotate_left
    · simp only [Act.put, lists_, i64_w, i32_w]
      rfl
    refine pu_ 18 (some 39) mkM8_19 HT_ undef rfl rfl (by kernel_rfl) (fun _ _ _ h => h) (Or.inr ⟨by rfl, rfl⟩) ?_ ?_ ?_
    rotate_left
    · simp only [Act.put, lists_, i64_w, i32_w]
      rfl
    refine pu_ 19 (some 40) mkM8_20 HT_ undef rfl rfl (by kernel_rfl) (fun _ _ _ h => h) (Or.inr ⟨by rfl, rfl⟩) ?_ ?_ ?_
    rotate_left
    · simp only [Act.put, lists_, i64_w, i32_w]
      rfl
    refine pu_ 20 (some 41) mkM8_21 HT_ undef rfl rfl (by kernel_rfl) (fun _ _ _ h => h) (Or.inr ⟨by rfl, rfl⟩) ?_ ?_ ?_
    rotate_left
    · simp only [Act.put, lists_, i64_w, i32_w]
      rfl
    refine pu_ 21 (some 42) mkM8_22 HT_ undef rfl rfl (by kernel_rfl) (fun _ _ _ h => h) (Or.inr ⟨by rfl, rfl⟩) ?_ ?_ ?_
    rotate_left
    · simp only [Act.put, lists_, i64_w, i32_w]
      rfl
    refine pu_ 22 (some 43) mkM8_23 HT_ undef rfl rfl (by kernel_rfl) (fun _ _ _ h => h) (Or.inr ⟨by rfl, rfl⟩) ?_ ?_ ?_
    rotate_left
    · simp only [Act.put, lists_, i64_w, i32_w]
      rfl
    refine pu_ 23 (some 44) mkM8_24 HT_ undef rfl rfl (by kernel_rfl) (fun _ _ _ h => h) (Or.inr ⟨by rfl, rfl⟩) ?_ ?_ ?_
    rotate_left
    · simp only [Act.put, lists_, i64_w, i32_w]
      rfl
    refine pu_ 24 (some 45) mkM8_25 HT_ undef rfl rfl (by kernel_rfl) (fun _ _ _ h => h) (Or.inr ⟨by rfl, rfl⟩) ?_ ?_ ?_
    rotate_left
    · simp only [Act.put, lists_, i64_w, i32_w]
      rfl
    refine pu_ 25 (some 46) mkM8_26 HT_ undef rfl rfl (by kernel_rfl) (fun _ _ _ h => h) (Or.inr ⟨by rfl, rfl⟩) ?_ ?_ ?_
    rotate_left
    · simp only [Act.put, lists_, i64_w, i32_w]
      rfl
    refine pu_ 26 (some 47) mkM8_27 HT_ ?_ rfl rfl (by kernel_rfl) (fun _ _ _ h => h) (Or.inl ⟨by rfl, ?_⟩) ?_ ?_ ?_
    rotate_left
    · intro w'
      go_simp
      with_reducible rfl
    rotate_left
    · simp only [Act.put, lists_, i64_w, i32_w]
      rfl
    refine done_ (done_of HT_.out (by kernel_rfl)) ?_
    try go_wp2
    go_ret
    exact ⟨by first | rfl | (simp [*, errW_none, errW_some] <;> rfl), gwl_ [gb255] HB ⟨GE255, ⟨⟩⟩⟩
  subst c11
  have H1 : (if x3_2 > 0 then (if 0 ≤ (wrap64 (x3_2 - 1)) then (if (wrap64 (x3_2 - 1)) < (l0_1.length : Int) then (if ((rd_T32 l0_1 x3_2).f0) ≤ ((rd_T32 l0_1 (wrap64 (x3_2 - 1))).f0) then (some false) else (ravelinref9_IsEdit.l0 k2 (wrap64 (x3_2 + 1)) l0_0 l0_1 a0_2 a0_3)) else (none)) else (none)) else (ravelinref9_IsEdit.l0 k2 (wrap64 (x3_2 + 1)) l0_0 l0_1 a0_2 a0_3)) = some r := by rw [if_pos rfl] at H; exact H
  clear H
  have H := H1
  clear H1
  by_cases c12 : x3_2 > 0
  rotate_left
  · rw [if_neg c12] at H
    have c12b0 : decide (0 < x3_2) = false := decide_eq_false c12
    clear c12
    have H' := Aside0.mk H
    clear H
    have hcz23_0 := bc0 BK255
    have hcz23_1 := bc1 BK255
    have hcz23_2 := bc2 BK255
    have hcz23_3 := bc3 BK255
    have hfz23_0 := bf_ BK255 0
    have hfz23_1 := bf_ BK255 1
    have hfz23_2 := bf_ BK255 2
    have hfz23_3 := bf_ BK255 3
    try go_wp2
    have n0_ := Aside0.mk (blk_drew BK255.out)
    have n1_ := Aside0.mk (below_drew1 HB.out)
    clear BK255
    clear HB
    have BK255 := n0_
    have HB := n1_
    clear n0_ n1_
    have p256 : 0 ≤ (x3_2 : Int) := of_decide_eq_true (by assumption)
    have q256 : x3_2 < (l0_1.length : Int) := of_decide_eq_true (by assumption)
    obtain ⟨ad256, e256, hx256_0, hx256_1, hx256_2, hx256_3, hx256_4⟩ := at_T32 HR0_1.out x3_2 p256 q256
    have hw256_4 := hx256_4
    have hw256_3 := hx256_3
    have hw256_2 := hx256_2
    have hw256_1 := hx256_1
    have hw256_0 := hx256_0
    cases e256
    replace hx256_0 := hc_ HB hx256_0
    replace hx256_1 := hc_ HB hx256_1
    replace hx256_2 := hc_ HB hx256_2
    replace hx256_3 := hc_ HB hx256_3
    replace hx256_4 := hc_ HB hx256_4
    replace p256 := eq_true p256
    replace q256 := eq_true q256
    refine start_ (n := 27) (S := fun w' => w'.cell? ⟨gb255, 0, none⟩ = some (.slice A0_0 l0_0.length c0_0) ∧ w'.cell? ⟨gb255, 1, none⟩ = some (.slice (some ad256) l0_1.length c0_1) ∧ w'.cell? ⟨gb255, 2, none⟩ = some (.int .i64 a0_2) ∧ w'.cell? ⟨gb255, 3, none⟩ = some (.int .i64 a0_3) ∧ w'.cell? (ad256.add ((x3_2).toNat * 5)) = some (.int .i64 ((rd_T32 l0_1 x3_2).f0)) ∧ w'.cell? ⟨(ad256.add ((x3_2).toNat * 5)).block, (ad256.add ((x3_2).toNat * 5)).off + 1, none⟩ = some (.int .i64 ((rd_T32 l0_1 x3_2).f1)) ∧ w'.cell? ⟨(ad256.add ((x3_2).toNat * 5)).block, (ad256.add ((x3_2).toNat * 5)).off + 2, none⟩ = some (.string ((rd_T32 l0_1 x3_2).f2)) ∧ w'.cell? ⟨(ad256.add ((x3_2).toNat * 5)).block, (ad256.add ((x3_2).toNat * 5)).off + 3, none⟩ = some (.string ((rd_T32 l0_1 x3_2).f3)) ∧ w'.cell? ⟨(ad256.add ((x3_2).toNat * 5)).block, (ad256.add ((x3_2).toNat * 5)).off + 4, none⟩ = some (.int .i64 ((rd_T32 l0_1 x3_2).f4))) (ds := []) mkM8_0 (by kernel_rfl) rfl rfl ⟨bc0 BK255, bc1 BK255, bc2 BK255, bc3 BK255, ((HB.out.cell (World.block_lt_of_cell? w _ hw256_0)).trans hw256_0), ((HB.out.cell (World.block_lt_of_cell? w _ hw256_1)).trans hw256_1), ((HB.out.cell (World.block_lt_of_cell? w _ hw256_2)).trans hw256_2), ((HB.out.cell (World.block_lt_of_cell? w _ hw256_3)).trans hw256_3), ((HB.out.cell (World.block_lt_of_cell? w _ hw256_4)).trans hw256_4)⟩ (fun hHeld => ?_); refine with_tabW ravelinref9_IsEdit.tab6 ravelinref9_IsEdit.bits6 (fun HT_ HW_ => ?_)
    generalize wr.drew = w24 at BK255 HB hx256_0 hx256_1 hx256_2 hx256_3 hx256_4 hHeld ⊢
    refine pu_ 0 (some 21) mkM8_1 HT_ ?_ rfl rfl (by kernel_rfl) (fun _ _ _ h => h) (Or.inl ⟨by rfl, ?_⟩) ?_ ?_ ?_
    rotate_left
    · intro w'
      go_simp
      with_reducible rfl
    rotate_left
    · simp only [Act.put, lists_, i64_w, i32_w]
      rfl
    refine pu_ 2 (some 23) mkM8_2 HT_ ?_ rfl rfl (by kernel_rfl) (fun _ _ _ h => h) (Or.inl ⟨by rfl, ?_⟩) ?_ ?_ ?_
    rotate_left
    · intro w'
      go_simp
      with_reducible rfl
    rotate_left
    · simp only [Act.put, lists_, i64_w, i32_w]
      rfl
    refine take_ (i := 1) (N := some 22) (v := ?_) (a' := ?_) mkM8_3 rfl rfl (take_ofW HT_.out HW_.out (by kernel_rfl)) (fun _ _ _ h => h) (Or.inl ⟨by rfl, ?_⟩) hHeld ?_ ?_
    rotate_left
    · rintro w' ⟨s0, s1, s2, s3, s4, s5, s6, s7, s8⟩
      go_simp
      with_reducible rfl
    rotate_left
    · simp only [Act.put, lists_, i64_w, i32_w]
      rfl
    refine pu_ 3 (some 24) mkM8_4 HT_ ?_ rfl rfl (by kernel_rfl) (fun _ _ _ h => h) (Or.inl ⟨by rfl, ?_⟩) ?_ ?_ ?_
    rotate_left
    · intro w'
      go_simp
      with_reducible rfl
    rotate_left
    · simp only [Act.put, lists_, i64_w, i32_w]
      rfl
    refine take_ (i := 4) (N := some 25) (v := ?_) (a' := ?_) mkM8_5 rfl rfl (take_ofW HT_.out HW_.out (by kernel_rfl)) (fun _ _ _ h => h) (Or.inl ⟨by rfl, ?_⟩) hHeld ?_ ?_
    rotate_left
    · rintro w' ⟨s0, s1, s2, s3, s4, s5, s6, s7, s8⟩
      go_simp
      with_reducible rfl
    rotate_left
    · simp only [Act.put, lists_, i64_w, i32_w]
      rfl
    refine one_ (i := 5) (N := some 26) mkM8_6 rfl rfl (one_of HT_.out (by kernel_rfl)) (by decide) (fun K hK => ?_)
    refine goes_ Try.func41 (by kernel_rfl) rfl #[.agg #[.int .i64 ((rd_T32 l0_1 x3_2).f0), .int .i64 ((rd_T32 l0_1 x3_2).f1), .string ((rd_T32 l0_1 x3_2).f2), .string ((rd_T32 l0_1 x3_2).f3), .int .i64 ((rd_T32 l0_1 x3_2).f4)]] (by rfl) rfl rfl (by (try simp only [maps_]); first | done | rfl) ?_
    with_reducible refine (ravelinref9_IsTable.calls ((rd_T32 l0_1 x3_2).f0) ((rd_T32 l0_1 x3_2).f1) ((rd_T32 l0_1 x3_2).f2) ((rd_T32 l0_1 x3_2).f3) ((rd_T32 l0_1 x3_2).f4) true _ A10.out).mono ?_
    rintro e w25 ⟨rfl, hb⟩
    refine ⟨_, rfl, ?_⟩
    have n0_ := bb_ BK255 hb
    have n1_ := bl_ [gb255] HB ⟨GE255, ⟨⟩⟩ hb
    clear BK255
    clear HB
    have BK255 := n0_
    have HB := n1_
    clear n0_ n1_
    (try clear hb)
    (try clear hb2)
    (try clear hk)
    (try clear hi)
    refine hK.out _ _ ⟨bc0 BK255, bc1 BK255, bc2 BK255, bc3 BK255, ((HB.out.cell (World.block_lt_of_cell? w _ hw256_0)).trans hw256_0), ((HB.out.cell (World.block_lt_of_cell? w _ hw256_1)).trans hw256_1), ((HB.out.cell (World.block_lt_of_cell? w _ hw256_2)).trans hw256_2), ((HB.out.cell (World.block_lt_of_cell? w _ hw256_3)).trans hw256_3), ((HB.out.cell (World.block_lt_of_cell? w _ hw256_4)).trans hw256_4)⟩ (fun hHeld => ?_)
    clear hK K
    refine norm_ (a' := ?_) ?_ ?_
    rotate_left
    · show Act.put _ (some 26) _ = _
      simp only [Act.put, lists_, i64_w, i32_w]
      rfl
    refine pu_ 6 (some 27) mkM8_7 HT_ ?_ rfl rfl (by kernel_rfl) (fun _ _ _ h => h) (Or.inl ⟨by rfl, ?_⟩) ?_ ?_ ?_
    rotate_left
    · intro w'
      go_simp
      with_reducible rfl
    rotate_left
    · simp only [Act.put, lists_, i64_w, i32_w]
      rfl
    refine pu_ 7 (some 28) mkM8_8 HT_ ?_ rfl rfl (by kernel_rfl) (fun _ _ _ h => h) (Or.inl ⟨by rfl, ?_⟩) ?_ ?_ ?_
    rotate_left
    · intro w'
      go_simp
      with_reducible rfl
    rotate_left
    · simp only [Act.put, lists_, i64_w, i32_w]
      rfl
    refine pu_ 8 (some 29) mkM8_9 HT_ ?_ rfl rfl (by kernel_rfl) (fun _ _ _ h => h) (Or.inl ⟨by rfl, ?_⟩) ?_ ?_ ?_
    rotate_left
    · intro w'
      go_simp
      with_reducible rfl
    rotate_left
    · simp only [Act.put, lists_, i64_w, i32_w]
      rfl
    refine pu_ 9 (some 30) mkM8_10 HT_ ?_ rfl rfl (by kernel_rfl) (fun _ _ _ h => h) (Or.inl ⟨by rfl, ?_⟩) ?_ ?_ ?_
    rotate_left
    · intro w'
      go_simp
      with_reducible rfl
    rotate_left
    · simp only [Act.put, lists_, i64_w, i32_w]
      rfl
    refine pu_ 10 (some 31) mkM8_11 HT_ ?_ rfl rfl (by kernel_rfl) (fun _ _ _ h => h) (Or.inl ⟨by rfl, ?_⟩) ?_ ?_ ?_
    rotate_left
    · intro w'
      go_simp
      with_reducible rfl
    rotate_left
    · simp only [Act.put, lists_, i64_w, i32_w]
      rfl
    refine pu_ 11 (some 32) mkM8_12 HT_ undef rfl rfl (by kernel_rfl) (fun _ _ _ h => h) (Or.inr ⟨by rfl, rfl⟩) ?_ ?_ ?_
    rotate_left
    · simp only [Act.put, lists_, i64_w, i32_w]
      rfl
    refine pu_ 12 (some 33) mkM8_13 HT_ undef rfl rfl (by kernel_rfl) (fun _ _ _ h => h) (Or.inr ⟨by rfl, rfl⟩) ?_ ?_ ?_
    rotate_left
    · simp only [Act.put, lists_, i64_w, i32_w]
      rfl
    refine pu_ 13 (some 34) mkM8_14 HT_ undef rfl rfl (by kernel_rfl) (fun _ _ _ h => h) (Or.inr ⟨by rfl, rfl⟩) ?_ ?_ ?_
    rotate_left
    · simp only [Act.put, lists_, i64_w, i32_w]
      rfl
    refine pu_ 14 (some 35) mkM8_15 HT_ undef rfl rfl (by kernel_rfl) (fun _ _ _ h => h) (Or.inr ⟨by rfl, rfl⟩) ?_ ?_ ?_
    rotate_left
    · simp only [Act.put, lists_, i64_w, i32_w]
      rfl
    refine pu_ 15 (some 36) mkM8_16 HT_ undef rfl rfl (by kernel_rfl) (fun _ _ _ h => h) (Or.inr ⟨by rfl, rfl⟩) ?_ ?_ ?_
    rotate_left
    · simp only [Act.put, lists_, i64_w, i32_w]
      rfl
    refine pu_ 16 (some 37) mkM8_17 HT_ undef rfl rfl (by kernel_rfl) (fun _ _ _ h => h) (Or.inr ⟨by rfl, rfl⟩) ?_ ?_ ?_
    rotate_left
    · simp only [Act.put, lists_, i64_w, i32_w]
      rfl
    refine pu_ 17 (some 38) mkM8_18 HT_ undef rfl rfl (by kernel_rfl) (fun _ _ _ h => h) (Or.inr ⟨by rfl, rfl⟩) ?_ ?_ ?_
    rotate_left
    · simp only [Act.put, lists_, i64_w, i32_w]
      rfl
    refine pu_ 18 (some 39) mkM8_19 HT_ undef rfl rfl (by kernel_rfl) (fun _ _ _ h => h) (Or.inr ⟨by rfl, rfl⟩) ?_ ?_ ?_
    rotate_left
    · simp only [Act.put, lists_, i64_w, i32_w]
      rfl
    refine pu_ 19 (some 40) mkM8_20 HT_ undef rfl rfl (by kernel_rfl) (fun _ _ _ h => h) (Or.inr ⟨by rfl, rfl⟩) ?_ ?_ ?_
    rotate_left
    · simp only [Act.put, lists_, i64_w, i32_w]
      rfl
    refine pu_ 20 (some 41) mkM8_21 HT_ undef rfl rfl (by kernel_rfl) (fun _ _ _ h => h) (Or.inr ⟨by rfl, rfl⟩) ?_ ?_ ?_
    rotate_left
    · simp only [Act.put, lists_, i64_w, i32_w]
      rfl
    refine pu_ 21 (some 42) mkM8_22 HT_ undef rfl rfl (by kernel_rfl) (fun _ _ _ h => h) (Or.inr ⟨by rfl, rfl⟩) ?_ ?_ ?_
    rotate_left
    · simp only [Act.put, lists_, i64_w, i32_w]
      rfl
    refine pu_ 22 (some 43) mkM8_23 HT_ undef rfl rfl (by kernel_rfl) (fun _ _ _ h => h) (Or.inr ⟨by rfl, rfl⟩) ?_ ?_ ?_
    rotate_left
    · simp only [Act.put, lists_, i64_w, i32_w]
      rfl
    refine pu_ 23 (some 44) mkM8_24 HT_ undef rfl rfl (by kernel_rfl) (fun _ _ _ h => h) (Or.inr ⟨by rfl, rfl⟩) ?_ ?_ ?_
    rotate_left
    · simp only [Act.put, lists_, i64_w, i32_w]
      rfl
    refine pu_ 24 (some 45) mkM8_25 HT_ undef rfl rfl (by kernel_rfl) (fun _ _ _ h => h) (Or.inr ⟨by rfl, rfl⟩) ?_ ?_ ?_
    rotate_left
    · simp only [Act.put, lists_, i64_w, i32_w]
      rfl
    refine pu_ 25 (some 46) mkM8_26 HT_ ?_ rfl rfl (by kernel_rfl) (fun _ _ _ h => h) (Or.inl ⟨by rfl, ?_⟩) ?_ ?_ ?_
    rotate_left
    · intro w'
      go_simp
      with_reducible rfl
    rotate_left
    · simp only [Act.put, lists_, i64_w, i32_w]
      rfl
    refine pu_ 26 (some 47) mkM8_27 HT_ ?_ rfl rfl (by kernel_rfl) (fun _ _ _ h => h) (Or.inl ⟨by rfl, ?_⟩) ?_ ?_ ?_
    rotate_left
    · intro w'
      go_simp
      with_reducible rfl
    rotate_left
    · simp only [Act.put, lists_, i64_w, i32_w]
      rfl
    refine done_ (done_of HT_.out (by kernel_rfl)) ?_
    try go_wp2
    go_roundg k2
    case measure => have := HJ1.out; have := HK2.out; omega
    case rel => exact ⟨(wrap64 (x3_2 + 1)), (by first | rfl | (simp; done) | (simp [*]; done)), H', ⟨by have := HJ1.out; have := HK2.out; omega⟩, ⟨gb_ BK255⟩, ⟨gwl_ [gb255] HB ⟨GE255, ⟨⟩⟩⟩⟩
  rw [if_pos c12] at H
  have c12b0 : decide (0 < x3_2) = true := decide_eq_true c12
  clear c12
  obtain ⟨ji13, hji13⟩ : ∃ j_ : Int, (wrap64 (x3_2 - 1)) = j_ := ⟨_, rfl⟩
  replace H : (if 0 ≤ (ji13) then (if (ji13) < (l0_1.length : Int) then (if ((rd_T32 l0_1 x3_2).f0) ≤ ((rd_T32 l0_1 (ji13)).f0) then (some false) else (ravelinref9_IsEdit.l0 k2 (wrap64 (x3_2 + 1)) l0_0 l0_1 a0_2 a0_3)) else (none)) else (none)) = some r := by first | (rw [hji13] at H; exact H) | (simp only [hji13] at H ⊢; exact H)
  (try rw [hji13] at A10)
  have hji13w : (IntKind.i64.wrap (x3_2 - 1)) = ji13 := (i64_w _).trans hji13
  by_cases c14 : 0 ≤ (ji13)
  rotate_left
  · rw [if_neg c14] at H
    exact absurd H (by simp)
  rw [if_pos c14] at H
  have c14b0 : decide (0 ≤ (ji13)) = true := decide_eq_true c14
  clear c14
  by_cases c15 : (ji13) < (l0_1.length : Int)
  rotate_left
  · rw [if_neg c15] at H
    exact absurd H (by simp)
  rw [if_pos c15] at H
  have c15b0 : decide ((ji13) < (l0_1.length : Int)) = true := decide_eq_true c15
  clear c15
  by_cases c16 : ((rd_T32 l0_1 x3_2).f0) ≤ ((rd_T32 l0_1 (ji13)).f0)
  · rw [if_pos c16] at H
    have c16b0 : decide (((rd_T32 l0_1 x3_2).f0) ≤ ((rd_T32 l0_1 (ji13)).f0)) = true := decide_eq_true c16
    clear c16
    obtain rfl := Option.some.inj H
    have hcz17_0 := bc0 BK255
    have hcz17_1 := bc1 BK255
    have hcz17_2 := bc2 BK255
    have hcz17_3 := bc3 BK255
    have hfz17_0 := bf_ BK255 0
    have hfz17_1 := bf_ BK255 1
    have hfz17_2 := bf_ BK255 2
    have hfz17_3 := bf_ BK255 3
    try go_wp2
    have n0_ := Aside0.mk (blk_drew BK255.out)
    have n1_ := Aside0.mk (below_drew1 HB.out)
    clear BK255
    clear HB
    have BK255 := n0_
    have HB := n1_
    clear n0_ n1_
    have p256 : 0 ≤ (x3_2 : Int) := of_decide_eq_true (by assumption)
    have q256 : x3_2 < (l0_1.length : Int) := of_decide_eq_true (by assumption)
    obtain ⟨ad256, e256, hx256_0, hx256_1, hx256_2, hx256_3, hx256_4⟩ := at_T32 HR0_1.out x3_2 p256 q256
    have hw256_4 := hx256_4
    have hw256_3 := hx256_3
    have hw256_2 := hx256_2
    have hw256_1 := hx256_1
    have hw256_0 := hx256_0
    cases e256
    replace hx256_0 := hc_ HB hx256_0
    replace hx256_1 := hc_ HB hx256_1
    replace hx256_2 := hc_ HB hx256_2
    replace hx256_3 := hc_ HB hx256_3
    replace hx256_4 := hc_ HB hx256_4
    replace p256 := eq_true p256
    replace q256 := eq_true q256
    have p258 : 0 ≤ (x3_2 : Int) := of_decide_eq_true (by assumption)
    have q258 : x3_2 < (l0_1.length : Int) := of_decide_eq_true (by assumption)
    obtain ⟨ad258, e258, hx258_0, hx258_1, hx258_2, hx258_3, hx258_4⟩ := at_T32 HR0_1.out x3_2 p258 q258
    have hw258_4 := hx258_4
    have hw258_3 := hx258_3
    have hw258_2 := hx258_2
    have hw258_1 := hx258_1
    have hw258_0 := hx258_0
    obtain rfl : ad256 = ad258 := (by injection e258)
    replace hx258_0 := hc_ HB hx258_0
    replace hx258_1 := hc_ HB hx258_1
    replace hx258_2 := hc_ HB hx258_2
    replace hx258_3 := hc_ HB hx258_3
    replace hx258_4 := hc_ HB hx258_4
    replace p258 := eq_true p258
    replace q258 := eq_true q258
    have p259 : 0 ≤ ((ji13) : Int) := of_decide_eq_true (by assumption)
    have q259 : (ji13) < (l0_1.length : Int) := of_decide_eq_true (by assumption)
    obtain ⟨ad259, e259, hx259_0, hx259_1, hx259_2, hx259_3, hx259_4⟩ := at_T32 HR0_1.out (ji13) p259 q259
    have hw259_4 := hx259_4
    have hw259_3 := hx259_3
    have hw259_2 := hx259_2
    have hw259_1 := hx259_1
    have hw259_0 := hx259_0
    obtain rfl : ad256 = ad259 := (by injection e259)
    replace hx259_0 := hc_ HB hx259_0
    replace hx259_1 := hc_ HB hx259_1
    replace hx259_2 := hc_ HB hx259_2
    replace hx259_3 := hc_ HB hx259_3
    replace hx259_4 := hc_ HB hx259_4
    replace p259 := eq_true p259
    replace q259 := eq_true q259
    refine start_ (n := 27) (S := fun w' => w'.cell? ⟨gb255, 0, none⟩ = some (.slice A0_0 l0_0.length c0_0) ∧ w'.cell? ⟨gb255, 1, none⟩ = some (.slice (some ad256) l0_1.length c0_1) ∧ w'.cell? ⟨gb255, 2, none⟩ = some (.int .i64 a0_2) ∧ w'.cell? ⟨gb255, 3, none⟩ = some (.int .i64 a0_3) ∧ w'.cell? (ad256.add ((x3_2).toNat * 5)) = some (.int .i64 ((rd_T32 l0_1 x3_2).f0)) ∧ w'.cell? ⟨(ad256.add ((x3_2).toNat * 5)).block, (ad256.add ((x3_2).toNat * 5)).off + 1, none⟩ = some (.int .i64 ((rd_T32 l0_1 x3_2).f1)) ∧ w'.cell? ⟨(ad256.add ((x3_2).toNat * 5)).block, (ad256.add ((x3_2).toNat * 5)).off + 2, none⟩ = some (.string ((rd_T32 l0_1 x3_2).f2)) ∧ w'.cell? ⟨(ad256.add ((x3_2).toNat * 5)).block, (ad256.add ((x3_2).toNat * 5)).off + 3, none⟩ = some (.string ((rd_T32 l0_1 x3_2).f3)) ∧ w'.cell? ⟨(ad256.add ((x3_2).toNat * 5)).block, (ad256.add ((x3_2).toNat * 5)).off + 4, none⟩ = some (.int .i64 ((rd_T32 l0_1 x3_2).f4)) ∧ w'.cell? (ad256.add ((x3_2).toNat * 5)) = some (.int .i64 ((rd_T32 l0_1 x3_2).f0)) ∧ w'.cell? ⟨(ad256.add ((x3_2).toNat * 5)).block, (ad256.add ((x3_2).toNat * 5)).off + 1, none⟩ = some (.int .i64 ((rd_T32 l0_1 x3_2).f1)) ∧ w'.cell? ⟨(ad256.add ((x3_2).toNat * 5)).block, (ad256.add ((x3_2).toNat * 5)).off + 2, none⟩ = some (.string ((rd_T32 l0_1 x3_2).f2)) ∧ w'.cell? ⟨(ad256.add ((x3_2).toNat * 5)).block, (ad256.add ((x3_2).toNat * 5)).off + 3, none⟩ = some (.string ((rd_T32 l0_1 x3_2).f3)) ∧ w'.cell? ⟨(ad256.add ((x3_2).toNat * 5)).block, (ad256.add ((x3_2).toNat * 5)).off + 4, none⟩ = some (.int .i64 ((rd_T32 l0_1 x3_2).f4)) ∧ w'.cell? (ad256.add (((ji13)).toNat * 5)) = some (.int .i64 ((rd_T32 l0_1 (ji13)).f0)) ∧ w'.cell? ⟨(ad256.add (((ji13)).toNat * 5)).block, (ad256.add (((ji13)).toNat * 5)).off + 1, none⟩ = some (.int .i64 ((rd_T32 l0_1 (ji13)).f1)) ∧ w'.cell? ⟨(ad256.add (((ji13)).toNat * 5)).block, (ad256.add (((ji13)).toNat * 5)).off + 2, none⟩ = some (.string ((rd_T32 l0_1 (ji13)).f2)) ∧ w'.cell? ⟨(ad256.add (((ji13)).toNat * 5)).block, (ad256.add (((ji13)).toNat * 5)).off + 3, none⟩ = some (.string ((rd_T32 l0_1 (ji13)).f3)) ∧ w'.cell? ⟨(ad256.add (((ji13)).toNat * 5)).block, (ad256.add (((ji13)).toNat * 5)).off + 4, none⟩ = some (.int .i64 ((rd_T32 l0_1 (ji13)).f4))) (ds := []) mkM8_0 (by kernel_rfl) rfl rfl ⟨bc0 BK255, bc1 BK255, bc2 BK255, bc3 BK255, ((HB.out.cell (World.block_lt_of_cell? w _ hw256_0)).trans hw256_0), ((HB.out.cell (World.block_lt_of_cell? w _ hw256_1)).trans hw256_1), ((HB.out.cell (World.block_lt_of_cell? w _ hw256_2)).trans hw256_2), ((HB.out.cell (World.block_lt_of_cell? w _ hw256_3)).trans hw256_3), ((HB.out.cell (World.block_lt_of_cell? w _ hw256_4)).trans hw256_4), ((HB.out.cell (World.block_lt_of_cell? w _ hw258_0)).trans hw258_0), ((HB.out.cell (World.block_lt_of_cell? w _ hw258_1)).trans hw258_1), ((HB.out.cell (World.block_lt_of_cell? w _ hw258_2)).trans hw258_2), ((HB.out.cell (World.block_lt_of_cell? w _ hw258_3)).trans hw258_3), ((HB.out.cell (World.block_lt_of_cell? w _ hw258_4)).trans hw258_4), ((HB.out.cell (World.block_lt_of_cell? w _ hw259_0)).trans hw259_0), ((HB.out.cell (World.block_lt_of_cell? w _ hw259_1)).trans hw259_1), ((HB.out.cell (World.block_lt_of_cell? w _ hw259_2)).trans hw259_2), ((HB.out.cell (World.block_lt_of_cell? w _ hw259_3)).trans hw259_3), ((HB.out.cell (World.block_lt_of_cell? w _ hw259_4)).trans hw259_4)⟩ (fun hHeld => ?_); refine with_tabW ravelinref9_IsEdit.tab6 ravelinref9_IsEdit.bits6 (fun HT_ HW_ => ?_)
    generalize wr.drew = w18 at BK255 HB hx256_0 hx256_1 hx256_2 hx256_3 hx256_4 hx258_0 hx258_1 hx258_2 hx258_3 hx258_4 hx259_0 hx259_1 hx259_2 hx259_3 hx259_4 hHeld ⊢
    refine pu_ 0 (some 21) mkM8_1 HT_ ?_ rfl rfl (by kernel_rfl) (fun _ _ _ h => h) (Or.inl ⟨by rfl, ?_⟩) ?_ ?_ ?_
    rotate_left
    · intro w'
      go_simp
      with_reducible rfl
    rotate_left
    · simp only [Act.put, lists_, i64_w, i32_w]
      rfl
    refine pu_ 2 (some 23) mkM8_2 HT_ ?_ rfl rfl (by kernel_rfl) (fun _ _ _ h => h) (Or.inl ⟨by rfl, ?_⟩) ?_ ?_ ?_
    rotate_left
    · intro w'
      go_simp
      with_reducible rfl
    rotate_left
    · simp only [Act.put, lists_, i64_w, i32_w]
      rfl
    refine take_ (i := 1) (N := some 22) (v := ?_) (a' := ?_) mkM8_3 rfl rfl (take_ofW HT_.out HW_.out (by kernel_rfl)) (fun _ _ _ h => h) (Or.inl ⟨by rfl, ?_⟩) hHeld ?_ ?_
    rotate_left
    · rintro w' ⟨s0, s1, s2, s3, s4, s5, s6, s7, s8, s9, s10, s11, s12, s13, s14, s15, s16, s17, s18⟩
      go_simp
      with_reducible rfl
    rotate_left
    · simp only [Act.put, lists_, i64_w, i32_w]
      rfl
    refine pu_ 3 (some 24) mkM8_4 HT_ ?_ rfl rfl (by kernel_rfl) (fun _ _ _ h => h) (Or.inl ⟨by rfl, ?_⟩) ?_ ?_ ?_
    rotate_left
    · intro w'
      go_simp
      with_reducible rfl
    rotate_left
    · simp only [Act.put, lists_, i64_w, i32_w]
      rfl
    refine take_ (i := 4) (N := some 25) (v := ?_) (a' := ?_) mkM8_5 rfl rfl (take_ofW HT_.out HW_.out (by kernel_rfl)) (fun _ _ _ h => h) (Or.inl ⟨by rfl, ?_⟩) hHeld ?_ ?_
    rotate_left
    · rintro w' ⟨s0, s1, s2, s3, s4, s5, s6, s7, s8, s9, s10, s11, s12, s13, s14, s15, s16, s17, s18⟩
      go_simp
      with_reducible rfl
    rotate_left
    · simp only [Act.put, lists_, i64_w, i32_w]
      rfl
    refine one_ (i := 5) (N := some 26) mkM8_6 rfl rfl (one_of HT_.out (by kernel_rfl)) (by decide) (fun K hK => ?_)
    refine goes_ Try.func41 (by kernel_rfl) rfl #[.agg #[.int .i64 ((rd_T32 l0_1 x3_2).f0), .int .i64 ((rd_T32 l0_1 x3_2).f1), .string ((rd_T32 l0_1 x3_2).f2), .string ((rd_T32 l0_1 x3_2).f3), .int .i64 ((rd_T32 l0_1 x3_2).f4)]] (by rfl) rfl rfl (by (try simp only [maps_]); first | done | rfl) ?_
    with_reducible refine (ravelinref9_IsTable.calls ((rd_T32 l0_1 x3_2).f0) ((rd_T32 l0_1 x3_2).f1) ((rd_T32 l0_1 x3_2).f2) ((rd_T32 l0_1 x3_2).f3) ((rd_T32 l0_1 x3_2).f4) true _ A10.out).mono ?_
    rintro e w19 ⟨rfl, hb⟩
    refine ⟨_, rfl, ?_⟩
    have n0_ := bb_ BK255 hb
    have n1_ := bl_ [gb255] HB ⟨GE255, ⟨⟩⟩ hb
    clear BK255
    clear HB
    have BK255 := n0_
    have HB := n1_
    clear n0_ n1_
    (try clear hb)
    (try clear hb2)
    (try clear hk)
    (try clear hi)
    refine hK.out _ _ ⟨bc0 BK255, bc1 BK255, bc2 BK255, bc3 BK255, ((HB.out.cell (World.block_lt_of_cell? w _ hw256_0)).trans hw256_0), ((HB.out.cell (World.block_lt_of_cell? w _ hw256_1)).trans hw256_1), ((HB.out.cell (World.block_lt_of_cell? w _ hw256_2)).trans hw256_2), ((HB.out.cell (World.block_lt_of_cell? w _ hw256_3)).trans hw256_3), ((HB.out.cell (World.block_lt_of_cell? w _ hw256_4)).trans hw256_4), ((HB.out.cell (World.block_lt_of_cell? w _ hw258_0)).trans hw258_0), ((HB.out.cell (World.block_lt_of_cell? w _ hw258_1)).trans hw258_1), ((HB.out.cell (World.block_lt_of_cell? w _ hw258_2)).trans hw258_2), ((HB.out.cell (World.block_lt_of_cell? w _ hw258_3)).trans hw258_3), ((HB.out.cell (World.block_lt_of_cell? w _ hw258_4)).trans hw258_4), ((HB.out.cell (World.block_lt_of_cell? w _ hw259_0)).trans hw259_0), ((HB.out.cell (World.block_lt_of_cell? w _ hw259_1)).trans hw259_1), ((HB.out.cell (World.block_lt_of_cell? w _ hw259_2)).trans hw259_2), ((HB.out.cell (World.block_lt_of_cell? w _ hw259_3)).trans hw259_3), ((HB.out.cell (World.block_lt_of_cell? w _ hw259_4)).trans hw259_4)⟩ (fun hHeld => ?_)
    clear hK K
    refine norm_ (a' := ?_) ?_ ?_
    rotate_left
    · show Act.put _ (some 26) _ = _
      simp only [Act.put, lists_, i64_w, i32_w]
      rfl
    refine pu_ 6 (some 27) mkM8_7 HT_ ?_ rfl rfl (by kernel_rfl) (fun _ _ _ h => h) (Or.inl ⟨by rfl, ?_⟩) ?_ ?_ ?_
    rotate_left
    · intro w'
      go_simp
      with_reducible rfl
    rotate_left
    · simp only [Act.put, lists_, i64_w, i32_w]
      rfl
    refine pu_ 7 (some 28) mkM8_8 HT_ ?_ rfl rfl (by kernel_rfl) (fun _ _ _ h => h) (Or.inl ⟨by rfl, ?_⟩) ?_ ?_ ?_
    rotate_left
    · intro w'
      go_simp
      with_reducible rfl
    rotate_left
    · simp only [Act.put, lists_, i64_w, i32_w]
      rfl
    refine pu_ 8 (some 29) mkM8_9 HT_ ?_ rfl rfl (by kernel_rfl) (fun _ _ _ h => h) (Or.inl ⟨by rfl, ?_⟩) ?_ ?_ ?_
    rotate_left
    · intro w'
      go_simp
      with_reducible rfl
    rotate_left
    · simp only [Act.put, lists_, i64_w, i32_w]
      rfl
    refine pu_ 9 (some 30) mkM8_10 HT_ ?_ rfl rfl (by kernel_rfl) (fun _ _ _ h => h) (Or.inl ⟨by rfl, ?_⟩) ?_ ?_ ?_
    rotate_left
    · intro w'
      go_simp
      with_reducible rfl
    rotate_left
    · simp only [Act.put, lists_, i64_w, i32_w]
      rfl
    refine pu_ 10 (some 31) mkM8_11 HT_ ?_ rfl rfl (by kernel_rfl) (fun _ _ _ h => h) (Or.inl ⟨by rfl, ?_⟩) ?_ ?_ ?_
    rotate_left
    · intro w'
      go_simp
      with_reducible rfl
    rotate_left
    · simp only [Act.put, lists_, i64_w, i32_w]
      rfl
    refine pu_ 11 (some 32) mkM8_12 HT_ ?_ rfl rfl (by kernel_rfl) (fun _ _ _ h => h) (Or.inl ⟨by rfl, ?_⟩) ?_ ?_ ?_
    rotate_left
    · intro w'
      go_simp
      with_reducible rfl
    rotate_left
    · simp only [Act.put, lists_, i64_w, i32_w]
      rfl
    refine pu_ 13 (some 34) mkM8_28 HT_ ?_ rfl rfl (by kernel_rfl) (fun _ _ _ h => h) (Or.inl ⟨by rfl, ?_⟩) ?_ ?_ ?_
    rotate_left
    · intro w'
      go_simp
      with_reducible rfl
    rotate_left
    · simp only [Act.put, lists_, i64_w, i32_w]
      rfl
    refine pu_ 17 (some 38) mkM8_29 HT_ ?_ rfl rfl (by kernel_rfl) (fun _ _ _ h => h) (Or.inl ⟨by rfl, ?_⟩) ?_ ?_ ?_
    rotate_left
    · intro w'
      go_simp
      with_reducible rfl
    rotate_left
    · simp only [Act.put, lists_, i64_w, i32_w]
      rfl
    refine pu_ 19 (some 40) mkM8_30 HT_ ?_ rfl rfl (by kernel_rfl) (fun _ _ _ h => h) (Or.inl ⟨by rfl, ?_⟩) ?_ ?_ ?_
    rotate_left
    · intro w'
      go_simp
      with_reducible rfl
    rotate_left
    · simp only [Act.put, lists_, i64_w, i32_w]
      rfl
    refine pu_ 20 (some 41) mkM8_31 HT_ ?_ rfl rfl (by kernel_rfl) (fun _ _ _ h => h) (Or.inl ⟨by rfl, ?_⟩) ?_ ?_ ?_
    rotate_left
    · intro w'
      go_simp
      with_reducible rfl
    rotate_left
    · simp only [Act.put, lists_, i64_w, i32_w]
      rfl
    refine take_ (i := 12) (N := some 33) (v := ?_) (a' := ?_) mkM8_32 rfl rfl (take_ofW HT_.out HW_.out (by kernel_rfl)) (fun _ _ _ h => h) (Or.inl ⟨by rfl, ?_⟩) hHeld ?_ ?_
    rotate_left
    · rintro w' ⟨s0, s1, s2, s3, s4, s5, s6, s7, s8, s9, s10, s11, s12, s13, s14, s15, s16, s17, s18⟩
      go_simp
      with_reducible rfl
    rotate_left
    · simp only [Act.put, lists_, i64_w, i32_w]
      rfl
    refine pu_ 14 (some 35) mkM8_33 HT_ ?_ rfl rfl (by kernel_rfl) (fun _ _ _ h => h) (Or.inl ⟨by rfl, ?_⟩) ?_ ?_ ?_
    rotate_left
    · intro w'
      go_simp
      with_reducible rfl
    rotate_left
    · simp only [Act.put, lists_, i64_w, i32_w]
      rfl
    refine pu_ 15 (some 36) mkM8_34 HT_ ?_ rfl rfl (by kernel_rfl) (fun _ _ _ h => h) (Or.inl ⟨by rfl, ?_⟩) ?_ ?_ ?_
    rotate_left
    · intro w'
      go_simp
      with_reducible rfl
    rotate_left
    · simp only [Act.put, lists_, i64_w, i32_w]
      rfl
    refine take_ (i := 16) (N := some 37) (v := ?_) (a' := ?_) mkM8_35 rfl rfl (take_ofW HT_.out HW_.out (by kernel_rfl)) (fun _ _ _ h => h) (Or.inl ⟨by rfl, ?_⟩) hHeld ?_ ?_
    rotate_left
    · rintro w' ⟨s0, s1, s2, s3, s4, s5, s6, s7, s8, s9, s10, s11, s12, s13, s14, s15, s16, s17, s18⟩
      go_simp
      with_reducible rfl
    rotate_left
    · simp only [Act.put, lists_, i64_w, i32_w]
      rfl
    refine take_ (i := 18) (N := some 39) (v := ?_) (a' := ?_) mkM8_21 rfl rfl (take_ofW HT_.out HW_.out (by kernel_rfl)) (fun _ _ _ h => h) (Or.inl ⟨by rfl, ?_⟩) hHeld ?_ ?_
    rotate_left
    · rintro w' ⟨s0, s1, s2, s3, s4, s5, s6, s7, s8, s9, s10, s11, s12, s13, s14, s15, s16, s17, s18⟩
      go_simp
      with_reducible rfl
    rotate_left
    · simp only [Act.put, lists_, i64_w, i32_w]
      rfl
    refine pu_ 21 (some 42) mkM8_22 HT_ ?_ rfl rfl (by kernel_rfl) (fun _ _ _ h => h) (Or.inl ⟨by rfl, ?_⟩) ?_ ?_ ?_
    rotate_left
    · intro w'
      go_simp
      with_reducible rfl
    rotate_left
    · simp only [Act.put, lists_, i64_w, i32_w]
      rfl
    refine pu_ 22 (some 43) mkM8_23 HT_ ?_ rfl rfl (by kernel_rfl) (fun _ _ _ h => h) (Or.inl ⟨by rfl, ?_⟩) ?_ ?_ ?_
    rotate_left
    · intro w'
      go_simp
      with_reducible rfl
    rotate_left
    · simp only [Act.put, lists_, i64_w, i32_w]
      rfl
    refine take_ (i := 23) (N := some 44) (v := ?_) (a' := ?_) mkM8_24 rfl rfl (take_ofW HT_.out HW_.out (by kernel_rfl)) (fun _ _ _ h => h) (Or.inl ⟨by rfl, ?_⟩) hHeld ?_ ?_
    rotate_left
    · rintro w' ⟨s0, s1, s2, s3, s4, s5, s6, s7, s8, s9, s10, s11, s12, s13, s14, s15, s16, s17, s18⟩
      go_simp
      with_reducible rfl
    rotate_left
    · simp only [Act.put, lists_, i64_w, i32_w]
      rfl
    refine pu_ 24 (some 45) mkM8_25 HT_ ?_ rfl rfl (by kernel_rfl) (fun _ _ _ h => h) (Or.inl ⟨by rfl, ?_⟩) ?_ ?_ ?_
    rotate_left
    · intro w'
      go_simp
      with_reducible rfl
    rotate_left
    · simp only [Act.put, lists_, i64_w, i32_w]
      rfl
    refine pu_ 25 (some 46) mkM8_26 HT_ ?_ rfl rfl (by kernel_rfl) (fun _ _ _ h => h) (Or.inl ⟨by rfl, ?_⟩) ?_ ?_ ?_
    rotate_left
    · intro w'
      go_simp
      with_reducible rfl
    rotate_left
    · simp only [Act.put, lists_, i64_w, i32_w]
      rfl
    refine pu_ 26 (some 47) mkM8_27 HT_ ?_ rfl rfl (by kernel_rfl) (fun _ _ _ h => h) (Or.inl ⟨by rfl, ?_⟩) ?_ ?_ ?_
    rotate_left
    · intro w'
      go_simp
      with_reducible rfl
    rotate_left
    · simp only [Act.put, lists_, i64_w, i32_w]
      rfl
    refine done_ (done_of HT_.out (by kernel_rfl)) ?_
    try go_wp2
    go_ret
    exact ⟨by first | rfl | (simp [errW_none, errW_some] <;> rfl) | (simp only [← hji13]; first | rfl | (simp [errW_none, errW_some] <;> rfl)) | (simp [*, errW_none, errW_some] <;> rfl), gwl_ [gb255] HB ⟨GE255, ⟨⟩⟩⟩
  rw [if_neg c16] at H
  have c16b0 : decide (((rd_T32 l0_1 x3_2).f0) ≤ ((rd_T32 l0_1 (ji13)).f0)) = false := decide_eq_false c16
  clear c16
  have H' := Aside0.mk H
  clear H
  have hcz20_0 := bc0 BK255
  have hcz20_1 := bc1 BK255
  have hcz20_2 := bc2 BK255
  have hcz20_3 := bc3 BK255
  have hfz20_0 := bf_ BK255 0
  have hfz20_1 := bf_ BK255 1
  have hfz20_2 := bf_ BK255 2
  have hfz20_3 := bf_ BK255 3
  try go_wp2
  have n0_ := Aside0.mk (blk_drew BK255.out)
  have n1_ := Aside0.mk (below_drew1 HB.out)
  clear BK255
  clear HB
  have BK255 := n0_
  have HB := n1_
  clear n0_ n1_
  have p256 : 0 ≤ (x3_2 : Int) := of_decide_eq_true (by assumption)
  have q256 : x3_2 < (l0_1.length : Int) := of_decide_eq_true (by assumption)
  obtain ⟨ad256, e256, hx256_0, hx256_1, hx256_2, hx256_3, hx256_4⟩ := at_T32 HR0_1.out x3_2 p256 q256
  have hw256_4 := hx256_4
  have hw256_3 := hx256_3
  have hw256_2 := hx256_2
  have hw256_1 := hx256_1
  have hw256_0 := hx256_0
  cases e256
  replace hx256_0 := hc_ HB hx256_0
  replace hx256_1 := hc_ HB hx256_1
  replace hx256_2 := hc_ HB hx256_2
  replace hx256_3 := hc_ HB hx256_3
  replace hx256_4 := hc_ HB hx256_4
  replace p256 := eq_true p256
  replace q256 := eq_true q256
  have p258 : 0 ≤ (x3_2 : Int) := of_decide_eq_true (by assumption)
  have q258 : x3_2 < (l0_1.length : Int) := of_decide_eq_true (by assumption)
  obtain ⟨ad258, e258, hx258_0, hx258_1, hx258_2, hx258_3, hx258_4⟩ := at_T32 HR0_1.out x3_2 p258 q258
  have hw258_4 := hx258_4
  have hw258_3 := hx258_3
  have hw258_2 := hx258_2
  have hw258_1 := hx258_1
  have hw258_0 := hx258_0
  obtain rfl : ad256 = ad258 := (by injection e258)
  replace hx258_0 := hc_ HB hx258_0
  replace hx258_1 := hc_ HB hx258_1
  replace hx258_2 := hc_ HB hx258_2
  replace hx258_3 := hc_ HB hx258_3
  replace hx258_4 := hc_ HB hx258_4
  replace p258 := eq_true p258
  replace q258 := eq_true q258
  have p259 : 0 ≤ ((ji13) : Int) := of_decide_eq_true (by assumption)
  have q259 : (ji13) < (l0_1.length : Int) := of_decide_eq_true (by assumption)
  obtain ⟨ad259, e259, hx259_0, hx259_1, hx259_2, hx259_3, hx259_4⟩ := at_T32 HR0_1.out (ji13) p259 q259
  have hw259_4 := hx259_4
  have hw259_3 := hx259_3
  have hw259_2 := hx259_2
  have hw259_1 := hx259_1
  have hw259_0 := hx259_0
  obtain rfl : ad256 = ad259 := (by injection e259)
  replace hx259_0 := hc_ HB hx259_0
  replace hx259_1 := hc_ HB hx259_1
  replace hx259_2 := hc_ HB hx259_2
  replace hx259_3 := hc_ HB hx259_3
  replace hx259_4 := hc_ HB hx259_4
  replace p259 := eq_true p259
  replace q259 := eq_true q259
  refine start_ (n := 27) (S := fun w' => w'.cell? ⟨gb255, 0, none⟩ = some (.slice A0_0 l0_0.length c0_0) ∧ w'.cell? ⟨gb255, 1, none⟩ = some (.slice (some ad256) l0_1.length c0_1) ∧ w'.cell? ⟨gb255, 2, none⟩ = some (.int .i64 a0_2) ∧ w'.cell? ⟨gb255, 3, none⟩ = some (.int .i64 a0_3) ∧ w'.cell? (ad256.add ((x3_2).toNat * 5)) = some (.int .i64 ((rd_T32 l0_1 x3_2).f0)) ∧ w'.cell? ⟨(ad256.add ((x3_2).toNat * 5)).block, (ad256.add ((x3_2).toNat * 5)).off + 1, none⟩ = some (.int .i64 ((rd_T32 l0_1 x3_2).f1)) ∧ w'.cell? ⟨(ad256.add ((x3_2).toNat * 5)).block, (ad256.add ((x3_2).toNat * 5)).off + 2, none⟩ = some (.string ((rd_T32 l0_1 x3_2).f2)) ∧ w'.cell? ⟨(ad256.add ((x3_2).toNat * 5)).block, (ad256.add ((x3_2).toNat * 5)).off + 3, none⟩ = some (.string ((rd_T32 l0_1 x3_2).f3)) ∧ w'.cell? ⟨(ad256.add ((x3_2).toNat * 5)).block, (ad256.add ((x3_2).toNat * 5)).off + 4, none⟩ = some (.int .i64 ((rd_T32 l0_1 x3_2).f4)) ∧ w'.cell? (ad256.add ((x3_2).toNat * 5)) = some (.int .i64 ((rd_T32 l0_1 x3_2).f0)) ∧ w'.cell? ⟨(ad256.add ((x3_2).toNat * 5)).block, (ad256.add ((x3_2).toNat * 5)).off + 1, none⟩ = some (.int .i64 ((rd_T32 l0_1 x3_2).f1)) ∧ w'.cell? ⟨(ad256.add ((x3_2).toNat * 5)).block, (ad256.add ((x3_2).toNat * 5)).off + 2, none⟩ = some (.string ((rd_T32 l0_1 x3_2).f2)) ∧ w'.cell? ⟨(ad256.add ((x3_2).toNat * 5)).block, (ad256.add ((x3_2).toNat * 5)).off + 3, none⟩ = some (.string ((rd_T32 l0_1 x3_2).f3)) ∧ w'.cell? ⟨(ad256.add ((x3_2).toNat * 5)).block, (ad256.add ((x3_2).toNat * 5)).off + 4, none⟩ = some (.int .i64 ((rd_T32 l0_1 x3_2).f4)) ∧ w'.cell? (ad256.add (((ji13)).toNat * 5)) = some (.int .i64 ((rd_T32 l0_1 (ji13)).f0)) ∧ w'.cell? ⟨(ad256.add (((ji13)).toNat * 5)).block, (ad256.add (((ji13)).toNat * 5)).off + 1, none⟩ = some (.int .i64 ((rd_T32 l0_1 (ji13)).f1)) ∧ w'.cell? ⟨(ad256.add (((ji13)).toNat * 5)).block, (ad256.add (((ji13)).toNat * 5)).off + 2, none⟩ = some (.string ((rd_T32 l0_1 (ji13)).f2)) ∧ w'.cell? ⟨(ad256.add (((ji13)).toNat * 5)).block, (ad256.add (((ji13)).toNat * 5)).off + 3, none⟩ = some (.string ((rd_T32 l0_1 (ji13)).f3)) ∧ w'.cell? ⟨(ad256.add (((ji13)).toNat * 5)).block, (ad256.add (((ji13)).toNat * 5)).off + 4, none⟩ = some (.int .i64 ((rd_T32 l0_1 (ji13)).f4))) (ds := []) mkM8_0 (by kernel_rfl) rfl rfl ⟨bc0 BK255, bc1 BK255, bc2 BK255, bc3 BK255, ((HB.out.cell (World.block_lt_of_cell? w _ hw256_0)).trans hw256_0), ((HB.out.cell (World.block_lt_of_cell? w _ hw256_1)).trans hw256_1), ((HB.out.cell (World.block_lt_of_cell? w _ hw256_2)).trans hw256_2), ((HB.out.cell (World.block_lt_of_cell? w _ hw256_3)).trans hw256_3), ((HB.out.cell (World.block_lt_of_cell? w _ hw256_4)).trans hw256_4), ((HB.out.cell (World.block_lt_of_cell? w _ hw258_0)).trans hw258_0), ((HB.out.cell (World.block_lt_of_cell? w _ hw258_1)).trans hw258_1), ((HB.out.cell (World.block_lt_of_cell? w _ hw258_2)).trans hw258_2), ((HB.out.cell (World.block_lt_of_cell? w _ hw258_3)).trans hw258_3), ((HB.out.cell (World.block_lt_of_cell? w _ hw258_4)).trans hw258_4), ((HB.out.cell (World.block_lt_of_cell? w _ hw259_0)).trans hw259_0), ((HB.out.cell (World.block_lt_of_cell? w _ hw259_1)).trans hw259_1), ((HB.out.cell (World.block_lt_of_cell? w _ hw259_2)).trans hw259_2), ((HB.out.cell (World.block_lt_of_cell? w _ hw259_3)).trans hw259_3), ((HB.out.cell (World.block_lt_of_cell? w _ hw259_4)).trans hw259_4)⟩ (fun hHeld => ?_); refine with_tabW ravelinref9_IsEdit.tab6 ravelinref9_IsEdit.bits6 (fun HT_ HW_ => ?_)
  generalize wr.drew = w21 at BK255 HB hx256_0 hx256_1 hx256_2 hx256_3 hx256_4 hx258_0 hx258_1 hx258_2 hx258_3 hx258_4 hx259_0 hx259_1 hx259_2 hx259_3 hx259_4 hHeld ⊢
  refine pu_ 0 (some 21) mkM8_1 HT_ ?_ rfl rfl (by kernel_rfl) (fun _ _ _ h => h) (Or.inl ⟨by rfl, ?_⟩) ?_ ?_ ?_
  rotate_left
  · intro w'
    go_simp
    with_reducible rfl
  rotate_left
  · simp only [Act.put, lists_, i64_w, i32_w]
    rfl
  refine pu_ 2 (some 23) mkM8_2 HT_ ?_ rfl rfl (by kernel_rfl) (fun _ _ _ h => h) (Or.inl ⟨by rfl, ?_⟩) ?_ ?_ ?_
  rotate_left
  · intro w'
    go_simp
    with_reducible rfl
  rotate_left
  · simp only [Act.put, lists_, i64_w, i32_w]
    rfl
  refine take_ (i := 1) (N := some 22) (v := ?_) (a' := ?_) mkM8_3 rfl rfl (take_ofW HT_.out HW_.out (by kernel_rfl)) (fun _ _ _ h => h) (Or.inl ⟨by rfl, ?_⟩) hHeld ?_ ?_
  rotate_left
  · rintro w' ⟨s0, s1, s2, s3, s4, s5, s6, s7, s8, s9, s10, s11, s12, s13, s14, s15, s16, s17, s18⟩
    go_simp
    with_reducible rfl
  rotate_left
  · simp only [Act.put, lists_, i64_w, i32_w]
    rfl
  refine pu_ 3 (some 24) mkM8_4 HT_ ?_ rfl rfl (by kernel_rfl) (fun _ _ _ h => h) (Or.inl ⟨by rfl, ?_⟩) ?_ ?_ ?_
  rotate_left
  · intro w'
    go_simp
    with_reducible rfl
  rotate_left
  · simp only [Act.put, lists_, i64_w, i32_w]
    rfl
  refine take_ (i := 4) (N := some 25) (v := ?_) (a' := ?_) mkM8_5 rfl rfl (take_ofW HT_.out HW_.out (by kernel_rfl)) (fun _ _ _ h => h) (Or.inl ⟨by rfl, ?_⟩) hHeld ?_ ?_
  rotate_left
  · rintro w' ⟨s0, s1, s2, s3, s4, s5, s6, s7, s8, s9, s10, s11, s12, s13, s14, s15, s16, s17, s18⟩
    go_simp
    with_reducible rfl
  rotate_left
  · simp only [Act.put, lists_, i64_w, i32_w]
    rfl
  refine one_ (i := 5) (N := some 26) mkM8_6 rfl rfl (one_of HT_.out (by kernel_rfl)) (by decide) (fun K hK => ?_)
  refine goes_ Try.func41 (by kernel_rfl) rfl #[.agg #[.int .i64 ((rd_T32 l0_1 x3_2).f0), .int .i64 ((rd_T32 l0_1 x3_2).f1), .string ((rd_T32 l0_1 x3_2).f2), .string ((rd_T32 l0_1 x3_2).f3), .int .i64 ((rd_T32 l0_1 x3_2).f4)]] (by rfl) rfl rfl (by (try simp only [maps_]); first | done | rfl) ?_
  with_reducible refine (ravelinref9_IsTable.calls ((rd_T32 l0_1 x3_2).f0) ((rd_T32 l0_1 x3_2).f1) ((rd_T32 l0_1 x3_2).f2) ((rd_T32 l0_1 x3_2).f3) ((rd_T32 l0_1 x3_2).f4) true _ A10.out).mono ?_
  rintro e w22 ⟨rfl, hb⟩
  refine ⟨_, rfl, ?_⟩
  have n0_ := bb_ BK255 hb
  have n1_ := bl_ [gb255] HB ⟨GE255, ⟨⟩⟩ hb
  clear BK255
  clear HB
  have BK255 := n0_
  have HB := n1_
  clear n0_ n1_
  (try clear hb)
  (try clear hb2)
  (try clear hk)
  (try clear hi)
  refine hK.out _ _ ⟨bc0 BK255, bc1 BK255, bc2 BK255, bc3 BK255, ((HB.out.cell (World.block_lt_of_cell? w _ hw256_0)).trans hw256_0), ((HB.out.cell (World.block_lt_of_cell? w _ hw256_1)).trans hw256_1), ((HB.out.cell (World.block_lt_of_cell? w _ hw256_2)).trans hw256_2), ((HB.out.cell (World.block_lt_of_cell? w _ hw256_3)).trans hw256_3), ((HB.out.cell (World.block_lt_of_cell? w _ hw256_4)).trans hw256_4), ((HB.out.cell (World.block_lt_of_cell? w _ hw258_0)).trans hw258_0), ((HB.out.cell (World.block_lt_of_cell? w _ hw258_1)).trans hw258_1), ((HB.out.cell (World.block_lt_of_cell? w _ hw258_2)).trans hw258_2), ((HB.out.cell (World.block_lt_of_cell? w _ hw258_3)).trans hw258_3), ((HB.out.cell (World.block_lt_of_cell? w _ hw258_4)).trans hw258_4), ((HB.out.cell (World.block_lt_of_cell? w _ hw259_0)).trans hw259_0), ((HB.out.cell (World.block_lt_of_cell? w _ hw259_1)).trans hw259_1), ((HB.out.cell (World.block_lt_of_cell? w _ hw259_2)).trans hw259_2), ((HB.out.cell (World.block_lt_of_cell? w _ hw259_3)).trans hw259_3), ((HB.out.cell (World.block_lt_of_cell? w _ hw259_4)).trans hw259_4)⟩ (fun hHeld => ?_)
  clear hK K
  refine norm_ (a' := ?_) ?_ ?_
  rotate_left
  · show Act.put _ (some 26) _ = _
    simp only [Act.put, lists_, i64_w, i32_w]
    rfl
  refine pu_ 6 (some 27) mkM8_7 HT_ ?_ rfl rfl (by kernel_rfl) (fun _ _ _ h => h) (Or.inl ⟨by rfl, ?_⟩) ?_ ?_ ?_
  rotate_left
  · intro w'
    go_simp
    with_reducible rfl
  rotate_left
  · simp only [Act.put, lists_, i64_w, i32_w]
    rfl
  refine pu_ 7 (some 28) mkM8_8 HT_ ?_ rfl rfl (by kernel_rfl) (fun _ _ _ h => h) (Or.inl ⟨by rfl, ?_⟩) ?_ ?_ ?_
  rotate_left
  · intro w'
    go_simp
    with_reducible rfl
  rotate_left
  · simp only [Act.put, lists_, i64_w, i32_w]
    rfl
  refine pu_ 8 (some 29) mkM8_9 HT_ ?_ rfl rfl (by kernel_rfl) (fun _ _ _ h => h) (Or.inl ⟨by rfl, ?_⟩) ?_ ?_ ?_
  rotate_left
  · intro w'
    go_simp
    with_reducible rfl
  rotate_left
  · simp only [Act.put, lists_, i64_w, i32_w]
    rfl
  refine pu_ 9 (some 30) mkM8_10 HT_ ?_ rfl rfl (by kernel_rfl) (fun _ _ _ h => h) (Or.inl ⟨by rfl, ?_⟩) ?_ ?_ ?_
  rotate_left
  · intro w'
    go_simp
    with_reducible rfl
  rotate_left
  · simp only [Act.put, lists_, i64_w, i32_w]
    rfl
  refine pu_ 10 (some 31) mkM8_11 HT_ ?_ rfl rfl (by kernel_rfl) (fun _ _ _ h => h) (Or.inl ⟨by rfl, ?_⟩) ?_ ?_ ?_
  rotate_left
  · intro w'
    go_simp
    with_reducible rfl
  rotate_left
  · simp only [Act.put, lists_, i64_w, i32_w]
    rfl
  refine pu_ 11 (some 32) mkM8_12 HT_ ?_ rfl rfl (by kernel_rfl) (fun _ _ _ h => h) (Or.inl ⟨by rfl, ?_⟩) ?_ ?_ ?_
  rotate_left
  · intro w'
    go_simp
    with_reducible rfl
  rotate_left
  · simp only [Act.put, lists_, i64_w, i32_w]
    rfl
  refine pu_ 13 (some 34) mkM8_28 HT_ ?_ rfl rfl (by kernel_rfl) (fun _ _ _ h => h) (Or.inl ⟨by rfl, ?_⟩) ?_ ?_ ?_
  rotate_left
  · intro w'
    go_simp
    with_reducible rfl
  rotate_left
  · simp only [Act.put, lists_, i64_w, i32_w]
    rfl
  refine pu_ 17 (some 38) mkM8_29 HT_ ?_ rfl rfl (by kernel_rfl) (fun _ _ _ h => h) (Or.inl ⟨by rfl, ?_⟩) ?_ ?_ ?_
  rotate_left
  · intro w'
    go_simp
    with_reducible rfl
  rotate_left
  · simp only [Act.put, lists_, i64_w, i32_w]
    rfl
  refine pu_ 19 (some 40) mkM8_30 HT_ ?_ rfl rfl (by kernel_rfl) (fun _ _ _ h => h) (Or.inl ⟨by rfl, ?_⟩) ?_ ?_ ?_
  rotate_left
  · intro w'
    go_simp
    with_reducible rfl
  rotate_left
  · simp only [Act.put, lists_, i64_w, i32_w]
    rfl
  refine pu_ 20 (some 41) mkM8_31 HT_ ?_ rfl rfl (by kernel_rfl) (fun _ _ _ h => h) (Or.inl ⟨by rfl, ?_⟩) ?_ ?_ ?_
  rotate_left
  · intro w'
    go_simp
    with_reducible rfl
  rotate_left
  · simp only [Act.put, lists_, i64_w, i32_w]
    rfl
  refine take_ (i := 12) (N := some 33) (v := ?_) (a' := ?_) mkM8_32 rfl rfl (take_ofW HT_.out HW_.out (by kernel_rfl)) (fun _ _ _ h => h) (Or.inl ⟨by rfl, ?_⟩) hHeld ?_ ?_
  rotate_left
  · rintro w' ⟨s0, s1, s2, s3, s4, s5, s6, s7, s8, s9, s10, s11, s12, s13, s14, s15, s16, s17, s18⟩
    go_simp
    with_reducible rfl
  rotate_left
  · simp only [Act.put, lists_, i64_w, i32_w]
    rfl
  refine pu_ 14 (some 35) mkM8_33 HT_ ?_ rfl rfl (by kernel_rfl) (fun _ _ _ h => h) (Or.inl ⟨by rfl, ?_⟩) ?_ ?_ ?_
  rotate_left
  · intro w'
    go_simp
    with_reducible rfl
  rotate_left
  · simp only [Act.put, lists_, i64_w, i32_w]
    rfl
  refine pu_ 15 (some 36) mkM8_34 HT_ ?_ rfl rfl (by kernel_rfl) (fun _ _ _ h => h) (Or.inl ⟨by rfl, ?_⟩) ?_ ?_ ?_
  rotate_left
  · intro w'
    go_simp
    with_reducible rfl
  rotate_left
  · simp only [Act.put, lists_, i64_w, i32_w]
    rfl
  refine take_ (i := 16) (N := some 37) (v := ?_) (a' := ?_) mkM8_35 rfl rfl (take_ofW HT_.out HW_.out (by kernel_rfl)) (fun _ _ _ h => h) (Or.inl ⟨by rfl, ?_⟩) hHeld ?_ ?_
  rotate_left
  · rintro w' ⟨s0, s1, s2, s3, s4, s5, s6, s7, s8, s9, s10, s11, s12, s13, s14, s15, s16, s17, s18⟩
    go_simp
    with_reducible rfl
  rotate_left
  · simp only [Act.put, lists_, i64_w, i32_w]
    rfl
  refine take_ (i := 18) (N := some 39) (v := ?_) (a' := ?_) mkM8_21 rfl rfl (take_ofW HT_.out HW_.out (by kernel_rfl)) (fun _ _ _ h => h) (Or.inl ⟨by rfl, ?_⟩) hHeld ?_ ?_
  rotate_left
  · rintro w' ⟨s0, s1, s2, s3, s4, s5, s6, s7, s8, s9, s10, s11, s12, s13, s14, s15, s16, s17, s18⟩
    go_simp
    with_reducible rfl
  rotate_left
  · simp only [Act.put, lists_, i64_w, i32_w]
    rfl
  refine pu_ 21 (some 42) mkM8_22 HT_ ?_ rfl rfl (by kernel_rfl) (fun _ _ _ h => h) (Or.inl ⟨by rfl, ?_⟩) ?_ ?_ ?_
  rotate_left
  · intro w'
    go_simp
    with_reducible rfl
  rotate_left
  · simp only [Act.put, lists_, i64_w, i32_w]
    rfl
  refine pu_ 22 (some 43) mkM8_23 HT_ ?_ rfl rfl (by kernel_rfl) (fun _ _ _ h => h) (Or.inl ⟨by rfl, ?_⟩) ?_ ?_ ?_
  rotate_left
  · intro w'
    go_simp
    with_reducible rfl
  rotate_left
  · simp only [Act.put, lists_, i64_w, i32_w]
    rfl
  refine take_ (i := 23) (N := some 44) (v := ?_) (a' := ?_) mkM8_24 rfl rfl (take_ofW HT_.out HW_.out (by kernel_rfl)) (fun _ _ _ h => h) (Or.inl ⟨by rfl, ?_⟩) hHeld ?_ ?_
  rotate_left
  · rintro w' ⟨s0, s1, s2, s3, s4, s5, s6, s7, s8, s9, s10, s11, s12, s13, s14, s15, s16, s17, s18⟩
    go_simp
    with_reducible rfl
  rotate_left
  · simp only [Act.put, lists_, i64_w, i32_w]
    rfl
  refine pu_ 24 (some 45) mkM8_25 HT_ ?_ rfl rfl (by kernel_rfl) (fun _ _ _ h => h) (Or.inl ⟨by rfl, ?_⟩) ?_ ?_ ?_
  rotate_left
  · intro w'
    go_simp
    with_reducible rfl
  rotate_left
  · simp only [Act.put, lists_, i64_w, i32_w]
    rfl
  refine pu_ 25 (some 46) mkM8_26 HT_ ?_ rfl rfl (by kernel_rfl) (fun _ _ _ h => h) (Or.inl ⟨by rfl, ?_⟩) ?_ ?_ ?_
  rotate_left
  · intro w'
    go_simp
    with_reducible rfl
  rotate_left
  · simp only [Act.put, lists_, i64_w, i32_w]
    rfl
  refine pu_ 26 (some 47) mkM8_27 HT_ ?_ rfl rfl (by kernel_rfl) (fun _ _ _ h => h) (Or.inl ⟨by rfl, ?_⟩) ?_ ?_ ?_
  rotate_left
  · intro w'
    go_simp
    with_reducible rfl
  rotate_left
  · simp only [Act.put, lists_, i64_w, i32_w]
    rfl
  refine done_ (done_of HT_.out (by kernel_rfl)) ?_
  try go_wp2
  go_roundg k2
  case measure => have := HJ1.out; have := HK2.out; omega
  case rel => exact ⟨(wrap64 (x3_2 + 1)), (by first | rfl | (simp; done) | (simp [*]; done)), H', ⟨by have := HJ1.out; have := HK2.out; omega⟩, ⟨gb_ BK255⟩, ⟨gwl_ [gb255] HB ⟨GE255, ⟨⟩⟩⟩⟩

end Go.Proofs.Ytmbedgopceigaaa.P
