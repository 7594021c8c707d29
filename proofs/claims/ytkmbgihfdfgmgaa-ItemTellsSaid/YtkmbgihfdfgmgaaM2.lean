-- Printed by a changed copy of the kit's printer (wip/tools/ext.py); labels and more
import Derived.Test.YtkmbgihfdfgmgaaQShort
import Derived.Test.YtkmbgihfdfgmgaaM0
import Derived.Test.YtkmbgihfdfgmgaaM1
namespace Go.Proofs.Ytkmbgihfdfgmgaa.P
open Go.RowKit Go.Proofs.YtkmbgihfdfgmgaaW.PrintWords Go.Proofs.YtkmbgihfdfgmgaaW.PrintLast Go.Proofs.YtkmbgihfdfgmgaaW.PrintMore
attribute [local go_sem] max2_int min2_int max_two min_two max_three min_three max_four min_four   -- for this text's walks alone
attribute [local go_sem high] string_leq string_geq string_gtr
set_option linter.unusedVariables false
set_option linter.unusedSimpArgs false

abbrev mkPx4_0 : Array Bool := #[false, false, false, false, false, false, false, false, false, false, false, false, false, false, false, false, false, false, false, false]
abbrev mkPx4_1 : Array Bool := #[true, false, false, false, false, false, false, false, false, false, false, false, false, false, false, false, false, false, false, false]
abbrev mkPx4_2 : Array Bool := #[true, false, false, true, false, false, false, false, false, false, false, false, false, false, false, false, false, false, false, false]
abbrev mkPx4_3 : Array Bool := #[true, false, false, true, false, false, false, true, false, false, false, false, false, false, false, false, false, false, false, false]
abbrev mkPx4_4 : Array Bool := #[true, false, false, true, false, false, false, true, false, false, false, true, false, false, false, false, false, false, false, false]
abbrev mkPx4_5 : Array Bool := #[true, false, false, true, false, false, false, true, false, false, false, true, false, true, false, false, false, false, false, false]
abbrev mkPx4_6 : Array Bool := #[true, true, false, true, false, false, false, true, false, false, false, true, false, true, false, false, false, false, false, false]
abbrev mkPx4_7 : Array Bool := #[true, true, false, true, true, false, false, true, false, false, false, true, false, true, false, false, false, false, false, false]
abbrev mkPx4_8 : Array Bool := #[true, true, false, true, true, false, false, true, true, false, false, true, false, true, false, false, false, false, false, false]
abbrev mkPx4_9 : Array Bool := #[true, true, false, true, true, false, false, true, true, false, false, true, false, true, true, false, false, false, false, false]
abbrev mkPx4_10 : Array Bool := #[true, true, true, true, true, false, false, true, true, false, false, true, false, true, true, false, false, false, false, false]
abbrev mkPx4_11 : Array Bool := #[true, true, true, true, true, true, false, true, true, false, false, true, false, true, true, false, false, false, false, false]
abbrev mkPx4_12 : Array Bool := #[true, true, true, true, true, true, true, true, true, false, false, true, false, true, true, false, false, false, false, false]
abbrev mkPx4_13 : Array Bool := #[true, true, true, true, true, true, true, true, true, true, false, true, false, true, true, false, false, false, false, false]
abbrev mkPx4_14 : Array Bool := #[true, true, true, true, true, true, true, true, true, true, true, true, false, true, true, false, false, false, false, false]
abbrev mkPx4_15 : Array Bool := #[true, true, true, true, true, true, true, true, true, true, true, true, true, true, true, false, false, false, false, false]
abbrev mkPx4_16 : Array Bool := #[true, true, true, true, true, true, true, true, true, true, true, true, true, true, true, true, false, false, false, false]
abbrev mkPx4_17 : Array Bool := #[true, true, true, true, true, true, true, true, true, true, true, true, true, true, true, true, true, false, false, false]
abbrev mkPx4_18 : Array Bool := #[true, true, true, true, true, true, true, true, true, true, true, true, true, true, true, true, true, true, false, false]
abbrev mkPx4_19 : Array Bool := #[true, true, true, true, true, true, true, true, true, true, true, true, true, true, true, true, true, true, true, false]
abbrev mkPx4_20 : Array Bool := #[true, true, true, true, true, true, true, true, true, true, true, true, true, true, true, true, true, true, true, true]
/-! ### item_Bytes: function 9 -/
def item_Bytes.j0 : Nat → ByteArray → Int → Int → Int → Bool → List (S39) → Option (ByteArray × Int)
  | 0, _, _, _, _, _, _ => none
  | k + 1, x4, x137000, x137001, x137002, x137003, x137004 => (cell_Num.f k x137000).bind fun t138 => ((cell_Num.f k x137001).bind fun t139 => (if t138.size + t139.size ≤ 9223372036854775807 then ((cell_Num.f k x137002).bind fun t140 => (if (t138 ++ t139).size + t140.size ≤ 9223372036854775807 then (if ((t138 ++ t139) ++ t140).size + x4.size ≤ 9223372036854775807 then ((batch_Words.f k x137004).bind fun t141 => (if (((t138 ++ t139) ++ t140) ++ x4).size + t141.size ≤ 9223372036854775807 then ((seal_Seal.f k ((((t138 ++ t139) ++ t140) ++ x4) ++ t141)).bind fun t142 => (some (t142, 0))) else (none))) else (none)) else (none))) else (none)))
def item_Bytes.f (k : Nat) (a0_0 : Int) (a0_1 : Int) (a0_2 : Int) (a0_3 : Bool) (l0_4 : List (S39)) : Option (ByteArray × Int) := (item_Is.f k a0_0 a0_1 a0_2 a0_3 l0_4).bind fun t137 => (if t137 = true then (if a0_3 = true then (item_Bytes.j0 k (⟨#[1]⟩ : ByteArray) a0_0 a0_1 a0_2 a0_3 l0_4) else (item_Bytes.j0 k (⟨#[0]⟩ : ByteArray) a0_0 a0_1 a0_2 a0_3 l0_4)) else (some ((⟨#[]⟩ : ByteArray), 10)))
theorem item_Bytes.mono_l : ∀ k, (∀ y0 y1 y2 y3 y4 y5, LeO (item_Bytes.j0 k y0 y1 y2 y3 y4 y5) (item_Bytes.j0 (k + 1) y0 y1 y2 y3 y4 y5))
  | 0 => fun _ _ _ _ _ _ r h => by simp [item_Bytes.j0] at h
  | k + 1 => by
    have ih0 := item_Bytes.mono_l k
    · intro y0 y1 y2 y3 y4 y5
      unfold item_Bytes.j0
      repeat' first
      | (with_reducible exact ih0 _ _ _ _ _ _)
      | (with_reducible exact batch_Words.mono _ _)
      | (with_reducible exact cell_Num.mono _ _)
      | (with_reducible exact item_Is.mono _ _ _ _ _ _)
      | (with_reducible exact seal_Seal.mono _ _)
      | (with_reducible exact LeO.refl _)
      | (with_reducible exact LeO.none _)
      | (with_reducible refine LeO.ite ?_ ?_)
      | (with_reducible refine LeO.bind ?_ (fun _ => ?_))
      | exact ih0 _ _ _ _ _ _
      | exact batch_Words.mono _ _
      | exact cell_Num.mono _ _
      | exact item_Is.mono _ _ _ _ _ _
      | exact seal_Seal.mono _ _
      | exact LeO.none _
      | refine LeO.ite ?_ ?_
      | refine LeO.bind ?_ (fun _ => ?_)
theorem item_Bytes.mono : ∀ a0 a1 a2 a3 a4 k, LeO (item_Bytes.f k a0 a1 a2 a3 a4) (item_Bytes.f (k + 1) a0 a1 a2 a3 a4) := by
  intro a0 a1 a2 a3 a4 k
  have ih0 := item_Bytes.mono_l k
  unfold item_Bytes.f
  repeat' first
      | (with_reducible exact ih0 _ _ _ _ _ _)
      | (with_reducible exact batch_Words.mono _ _)
      | (with_reducible exact cell_Num.mono _ _)
      | (with_reducible exact item_Is.mono _ _ _ _ _ _)
      | (with_reducible exact seal_Seal.mono _ _)
      | (with_reducible exact LeO.refl _)
      | (with_reducible exact LeO.none _)
      | (with_reducible refine LeO.ite ?_ ?_)
      | (with_reducible refine LeO.bind ?_ (fun _ => ?_))
      | exact ih0 _ _ _ _ _ _
      | exact batch_Words.mono _ _
      | exact cell_Num.mono _ _
      | exact item_Is.mono _ _ _ _ _ _
      | exact seal_Seal.mono _ _
      | exact LeO.none _
      | refine LeO.ite ?_ ?_
      | refine LeO.bind ?_ (fun _ => ?_)
def item_Bytes.T6 : Bool × List (List Nat × List Nat) := (true, [([], []), ([0], [0]), ([1], [1]), ([], []), ([3], [3]), ([4, 2], [4]), ([2, 5], [2, 5]), ([], []), ([7], [7]), ([8, 5], [8]), ([6, 9], [6, 9]), ([], []), ([10, 11], [10, 11]), ([], []), ([13], [13]), ([14, 9], [14]), ([12, 15], [12, 15]), ([16, 15], [16]), ([17, 17, 0, 1, 2, 3, 4, 5, 6, 7, 8, 9, 10, 11, 12, 13, 14, 15, 16, 17], [17]), ([18, 0, 1, 2, 3, 4, 5, 6, 7, 8, 9, 10, 11, 12, 13, 14, 15, 16, 17, 18], [])])
def item_Bytes.B6 : List Nat := [0, 1, 3, 0, 8, 31, 63, 0, 128, 447, 1023, 0, 4095, 0, 8192, 25535, 65535, 131071, 262143, 524287]
theorem item_Bytes.tab6 : rtab .any (opsOf Try.f9 6) = item_Bytes.T6 := by kernel_rfl
theorem item_Bytes.bits6 : waitsOk item_Bytes.T6.2 item_Bytes.B6 = true := by kernel_rfl
set_option maxHeartbeats 8000000 in
set_option maxRecDepth 100000 in
theorem item_Bytes.calls (k : Nat) (a0_0 : Int) (a0_1 : Int) (a0_2 : Int) (a0_3 : Bool) (A0_4 : Option Addr) (c0_4 : Nat) (l0_4 : List (S39)) (r1 : ByteArray) (r2 : Int) (w : World) (hr0_4 : Kd.C k39 w A0_4 l0_4.length l0_4) (hc0_4 : l0_4.length ≤ c0_4) (h : item_Bytes.f k a0_0 a0_1 a0_2 a0_3 l0_4 = some (r1, r2)) :
    Calls Try.prog 9 #[.agg #[.int .i64 a0_0, .int .i64 a0_1, .int .i64 a0_2, .bool a0_3, .slice A0_4 l0_4.length c0_4]] w fun e w' => e = .returned (.tuple #[.string r1, .int .i64 r2]) ∧ Below w.heap.size w w' := by
  have hu24 := Try.underlying24
  have HR0_4 := Aside0.mk hr0_4
  have HC0_4 := Aside0.mk hc0_4
  clear hr0_4 hc0_4
  have HB := Aside0.mk (Below.refl w.heap.size w)
  have H : ((item_Is.f k a0_0 a0_1 a0_2 a0_3 l0_4).bind fun t137 => (if t137 = true then (if a0_3 = true then (item_Bytes.j0 k (⟨#[1]⟩ : ByteArray) a0_0 a0_1 a0_2 a0_3 l0_4) else (item_Bytes.j0 k (⟨#[0]⟩ : ByteArray) a0_0 a0_1 a0_2 a0_3 l0_4)) else (some ((⟨#[]⟩ : ByteArray), 10)))) = some (r1, r2) := h
  clear h
  replace H := Option.bind_eq_some_iff.mp H
  obtain ⟨t137, A20, H⟩ := H
  try dsimp only at H
  have A2 := Aside0.mk A20
  clear A20
  by_cases c3 : t137 = true
  rotate_left
  · replace c3 := Bool.eq_false_iff.mpr c3
    subst c3
    have H1 : (some ((⟨#[]⟩ : ByteArray), 10)) = some (r1, r2) := by rw [if_neg (show ¬ (false = true) by decide)] at H; exact H
    clear H
    have H := H1
    clear H1
    simp only [Option.some.injEq, Prod.mk.injEq] at H
    obtain ⟨rfl, rfl⟩ := H
    go_enter Try.func9, Try.ntmps9
    go_wp2_with (first | ((with_reducible refine gate_dst (N := 1) rfl ?_); refine box_event ?hg (N := 1) ?hd (cs := #[.int .i64 a0_0, .int .i64 a0_1, .int .i64 a0_2, .bool a0_3, .slice A0_4 l0_4.length c0_4]) (t := 24) ?hr ?_; (case hd => rfl); (case hg => rfl); (case hr => first | (go_simp; done) | (go_simp; rfl)); intro gb136 hg w25 hbox hb; have n0_ := bs_ HB hb; have n1_ := Aside0.mk (hbox); have n2_ := gz_ HB hg; have n3_ := gz_ HB hg; clear HB; have HB := n0_; have BK136 := n1_; have GW136 := n2_; have GE136 := n3_; clear n0_ n1_ n2_ n3_; clear hb hbox hg; have hcz26_0 := bc0 BK136; have hcz26_1 := bc1 BK136; have hcz26_2 := bc2 BK136; have hcz26_3 := bc3 BK136; have hcz26_4 := bc4 BK136; have hfz26_0 := bf_ BK136 0; have hfz26_1 := bf_ BK136 1; have hfz26_2 := bf_ BK136 2; have hfz26_3 := bf_ BK136 3; have hfz26_4 := bf_ BK136 4) | ((with_reducible refine gate_callee (f := 15) rfl ?_); refine goesL_ (some 6) rfl rfl Try.func15 (by kernel_rfl) rfl #[.agg #[.int .i64 a0_0, .int .i64 a0_1, .int .i64 a0_2, .bool a0_3, .slice A0_4 l0_4.length c0_4]] rfl (by (try simp only [maps_]); first | done | rfl) ?_; (with_reducible refine (item_Is.calls k a0_0 a0_1 a0_2 a0_3 _ _ l0_4 false _ ?side1 ?side2 A2.out).mono ?_); (case side1 => exact cb_ HR0_4 HB); (case side2 => exact HC0_4.out); rintro e w27 ⟨rfl, hb⟩; refine ⟨_, rfl, ?_⟩; have n0_ := bb_ BK136 hb; have n1_ := bl_ [gb136] HB ⟨GE136, ⟨⟩⟩ hb; clear BK136; clear HB; have BK136 := n0_; have HB := n1_; clear n0_ n1_; (try clear hb); (try clear hb2); (try clear hk); (try clear hi)))
    go_ret2
    exact ⟨by first | rfl | (simp [*, errW_none, errW_some] <;> rfl), gwl_ [gb136] HB ⟨GE136, ⟨⟩⟩⟩
  subst c3
  have H1 : (if a0_3 = true then (item_Bytes.j0 k (⟨#[1]⟩ : ByteArray) a0_0 a0_1 a0_2 a0_3 l0_4) else (item_Bytes.j0 k (⟨#[0]⟩ : ByteArray) a0_0 a0_1 a0_2 a0_3 l0_4)) = some (r1, r2) := by rw [if_pos rfl] at H; exact H
  clear H
  have H := H1
  clear H1
  have HC4 := Aside0.mk H
  clear H
  go_enter Try.func9, Try.ntmps9
  go_upto_if 9 with (first | ((with_reducible refine gate_dst (N := 1) rfl ?_); refine box_event ?hg (N := 1) ?hd (cs := #[.int .i64 a0_0, .int .i64 a0_1, .int .i64 a0_2, .bool a0_3, .slice A0_4 l0_4.length c0_4]) (t := 24) ?hr ?_; (case hd => rfl); (case hg => rfl); (case hr => first | (go_simp; done) | (go_simp; rfl)); intro gb136 hg w5 hbox hb; have n0_ := bs_ HB hb; have n1_ := Aside0.mk (hbox); have n2_ := gz_ HB hg; have n3_ := gz_ HB hg; clear HB; have HB := n0_; have BK136 := n1_; have GW136 := n2_; have GE136 := n3_; clear n0_ n1_ n2_ n3_; clear hb hbox hg; have hcz6_0 := bc0 BK136; have hcz6_1 := bc1 BK136; have hcz6_2 := bc2 BK136; have hcz6_3 := bc3 BK136; have hcz6_4 := bc4 BK136; have hfz6_0 := bf_ BK136 0; have hfz6_1 := bf_ BK136 1; have hfz6_2 := bf_ BK136 2; have hfz6_3 := bf_ BK136 3; have hfz6_4 := bf_ BK136 4) | ((with_reducible refine gate_callee (f := 15) rfl ?_); refine goesL_ (some 6) rfl rfl Try.func15 (by kernel_rfl) rfl #[.agg #[.int .i64 a0_0, .int .i64 a0_1, .int .i64 a0_2, .bool a0_3, .slice A0_4 l0_4.length c0_4]] rfl (by (try simp only [maps_]); first | done | rfl) ?_; (with_reducible refine (item_Is.calls k a0_0 a0_1 a0_2 a0_3 _ _ l0_4 true _ ?side1 ?side2 A2.out).mono ?_); (case side1 => exact cb_ HR0_4 HB); (case side2 => exact HC0_4.out); rintro e w7 ⟨rfl, hb⟩; refine ⟨_, rfl, ?_⟩; have n0_ := bb_ BK136 hb; have n1_ := bl_ [gb136] HB ⟨GE136, ⟨⟩⟩ hb; clear BK136; clear HB; have BK136 := n0_; have HB := n1_; clear n0_ n1_; (try clear hb); (try clear hb2); (try clear hk); (try clear hi); have hcz8_0 := bc0 BK136; have hcz8_1 := bc1 BK136; have hcz8_2 := bc2 BK136; have hcz8_3 := bc3 BK136; have hcz8_4 := bc4 BK136; have hfz8_0 := bf_ BK136 0; have hfz8_1 := bf_ BK136 1; have hfz8_2 := bf_ BK136 2; have hfz8_3 := bf_ BK136 3; have hfz8_4 := bf_ BK136 4))
  (try simp only [Act.put, lists_])
  go_cut [4] (fun v4 wc => ∃ (kq : Nat) (x4_3 : ByteArray), v4 = .string x4_3 ∧ Aside0 (item_Bytes.j0 kq x4_3 a0_0 a0_1 a0_2 a0_3 l0_4 = some (r1, r2)) ∧ Aside0 (kq ≤ k) ∧ Aside0 (wc.heap[gb136]? = some (.cells #[.int .i64 a0_0, .int .i64 a0_1, .int .i64 a0_2, .bool a0_3, (.slice A0_4 l0_4.length c0_4)] 24 (0, 0))) ∧ Aside0 (Below w.heap.size w wc))
  case first =>
    have H := HC4.out
    clear HC4
    by_cases c9 : a0_3 = true
    · subst c9
      have H1 : (item_Bytes.j0 k (⟨#[1]⟩ : ByteArray) a0_0 a0_1 a0_2 true l0_4) = some (r1, r2) := by rw [if_pos rfl] at H; exact H
      clear H
      have H := H1
      clear H1
      have H' := Aside0.mk H
      clear H
      go_wp2
      go_meet
      case rel => exact ⟨_, ((⟨#[1]⟩ : ByteArray)), (by first | rfl | (simp; done) | (simp [*]; done)), H', ⟨by first | omega | exact Nat.le_refl _⟩, ⟨gb_ BK136⟩, ⟨gwl_ [gb136] HB ⟨GE136, ⟨⟩⟩⟩⟩
    replace c9 := Bool.eq_false_iff.mpr c9
    subst c9
    have H1 : (item_Bytes.j0 k (⟨#[0]⟩ : ByteArray) a0_0 a0_1 a0_2 false l0_4) = some (r1, r2) := by rw [if_neg (show ¬ (false = true) by decide)] at H; exact H
    clear H
    have H := H1
    clear H1
    have H' := Aside0.mk H
    clear H
    go_wp2
    go_meet
    case rel => exact ⟨_, ((⟨#[0]⟩ : ByteArray)), (by first | rfl | (simp; done) | (simp [*]; done)), H', ⟨by first | omega | exact Nat.le_refl _⟩, ⟨gb_ BK136⟩, ⟨gwl_ [gb136] HB ⟨GE136, ⟨⟩⟩⟩⟩
  clear HC4
  try clear c1
  try clear p2
  try clear c3
  try clear c9
  try clear hcz6_0
  try clear hcz6_1
  try clear hcz6_2
  try clear hcz6_3
  try clear hcz6_4
  try clear hcz8_0
  try clear hcz8_1
  try clear hcz8_2
  try clear hcz8_3
  try clear hcz8_4
  try clear hfz6_0
  try clear hfz6_1
  try clear hfz6_2
  try clear hfz6_3
  try clear hfz6_4
  try clear hfz8_0
  try clear hfz8_1
  try clear hfz8_2
  try clear hfz8_3
  try clear hfz8_4
  obtain ⟨kq, x4_3, rfl, HA, HJ3, BK136, HB⟩ := hcut
  cases kq with
  | zero => exact absurd HA.out (by simp [item_Bytes.j0])
  | succ kj3 => ?_
  have H := HA.out
  clear HA
  simp only [item_Bytes.j0] at H
  replace H := Option.bind_eq_some_iff.mp H
  obtain ⟨t138, A100, H⟩ := H
  try dsimp only at H
  have A10 := Aside0.mk A100
  clear A100
  replace H := Option.bind_eq_some_iff.mp H
  obtain ⟨t139, A110, H⟩ := H
  try dsimp only at H
  have A11 := Aside0.mk A110
  clear A110
  by_cases c12 : t138.size + t139.size ≤ 9223372036854775807
  rotate_left
  · rw [if_neg c12] at H
    exact absurd H (by simp)
  rw [if_pos c12] at H
  have c12b0 := eq_true c12
  have c12b1 : decide (t138.size + t139.size ≤ 9223372036854775807) = true := decide_eq_true c12
  try have c12b2 : (9223372036854775807 < t138.size + t139.size) = False := eq_false (Nat.not_lt.2 c12)
  replace H := Option.bind_eq_some_iff.mp H
  obtain ⟨t140, A130, H⟩ := H
  try dsimp only at H
  have A13 := Aside0.mk A130
  clear A130
  by_cases c14 : (t138 ++ t139).size + t140.size ≤ 9223372036854775807
  rotate_left
  · rw [if_neg c14] at H
    exact absurd H (by simp)
  rw [if_pos c14] at H
  have c14b0 := eq_true c14
  have c14b1 : decide ((t138 ++ t139).size + t140.size ≤ 9223372036854775807) = true := decide_eq_true c14
  (try (have c14b1s := c14b1; simp only [ByteArray.size_append] at c14b1s))
  try have c14b2 : (9223372036854775807 < (t138 ++ t139).size + t140.size) = False := eq_false (Nat.not_lt.2 c14)
  (try (have c14b2s := c14b2; simp only [ByteArray.size_append] at c14b2s))
  by_cases c15 : ((t138 ++ t139) ++ t140).size + x4_3.size ≤ 9223372036854775807
  rotate_left
  · rw [if_neg c15] at H
    exact absurd H (by simp)
  rw [if_pos c15] at H
  have c15b0 := eq_true c15
  have c15b1 : decide (((t138 ++ t139) ++ t140).size + x4_3.size ≤ 9223372036854775807) = true := decide_eq_true c15
  (try (have c15b1s := c15b1; simp only [ByteArray.size_append] at c15b1s))
  try have c15b2 : (9223372036854775807 < ((t138 ++ t139) ++ t140).size + x4_3.size) = False := eq_false (Nat.not_lt.2 c15)
  (try (have c15b2s := c15b2; simp only [ByteArray.size_append] at c15b2s))
  replace H := Option.bind_eq_some_iff.mp H
  obtain ⟨t141, A160, H⟩ := H
  try dsimp only at H
  have A16 := Aside0.mk A160
  clear A160
  by_cases c17 : (((t138 ++ t139) ++ t140) ++ x4_3).size + t141.size ≤ 9223372036854775807
  rotate_left
  · rw [if_neg c17] at H
    exact absurd H (by simp)
  rw [if_pos c17] at H
  have c17b0 := eq_true c17
  have c17b1 : decide ((((t138 ++ t139) ++ t140) ++ x4_3).size + t141.size ≤ 9223372036854775807) = true := decide_eq_true c17
  (try (have c17b1s := c17b1; simp only [ByteArray.size_append] at c17b1s))
  try have c17b2 : (9223372036854775807 < (((t138 ++ t139) ++ t140) ++ x4_3).size + t141.size) = False := eq_false (Nat.not_lt.2 c17)
  (try (have c17b2s := c17b2; simp only [ByteArray.size_append] at c17b2s))
  replace H := Option.bind_eq_some_iff.mp H
  obtain ⟨t142, A180, H⟩ := H
  try dsimp only at H
  have A18 := Aside0.mk A180
  clear A180
  simp only [Option.some.injEq, Prod.mk.injEq] at H
  obtain ⟨rfl, rfl⟩ := H
  try go_wp2
  have n0_ := Aside0.mk (blk_drew BK136.out)
  have n1_ := Aside0.mk (below_drew1 HB.out)
  clear BK136
  clear HB
  have BK136 := n0_
  have HB := n1_
  clear n0_ n1_
  refine start_ (n := 20) (S := fun w' => w'.cell? ⟨gb136, 0, none⟩ = some (.int .i64 a0_0) ∧ w'.cell? ⟨gb136, 1, none⟩ = some (.int .i64 a0_1) ∧ w'.cell? ⟨gb136, 2, none⟩ = some (.int .i64 a0_2) ∧ w'.cell? ⟨gb136, 3, none⟩ = some (.bool a0_3) ∧ w'.cell? ⟨gb136, 4, none⟩ = some (.slice A0_4 l0_4.length c0_4)) (ds := []) mkPx4_0 (by kernel_rfl) rfl rfl ⟨bc0 BK136, bc1 BK136, bc2 BK136, bc3 BK136, bc4 BK136⟩ (fun hHeld => ?_); refine with_tabW item_Bytes.tab6 item_Bytes.bits6 (fun HT_ HW_ => ?_)
  generalize wc.drew = w19 at BK136 HB hHeld ⊢
  refine pu_ 0 (some 10) mkPx4_1 HT_ ?_ rfl rfl (by kernel_rfl) (fun _ _ _ h => h) (Or.inl ⟨by rfl, ?_⟩) ?_ ?_ ?_
  rotate_left
  · intro w'
    go_simp
    with_reducible rfl
  rotate_left
  · simp only [Act.put, lists_, i64_w, i32_w]
    rfl
  refine pu_ 3 (some 13) mkPx4_2 HT_ ?_ rfl rfl (by kernel_rfl) (fun _ _ _ h => h) (Or.inl ⟨by rfl, ?_⟩) ?_ ?_ ?_
  rotate_left
  · intro w'
    go_simp
    with_reducible rfl
  rotate_left
  · simp only [Act.put, lists_, i64_w, i32_w]
    rfl
  refine pu_ 7 (some 17) mkPx4_3 HT_ ?_ rfl rfl (by kernel_rfl) (fun _ _ _ h => h) (Or.inl ⟨by rfl, ?_⟩) ?_ ?_ ?_
  rotate_left
  · intro w'
    go_simp
    with_reducible rfl
  rotate_left
  · simp only [Act.put, lists_, i64_w, i32_w]
    rfl
  refine pu_ 11 (some 21) mkPx4_4 HT_ ?_ rfl rfl (by kernel_rfl) (fun _ _ _ h => h) (Or.inl ⟨by rfl, ?_⟩) ?_ ?_ ?_
  rotate_left
  · intro w'
    go_simp
    with_reducible rfl
  rotate_left
  · simp only [Act.put, lists_, i64_w, i32_w]
    rfl
  refine pu_ 13 (some 23) mkPx4_5 HT_ ?_ rfl rfl (by kernel_rfl) (fun _ _ _ h => h) (Or.inl ⟨by rfl, ?_⟩) ?_ ?_ ?_
  rotate_left
  · intro w'
    go_simp
    with_reducible rfl
  rotate_left
  · simp only [Act.put, lists_, i64_w, i32_w]
    rfl
  refine take_ (i := 1) (N := some 11) (v := ?_) (a' := ?_) mkPx4_6 rfl rfl (take_ofW HT_.out HW_.out (by kernel_rfl)) (fun _ _ _ h => h) (Or.inl ⟨by rfl, ?_⟩) hHeld ?_ ?_
  rotate_left
  · rintro w' ⟨s0, s1, s2, s3, s4⟩
    go_simp
    with_reducible rfl
  rotate_left
  · simp only [Act.put, lists_, i64_w, i32_w]
    rfl
  refine take_ (i := 4) (N := some 14) (v := ?_) (a' := ?_) mkPx4_7 rfl rfl (take_ofW HT_.out HW_.out (by kernel_rfl)) (fun _ _ _ h => h) (Or.inl ⟨by rfl, ?_⟩) hHeld ?_ ?_
  rotate_left
  · rintro w' ⟨s0, s1, s2, s3, s4⟩
    go_simp
    with_reducible rfl
  rotate_left
  · simp only [Act.put, lists_, i64_w, i32_w]
    rfl
  refine take_ (i := 8) (N := some 18) (v := ?_) (a' := ?_) mkPx4_8 rfl rfl (take_ofW HT_.out HW_.out (by kernel_rfl)) (fun _ _ _ h => h) (Or.inl ⟨by rfl, ?_⟩) hHeld ?_ ?_
  rotate_left
  · rintro w' ⟨s0, s1, s2, s3, s4⟩
    go_simp
    with_reducible rfl
  rotate_left
  · simp only [Act.put, lists_, i64_w, i32_w]
    rfl
  refine take_ (i := 14) (N := some 24) (v := ?_) (a' := ?_) mkPx4_9 rfl rfl (take_ofW HT_.out HW_.out (by kernel_rfl)) (fun _ _ _ h => h) (Or.inl ⟨by rfl, ?_⟩) hHeld ?_ ?_
  rotate_left
  · rintro w' ⟨s0, s1, s2, s3, s4⟩
    go_simp
    with_reducible rfl
  rotate_left
  · simp only [Act.put, lists_, i64_w, i32_w]
    rfl
  refine one_ (i := 2) (N := some 12) mkPx4_10 rfl rfl (one_of HT_.out (by kernel_rfl)) (by decide) (fun K hK => ?_)
  refine goes_ Try.func19 (by kernel_rfl) rfl #[.int .i64 a0_0] (by rfl) rfl rfl (by (try simp only [maps_]); first | done | rfl) ?_
  with_reducible refine (cell_Num.calls kj3 a0_0 t138 _ A10.out).mono ?_
  rintro e w20 ⟨rfl, hb⟩
  refine ⟨_, rfl, ?_⟩
  have n0_ := bb_ BK136 hb
  have n1_ := bl_ [gb136] HB ⟨GE136, ⟨⟩⟩ hb
  clear BK136
  clear HB
  have BK136 := n0_
  have HB := n1_
  clear n0_ n1_
  (try clear hb)
  (try clear hb2)
  (try clear hk)
  (try clear hi)
  refine hK.out _ _ ⟨bc0 BK136, bc1 BK136, bc2 BK136, bc3 BK136, bc4 BK136⟩ (fun hHeld => ?_)
  clear hK K
  refine norm_ (a' := ?_) ?_ ?_
  rotate_left
  · show Act.put _ (some 12) _ = _
    simp only [Act.put, lists_, i64_w, i32_w]
    rfl
  refine one_ (i := 5) (N := some 15) mkPx4_11 rfl rfl (one_of HT_.out (by kernel_rfl)) (by decide) (fun K hK => ?_)
  refine goes_ Try.func19 (by kernel_rfl) rfl #[.int .i64 a0_1] (by rfl) rfl rfl (by (try simp only [maps_]); first | done | rfl) ?_
  with_reducible refine (cell_Num.calls kj3 a0_1 t139 _ A11.out).mono ?_
  rintro e w21 ⟨rfl, hb⟩
  refine ⟨_, rfl, ?_⟩
  have n0_ := bb_ BK136 hb
  have n1_ := bl_ [gb136] HB ⟨GE136, ⟨⟩⟩ hb
  clear BK136
  clear HB
  have BK136 := n0_
  have HB := n1_
  clear n0_ n1_
  (try clear hb)
  (try clear hb2)
  (try clear hk)
  (try clear hi)
  refine hK.out _ _ ⟨bc0 BK136, bc1 BK136, bc2 BK136, bc3 BK136, bc4 BK136⟩ (fun hHeld => ?_)
  clear hK K
  refine norm_ (a' := ?_) ?_ ?_
  rotate_left
  · show Act.put _ (some 15) _ = _
    simp only [Act.put, lists_, i64_w, i32_w]
    rfl
  refine pu_ 6 (some 16) mkPx4_12 HT_ ?_ rfl rfl (by kernel_rfl) (fun _ _ _ h => h) (Or.inl ⟨by rfl, ?_⟩) ?_ ?_ ?_
  rotate_left
  · intro w'
    go_simp
    with_reducible rfl
  rotate_left
  · simp only [Act.put, lists_, i64_w, i32_w]
    rfl
  refine one_ (i := 9) (N := some 19) mkPx4_13 rfl rfl (one_of HT_.out (by kernel_rfl)) (by decide) (fun K hK => ?_)
  refine goes_ Try.func19 (by kernel_rfl) rfl #[.int .i64 a0_2] (by rfl) rfl rfl (by (try simp only [maps_]); first | done | rfl) ?_
  with_reducible refine (cell_Num.calls kj3 a0_2 t140 _ A13.out).mono ?_
  rintro e w22 ⟨rfl, hb⟩
  refine ⟨_, rfl, ?_⟩
  have n0_ := bb_ BK136 hb
  have n1_ := bl_ [gb136] HB ⟨GE136, ⟨⟩⟩ hb
  clear BK136
  clear HB
  have BK136 := n0_
  have HB := n1_
  clear n0_ n1_
  (try clear hb)
  (try clear hb2)
  (try clear hk)
  (try clear hi)
  refine hK.out _ _ ⟨bc0 BK136, bc1 BK136, bc2 BK136, bc3 BK136, bc4 BK136⟩ (fun hHeld => ?_)
  clear hK K
  refine norm_ (a' := ?_) ?_ ?_
  rotate_left
  · show Act.put _ (some 19) _ = _
    simp only [Act.put, lists_, i64_w, i32_w]
    rfl
  refine pu_ 10 (some 20) mkPx4_14 HT_ ?_ rfl rfl (by kernel_rfl) (fun _ _ _ h => h) (Or.inl ⟨by rfl, ?_⟩) ?_ ?_ ?_
  rotate_left
  · intro w'
    go_simp
    with_reducible rfl
  rotate_left
  · simp only [Act.put, lists_, i64_w, i32_w]
    rfl
  refine pu_ 12 (some 22) mkPx4_15 HT_ ?_ rfl rfl (by kernel_rfl) (fun _ _ _ h => h) (Or.inl ⟨by rfl, ?_⟩) ?_ ?_ ?_
  rotate_left
  · intro w'
    go_simp
    with_reducible rfl
  rotate_left
  · simp only [Act.put, lists_, i64_w, i32_w]
    rfl
  refine one_ (i := 15) (N := some 25) mkPx4_16 rfl rfl (one_of HT_.out (by kernel_rfl)) (by decide) (fun K hK => ?_)
  refine goes_ Try.func20 (by kernel_rfl) rfl #[.slice A0_4 l0_4.length c0_4] (by rfl) rfl rfl (by (try simp only [maps_]); first | done | rfl) ?_
  with_reducible refine (batch_Words.calls kj3 _ _ l0_4 t141 _ ?side1 ?side2 A16.out).mono ?_
  (case side1 => exact cb_ HR0_4 HB)
  (case side2 => exact HC0_4.out)
  rintro e w23 ⟨rfl, hb⟩
  refine ⟨_, rfl, ?_⟩
  have n0_ := bb_ BK136 hb
  have n1_ := bl_ [gb136] HB ⟨GE136, ⟨⟩⟩ hb
  clear BK136
  clear HB
  have BK136 := n0_
  have HB := n1_
  clear n0_ n1_
  (try clear hb)
  (try clear hb2)
  (try clear hk)
  (try clear hi)
  refine hK.out _ _ ⟨bc0 BK136, bc1 BK136, bc2 BK136, bc3 BK136, bc4 BK136⟩ (fun hHeld => ?_)
  clear hK K
  refine norm_ (a' := ?_) ?_ ?_
  rotate_left
  · show Act.put _ (some 25) _ = _
    simp only [Act.put, lists_, i64_w, i32_w]
    rfl
  refine pu_ 16 (some 26) mkPx4_17 HT_ ?_ rfl rfl (by kernel_rfl) (fun _ _ _ h => h) (Or.inl ⟨by rfl, ?_⟩) ?_ ?_ ?_
  rotate_left
  · intro w'
    go_simp
    with_reducible rfl
  rotate_left
  · simp only [Act.put, lists_, i64_w, i32_w]
    rfl
  refine one_ (i := 17) (N := some 27) mkPx4_18 rfl rfl (one_of HT_.out (by kernel_rfl)) (by decide) (fun K hK => ?_)
  refine goes_ Try.func18 (by kernel_rfl) rfl #[.string ((((t138 ++ t139) ++ t140) ++ x4_3) ++ t141)] (by rfl) rfl rfl (by (try simp only [maps_]); first | done | rfl) ?_
  with_reducible refine (seal_Seal.calls kj3 ((((t138 ++ t139) ++ t140) ++ x4_3) ++ t141) t142 _ A18.out).mono ?_
  rintro e w24 ⟨rfl, hb⟩
  refine ⟨_, rfl, ?_⟩
  have n0_ := bb_ BK136 hb
  have n1_ := bl_ [gb136] HB ⟨GE136, ⟨⟩⟩ hb
  clear BK136
  clear HB
  have BK136 := n0_
  have HB := n1_
  clear n0_ n1_
  (try clear hb)
  (try clear hb2)
  (try clear hk)
  (try clear hi)
  refine hK.out _ _ ⟨bc0 BK136, bc1 BK136, bc2 BK136, bc3 BK136, bc4 BK136⟩ (fun hHeld => ?_)
  clear hK K
  refine norm_ (a' := ?_) ?_ ?_
  rotate_left
  · show Act.put _ (some 27) _ = _
    simp only [Act.put, lists_, i64_w, i32_w]
    rfl
  refine pu_ 18 (some 2) mkPx4_19 HT_ ?_ rfl rfl (by kernel_rfl) (fun _ _ _ h => h) (Or.inl ⟨by rfl, ?_⟩) ?_ ?_ ?_
  rotate_left
  · intro w'
    go_simp
    with_reducible rfl
  rotate_left
  · simp only [Act.put, lists_, i64_w, i32_w]
    rfl
  refine pu_ 19 (some 3) mkPx4_20 HT_ ?_ rfl rfl (by kernel_rfl) (fun _ _ _ h => h) (Or.inl ⟨by rfl, ?_⟩) ?_ ?_ ?_
  rotate_left
  · intro w'
    go_simp
    with_reducible rfl
  rotate_left
  · simp only [Act.put, lists_, i64_w, i32_w]
    rfl
  refine done_ (done_of HT_.out (by kernel_rfl)) ?_
  try go_wp2
  go_ret2
  exact ⟨by first | rfl | (simp [*, errW_none, errW_some] <;> rfl), gwl_ [gb136] HB ⟨GE136, ⟨⟩⟩⟩

/-! ### cell_TakeNum: function 42 -/
mutual
def cell_TakeNum.j0 : Nat → ByteArray → Int → Option (Int × Int × Int)
  | 0, _, _ => none
  | k + 1, x0, x5 => cell_TakeNum.l0 k x0 x5 0 (x0.size : Int) 0
def cell_TakeNum.l0 : Nat → ByteArray → Int → Int → Int → Int → Option (Int × Int × Int)
  | 0, _, _, _, _, _ => none
  | k + 1, x0, x5, x6, x30, x31 => if x31 < x30 then (if x31 = 0 then (cell_TakeNum.l0 k x0 x5 x6 x30 (wrap64 (x31 + 1))) else (if x31 > x5 then (if x6 > 9223372036854775807 then (some (0, 0, 10)) else (some (wrap64 (x6), wrap64 (x5 + 1), 0))) else (if 0 ≤ x31 then (if x31 < (x0.size : Int) then (cell_TakeNum.l0 k x0 x5 (IntKind.u64.wrap ((IntKind.u64.wrap (x6 * 256)) + (IntKind.u64.wrap (bt x0 x31)))) x30 (wrap64 (x31 + 1))) else (none)) else (none)))) else (if x6 > 9223372036854775807 then (some (0, 0, 10)) else (some (wrap64 (x6), wrap64 (x5 + 1), 0)))
end
def cell_TakeNum.f (k : Nat) (a0 : ByteArray) : Option (Int × Int × Int) := if a0.toList = ([] : List UInt8) then (some (0, 0, 12)) else (if 0 < (a0.size : Int) then (if (wrap64 (bt a0 0)) > 8 then (some (0, 0, 10)) else (if (a0.size : Int) ≤ (wrap64 (bt a0 0)) then (some (0, 0, 12)) else (if (wrap64 (bt a0 0)) > 0 then (if 1 < (a0.size : Int) then (if (bt a0 1) = 0 then (some (0, 0, 10)) else (cell_TakeNum.j0 k a0 (wrap64 (bt a0 0)))) else (none)) else (cell_TakeNum.j0 k a0 (wrap64 (bt a0 0)))))) else (none))
theorem cell_TakeNum.mono_l : ∀ k, (∀ y0 y1, LeO (cell_TakeNum.j0 k y0 y1) (cell_TakeNum.j0 (k + 1) y0 y1)) ∧ (∀ y0 y1 y2 y3 y4, LeO (cell_TakeNum.l0 k y0 y1 y2 y3 y4) (cell_TakeNum.l0 (k + 1) y0 y1 y2 y3 y4))
  | 0 => ⟨fun _ _ r h => by simp [cell_TakeNum.j0] at h, fun _ _ _ _ _ r h => by simp [cell_TakeNum.l0] at h⟩
  | k + 1 => by
    obtain ⟨ih0, ih1⟩ := cell_TakeNum.mono_l k
    refine ⟨?_, ?_⟩
    all_goals
      intros
      first | unfold cell_TakeNum.j0 | unfold cell_TakeNum.l0
      repeat' first
      | (with_reducible exact ih0 _ _)
      | (with_reducible exact ih1 _ _ _ _ _)
      | (with_reducible exact LeO.refl _)
      | (with_reducible exact LeO.none _)
      | (with_reducible refine LeO.ite ?_ ?_)
      | (with_reducible refine LeO.bind ?_ (fun _ => ?_))
      | exact ih0 _ _
      | exact ih1 _ _ _ _ _
      | exact LeO.none _
      | refine LeO.ite ?_ ?_
      | refine LeO.bind ?_ (fun _ => ?_)
theorem cell_TakeNum.mono : ∀ a0 k, LeO (cell_TakeNum.f k a0) (cell_TakeNum.f (k + 1) a0) := by
  intro a0 k
  obtain ⟨ih0, ih1⟩ := cell_TakeNum.mono_l k
  unfold cell_TakeNum.f
  repeat' first
      | (with_reducible exact ih0 _ _)
      | (with_reducible exact ih1 _ _ _ _ _)
      | (with_reducible exact LeO.refl _)
      | (with_reducible exact LeO.none _)
      | (with_reducible refine LeO.ite ?_ ?_)
      | (with_reducible refine LeO.bind ?_ (fun _ => ?_))
      | exact ih0 _ _
      | exact ih1 _ _ _ _ _
      | exact LeO.none _
      | refine LeO.ite ?_ ?_
      | refine LeO.bind ?_ (fun _ => ?_)
set_option maxHeartbeats 8000000 in
set_option maxRecDepth 100000 in
theorem cell_TakeNum.calls (k : Nat) (a0 : ByteArray) (r1 : Int) (r2 : Int) (r3 : Int) (w : World) (h : cell_TakeNum.f k a0 = some (r1, r2, r3)) :
    Calls Try.prog 42 #[.string a0] w fun e w' => e = .returned (.tuple #[.int .i64 r1, .int .i64 r2, .int .i64 r3]) ∧ Drawn0 w w' := by
  have H : (if a0.toList = ([] : List UInt8) then (some (0, 0, 12)) else (if 0 < (a0.size : Int) then (if (wrap64 (bt a0 0)) > 8 then (some (0, 0, 10)) else (if (a0.size : Int) ≤ (wrap64 (bt a0 0)) then (some (0, 0, 12)) else (if (wrap64 (bt a0 0)) > 0 then (if 1 < (a0.size : Int) then (if (bt a0 1) = 0 then (some (0, 0, 10)) else (cell_TakeNum.j0 k a0 (wrap64 (bt a0 0)))) else (none)) else (cell_TakeNum.j0 k a0 (wrap64 (bt a0 0)))))) else (none))) = some (r1, r2, r3) := h
  clear h
  by_cases c2 : a0.toList = ([] : List UInt8)
  · rw [if_pos c2] at H
    have c2b0 : (a0.toList == ([] : List UInt8)) = true := beq_iff_eq.mpr c2
    have c2b1 : (a0.toList != ([] : List UInt8)) = false := bne_eq_false_iff_eq.mpr c2
    clear c2
    simp only [Option.some.injEq, Prod.mk.injEq] at H
    obtain ⟨rfl, rfl, rfl⟩ := H
    go_enter Try.func42, Try.ntmps42
    go_wp2_with (first | go_step3 | go_in)
    ((try rw [Exit.noGoto_ret]); go_ret3)
    exact ⟨by first | rfl | (simp; done) | (simp [*]; done), by repeat (first | exact Drawn0.refl _ | apply Drawn0.step)⟩
  rw [if_neg c2] at H
  have c2b0 : (a0.toList == ([] : List UInt8)) = false := beq_eq_false_iff_ne.mpr c2
  have c2b1 : (a0.toList != ([] : List UInt8)) = true := bne_iff_ne.mpr c2
  by_cases c3 : 0 < (a0.size : Int)
  rotate_left
  · rw [if_neg c3] at H
    exact absurd H (by simp)
  rw [if_pos c3] at H
  have c3b0 : decide (0 < (a0.size : Int)) = true := decide_eq_true c3
  have c3b1 : decide (0 < a0.size) = true := decide_eq_true (by omega)
  clear c3
  have HC5 := Aside0.mk H
  clear H
  have p4 : 0 ≤ (0 : Int) := (by omega)
  have q4 : 0 < a0.size := (by have : (0 : Int) < (a0.size : Int) := of_decide_eq_true (by assumption); omega)
  have hx4 : ∀ h : 0 < a0.size, ((a0[0]'h).toNat : Int) = bt a0 0 := bt_at a0 0
  clear p4
  have qi4 : (0 < (a0.size : Int)) = True := eq_true (of_decide_eq_true (by assumption))
  replace q4 := eq_true q4
  go_enter Try.func42, Try.ntmps42
  go_upto_block 0 with go_step3
  go_cut [] (fun wc => ∃ (kq : Nat), Aside0 (cell_TakeNum.j0 kq a0 (wrap64 (bt a0 0)) = some (r1, r2, r3)) ∧ Aside0 (kq ≤ k) ∧ Drawn0 w wc)
  case first =>
    have H := HC5.out
    clear HC5
    by_cases c6 : (wrap64 (bt a0 0)) > 8
    · rw [if_pos c6] at H
      have c6b0 : decide (8 < (wrap64 (bt a0 0))) = true := decide_eq_true c6
      clear c6
      (first | rw [c6b0] | (simp only [i64_w, i32_w]; rw [c6b0]) | skip)
      simp only [Option.some.injEq, Prod.mk.injEq] at H
      obtain ⟨rfl, rfl, rfl⟩ := H
      go_wp2_with (first | go_step3 | go_in)
      ((try rw [Exit.noGoto_ret]); go_ret3)
      exact ⟨by first | rfl | (simp; done) | (simp [*]; done), by repeat (first | exact Drawn0.refl _ | apply Drawn0.step)⟩
    rw [if_neg c6] at H
    have c6b0 : decide (8 < (wrap64 (bt a0 0))) = false := decide_eq_false c6
    clear c6
    (first | rw [c6b0] | (simp only [i64_w, i32_w]; rw [c6b0]) | skip)
    by_cases c7 : (a0.size : Int) ≤ (wrap64 (bt a0 0))
    · rw [if_pos c7] at H
      have c7b0 : decide ((a0.size : Int) ≤ (wrap64 (bt a0 0))) = true := decide_eq_true c7
      clear c7
      simp only [Option.some.injEq, Prod.mk.injEq] at H
      obtain ⟨rfl, rfl, rfl⟩ := H
      go_wp2_with (first | go_step3 | go_in)
      ((try rw [Exit.noGoto_ret]); go_ret3)
      exact ⟨by first | rfl | (simp; done) | (simp [*]; done), by repeat (first | exact Drawn0.refl _ | apply Drawn0.step)⟩
    rw [if_neg c7] at H
    have c7b0 : decide ((a0.size : Int) ≤ (wrap64 (bt a0 0))) = false := decide_eq_false c7
    clear c7
    by_cases c8 : (wrap64 (bt a0 0)) > 0
    rotate_left
    · rw [if_neg c8] at H
      have c8b0 : decide (0 < (wrap64 (bt a0 0))) = false := decide_eq_false c8
      clear c8
      have H' := Aside0.mk H
      clear H
      go_wp2_with (first | go_step3 | go_in)
      go_meet
      case rel => exact ⟨_, H', ⟨by first | omega | exact Nat.le_refl _⟩, by repeat (first | exact Drawn0.refl _ | apply Drawn0.step)⟩
    rw [if_pos c8] at H
    have c8b0 : decide (0 < (wrap64 (bt a0 0))) = true := decide_eq_true c8
    clear c8
    by_cases c9 : 1 < (a0.size : Int)
    rotate_left
    · rw [if_neg c9] at H
      exact absurd H (by simp)
    rw [if_pos c9] at H
    have c9b0 : decide (1 < (a0.size : Int)) = true := decide_eq_true c9
    have c9b1 : decide (1 < a0.size) = true := decide_eq_true (by omega)
    clear c9
    by_cases c11 : (bt a0 1) = 0
    rotate_left
    · rw [if_neg c11] at H
      have c11b0 : ((bt a0 1) == 0) = false := beq_eq_false_iff_ne.mpr c11
      have c11b1 : ((bt a0 1) != 0) = true := bne_iff_ne.mpr c11
      have H' := Aside0.mk H
      clear H
      have p10 : 0 ≤ (1 : Int) := (by omega)
      have q10 : 1 < a0.size := (by have : (1 : Int) < (a0.size : Int) := of_decide_eq_true (by assumption); omega)
      have hx10 : ∀ h : 1 < a0.size, ((a0[1]'h).toNat : Int) = bt a0 1 := bt_at a0 1
      clear p10
      have qi10 : (1 < (a0.size : Int)) = True := eq_true (of_decide_eq_true (by assumption))
      replace q10 := eq_true q10
      go_wp2_with (first | go_step3 | go_in)
      go_meet
      case rel => exact ⟨_, H', ⟨by first | omega | exact Nat.le_refl _⟩, by repeat (first | exact Drawn0.refl _ | apply Drawn0.step)⟩
    rw [if_pos c11] at H
    have c11b0 : ((bt a0 1) == 0) = true := beq_iff_eq.mpr c11
    have c11b1 : ((bt a0 1) != 0) = false := bne_eq_false_iff_eq.mpr c11
    clear c11
    simp only [Option.some.injEq, Prod.mk.injEq] at H
    obtain ⟨rfl, rfl, rfl⟩ := H
    have p10 : 0 ≤ (1 : Int) := (by omega)
    have q10 : 1 < a0.size := (by have : (1 : Int) < (a0.size : Int) := of_decide_eq_true (by assumption); omega)
    have hx10 : ∀ h : 1 < a0.size, ((a0[1]'h).toNat : Int) = bt a0 1 := bt_at a0 1
    clear p10
    have qi10 : (1 < (a0.size : Int)) = True := eq_true (of_decide_eq_true (by assumption))
    replace q10 := eq_true q10
    go_wp2_with (first | go_step3 | go_in)
    ((try rw [Exit.noGoto_ret]); go_ret3)
    exact ⟨by first | rfl | (simp; done) | (simp [*]; done), by repeat (first | exact Drawn0.refl _ | apply Drawn0.step)⟩
  clear HC5
  try clear c1
  try clear p1
  try clear q1
  try clear hx1
  try clear qi1
  try clear c2
  try clear c2b0
  try clear c2b1
  try clear p2
  try clear c3
  try clear c3b0
  try clear c3b1
  try clear p3
  try clear c4
  try clear p4
  try clear q4
  try clear hx4
  try clear qi4
  try clear c6
  try clear c6b0
  try clear p6
  try clear c7
  try clear c7b0
  try clear c8
  try clear c8b0
  try clear c9
  try clear c9b0
  try clear c9b1
  try clear p10
  try clear q10
  try clear hx10
  try clear qi10
  try clear c11
  try clear c11b0
  try clear c11b1
  try clear p10
  try clear p4
  try clear q10
  try clear q4
  obtain ⟨kq, HA, HJ4, ⟨mc4, rfl⟩⟩ := hcut
  cases kq with
  | zero => exact absurd HA.out (by simp [cell_TakeNum.j0])
  | succ kj4 => ?_
  have H := HA.out
  clear HA
  simp only [cell_TakeNum.j0] at H
  have H' := Aside0.mk H
  clear H
  go_wp2_with (first | go_step3 | go_in)
  go_loopg [6, 31] kj4 (fun kq v6 v31 w' => ∃ (x6_2 : Int) (x31_2 : Int), v6 = .int .u64 x6_2 ∧ v31 = .int .i64 x31_2 ∧ Aside0 (cell_TakeNum.l0 kq a0 (wrap64 (bt a0 0)) x6_2 (a0.size : Int) x31_2 = some (r1, r2, r3)) ∧ Aside0 (kq ≤ kj4) ∧ Drawn0 w w')
  case atStart => exact ⟨(0), (0), (by first | rfl | (simp; done) | (simp [*]; done)), (by first | rfl | (simp; done) | (simp [*]; done)), H', ⟨Nat.le_refl _⟩, by repeat (first | exact Drawn0.refl _ | apply Drawn0.step)⟩
  clear H'
  try clear c1
  try clear p1
  try clear q1
  try clear hx1
  try clear qi1
  try clear c2
  try clear c2b0
  try clear c2b1
  try clear p2
  try clear c3
  try clear c3b0
  try clear c3b1
  try clear p3
  try clear c4
  try clear p4
  try clear q4
  try clear hx4
  try clear qi4
  try clear c6
  try clear c6b0
  try clear p6
  try clear c7
  try clear c7b0
  try clear c8
  try clear c8b0
  try clear c9
  try clear c9b0
  try clear c9b1
  try clear p10
  try clear q10
  try clear hx10
  try clear qi10
  try clear c11
  try clear c11b0
  try clear c11b1
  try clear p1
  try clear p10
  try clear p2
  try clear p3
  try clear p4
  try clear p6
  try clear q1
  try clear q10
  try clear q4
  obtain ⟨x6_2, x31_2, rfl, rfl, HA, HK2, ⟨m2, rfl⟩⟩ := hrel
  cases gk with
  | zero => exact absurd HA.out (by simp [cell_TakeNum.l0])
  | succ k2 => ?_
  have H := HA.out
  clear HA
  simp only [cell_TakeNum.l0] at H
  by_cases c12 : x31_2 < (a0.size : Int)
  rotate_left
  · rw [if_neg c12] at H
    have c12b0 : decide (x31_2 < (a0.size : Int)) = false := decide_eq_false c12
    clear c12
    by_cases c19 : x6_2 > 9223372036854775807
    · rw [if_pos c19] at H
      have c19b0 : decide (9223372036854775807 < x6_2) = true := decide_eq_true c19
      clear c19
      simp only [Option.some.injEq, Prod.mk.injEq] at H
      obtain ⟨rfl, rfl, rfl⟩ := H
      go_wp2_with (first | go_step3 | go_in)
      ((try rw [Exit.noGoto_ret]); go_ret3)
      exact ⟨by first | rfl | (simp; done) | (simp [*]; done), by repeat (first | exact Drawn0.refl _ | apply Drawn0.step)⟩
    rw [if_neg c19] at H
    have c19b0 : decide (9223372036854775807 < x6_2) = false := decide_eq_false c19
    clear c19
    simp only [Option.some.injEq, Prod.mk.injEq] at H
    obtain ⟨rfl, rfl, rfl⟩ := H
    go_wp2_with (first | go_step3 | go_in)
    ((try rw [Exit.noGoto_ret]); go_ret3)
    exact ⟨by first | rfl | (simp; done) | (simp [*]; done), by repeat (first | exact Drawn0.refl _ | apply Drawn0.step)⟩
  rw [if_pos c12] at H
  have c12b0 : decide (x31_2 < (a0.size : Int)) = true := decide_eq_true c12
  clear c12
  by_cases c13 : x31_2 = 0
  · rw [if_pos c13] at H
    have c13b0 : (x31_2 == 0) = true := beq_iff_eq.mpr c13
    have c13b1 : (x31_2 != 0) = false := bne_eq_false_iff_eq.mpr c13
    clear c13
    have H' := Aside0.mk H
    clear H
    go_wp2_with (first | go_step3 | go_in)
    go_roundg k2
    case measure => have := HJ4.out; have := HK2.out; omega
    case rel => exact ⟨(x6_2), (wrap64 (x31_2 + 1)), (by first | rfl | (simp; done) | (simp [*]; done)), (by first | rfl | (simp; done) | (simp [*]; done)), H', ⟨by have := HJ4.out; have := HK2.out; omega⟩, by repeat (first | exact Drawn0.refl _ | apply Drawn0.step)⟩
  rw [if_neg c13] at H
  have c13b0 : (x31_2 == 0) = false := beq_eq_false_iff_ne.mpr c13
  have c13b1 : (x31_2 != 0) = true := bne_iff_ne.mpr c13
  by_cases c14 : x31_2 > (wrap64 (bt a0 0))
  · rw [if_pos c14] at H
    have c14b0 : decide ((wrap64 (bt a0 0)) < x31_2) = true := decide_eq_true c14
    clear c14
    by_cases c15 : x6_2 > 9223372036854775807
    · rw [if_pos c15] at H
      have c15b0 : decide (9223372036854775807 < x6_2) = true := decide_eq_true c15
      clear c15
      simp only [Option.some.injEq, Prod.mk.injEq] at H
      obtain ⟨rfl, rfl, rfl⟩ := H
      go_wp2_with (first | go_step3 | go_in)
      ((try rw [Exit.noGoto_ret]); go_ret3)
      exact ⟨by first | rfl | (simp; done) | (simp [*]; done), by repeat (first | exact Drawn0.refl _ | apply Drawn0.step)⟩
    rw [if_neg c15] at H
    have c15b0 : decide (9223372036854775807 < x6_2) = false := decide_eq_false c15
    clear c15
    simp only [Option.some.injEq, Prod.mk.injEq] at H
    obtain ⟨rfl, rfl, rfl⟩ := H
    go_wp2_with (first | go_step3 | go_in)
    ((try rw [Exit.noGoto_ret]); go_ret3)
    exact ⟨by first | rfl | (simp; done) | (simp [*]; done), by repeat (first | exact Drawn0.refl _ | apply Drawn0.step)⟩
  rw [if_neg c14] at H
  have c14b0 : decide ((wrap64 (bt a0 0)) < x31_2) = false := decide_eq_false c14
  clear c14
  by_cases c16 : 0 ≤ x31_2
  rotate_left
  · rw [if_neg c16] at H
    exact absurd H (by simp)
  rw [if_pos c16] at H
  have c16b0 : decide (0 ≤ x31_2) = true := decide_eq_true c16
  clear c16
  by_cases c17 : x31_2 < (a0.size : Int)
  rotate_left
  · rw [if_neg c17] at H
    exact absurd H (by simp)
  rw [if_pos c17] at H
  have c17b0 : decide (x31_2 < (a0.size : Int)) = true := decide_eq_true c17
  clear c17
  have H' := Aside0.mk H
  clear H
  have p18 : 0 ≤ (x31_2 : Int) := of_decide_eq_true (by assumption)
  have q18 : x31_2 < (a0.size : Int) := of_decide_eq_true (by assumption)
  have hx18 := bt_at a0 x31_2
  replace p18 := eq_true p18
  replace q18 := eq_true q18
  go_wp2_with (first | go_step3 | go_in)
  go_roundg k2
  case measure => have := HJ4.out; have := HK2.out; omega
  case rel => exact ⟨(IntKind.u64.wrap ((IntKind.u64.wrap (x6_2 * 256)) + (IntKind.u64.wrap (bt a0 x31_2)))), (wrap64 (x31_2 + 1)), (by first | rfl | (simp; done) | (simp [*]; done)), (by first | rfl | (simp; done) | (simp [*]; done)), H', ⟨by have := HJ4.out; have := HK2.out; omega⟩, by repeat (first | exact Drawn0.refl _ | apply Drawn0.step)⟩

end Go.Proofs.Ytkmbgihfdfgmgaa.P
