-- Printed by a changed copy of the kit's printer (wip/tools/ext.py); labels and more
import Derived.Test.YtdkdnfgpgedglaaQShort
import Derived.Test.YtdkdnfgpgedglaaPx0
namespace Go.Proofs.Ytdkdnfgpgedglaa.P
open Go.RowKit Go.Proofs.YtdkdnfgpgedglaaW.PrintWords Go.Proofs.YtdkdnfgpgedglaaW.PrintLast Go.Proofs.YtdkdnfgpgedglaaW.PrintMore
attribute [local go_sem] max2_int min2_int max_two min_two max_three min_three max_four min_four   -- for this text's walks alone
attribute [local go_sem high] string_leq string_geq string_gtr
set_option linter.unusedVariables false
set_option linter.unusedSimpArgs false

/-! ### ravelinref6_Range: function 19 -/
def ravelinref6_Range.l0 : Nat → List (S29) → ByteArray → ByteArray → List (S29) → Int → Option ((List (S29)))
  | 0, _, _, _, _, _ => none
  | k + 1, x0, x1, x2, x7, x8 => if x8 < (x0.length : Int) then (if 0 ≤ x8 then (if ((Op.bytesLess (((rd_T29 x0 x8).f0).toList) x1.toList) = true) then (ravelinref6_Range.l0 k x0 x1 x2 x7 (wrap64 (x8 + 1))) else (if x2.toList = ([] : List UInt8) then (if x7.length < 2932031007402 then (ravelinref6_Range.l0 k x0 x1 x2 (x7 ++ [(⟨(rd_T29 x0 x8).f0, (rd_T29 x0 x8).f1, (rd_T29 x0 x8).f2, (rd_T29 x0 x8).f3⟩ : S29)]) (wrap64 (x8 + 1))) else (none)) else (if (Op.bytesLess (((rd_T29 x0 x8).f0).toList) x2.toList) = true then (if x7.length < 2932031007402 then (ravelinref6_Range.l0 k x0 x1 x2 (x7 ++ [(⟨(rd_T29 x0 x8).f0, (rd_T29 x0 x8).f1, (rd_T29 x0 x8).f2, (rd_T29 x0 x8).f3⟩ : S29)]) (wrap64 (x8 + 1))) else (none)) else (ravelinref6_Range.l0 k x0 x1 x2 x7 (wrap64 (x8 + 1)))))) else (none)) else (some x7)
def ravelinref6_Range.f (k : Nat) (l0 : List (S29)) (a1 : ByteArray) (a2 : ByteArray) : Option ((List (S29))) := ravelinref6_Range.l0 k l0 a1 a2 ([] : List (S29)) 0
theorem ravelinref6_Range.mono_l : ∀ k, (∀ y0 y1 y2 y3 y4, LeO (ravelinref6_Range.l0 k y0 y1 y2 y3 y4) (ravelinref6_Range.l0 (k + 1) y0 y1 y2 y3 y4))
  | 0 => fun _ _ _ _ _ r h => by simp [ravelinref6_Range.l0] at h
  | k + 1 => by
    have ih0 := ravelinref6_Range.mono_l k
    · intro y0 y1 y2 y3 y4
      unfold ravelinref6_Range.l0
      repeat' first
      | (with_reducible exact ih0 _ _ _ _ _)
      | (with_reducible exact LeO.refl _)
      | (with_reducible exact LeO.none _)
      | (with_reducible refine LeO.ite ?_ ?_)
      | (with_reducible refine LeO.bind ?_ (fun _ => ?_))
      | exact ih0 _ _ _ _ _
      | exact LeO.none _
      | refine LeO.ite ?_ ?_
      | refine LeO.bind ?_ (fun _ => ?_)
theorem ravelinref6_Range.mono : ∀ a0 a1 a2 k, LeO (ravelinref6_Range.f k a0 a1 a2) (ravelinref6_Range.f (k + 1) a0 a1 a2) := by
  intro a0 a1 a2 k
  have ih0 := ravelinref6_Range.mono_l k
  unfold ravelinref6_Range.f
  repeat' first
      | (with_reducible exact ih0 _ _ _ _ _)
      | (with_reducible exact LeO.refl _)
      | (with_reducible exact LeO.none _)
      | (with_reducible refine LeO.ite ?_ ?_)
      | (with_reducible refine LeO.bind ?_ (fun _ => ?_))
      | exact ih0 _ _ _ _ _
      | exact LeO.none _
      | refine LeO.ite ?_ ?_
      | refine LeO.bind ?_ (fun _ => ?_)
set_option maxHeartbeats 8000000 in
set_option maxRecDepth 100000 in
theorem ravelinref6_Range.calls (k : Nat) (A0 : Option Addr) (c0 : Nat) (l0 : List (S29)) (a1 : ByteArray) (a2 : ByteArray) (r : List (S29)) (w : World) (hr0 : Kd.C k29 w A0 l0.length l0) (hc0 : l0.length ≤ c0) (h : ravelinref6_Range.f k l0 a1 a2 = some r) :
    Calls Try.prog 19 #[.slice A0 l0.length c0, .string a1, .string a2] w fun e w' => ∃ v0_ : Value, e = .returned (v0_) ∧ Kd.R k29 29 w' w.heap.size (fun _ => True) v0_ r ∧ Below w.heap.size w w' := by
  have hu29 := Try.underlying29
  have HR0 := Aside0.mk hr0
  have HC0 := Aside0.mk hc0
  clear hr0 hc0
  have HB := Aside0.mk (Below.refl w.heap.size w)
  have H : (ravelinref6_Range.l0 k l0 a1 a2 ([] : List (S29)) 0) = some r := h
  clear h
  have H' := Aside0.mk H
  clear H
  go_enter Try.func19, Try.ntmps19
  go_wp2
  go_loopg [7, 8] k (fun kq v7 v8 w' => ∃ (x7_1 : List (S29)) (x8_1 : Int), v8 = .int .i64 x8_1 ∧ Aside0 (ravelinref6_Range.l0 kq l0 a1 a2 x7_1 x8_1 = some r) ∧ Aside0 (kq ≤ k) ∧ Aside0 (Kd.R k29 29 w' w.heap.size (fun _ => True) v7 x7_1) ∧ Aside0 (Below w.heap.size w w'))
  case atStart => exact ⟨(([] : List (S29))), (0), (by first | rfl | (simp; done) | (simp [*]; done)), H', ⟨Nat.le_refl _⟩, ⟨by first | exact Kd.R_nil _ _ _ _ _ | exact Kd.N_nil _ _ _ _ _ | exact Kd.V_nil _ _ _ _ _ | exact Kd.Q_nil _ _ _ _ _ | exact Kd.S_nil _ _ _ _ _⟩, ⟨gw_ HB⟩⟩
  clear H'
  try clear c1
  try clear p2
  obtain ⟨x7_1, x8_1, rfl, HA, HK1, HO_7, HB⟩ := hrel
  cases gk with
  | zero => exact absurd HA.out (by simp [ravelinref6_Range.l0])
  | succ k1 => ?_
  have H := HA.out
  clear HA
  simp only [ravelinref6_Range.l0] at H
  by_cases c4 : x8_1 < (l0.length : Int)
  rotate_left
  · rw [if_neg c4] at H
    have c4b0 : decide (x8_1 < (l0.length : Int)) = false := decide_eq_false c4
    clear c4
    obtain rfl := Option.some.inj H
    go_wp2
    go_ret
    exact ⟨_, by first | rfl | (simp [*, errW_none, errW_some] <;> rfl), by (with_reducible repeat (first | apply Kd.R_alloc | apply Kd.R_drewN | apply Kd.R_drew)); exact HO_7.out, gw_ HB⟩
  rw [if_pos c4] at H
  have c4b0 : decide (x8_1 < (l0.length : Int)) = true := decide_eq_true c4
  clear c4
  by_cases c5 : 0 ≤ x8_1
  rotate_left
  · rw [if_neg c5] at H
    exact absurd H (by simp)
  rw [if_pos c5] at H
  have c5b0 : decide (0 ≤ x8_1) = true := decide_eq_true c5
  clear c5
  by_cases c6 : ((Op.bytesLess (((rd_T29 l0 x8_1).f0).toList) a1.toList) = true)
  · rw [if_pos c6] at H
    have c6b0 : (Op.bytesLess (((rd_T29 l0 x8_1).f0).toList) a1.toList) = true := c6
    clear c6
    have H' := Aside0.mk H
    clear H
    have p195 : 0 ≤ (x8_1 : Int) := of_decide_eq_true (by assumption)
    have q195 : x8_1 < (l0.length : Int) := of_decide_eq_true (by assumption)
    obtain ⟨ad195, e195, hx195_0, hx195_1, hx195_2, hx195_3⟩ := at_T29 HR0.out x8_1 p195 q195
    cases e195
    replace hx195_0 := hc_ HB hx195_0
    replace hx195_1 := hc_ HB hx195_1
    replace hx195_2 := hc_ HB hx195_2
    replace hx195_3 := hc_ HB hx195_3
    replace p195 := eq_true p195
    replace q195 := eq_true q195
    go_wp2
    go_roundg k1
    case measure => have := HK1.out; omega
    case rel => exact ⟨(x7_1), (wrap64 (x8_1 + 1)), (by first | rfl | (simp; done) | (simp [*]; done)), H', ⟨by have := HK1.out; omega⟩, ⟨by (with_reducible repeat (first | apply Kd.R_alloc | apply Kd.R_drewN | apply Kd.R_drew)); exact HO_7.out⟩, ⟨gw_ HB⟩⟩
  rw [if_neg c6] at H
  have c6b0 : (Op.bytesLess (((rd_T29 l0 x8_1).f0).toList) a1.toList) = false := by simpa using c6
  clear c6
  by_cases c7 : a2.toList = ([] : List UInt8)
  · rw [if_pos c7] at H
    have c7b0 : (a2.toList == ([] : List UInt8)) = true := beq_iff_eq.mpr c7
    have c7b1 : (a2.toList != ([] : List UInt8)) = false := bne_eq_false_iff_eq.mpr c7
    clear c7
    by_cases c8 : x7_1.length < 2932031007402
    rotate_left
    · rw [if_neg c8] at H
      exact absurd H (by simp)
    rw [if_pos c8] at H
    have LMc8 := Aside0.mk c8
    clear c8
    obtain ⟨y197, hy197⟩ : ∃ y_ : List (S29), y_ = (x7_1 ++ [(⟨(rd_T29 l0 x8_1).f0, (rd_T29 l0 x8_1).f1, (rd_T29 l0 x8_1).f2, (rd_T29 l0 x8_1).f3⟩ : S29)]) := ⟨_, rfl⟩
    replace H : (ravelinref6_Range.l0 k1 l0 a1 a2 y197 (wrap64 (x8_1 + 1))) = some r := by first | (rw [hy197]; with_reducible exact H) | (have H2_ := (Option.bind_some _ _).symm.trans H; rw [hy197]; with_reducible exact H2_) | (have H2_ := (Option.bind_some _ _).symm.trans H; with_reducible exact H2_) | with_reducible exact H | (rw [hy197]; exact H) | exact H
    have Ny197 := Aside0.mk hy197
    clear hy197
    have H' := Aside0.mk H
    clear H
    have p195 : 0 ≤ (x8_1 : Int) := of_decide_eq_true (by assumption)
    have q195 : x8_1 < (l0.length : Int) := of_decide_eq_true (by assumption)
    obtain ⟨ad195, e195, hx195_0, hx195_1, hx195_2, hx195_3⟩ := at_T29 HR0.out x8_1 p195 q195
    cases e195
    replace hx195_0 := hc_ HB hx195_0
    replace hx195_1 := hc_ HB hx195_1
    replace hx195_2 := hc_ HB hx195_2
    replace hx195_3 := hc_ HB hx195_3
    replace p195 := eq_true p195
    replace q195 := eq_true q195
    have p196 : 0 ≤ (x8_1 : Int) := of_decide_eq_true (by assumption)
    have q196 : x8_1 < (l0.length : Int) := of_decide_eq_true (by assumption)
    obtain ⟨ad196, e196, hx196_0, hx196_1, hx196_2, hx196_3⟩ := at_T29 HR0.out x8_1 p196 q196
    obtain rfl : ad195 = ad196 := (by injection e196)
    replace hx196_0 := hc_ HB hx196_0
    replace hx196_1 := hc_ HB hx196_1
    replace hx196_2 := hc_ HB hx196_2
    replace hx196_3 := hc_ HB hx196_3
    replace p196 := eq_true p196
    replace q196 := eq_true q196
    go_wp2_with (first | ((with_reducible refine gate_builtin (b := .append) (xs := #[.tmp 35, .tmp 40]) rfl ?_); at_builtin; refine Kd.R_append k29 (w0 := w) w.heap.size rfl (.tmp 35) (.tmp 40) 22 29 (.agg #[(.string ⟨#[]⟩), (.int .i64 0), (.bool false), (.string ⟨#[]⟩)]) 48 rfl Try.underlying22 info29 rfl (by decide) (by omega) u7 x7_1 (⟨(rd_T29 l0 x8_1).f0, (rd_T29 l0 x8_1).f1, (rd_T29 l0 x8_1).f2, (rd_T29 l0 x8_1).f3⟩ : S29) [.string ((rd_T29 l0 x8_1).f0), .int .i64 ((rd_T29 l0 x8_1).f1), .bool ((rd_T29 l0 x8_1).f2), .string ((rd_T29 l0 x8_1).f3)] (fun _ => True) (fun _ => False) rfl rfl ?aP (fun _ hk => hk.elim) ?aF ?aO ?aB ?aS ?aL ?_; (case aP => exact k29_mkM _ _ _ (⟨(rd_T29 l0 x8_1).f0, (rd_T29 l0 x8_1).f1, (rd_T29 l0 x8_1).f2, (rd_T29 l0 x8_1).f3⟩ : S29)); (case aB => exact (gw_ HB)); (case aF => exact (fun _ _ => trivial)); (case aO => exact (by (with_reducible repeat (first | apply Kd.R_alloc | apply Kd.R_drewN | apply Kd.R_drew)); exact HO_7.out)); (case aS => exact (below_size (gw_ HB))); (case aL => have := LMc8.out; omega); intro v198 w9 ho hb hg hat; rw [← Ny197.out] at ho; have n0_ := Aside0.mk (hb); have n1_ := Aside0.mk (ho); clear HB; clear HO_7; have HB := n0_; have HO199 := n1_; clear n0_ n1_; clear ho hb hg hat))
    go_roundg k1
    case measure => have := HK1.out; omega
    case rel => exact ⟨(y197), (wrap64 (x8_1 + 1)), (by first | rfl | (simp; done) | (simp [*]; done)), H', ⟨by have := HK1.out; omega⟩, ⟨by (with_reducible repeat (first | apply Kd.R_alloc | apply Kd.R_drewN | apply Kd.R_drew)); exact HO199.out⟩, ⟨gw_ HB⟩⟩
  rw [if_neg c7] at H
  have c7b0 : (a2.toList == ([] : List UInt8)) = false := beq_eq_false_iff_ne.mpr c7
  have c7b1 : (a2.toList != ([] : List UInt8)) = true := bne_iff_ne.mpr c7
  by_cases c10 : (Op.bytesLess (((rd_T29 l0 x8_1).f0).toList) a2.toList) = true
  rotate_left
  · rw [if_neg c10] at H
    have c10b0 : (Op.bytesLess (((rd_T29 l0 x8_1).f0).toList) a2.toList) = false := by simpa using c10
    clear c10
    have H' := Aside0.mk H
    clear H
    have p195 : 0 ≤ (x8_1 : Int) := of_decide_eq_true (by assumption)
    have q195 : x8_1 < (l0.length : Int) := of_decide_eq_true (by assumption)
    obtain ⟨ad195, e195, hx195_0, hx195_1, hx195_2, hx195_3⟩ := at_T29 HR0.out x8_1 p195 q195
    cases e195
    replace hx195_0 := hc_ HB hx195_0
    replace hx195_1 := hc_ HB hx195_1
    replace hx195_2 := hc_ HB hx195_2
    replace hx195_3 := hc_ HB hx195_3
    replace p195 := eq_true p195
    replace q195 := eq_true q195
    have p200 : 0 ≤ (x8_1 : Int) := of_decide_eq_true (by assumption)
    have q200 : x8_1 < (l0.length : Int) := of_decide_eq_true (by assumption)
    obtain ⟨ad200, e200, hx200_0, hx200_1, hx200_2, hx200_3⟩ := at_T29 HR0.out x8_1 p200 q200
    obtain rfl : ad195 = ad200 := (by injection e200)
    replace hx200_0 := hc_ HB hx200_0
    replace hx200_1 := hc_ HB hx200_1
    replace hx200_2 := hc_ HB hx200_2
    replace hx200_3 := hc_ HB hx200_3
    replace p200 := eq_true p200
    replace q200 := eq_true q200
    go_wp2
    go_roundg k1
    case measure => have := HK1.out; omega
    case rel => exact ⟨(x7_1), (wrap64 (x8_1 + 1)), (by first | rfl | (simp; done) | (simp [*]; done)), H', ⟨by have := HK1.out; omega⟩, ⟨by (with_reducible repeat (first | apply Kd.R_alloc | apply Kd.R_drewN | apply Kd.R_drew)); exact HO_7.out⟩, ⟨gw_ HB⟩⟩
  rw [if_pos c10] at H
  have c10b0 : (Op.bytesLess (((rd_T29 l0 x8_1).f0).toList) a2.toList) = true := c10
  clear c10
  by_cases c11 : x7_1.length < 2932031007402
  rotate_left
  · rw [if_neg c11] at H
    exact absurd H (by simp)
  rw [if_pos c11] at H
  have LMc11 := Aside0.mk c11
  clear c11
  obtain ⟨y202, hy202⟩ : ∃ y_ : List (S29), y_ = (x7_1 ++ [(⟨(rd_T29 l0 x8_1).f0, (rd_T29 l0 x8_1).f1, (rd_T29 l0 x8_1).f2, (rd_T29 l0 x8_1).f3⟩ : S29)]) := ⟨_, rfl⟩
  replace H : (ravelinref6_Range.l0 k1 l0 a1 a2 y202 (wrap64 (x8_1 + 1))) = some r := by first | (rw [hy202]; with_reducible exact H) | (have H2_ := (Option.bind_some _ _).symm.trans H; rw [hy202]; with_reducible exact H2_) | (have H2_ := (Option.bind_some _ _).symm.trans H; with_reducible exact H2_) | with_reducible exact H | (rw [hy202]; exact H) | exact H
  have Ny202 := Aside0.mk hy202
  clear hy202
  have H' := Aside0.mk H
  clear H
  have p195 : 0 ≤ (x8_1 : Int) := of_decide_eq_true (by assumption)
  have q195 : x8_1 < (l0.length : Int) := of_decide_eq_true (by assumption)
  obtain ⟨ad195, e195, hx195_0, hx195_1, hx195_2, hx195_3⟩ := at_T29 HR0.out x8_1 p195 q195
  cases e195
  replace hx195_0 := hc_ HB hx195_0
  replace hx195_1 := hc_ HB hx195_1
  replace hx195_2 := hc_ HB hx195_2
  replace hx195_3 := hc_ HB hx195_3
  replace p195 := eq_true p195
  replace q195 := eq_true q195
  have p200 : 0 ≤ (x8_1 : Int) := of_decide_eq_true (by assumption)
  have q200 : x8_1 < (l0.length : Int) := of_decide_eq_true (by assumption)
  obtain ⟨ad200, e200, hx200_0, hx200_1, hx200_2, hx200_3⟩ := at_T29 HR0.out x8_1 p200 q200
  obtain rfl : ad195 = ad200 := (by injection e200)
  replace hx200_0 := hc_ HB hx200_0
  replace hx200_1 := hc_ HB hx200_1
  replace hx200_2 := hc_ HB hx200_2
  replace hx200_3 := hc_ HB hx200_3
  replace p200 := eq_true p200
  replace q200 := eq_true q200
  have p201 : 0 ≤ (x8_1 : Int) := of_decide_eq_true (by assumption)
  have q201 : x8_1 < (l0.length : Int) := of_decide_eq_true (by assumption)
  obtain ⟨ad201, e201, hx201_0, hx201_1, hx201_2, hx201_3⟩ := at_T29 HR0.out x8_1 p201 q201
  obtain rfl : ad195 = ad201 := (by injection e201)
  replace hx201_0 := hc_ HB hx201_0
  replace hx201_1 := hc_ HB hx201_1
  replace hx201_2 := hc_ HB hx201_2
  replace hx201_3 := hc_ HB hx201_3
  replace p201 := eq_true p201
  replace q201 := eq_true q201
  go_wp2_with (first | ((with_reducible refine gate_builtin (b := .append) (xs := #[.tmp 35, .tmp 40]) rfl ?_); at_builtin; refine Kd.R_append k29 (w0 := w) w.heap.size rfl (.tmp 35) (.tmp 40) 22 29 (.agg #[(.string ⟨#[]⟩), (.int .i64 0), (.bool false), (.string ⟨#[]⟩)]) 48 rfl Try.underlying22 info29 rfl (by decide) (by omega) u7 x7_1 (⟨(rd_T29 l0 x8_1).f0, (rd_T29 l0 x8_1).f1, (rd_T29 l0 x8_1).f2, (rd_T29 l0 x8_1).f3⟩ : S29) [.string ((rd_T29 l0 x8_1).f0), .int .i64 ((rd_T29 l0 x8_1).f1), .bool ((rd_T29 l0 x8_1).f2), .string ((rd_T29 l0 x8_1).f3)] (fun _ => True) (fun _ => False) rfl rfl ?aP (fun _ hk => hk.elim) ?aF ?aO ?aB ?aS ?aL ?_; (case aP => exact k29_mkM _ _ _ (⟨(rd_T29 l0 x8_1).f0, (rd_T29 l0 x8_1).f1, (rd_T29 l0 x8_1).f2, (rd_T29 l0 x8_1).f3⟩ : S29)); (case aB => exact (gw_ HB)); (case aF => exact (fun _ _ => trivial)); (case aO => exact (by (with_reducible repeat (first | apply Kd.R_alloc | apply Kd.R_drewN | apply Kd.R_drew)); exact HO_7.out)); (case aS => exact (below_size (gw_ HB))); (case aL => have := LMc11.out; omega); intro v203 w12 ho hb hg hat; rw [← Ny202.out] at ho; have n0_ := Aside0.mk (hb); have n1_ := Aside0.mk (ho); clear HB; clear HO_7; have HB := n0_; have HO204 := n1_; clear n0_ n1_; clear ho hb hg hat))
  go_roundg k1
  case measure => have := HK1.out; omega
  case rel => exact ⟨(y202), (wrap64 (x8_1 + 1)), (by first | rfl | (simp; done) | (simp [*]; done)), H', ⟨by have := HK1.out; omega⟩, ⟨by (with_reducible repeat (first | apply Kd.R_alloc | apply Kd.R_drewN | apply Kd.R_drew)); exact HO204.out⟩, ⟨gw_ HB⟩⟩

-- NOT PRINTED: function 3 (ravelinlaw10_HeapPlays)

-- NOT PRINTED: function 4 (ravelinlaw10_HeapOrders)

-- NOT PRINTED: function 5 (ravelinlaw10_HeapMany)

-- NOT PRINTED: function 6 (ravelinlaw10_HeapNumbers)

-- NOT PRINTED: function 7 (ravelinlaw10_HeapRanges)

end Go.Proofs.Ytdkdnfgpgedglaa.P
