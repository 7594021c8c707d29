-- Printed by a changed copy of the kit's printer (wip/tools/ext.py); labels and more
import Derived.Test.YtjcpdbekdimceaaM0
import Derived.Test.YtjcpdbekdimceaaM1
namespace Go.Proofs.Ytjcpdbekdimceaa.P
open Go.RowKit Go.Proofs.YtjcpdbekdimceaaW.PrintWords Go.Proofs.YtjcpdbekdimceaaW.PrintLast Go.Proofs.YtjcpdbekdimceaaW.PrintMore
attribute [local go_sem] max2_int min2_int max_two min_two max_three min_three max_four min_four   -- for this text's walks alone
attribute [local go_sem high] string_leq string_geq string_gtr
set_option linter.unusedVariables false
set_option linter.unusedSimpArgs false

/-! ### merge_groups: function 26 -/
-- by hand
mutual
def merge_groups.l0 : Nat → List (S39) → List (List (S39)) → Option ((List (List (S39))))
  | 0, _, _ => none
  | k + 1, x0, x3 => if (x0.length : Int) > 0 then (merge_groups.l1 k x0 x3 0) else (some x3)
def merge_groups.l1 : Nat → List (S39) → List (List (S39)) → Int → Option ((List (List (S39))))
  | 0, _, _, _ => none
  | k + 1, x0, x3, x4 => if x4 < (x0.length : Int) then (if 0 ≤ x4 then (if 0 < (x0.length : Int) then (if ((rd_T39 x0 x4).f0).toList = ((rd_T39 x0 0).f0).toList then (merge_groups.l1 k x0 x3 (wrap64 (x4 + 1))) else (if x4 ≤ (x0.length : Int) then (if x3.length < 5864062014805 then (merge_groups.l0 k (x0.drop (x4 : Int).toNat) (x3 ++ [(x0.take (x4 : Int).toNat)])) else (none)) else (none))) else (none)) else (none)) else (if 0 ≤ x4 then (if x4 ≤ (x0.length : Int) then (if x3.length < 5864062014805 then (merge_groups.l0 k (x0.drop (x4 : Int).toNat) (x3 ++ [(x0.take (x4 : Int).toNat)])) else (none)) else (none)) else (none))
end
def merge_groups.f (k : Nat) (l0 : List (S39)) : Option ((List (List (S39)))) := merge_groups.l0 k l0 ([] : List (List (S39)))
theorem merge_groups.mono_l : ∀ k, (∀ y0 y1, LeO (merge_groups.l0 k y0 y1) (merge_groups.l0 (k + 1) y0 y1)) ∧ (∀ y0 y1 y2, LeO (merge_groups.l1 k y0 y1 y2) (merge_groups.l1 (k + 1) y0 y1 y2))
  | 0 => ⟨fun _ _ r h => by simp [merge_groups.l0] at h, fun _ _ _ r h => by simp [merge_groups.l1] at h⟩
  | k + 1 => by
    obtain ⟨ih0, ih1⟩ := merge_groups.mono_l k
    refine ⟨?_, ?_⟩
    all_goals
      intros
      first | unfold merge_groups.l0 | unfold merge_groups.l1
      repeat' first
      | (with_reducible exact ih0 _ _)
      | (with_reducible exact ih1 _ _ _)
      | (with_reducible exact LeO.refl _)
      | (with_reducible exact LeO.none _)
      | (with_reducible refine LeO.ite ?_ ?_)
      | (with_reducible refine LeO.bind ?_ (fun _ => ?_))
      | exact ih0 _ _
      | exact ih1 _ _ _
      | exact LeO.none _
      | refine LeO.ite ?_ ?_
      | refine LeO.bind ?_ (fun _ => ?_)
theorem merge_groups.mono : ∀ a0 k, LeO (merge_groups.f k a0) (merge_groups.f (k + 1) a0) := by
  intro a0 k
  obtain ⟨ih0, ih1⟩ := merge_groups.mono_l k
  unfold merge_groups.f
  repeat' first
      | (with_reducible exact ih0 _ _)
      | (with_reducible exact ih1 _ _ _)
      | (with_reducible exact LeO.refl _)
      | (with_reducible exact LeO.none _)
      | (with_reducible refine LeO.ite ?_ ?_)
      | (with_reducible refine LeO.bind ?_ (fun _ => ?_))
      | exact ih0 _ _
      | exact ih1 _ _ _
      | exact LeO.none _
      | refine LeO.ite ?_ ?_
      | refine LeO.bind ?_ (fun _ => ?_)
/-- A slice that leads to what came in: told at the first world. -/
def SLv (w0 : World) (v : Value) (x : List S39) : Prop := ∃ A c, v = .slice A x.length c ∧ x.length ≤ c ∧ Kd.C k39 w0 A x.length x
theorem SLv_slice {w0 : World} {v : Value} {x : List S39} (h : SLv w0 v x) : ∃ A c, v = .slice A x.length c := by
  obtain ⟨A, c, h, _⟩ := h
  exact ⟨A, c, h⟩
theorem SLv_mk {w0 : World} {A : Option Addr} {c : Nat} {x : List S39} (h : x.length ≤ c) (hC : Kd.C k39 w0 A x.length x) : SLv w0 (.slice A x.length c) x := ⟨A, c, rfl, h, hC⟩
theorem SLv_reads' {w0 : World} {A : Option Addr} {n c : Nat} {x : List S39} (h : SLv w0 (.slice A n c) x) : x.length = n ∧ x.length ≤ c ∧ Kd.C k39 w0 A x.length x := by
  obtain ⟨A', c', he, hl, hC⟩ := h
  injection he with h1 h2 h3
  subst h1
  subst h3
  exact ⟨h2.symm, hl, hC⟩
set_option maxHeartbeats 8000000 in
set_option maxRecDepth 100000 in
theorem merge_groups.calls (k : Nat) (w0 : World) (A0 : Option Addr) (c0 : Nat) (l0 : List (S39)) (r : List (List (S39))) (w : World) (hb0 : Below w0.heap.size w0 w) (hr0 : Kd.C k39 w0 A0 l0.length l0) (hc0 : l0.length ≤ c0) (h : merge_groups.f k l0 = some r) :
    Calls Try.prog 26 #[.slice A0 l0.length c0] w fun e w' => ∃ v0_ : Value, e = .returned (v0_) ∧ Kd.R (kGL w0) 23 w' w.heap.size (fun _ => True) v0_ r ∧ Below w.heap.size w w' := by
  have HO0 := Aside0.mk (SLv_mk hc0 hr0)
  have HB0 := Aside0.mk hb0
  clear hr0 hc0 hb0
  have HB := Aside0.mk (Below.refl w.heap.size w)
  have H : (merge_groups.l0 k l0 ([] : List (List (S39)))) = some r := h
  clear h
  have H' := Aside0.mk H
  clear H
  go_enter Try.func26, Try.ntmps26
  go_wp2_with (first | go_step3 | go_in)
  repeat (go_quiet (fail); try go_wp2_with (first | go_step3 | go_in))
  go_loopg [0, 3] k (fun kq v0 v3 w' => ∃ (x0_1 : List (S39)) (x3_1 : List (List (S39))), Aside0 (merge_groups.l0 kq x0_1 x3_1 = some r) ∧ Aside0 (kq ≤ k) ∧ Aside0 (SLv w0 v0 x0_1) ∧ Aside0 (Kd.R (kGL w0) 23 w' w.heap.size (fun _ => True) v3 x3_1) ∧ Aside0 (Below w.heap.size w w'))
  case atStart => exact ⟨(l0), (([] : List (List (S39)))), H', ⟨Nat.le_refl _⟩, ⟨HO0.out⟩, ⟨Kd.R_nil _ _ _ _ _⟩, ⟨by repeat (first | (with_reducible first | exact HB.out | apply below_alloc | apply pw_below_drewN | apply below_drew1) | exact HB.out)⟩⟩
  clear H'
  obtain ⟨x0_1, x3_1, HA, HK1, HO_0, HO_3, HB⟩ := hrel
  cases gk with
  | zero => exact absurd HA.out (by simp [merge_groups.l0])
  | succ k1 => ?_
  have H := HA.out
  clear HA
  simp only [merge_groups.l0] at H
  by_cases c2 : (x0_1.length : Int) > 0
  rotate_left
  · rw [if_neg c2] at H
    have c2b0 : decide (0 < (x0_1.length : Int)) = false := decide_eq_false c2
    have c2b1 : decide (0 < x0_1.length) = false := decide_eq_false (by omega)
    clear c2
    obtain rfl := Option.some.inj H
    obtain ⟨Ao24, co24, eo24⟩ := SLv_slice HO_0.out
    subst eo24
    go_wp2_with (first | go_step3 | go_in)
    repeat (go_quiet (fail); try go_wp2_with (first | go_step3 | go_in))
    ((try rw [Exit.noGoto_ret]); go_ret)
    exact ⟨_, by first | rfl | (simp [errW_none, errW_some] <;> rfl) | (simp [*, errW_none, errW_some] <;> rfl), by (with_reducible repeat (first | apply Kd.R_alloc | apply Kd.R_drewN | apply Kd.R_drew)); exact HO_3.out, by repeat (first | (with_reducible first | exact HB.out | apply below_alloc | apply pw_below_drewN | apply below_drew1) | exact HB.out)⟩
  rw [if_pos c2] at H
  have c2b0 : decide (0 < (x0_1.length : Int)) = true := decide_eq_true c2
  have c2b1 : decide (0 < x0_1.length) = true := decide_eq_true (by omega)
  clear c2
  have H' := Aside0.mk H
  clear H
  obtain ⟨Ao3, co3, eo3⟩ := SLv_slice HO_0.out
  subst eo3
  go_wp2_with (first | go_step3 | go_in)
  repeat (go_quiet (fail); try go_wp2_with (first | go_step3 | go_in))
  go_loopg [4] k1 (fun kq v4 w' => ∃ (x4_2 : Int), v4 = .int .i64 x4_2 ∧ Aside0 (merge_groups.l1 kq x0_1 x3_1 x4_2 = some r) ∧ Aside0 (kq ≤ k1) ∧ Aside0 (SLv w0 (.slice Ao3 x0_1.length co3) x0_1) ∧ Aside0 (Kd.R (kGL w0) 23 w' w.heap.size (fun _ => True) u3 x3_1) ∧ Aside0 (Below w.heap.size w w'))
  case atStart => exact ⟨(0), (by first | rfl | (simp; done) | (simp [*]; done)), H', ⟨Nat.le_refl _⟩, ⟨HO_0.out⟩, ⟨by (with_reducible repeat (first | apply Kd.R_alloc | apply Kd.R_drewN | apply Kd.R_drew)); exact HO_3.out⟩, ⟨by repeat (first | (with_reducible first | exact HB.out | apply below_alloc | apply pw_below_drewN | apply below_drew1) | exact HB.out)⟩⟩
  clear H'
  try clear c2
  try clear c2b0
  try clear c2b1
  try clear p2
  try clear p3
  obtain ⟨x4_2, rfl, HA, HK2, HO_0, HO_3, HB⟩ := hrel
  cases gk with
  | zero => exact absurd HA.out (by simp [merge_groups.l1])
  | succ k2 => ?_
  have H := HA.out
  clear HA
  simp only [merge_groups.l1] at H
  by_cases c4 : x4_2 < (x0_1.length : Int)
  rotate_left
  · rw [if_neg c4] at H
    have c4b0 : decide (x4_2 < (x0_1.length : Int)) = false := decide_eq_false c4
    clear c4
    by_cases c16 : 0 ≤ x4_2
    rotate_left
    · rw [if_neg c16] at H
      exact absurd H (by simp)
    rw [if_pos c16] at H
    have c16b0 := eq_true c16
    have c16b1 : decide (0 ≤ x4_2) = true := decide_eq_true c16
    clear c16
    by_cases c17 : x4_2 ≤ (x0_1.length : Int)
    rotate_left
    · rw [if_neg c17] at H
      exact absurd H (by simp)
    rw [if_pos c17] at H
    have c17b0 := eq_true c17
    have c17b1 : decide (x4_2 ≤ (x0_1.length : Int)) = true := decide_eq_true c17
    clear c17
    obtain ⟨y134, hy134⟩ : ∃ y_ : List (S39), y_ = (x0_1.take (x4_2 : Int).toNat) := ⟨_, rfl⟩
    replace H : (if x3_1.length < 5864062014805 then (merge_groups.l0 k2 (x0_1.drop (x4_2 : Int).toNat) (x3_1 ++ [y134])) else (none)) = some r := by first | (rw [hy134]; with_reducible exact H) | (have H2_ := (Option.bind_some _ _).symm.trans H; rw [hy134]; with_reducible exact H2_) | (have H2_ := (Option.bind_some _ _).symm.trans H; with_reducible exact H2_) | with_reducible exact H | (rw [hy134]; exact H) | exact H
    have Ny134 := Aside0.mk hy134
    clear hy134
    by_cases c18 : x3_1.length < 5864062014805
    rotate_left
    · rw [if_neg c18] at H
      exact absurd H (by simp)
    rw [if_pos c18] at H
    have LMc18 := Aside0.mk c18
    clear c18
    obtain ⟨y139, hy139⟩ : ∃ y_ : List (List (S39)), y_ = (x3_1 ++ [y134]) := ⟨_, rfl⟩
    replace H : (merge_groups.l0 k2 (x0_1.drop (x4_2 : Int).toNat) y139) = some r := by first | (rw [hy139]; with_reducible exact H) | (have H2_ := (Option.bind_some _ _).symm.trans H; rw [hy139]; with_reducible exact H2_) | (have H2_ := (Option.bind_some _ _).symm.trans H; with_reducible exact H2_) | with_reducible exact H | (rw [hy139]; exact H) | exact H
    have Ny139 := Aside0.mk hy139
    clear hy139
    have c19b0 := eq_true (of_decide_eq_true (by first | (with_reducible assumption) | assumption) : 0 ≤ x4_2)
    have c20b0 := eq_true (of_decide_eq_true (by first | (with_reducible assumption) | assumption) : x4_2 ≤ (x0_1.length : Int))
    obtain ⟨y142, hy142⟩ : ∃ y_ : List (S39), y_ = (x0_1.drop (x4_2 : Int).toNat) := ⟨_, rfl⟩
    replace H : (merge_groups.l0 k2 y142 y139) = some r := by first | (rw [hy142]; with_reducible exact H) | (have H2_ := (Option.bind_some _ _).symm.trans H; rw [hy142]; with_reducible exact H2_) | (have H2_ := (Option.bind_some _ _).symm.trans H; with_reducible exact H2_) | with_reducible exact H | (rw [hy142]; exact H) | exact H
    have Ny142 := Aside0.mk hy142
    clear hy142
    have H' := Aside0.mk H
    clear H
    have q21 : (x4_2 : Int) ≤ ((x0_1.length : Int) : Int) := of_decide_eq_true (by first | (with_reducible assumption) | assumption)
    obtain ⟨i021, hi021, _, hsz21, _⟩ := info_parts info39
    have hroom21 : x0_1.length ≤ co3 := (SLv_reads' HO_0.out).2.1
    have hC21 : Kd.C k39 w0 Ao3 x0_1.length x0_1 := (SLv_reads' HO_0.out).2.2
    have hcut21 := cut_to (P := Try.prog) 23 39 .i64 Try.underlying23 hi021 Ao3 x0_1.length co3 x4_2 (of_decide_eq_true (by first | (with_reducible assumption) | assumption)) q21 hroom21
    have hr21 := Kd.C_take (m := (x4_2 : Int).toNat) hC21 (by omega)
    have hy21 : y134.length = (x4_2 : Int).toNat := (by rw [Ny134.out, List.length_take]; omega)
    rw [← Ny134.out] at hr21
    rw [← hy21] at hcut21
    have HO138 := Aside0.mk (show SLv w0 (.slice Ao3 y134.length co3) y134 from SLv_mk (by omega) hr21)
    have HC138 := Aside0.mk (show y134.length ≤ co3 from by omega)
    clear hr21 hC21 hroom21 hi021 hsz21
    have KY21 := Aside0.mk hy21
    clear hy21
    replace q21 := eq_true q21
    go_wp2_with (first | go_step3 | ((with_reducible refine gate_builtin (b := .append) (xs := #[.tmp 24, .tmp 28]) rfl ?_); at_builtin; refine Kd.R_append (kGL w0) (w0 := w) w.heap.size rfl (.tmp 24) (.tmp 28) 22 23 (.slice none 0 0) 24 rfl Try.underlying22 info23 rfl (show 0 < 1 by decide) (by omega) u3 x3_1 y134 [.slice Ao3 y134.length co3] (fun _ => True) (fun _ => False) rfl rfl ?aP (fun _ hk => hk.elim) ?aF ?aO ?aB ?aS ?aL ?_; (case aP => exact ⟨_, _, rfl, (SLv_reads' HO138.out).2.1, (SLv_reads' HO138.out).2.2⟩); (case aB => exact (by repeat (first | (with_reducible first | exact HB.out | apply below_alloc | apply pw_below_drewN | apply below_drew1) | exact HB.out))); (case aF => exact (fun _ _ => trivial)); (case aO => exact (by (with_reducible repeat (first | apply Kd.R_alloc | apply Kd.R_drewN | apply Kd.R_drew)); exact HO_3.out)); (case aS => exact (below_size (by repeat (first | (with_reducible first | exact HB.out | apply below_alloc | apply pw_below_drewN | apply below_drew1) | exact HB.out)))); (case aL => have := LMc18.out; omega); intro v140 w22 ho hb hg hat; rw [← Ny139.out] at ho; have n0_ := Aside0.mk (HO_0.out); have n1_ := Aside0.mk (HO138.out); have n2_ := Aside0.mk (hb); have n3_ := Aside0.mk (ho); clear HO_0; clear HO138; clear HB; clear HO_3; have HO_0 := n0_; have HO138 := n1_; have HB := n2_; have HO141 := n3_; clear n0_ n1_ n2_ n3_; clear ho hb hg hat; have q23 : (x4_2 : Int) ≤ ((x0_1.length : Int) : Int) := of_decide_eq_true (by first | (with_reducible assumption) | assumption); obtain ⟨i023, hi023, _, hsz23, _⟩ := info_parts info39; have hroom23 : x0_1.length ≤ co3 := (SLv_reads' HO_0.out).2.1; have hC23 : Kd.C k39 w0 Ao3 x0_1.length x0_1 := (SLv_reads' HO_0.out).2.2; have q023 : (0 : Int) ≤ (x4_2 : Int) := of_decide_eq_true (by first | (with_reducible assumption) | assumption); have hcut23 := cut_from (P := Try.prog) 23 39 .i64 Try.underlying23 hi023 4 hsz23 Ao3 x0_1.length co3 x4_2 q023 q23; have hr23 := Kd.C_drop (m := (x4_2 : Int).toNat) (c := co3) hC23 (by omega) hroom23; obtain ⟨A23, hA23⟩ : ∃ A1, A1 = (if co3 = (x4_2 : Int).toNat then Ao3 else (Ao3 : Option Addr).map (·.add ((x4_2 : Int).toNat * 4))) := ⟨_, rfl⟩; obtain ⟨c23, hc23⟩ : ∃ c1, c1 = co3 - (x4_2 : Int).toNat := ⟨_, rfl⟩; have hy23 : y142.length = x0_1.length - (x4_2 : Int).toNat := (by rw [Ny142.out, List.length_drop] <;> omega); rw [show (x0_1).drop (x4_2 : Int).toNat = y142 from Ny142.out.symm] at hr23; replace hr23 : Kd.C k39 w0 A23 y142.length y142 := (by rw [hA23]; exact hr23); rw [← hy23, ← hA23, ← hc23] at hcut23; have HO146 := Aside0.mk (show SLv w0 (.slice A23 y142.length c23) y142 from SLv_mk (by rw [hy23, hc23]; exact Nat.sub_le_sub_right hroom23 _) hr23); have HC146 := Aside0.mk (show y142.length ≤ c23 from by rw [hy23, hc23]; exact Nat.sub_le_sub_right hroom23 _); clear hr23 hC23 hroom23 hi023 hsz23 hc23; have KY23 := Aside0.mk hy23; have KA23 := Aside0.mk hA23; clear hy23 hA23; replace q23 := eq_true q23))
    repeat (go_quiet (first | ((with_reducible refine gate_builtin (b := .append) (xs := #[.tmp 24, .tmp 28]) rfl ?_); at_builtin; refine Kd.R_append (kGL w0) (w0 := w) w.heap.size rfl (.tmp 24) (.tmp 28) 22 23 (.slice none 0 0) 24 rfl Try.underlying22 info23 rfl (show 0 < 1 by decide) (by omega) u3 x3_1 y134 [.slice Ao3 y134.length co3] (fun _ => True) (fun _ => False) rfl rfl ?aP (fun _ hk => hk.elim) ?aF ?aO ?aB ?aS ?aL ?_; (case aP => exact ⟨_, _, rfl, (SLv_reads' HO138.out).2.1, (SLv_reads' HO138.out).2.2⟩); (case aB => exact (by repeat (first | (with_reducible first | exact HB.out | apply below_alloc | apply pw_below_drewN | apply below_drew1) | exact HB.out))); (case aF => exact (fun _ _ => trivial)); (case aO => exact (by (with_reducible repeat (first | apply Kd.R_alloc | apply Kd.R_drewN | apply Kd.R_drew)); exact HO_3.out)); (case aS => exact (below_size (by repeat (first | (with_reducible first | exact HB.out | apply below_alloc | apply pw_below_drewN | apply below_drew1) | exact HB.out)))); (case aL => have := LMc18.out; omega); intro v140 w22 ho hb hg hat; rw [← Ny139.out] at ho; have n0_ := Aside0.mk (HO_0.out); have n1_ := Aside0.mk (HO138.out); have n2_ := Aside0.mk (hb); have n3_ := Aside0.mk (ho); clear HO_0; clear HO138; clear HB; clear HO_3; have HO_0 := n0_; have HO138 := n1_; have HB := n2_; have HO141 := n3_; clear n0_ n1_ n2_ n3_; clear ho hb hg hat; have q23 : (x4_2 : Int) ≤ ((x0_1.length : Int) : Int) := of_decide_eq_true (by first | (with_reducible assumption) | assumption); obtain ⟨i023, hi023, _, hsz23, _⟩ := info_parts info39; have hroom23 : x0_1.length ≤ co3 := (SLv_reads' HO_0.out).2.1; have hC23 : Kd.C k39 w0 Ao3 x0_1.length x0_1 := (SLv_reads' HO_0.out).2.2; have q023 : (0 : Int) ≤ (x4_2 : Int) := of_decide_eq_true (by first | (with_reducible assumption) | assumption); have hcut23 := cut_from (P := Try.prog) 23 39 .i64 Try.underlying23 hi023 4 hsz23 Ao3 x0_1.length co3 x4_2 q023 q23; have hr23 := Kd.C_drop (m := (x4_2 : Int).toNat) (c := co3) hC23 (by omega) hroom23; obtain ⟨A23, hA23⟩ : ∃ A1, A1 = (if co3 = (x4_2 : Int).toNat then Ao3 else (Ao3 : Option Addr).map (·.add ((x4_2 : Int).toNat * 4))) := ⟨_, rfl⟩; obtain ⟨c23, hc23⟩ : ∃ c1, c1 = co3 - (x4_2 : Int).toNat := ⟨_, rfl⟩; have hy23 : y142.length = x0_1.length - (x4_2 : Int).toNat := (by rw [Ny142.out, List.length_drop] <;> omega); rw [show (x0_1).drop (x4_2 : Int).toNat = y142 from Ny142.out.symm] at hr23; replace hr23 : Kd.C k39 w0 A23 y142.length y142 := (by rw [hA23]; exact hr23); rw [← hy23, ← hA23, ← hc23] at hcut23; have HO146 := Aside0.mk (show SLv w0 (.slice A23 y142.length c23) y142 from SLv_mk (by rw [hy23, hc23]; exact Nat.sub_le_sub_right hroom23 _) hr23); have HC146 := Aside0.mk (show y142.length ≤ c23 from by rw [hy23, hc23]; exact Nat.sub_le_sub_right hroom23 _); clear hr23 hC23 hroom23 hi023 hsz23 hc23; have KY23 := Aside0.mk hy23; have KA23 := Aside0.mk hA23; clear hy23 hA23; replace q23 := eq_true q23)); try go_wp2_with (first | go_step3 | ((with_reducible refine gate_builtin (b := .append) (xs := #[.tmp 24, .tmp 28]) rfl ?_); at_builtin; refine Kd.R_append (kGL w0) (w0 := w) w.heap.size rfl (.tmp 24) (.tmp 28) 22 23 (.slice none 0 0) 24 rfl Try.underlying22 info23 rfl (show 0 < 1 by decide) (by omega) u3 x3_1 y134 [.slice Ao3 y134.length co3] (fun _ => True) (fun _ => False) rfl rfl ?aP (fun _ hk => hk.elim) ?aF ?aO ?aB ?aS ?aL ?_; (case aP => exact ⟨_, _, rfl, (SLv_reads' HO138.out).2.1, (SLv_reads' HO138.out).2.2⟩); (case aB => exact (by repeat (first | (with_reducible first | exact HB.out | apply below_alloc | apply pw_below_drewN | apply below_drew1) | exact HB.out))); (case aF => exact (fun _ _ => trivial)); (case aO => exact (by (with_reducible repeat (first | apply Kd.R_alloc | apply Kd.R_drewN | apply Kd.R_drew)); exact HO_3.out)); (case aS => exact (below_size (by repeat (first | (with_reducible first | exact HB.out | apply below_alloc | apply pw_below_drewN | apply below_drew1) | exact HB.out)))); (case aL => have := LMc18.out; omega); intro v140 w22 ho hb hg hat; rw [← Ny139.out] at ho; have n0_ := Aside0.mk (HO_0.out); have n1_ := Aside0.mk (HO138.out); have n2_ := Aside0.mk (hb); have n3_ := Aside0.mk (ho); clear HO_0; clear HO138; clear HB; clear HO_3; have HO_0 := n0_; have HO138 := n1_; have HB := n2_; have HO141 := n3_; clear n0_ n1_ n2_ n3_; clear ho hb hg hat; have q23 : (x4_2 : Int) ≤ ((x0_1.length : Int) : Int) := of_decide_eq_true (by first | (with_reducible assumption) | assumption); obtain ⟨i023, hi023, _, hsz23, _⟩ := info_parts info39; have hroom23 : x0_1.length ≤ co3 := (SLv_reads' HO_0.out).2.1; have hC23 : Kd.C k39 w0 Ao3 x0_1.length x0_1 := (SLv_reads' HO_0.out).2.2; have q023 : (0 : Int) ≤ (x4_2 : Int) := of_decide_eq_true (by first | (with_reducible assumption) | assumption); have hcut23 := cut_from (P := Try.prog) 23 39 .i64 Try.underlying23 hi023 4 hsz23 Ao3 x0_1.length co3 x4_2 q023 q23; have hr23 := Kd.C_drop (m := (x4_2 : Int).toNat) (c := co3) hC23 (by omega) hroom23; obtain ⟨A23, hA23⟩ : ∃ A1, A1 = (if co3 = (x4_2 : Int).toNat then Ao3 else (Ao3 : Option Addr).map (·.add ((x4_2 : Int).toNat * 4))) := ⟨_, rfl⟩; obtain ⟨c23, hc23⟩ : ∃ c1, c1 = co3 - (x4_2 : Int).toNat := ⟨_, rfl⟩; have hy23 : y142.length = x0_1.length - (x4_2 : Int).toNat := (by rw [Ny142.out, List.length_drop] <;> omega); rw [show (x0_1).drop (x4_2 : Int).toNat = y142 from Ny142.out.symm] at hr23; replace hr23 : Kd.C k39 w0 A23 y142.length y142 := (by rw [hA23]; exact hr23); rw [← hy23, ← hA23, ← hc23] at hcut23; have HO146 := Aside0.mk (show SLv w0 (.slice A23 y142.length c23) y142 from SLv_mk (by rw [hy23, hc23]; exact Nat.sub_le_sub_right hroom23 _) hr23); have HC146 := Aside0.mk (show y142.length ≤ c23 from by rw [hy23, hc23]; exact Nat.sub_le_sub_right hroom23 _); clear hr23 hC23 hroom23 hi023 hsz23 hc23; have KY23 := Aside0.mk hy23; have KA23 := Aside0.mk hA23; clear hy23 hA23; replace q23 := eq_true q23)))
    (try (rw [Exit.noGoto_normal]; go_wp2_with go_step3))
    go_roundg k2
    case measure => have := HK1.out; have := HK2.out; omega
    case rel => exact ⟨(y142), (y139), H', ⟨by have := HK1.out; have := HK2.out; omega⟩, ⟨HO146.out⟩, ⟨by (with_reducible repeat (first | apply Kd.R_alloc | apply Kd.R_drewN | apply Kd.R_drew)); exact HO141.out⟩, ⟨by repeat (first | (with_reducible first | exact HB.out | apply below_alloc | apply pw_below_drewN | apply below_drew1) | exact HB.out)⟩⟩
  rw [if_pos c4] at H
  have c4b0 : decide (x4_2 < (x0_1.length : Int)) = true := decide_eq_true c4
  clear c4
  by_cases c5 : 0 ≤ x4_2
  rotate_left
  · rw [if_neg c5] at H
    exact absurd H (by simp)
  rw [if_pos c5] at H
  have c5b0 : decide (0 ≤ x4_2) = true := decide_eq_true c5
  clear c5
  by_cases c6 : 0 < (x0_1.length : Int)
  rotate_left
  · rw [if_neg c6] at H
    exact absurd H (by simp)
  rw [if_pos c6] at H
  have c6b0 : decide (0 < (x0_1.length : Int)) = true := decide_eq_true c6
  have c6b1 : decide (0 < x0_1.length) = true := decide_eq_true (by omega)
  clear c6
  by_cases c7 : ((rd_T39 x0_1 x4_2).f0).toList = ((rd_T39 x0_1 0).f0).toList
  · rw [if_pos c7] at H
    have c7b0 : (((rd_T39 x0_1 x4_2).f0).toList == ((rd_T39 x0_1 0).f0).toList) = true := beq_iff_eq.mpr c7
    have c7b1 : (((rd_T39 x0_1 x4_2).f0).toList != ((rd_T39 x0_1 0).f0).toList) = false := bne_eq_false_iff_eq.mpr c7
    clear c7
    have H' := Aside0.mk H
    clear H
    have p119 : 0 ≤ (x4_2 : Int) := of_decide_eq_true (by first | (with_reducible assumption) | assumption)
    have q119 : x4_2 < (x0_1.length : Int) := of_decide_eq_true (by first | (with_reducible assumption) | assumption)
    obtain ⟨ad119, e119, hx119_0, hx119_1, hx119_2, hx119_3⟩ := at_T39 (Kd.C_below (SLv_reads' HO_0.out).2.2 (below_step HB0.out HB.out)) x4_2 p119 q119
    cases e119
    replace p119 := eq_true p119
    replace q119 := eq_true q119
    have p120 : 0 ≤ (0 : Int) := (by omega)
    have q120 : 0 < (x0_1.length : Int) := of_decide_eq_true (by first | (with_reducible assumption) | assumption)
    obtain ⟨ad120, e120, hx120_0, hx120_1, hx120_2, hx120_3⟩ := at_T39 (Kd.C_below (SLv_reads' HO_0.out).2.2 (below_step HB0.out HB.out)) 0 p120 q120
    obtain rfl : ad119 = ad120 := (by injection e120)
    have qi120 : (0 < x0_1.length) = True := eq_true (by omega)
    (try rw [show ((0 : Int)).toNat = 0 from rfl] at hx120_0)
    (try rw [show 0 * 4 = 0 from rfl] at hx120_0)
    (try rw [Addr.add_zero'] at hx120_0)
    (try rw [show ((0 : Int)).toNat = 0 from rfl] at hx120_1)
    (try rw [show 0 * 4 = 0 from rfl] at hx120_1)
    (try rw [Addr.add_zero'] at hx120_1)
    (try rw [show ((0 : Int)).toNat = 0 from rfl] at hx120_2)
    (try rw [show 0 * 4 = 0 from rfl] at hx120_2)
    (try rw [Addr.add_zero'] at hx120_2)
    (try rw [show ((0 : Int)).toNat = 0 from rfl] at hx120_3)
    (try rw [show 0 * 4 = 0 from rfl] at hx120_3)
    (try rw [Addr.add_zero'] at hx120_3)
    replace p120 := eq_true p120
    replace q120 := eq_true q120
    go_wp2_with (first | go_step3 | go_in)
    repeat (go_quiet (fail); try go_wp2_with (first | go_step3 | go_in))
    go_roundg k2
    case measure => have := HK1.out; have := HK2.out; omega
    case rel => exact ⟨(wrap64 (x4_2 + 1)), (by first | rfl | (simp; done) | (simp [*]; done)), H', ⟨by have := HK1.out; have := HK2.out; omega⟩, ⟨HO_0.out⟩, ⟨by (with_reducible repeat (first | apply Kd.R_alloc | apply Kd.R_drewN | apply Kd.R_drew)); exact HO_3.out⟩, ⟨by repeat (first | (with_reducible first | exact HB.out | apply below_alloc | apply pw_below_drewN | apply below_drew1) | exact HB.out)⟩⟩
  rw [if_neg c7] at H
  have c7b0 : (((rd_T39 x0_1 x4_2).f0).toList == ((rd_T39 x0_1 0).f0).toList) = false := beq_eq_false_iff_ne.mpr c7
  have c7b1 : (((rd_T39 x0_1 x4_2).f0).toList != ((rd_T39 x0_1 0).f0).toList) = true := bne_iff_ne.mpr c7
  have c8b0 := eq_true (of_decide_eq_true (by first | (with_reducible assumption) | assumption) : 0 ≤ x4_2)
  by_cases c9 : x4_2 ≤ (x0_1.length : Int)
  rotate_left
  · rw [if_neg c9] at H
    exact absurd H (by simp)
  rw [if_pos c9] at H
  have c9b0 := eq_true c9
  have c9b1 : decide (x4_2 ≤ (x0_1.length : Int)) = true := decide_eq_true c9
  clear c9
  obtain ⟨y121, hy121⟩ : ∃ y_ : List (S39), y_ = (x0_1.take (x4_2 : Int).toNat) := ⟨_, rfl⟩
  replace H : (if x3_1.length < 5864062014805 then (merge_groups.l0 k2 (x0_1.drop (x4_2 : Int).toNat) (x3_1 ++ [y121])) else (none)) = some r := by first | (rw [hy121]; with_reducible exact H) | (have H2_ := (Option.bind_some _ _).symm.trans H; rw [hy121]; with_reducible exact H2_) | (have H2_ := (Option.bind_some _ _).symm.trans H; with_reducible exact H2_) | with_reducible exact H | (rw [hy121]; exact H) | exact H
  have Ny121 := Aside0.mk hy121
  clear hy121
  by_cases c10 : x3_1.length < 5864062014805
  rotate_left
  · rw [if_neg c10] at H
    exact absurd H (by simp)
  rw [if_pos c10] at H
  have LMc10 := Aside0.mk c10
  clear c10
  obtain ⟨y126, hy126⟩ : ∃ y_ : List (List (S39)), y_ = (x3_1 ++ [y121]) := ⟨_, rfl⟩
  replace H : (merge_groups.l0 k2 (x0_1.drop (x4_2 : Int).toNat) y126) = some r := by first | (rw [hy126]; with_reducible exact H) | (have H2_ := (Option.bind_some _ _).symm.trans H; rw [hy126]; with_reducible exact H2_) | (have H2_ := (Option.bind_some _ _).symm.trans H; with_reducible exact H2_) | with_reducible exact H | (rw [hy126]; exact H) | exact H
  have Ny126 := Aside0.mk hy126
  clear hy126
  have c11b0 := eq_true (of_decide_eq_true (by first | (with_reducible assumption) | assumption) : 0 ≤ x4_2)
  have c12b0 := eq_true (of_decide_eq_true (by first | (with_reducible assumption) | assumption) : x4_2 ≤ (x0_1.length : Int))
  obtain ⟨y129, hy129⟩ : ∃ y_ : List (S39), y_ = (x0_1.drop (x4_2 : Int).toNat) := ⟨_, rfl⟩
  replace H : (merge_groups.l0 k2 y129 y126) = some r := by first | (rw [hy129]; with_reducible exact H) | (have H2_ := (Option.bind_some _ _).symm.trans H; rw [hy129]; with_reducible exact H2_) | (have H2_ := (Option.bind_some _ _).symm.trans H; with_reducible exact H2_) | with_reducible exact H | (rw [hy129]; exact H) | exact H
  have Ny129 := Aside0.mk hy129
  clear hy129
  have H' := Aside0.mk H
  clear H
  have p119 : 0 ≤ (x4_2 : Int) := of_decide_eq_true (by first | (with_reducible assumption) | assumption)
  have q119 : x4_2 < (x0_1.length : Int) := of_decide_eq_true (by first | (with_reducible assumption) | assumption)
  obtain ⟨ad119, e119, hx119_0, hx119_1, hx119_2, hx119_3⟩ := at_T39 (Kd.C_below (SLv_reads' HO_0.out).2.2 (below_step HB0.out HB.out)) x4_2 p119 q119
  cases e119
  replace p119 := eq_true p119
  replace q119 := eq_true q119
  have p120 : 0 ≤ (0 : Int) := (by omega)
  have q120 : 0 < (x0_1.length : Int) := of_decide_eq_true (by first | (with_reducible assumption) | assumption)
  obtain ⟨ad120, e120, hx120_0, hx120_1, hx120_2, hx120_3⟩ := at_T39 (Kd.C_below (SLv_reads' HO_0.out).2.2 (below_step HB0.out HB.out)) 0 p120 q120
  obtain rfl : ad119 = ad120 := (by injection e120)
  have qi120 : (0 < x0_1.length) = True := eq_true (by omega)
  (try rw [show ((0 : Int)).toNat = 0 from rfl] at hx120_0)
  (try rw [show 0 * 4 = 0 from rfl] at hx120_0)
  (try rw [Addr.add_zero'] at hx120_0)
  (try rw [show ((0 : Int)).toNat = 0 from rfl] at hx120_1)
  (try rw [show 0 * 4 = 0 from rfl] at hx120_1)
  (try rw [Addr.add_zero'] at hx120_1)
  (try rw [show ((0 : Int)).toNat = 0 from rfl] at hx120_2)
  (try rw [show 0 * 4 = 0 from rfl] at hx120_2)
  (try rw [Addr.add_zero'] at hx120_2)
  (try rw [show ((0 : Int)).toNat = 0 from rfl] at hx120_3)
  (try rw [show 0 * 4 = 0 from rfl] at hx120_3)
  (try rw [Addr.add_zero'] at hx120_3)
  replace p120 := eq_true p120
  replace q120 := eq_true q120
  have q13 : (x4_2 : Int) ≤ ((x0_1.length : Int) : Int) := of_decide_eq_true (by first | (with_reducible assumption) | assumption)
  obtain ⟨i013, hi013, _, hsz13, _⟩ := info_parts info39
  have hroom13 : x0_1.length ≤ co3 := (SLv_reads' HO_0.out).2.1
  have hC13 : Kd.C k39 w0 (some ad119) x0_1.length x0_1 := (SLv_reads' HO_0.out).2.2
  have hcut13 := cut_to (P := Try.prog) 23 39 .i64 Try.underlying23 hi013 (some ad119) x0_1.length co3 x4_2 (of_decide_eq_true (by first | (with_reducible assumption) | assumption)) q13 hroom13
  have hr13 := Kd.C_take (m := (x4_2 : Int).toNat) hC13 (by omega)
  have hy13 : y121.length = (x4_2 : Int).toNat := (by rw [Ny121.out, List.length_take]; omega)
  rw [← Ny121.out] at hr13
  rw [← hy13] at hcut13
  have HO125 := Aside0.mk (show SLv w0 (.slice (some ad119) y121.length co3) y121 from SLv_mk (by omega) hr13)
  have HC125 := Aside0.mk (show y121.length ≤ co3 from by omega)
  clear hr13 hC13 hroom13 hi013 hsz13
  have KY13 := Aside0.mk hy13
  clear hy13
  replace q13 := eq_true q13
  go_wp2_with (first | go_step3 | ((with_reducible refine gate_builtin (b := .append) (xs := #[.tmp 24, .tmp 28]) rfl ?_); at_builtin; refine Kd.R_append (kGL w0) (w0 := w) w.heap.size rfl (.tmp 24) (.tmp 28) 22 23 (.slice none 0 0) 24 rfl Try.underlying22 info23 rfl (show 0 < 1 by decide) (by omega) u3 x3_1 y121 [.slice (some ad119) y121.length co3] (fun _ => True) (fun _ => False) rfl rfl ?aP (fun _ hk => hk.elim) ?aF ?aO ?aB ?aS ?aL ?_; (case aP => exact ⟨_, _, rfl, (SLv_reads' HO125.out).2.1, (SLv_reads' HO125.out).2.2⟩); (case aB => exact (by repeat (first | (with_reducible first | exact HB.out | apply below_alloc | apply pw_below_drewN | apply below_drew1) | exact HB.out))); (case aF => exact (fun _ _ => trivial)); (case aO => exact (by (with_reducible repeat (first | apply Kd.R_alloc | apply Kd.R_drewN | apply Kd.R_drew)); exact HO_3.out)); (case aS => exact (below_size (by repeat (first | (with_reducible first | exact HB.out | apply below_alloc | apply pw_below_drewN | apply below_drew1) | exact HB.out)))); (case aL => have := LMc10.out; omega); intro v127 w14 ho hb hg hat; rw [← Ny126.out] at ho; have n0_ := Aside0.mk (HO_0.out); have n1_ := Aside0.mk (HO125.out); have n2_ := Aside0.mk (hb); have n3_ := Aside0.mk (ho); clear HO_0; clear HO125; clear HB; clear HO_3; have HO_0 := n0_; have HO125 := n1_; have HB := n2_; have HO128 := n3_; clear n0_ n1_ n2_ n3_; clear ho hb hg hat; have q15 : (x4_2 : Int) ≤ ((x0_1.length : Int) : Int) := of_decide_eq_true (by first | (with_reducible assumption) | assumption); obtain ⟨i015, hi015, _, hsz15, _⟩ := info_parts info39; have hroom15 : x0_1.length ≤ co3 := (SLv_reads' HO_0.out).2.1; have hC15 : Kd.C k39 w0 (some ad119) x0_1.length x0_1 := (SLv_reads' HO_0.out).2.2; have q015 : (0 : Int) ≤ (x4_2 : Int) := of_decide_eq_true (by first | (with_reducible assumption) | assumption); have hcut15 := cut_from (P := Try.prog) 23 39 .i64 Try.underlying23 hi015 4 hsz15 (some ad119) x0_1.length co3 x4_2 q015 q15; have hr15 := Kd.C_drop (m := (x4_2 : Int).toNat) (c := co3) hC15 (by omega) hroom15; obtain ⟨A15, hA15⟩ : ∃ A1, A1 = (if co3 = (x4_2 : Int).toNat then (some ad119) else ((some ad119) : Option Addr).map (·.add ((x4_2 : Int).toNat * 4))) := ⟨_, rfl⟩; obtain ⟨c15, hc15⟩ : ∃ c1, c1 = co3 - (x4_2 : Int).toNat := ⟨_, rfl⟩; have hy15 : y129.length = x0_1.length - (x4_2 : Int).toNat := (by rw [Ny129.out, List.length_drop] <;> omega); rw [show (x0_1).drop (x4_2 : Int).toNat = y129 from Ny129.out.symm] at hr15; replace hr15 : Kd.C k39 w0 A15 y129.length y129 := (by rw [hA15]; exact hr15); rw [← hy15, ← hA15, ← hc15] at hcut15; have HO133 := Aside0.mk (show SLv w0 (.slice A15 y129.length c15) y129 from SLv_mk (by rw [hy15, hc15]; exact Nat.sub_le_sub_right hroom15 _) hr15); have HC133 := Aside0.mk (show y129.length ≤ c15 from by rw [hy15, hc15]; exact Nat.sub_le_sub_right hroom15 _); clear hr15 hC15 hroom15 hi015 hsz15 hc15; have KY15 := Aside0.mk hy15; have KA15 := Aside0.mk hA15; clear hy15 hA15; replace q15 := eq_true q15))
  repeat (go_quiet (first | ((with_reducible refine gate_builtin (b := .append) (xs := #[.tmp 24, .tmp 28]) rfl ?_); at_builtin; refine Kd.R_append (kGL w0) (w0 := w) w.heap.size rfl (.tmp 24) (.tmp 28) 22 23 (.slice none 0 0) 24 rfl Try.underlying22 info23 rfl (show 0 < 1 by decide) (by omega) u3 x3_1 y121 [.slice (some ad119) y121.length co3] (fun _ => True) (fun _ => False) rfl rfl ?aP (fun _ hk => hk.elim) ?aF ?aO ?aB ?aS ?aL ?_; (case aP => exact ⟨_, _, rfl, (SLv_reads' HO125.out).2.1, (SLv_reads' HO125.out).2.2⟩); (case aB => exact (by repeat (first | (with_reducible first | exact HB.out | apply below_alloc | apply pw_below_drewN | apply below_drew1) | exact HB.out))); (case aF => exact (fun _ _ => trivial)); (case aO => exact (by (with_reducible repeat (first | apply Kd.R_alloc | apply Kd.R_drewN | apply Kd.R_drew)); exact HO_3.out)); (case aS => exact (below_size (by repeat (first | (with_reducible first | exact HB.out | apply below_alloc | apply pw_below_drewN | apply below_drew1) | exact HB.out)))); (case aL => have := LMc10.out; omega); intro v127 w14 ho hb hg hat; rw [← Ny126.out] at ho; have n0_ := Aside0.mk (HO_0.out); have n1_ := Aside0.mk (HO125.out); have n2_ := Aside0.mk (hb); have n3_ := Aside0.mk (ho); clear HO_0; clear HO125; clear HB; clear HO_3; have HO_0 := n0_; have HO125 := n1_; have HB := n2_; have HO128 := n3_; clear n0_ n1_ n2_ n3_; clear ho hb hg hat; have q15 : (x4_2 : Int) ≤ ((x0_1.length : Int) : Int) := of_decide_eq_true (by first | (with_reducible assumption) | assumption); obtain ⟨i015, hi015, _, hsz15, _⟩ := info_parts info39; have hroom15 : x0_1.length ≤ co3 := (SLv_reads' HO_0.out).2.1; have hC15 : Kd.C k39 w0 (some ad119) x0_1.length x0_1 := (SLv_reads' HO_0.out).2.2; have q015 : (0 : Int) ≤ (x4_2 : Int) := of_decide_eq_true (by first | (with_reducible assumption) | assumption); have hcut15 := cut_from (P := Try.prog) 23 39 .i64 Try.underlying23 hi015 4 hsz15 (some ad119) x0_1.length co3 x4_2 q015 q15; have hr15 := Kd.C_drop (m := (x4_2 : Int).toNat) (c := co3) hC15 (by omega) hroom15; obtain ⟨A15, hA15⟩ : ∃ A1, A1 = (if co3 = (x4_2 : Int).toNat then (some ad119) else ((some ad119) : Option Addr).map (·.add ((x4_2 : Int).toNat * 4))) := ⟨_, rfl⟩; obtain ⟨c15, hc15⟩ : ∃ c1, c1 = co3 - (x4_2 : Int).toNat := ⟨_, rfl⟩; have hy15 : y129.length = x0_1.length - (x4_2 : Int).toNat := (by rw [Ny129.out, List.length_drop] <;> omega); rw [show (x0_1).drop (x4_2 : Int).toNat = y129 from Ny129.out.symm] at hr15; replace hr15 : Kd.C k39 w0 A15 y129.length y129 := (by rw [hA15]; exact hr15); rw [← hy15, ← hA15, ← hc15] at hcut15; have HO133 := Aside0.mk (show SLv w0 (.slice A15 y129.length c15) y129 from SLv_mk (by rw [hy15, hc15]; exact Nat.sub_le_sub_right hroom15 _) hr15); have HC133 := Aside0.mk (show y129.length ≤ c15 from by rw [hy15, hc15]; exact Nat.sub_le_sub_right hroom15 _); clear hr15 hC15 hroom15 hi015 hsz15 hc15; have KY15 := Aside0.mk hy15; have KA15 := Aside0.mk hA15; clear hy15 hA15; replace q15 := eq_true q15)); try go_wp2_with (first | go_step3 | ((with_reducible refine gate_builtin (b := .append) (xs := #[.tmp 24, .tmp 28]) rfl ?_); at_builtin; refine Kd.R_append (kGL w0) (w0 := w) w.heap.size rfl (.tmp 24) (.tmp 28) 22 23 (.slice none 0 0) 24 rfl Try.underlying22 info23 rfl (show 0 < 1 by decide) (by omega) u3 x3_1 y121 [.slice (some ad119) y121.length co3] (fun _ => True) (fun _ => False) rfl rfl ?aP (fun _ hk => hk.elim) ?aF ?aO ?aB ?aS ?aL ?_; (case aP => exact ⟨_, _, rfl, (SLv_reads' HO125.out).2.1, (SLv_reads' HO125.out).2.2⟩); (case aB => exact (by repeat (first | (with_reducible first | exact HB.out | apply below_alloc | apply pw_below_drewN | apply below_drew1) | exact HB.out))); (case aF => exact (fun _ _ => trivial)); (case aO => exact (by (with_reducible repeat (first | apply Kd.R_alloc | apply Kd.R_drewN | apply Kd.R_drew)); exact HO_3.out)); (case aS => exact (below_size (by repeat (first | (with_reducible first | exact HB.out | apply below_alloc | apply pw_below_drewN | apply below_drew1) | exact HB.out)))); (case aL => have := LMc10.out; omega); intro v127 w14 ho hb hg hat; rw [← Ny126.out] at ho; have n0_ := Aside0.mk (HO_0.out); have n1_ := Aside0.mk (HO125.out); have n2_ := Aside0.mk (hb); have n3_ := Aside0.mk (ho); clear HO_0; clear HO125; clear HB; clear HO_3; have HO_0 := n0_; have HO125 := n1_; have HB := n2_; have HO128 := n3_; clear n0_ n1_ n2_ n3_; clear ho hb hg hat; have q15 : (x4_2 : Int) ≤ ((x0_1.length : Int) : Int) := of_decide_eq_true (by first | (with_reducible assumption) | assumption); obtain ⟨i015, hi015, _, hsz15, _⟩ := info_parts info39; have hroom15 : x0_1.length ≤ co3 := (SLv_reads' HO_0.out).2.1; have hC15 : Kd.C k39 w0 (some ad119) x0_1.length x0_1 := (SLv_reads' HO_0.out).2.2; have q015 : (0 : Int) ≤ (x4_2 : Int) := of_decide_eq_true (by first | (with_reducible assumption) | assumption); have hcut15 := cut_from (P := Try.prog) 23 39 .i64 Try.underlying23 hi015 4 hsz15 (some ad119) x0_1.length co3 x4_2 q015 q15; have hr15 := Kd.C_drop (m := (x4_2 : Int).toNat) (c := co3) hC15 (by omega) hroom15; obtain ⟨A15, hA15⟩ : ∃ A1, A1 = (if co3 = (x4_2 : Int).toNat then (some ad119) else ((some ad119) : Option Addr).map (·.add ((x4_2 : Int).toNat * 4))) := ⟨_, rfl⟩; obtain ⟨c15, hc15⟩ : ∃ c1, c1 = co3 - (x4_2 : Int).toNat := ⟨_, rfl⟩; have hy15 : y129.length = x0_1.length - (x4_2 : Int).toNat := (by rw [Ny129.out, List.length_drop] <;> omega); rw [show (x0_1).drop (x4_2 : Int).toNat = y129 from Ny129.out.symm] at hr15; replace hr15 : Kd.C k39 w0 A15 y129.length y129 := (by rw [hA15]; exact hr15); rw [← hy15, ← hA15, ← hc15] at hcut15; have HO133 := Aside0.mk (show SLv w0 (.slice A15 y129.length c15) y129 from SLv_mk (by rw [hy15, hc15]; exact Nat.sub_le_sub_right hroom15 _) hr15); have HC133 := Aside0.mk (show y129.length ≤ c15 from by rw [hy15, hc15]; exact Nat.sub_le_sub_right hroom15 _); clear hr15 hC15 hroom15 hi015 hsz15 hc15; have KY15 := Aside0.mk hy15; have KA15 := Aside0.mk hA15; clear hy15 hA15; replace q15 := eq_true q15)))
  (try (rw [Exit.noGoto_normal]; go_wp2_with go_step3))
  go_roundg k2
  case measure => have := HK1.out; have := HK2.out; omega
  case rel => exact ⟨(y129), (y126), H', ⟨by have := HK1.out; have := HK2.out; omega⟩, ⟨HO133.out⟩, ⟨by (with_reducible repeat (first | apply Kd.R_alloc | apply Kd.R_drewN | apply Kd.R_drew)); exact HO128.out⟩, ⟨by repeat (first | (with_reducible first | exact HB.out | apply below_alloc | apply pw_below_drewN | apply below_drew1) | exact HB.out)⟩⟩

/-! ### merge_newest: function 27 -/
def merge_newest.l0 : Nat → List (S39) → Int → List (S39) → Int → Int → Option (Int)
  | 0, _, _, _, _, _ => none
  | k + 1, x0, x1, x7, x8, x9 => if x9 < x8 then (if 0 ≤ x9 then (if x9 < (x7.length : Int) then (if ((rd_T39 x7 x9).f1) ≤ x1 then (some x9) else (merge_newest.l0 k x0 x1 x7 x8 (wrap64 (x9 + 1)))) else (none)) else (none)) else (some (x0.length : Int))
def merge_newest.f (k : Nat) (l0 : List (S39)) (a1 : Int) : Option (Int) := merge_newest.l0 k l0 a1 l0 (l0.length : Int) 0
theorem merge_newest.mono_l : ∀ k, (∀ y0 y1 y2 y3 y4, LeO (merge_newest.l0 k y0 y1 y2 y3 y4) (merge_newest.l0 (k + 1) y0 y1 y2 y3 y4))
  | 0 => fun _ _ _ _ _ r h => by simp [merge_newest.l0] at h
  | k + 1 => by
    have ih0 := merge_newest.mono_l k
    · intro y0 y1 y2 y3 y4
      unfold merge_newest.l0
      repeat' first
      | (with_reducible exact ih0 _ _ _ _ _)
      | (with_reducible exact LeO.refl _)
      | (with_reducible exact LeO.none _)
      | (with_reducible refine LeO.ite ?_ ?_)
      | (with_reducible refine LeO.bind ?_ (fun _ => ?_))
      | exact ih0 _ _ _ _ _
      | exact LeO.none _
      | refine LeO.ite ?_ ?_
      | refine LeO.bind ?_ (fun _ => ?_)
theorem merge_newest.mono : ∀ a0 a1 k, LeO (merge_newest.f k a0 a1) (merge_newest.f (k + 1) a0 a1) := by
  intro a0 a1 k
  have ih0 := merge_newest.mono_l k
  unfold merge_newest.f
  repeat' first
      | (with_reducible exact ih0 _ _ _ _ _)
      | (with_reducible exact LeO.refl _)
      | (with_reducible exact LeO.none _)
      | (with_reducible refine LeO.ite ?_ ?_)
      | (with_reducible refine LeO.bind ?_ (fun _ => ?_))
      | exact ih0 _ _ _ _ _
      | exact LeO.none _
      | refine LeO.ite ?_ ?_
      | refine LeO.bind ?_ (fun _ => ?_)
set_option maxHeartbeats 8000000 in
set_option maxRecDepth 100000 in
theorem merge_newest.calls (k : Nat) (A0 : Option Addr) (c0 : Nat) (l0 : List (S39)) (a1 : Int) (r : Int) (w : World) (hr0 : Kd.C k39 w A0 l0.length l0) (hc0 : l0.length ≤ c0) (h : merge_newest.f k l0 a1 = some r) :
    Calls Try.prog 27 #[.slice A0 l0.length c0, .int .i64 a1] w fun e w' => e = .returned (.int .i64 r) ∧ Below w.heap.size w w' := by
  have hu39 := Try.underlying39
  have HR0 := Aside0.mk hr0
  have HC0 := Aside0.mk hc0
  clear hr0 hc0
  have HB := Aside0.mk (Below.refl w.heap.size w)
  have H : (merge_newest.l0 k l0 a1 l0 (l0.length : Int) 0) = some r := h
  clear h
  have H' := Aside0.mk H
  clear H
  go_enter Try.func27, Try.ntmps27
  go_wp2
  go_loopg [9] k (fun kq v9 w' => ∃ (x9_1 : Int), v9 = .int .i64 x9_1 ∧ Aside0 (merge_newest.l0 kq l0 a1 l0 (l0.length : Int) x9_1 = some r) ∧ Aside0 (kq ≤ k) ∧ Aside0 (Below w.heap.size w w'))
  case atStart => exact ⟨(0), (by first | rfl | (simp; done) | (simp [*]; done)), H', ⟨Nat.le_refl _⟩, ⟨by repeat (first | (with_reducible first | exact HB.out | apply below_alloc | apply pw_below_drewN | apply below_drew1) | exact HB.out)⟩⟩
  clear H'
  try clear c2
  try clear p2
  obtain ⟨x9_1, rfl, HA, HK1, HB⟩ := hrel
  cases gk with
  | zero => exact absurd HA.out (by simp [merge_newest.l0])
  | succ k1 => ?_
  have H := HA.out
  clear HA
  simp only [merge_newest.l0] at H
  by_cases c3 : x9_1 < (l0.length : Int)
  rotate_left
  · rw [if_neg c3] at H
    have c3b0 : decide (x9_1 < (l0.length : Int)) = false := decide_eq_false c3
    clear c3
    obtain rfl := Option.some.inj H
    go_wp2
    go_ret
    exact ⟨by first | rfl | (simp [errW_none, errW_some] <;> rfl) | (simp [*, errW_none, errW_some] <;> rfl), by repeat (first | (with_reducible first | exact HB.out | apply below_alloc | apply pw_below_drewN | apply below_drew1) | exact HB.out)⟩
  rw [if_pos c3] at H
  have c3b0 : decide (x9_1 < (l0.length : Int)) = true := decide_eq_true c3
  clear c3
  by_cases c4 : 0 ≤ x9_1
  rotate_left
  · rw [if_neg c4] at H
    exact absurd H (by simp)
  rw [if_pos c4] at H
  have c4b0 : decide (0 ≤ x9_1) = true := decide_eq_true c4
  clear c4
  by_cases c5 : x9_1 < (l0.length : Int)
  rotate_left
  · rw [if_neg c5] at H
    exact absurd H (by simp)
  rw [if_pos c5] at H
  have c5b0 : decide (x9_1 < (l0.length : Int)) = true := decide_eq_true c5
  clear c5
  by_cases c6 : ((rd_T39 l0 x9_1).f1) ≤ a1
  · rw [if_pos c6] at H
    have c6b0 : decide (((rd_T39 l0 x9_1).f1) ≤ a1) = true := decide_eq_true c6
    clear c6
    obtain rfl := Option.some.inj H
    have p119 : 0 ≤ (x9_1 : Int) := of_decide_eq_true (by first | (with_reducible assumption) | assumption)
    have q119 : x9_1 < (l0.length : Int) := of_decide_eq_true (by first | (with_reducible assumption) | assumption)
    obtain ⟨ad119, e119, hx119_0, hx119_1, hx119_2, hx119_3⟩ := at_T39 HR0.out x9_1 p119 q119
    cases e119
    replace hx119_0 := (HB.out.cell (World.block_lt_of_cell? w _ hx119_0)).trans hx119_0
    replace hx119_1 := (HB.out.cell (World.block_lt_of_cell? w _ hx119_1)).trans hx119_1
    replace hx119_2 := (HB.out.cell (World.block_lt_of_cell? w _ hx119_2)).trans hx119_2
    replace hx119_3 := (HB.out.cell (World.block_lt_of_cell? w _ hx119_3)).trans hx119_3
    replace p119 := eq_true p119
    replace q119 := eq_true q119
    go_wp2_with (first | ((with_reducible refine gate_dst (N := 6) rfl ?_); refine box_event ?hg (N := 6) ?hd (cs := #[.string (⟨#[]⟩ : ByteArray), .int .i64 0, .bool false, .string (⟨#[]⟩ : ByteArray)]) (t := 39) ?hr ?_; (case hd => rfl); (case hg => rfl); (case hr => first | (go_simp; done) | (go_simp; rfl)); intro gb120 hg w7 hbox hb; have n0_ := Aside0.mk (below_step (by repeat (first | (with_reducible first | exact HB.out | apply below_alloc | apply pw_below_drewN | apply below_drew1) | exact HB.out)) hb); have n1_ := Aside0.mk (hbox); have n2_ := Aside0.mk ((by rw [hg]; exact (below_size (by repeat (first | (with_reducible first | exact HB.out | apply below_alloc | apply pw_below_drewN | apply below_drew1) | exact HB.out))) : w.heap.size ≤ gb120)); have n3_ := Aside0.mk ((by rw [hg]; exact (below_size (by repeat (first | (with_reducible first | exact HB.out | apply below_alloc | apply pw_below_drewN | apply below_drew1) | exact HB.out))) : w.heap.size ≤ gb120)); clear HB; have HB := n0_; have BK120 := n1_; have GW120 := n2_; have GE120 := n3_; clear n0_ n1_ n2_ n3_; clear hb hbox hg; have hcz8_0 : w7.cell? ⟨gb120, 0, none⟩ = some (.string (⟨#[]⟩ : ByteArray)) := (blk_cell BK120.out 0).trans rfl; have hcz8_1 : w7.cell? ⟨gb120, 1, none⟩ = some (.int .i64 0) := (blk_cell BK120.out 1).trans rfl; have hcz8_2 : w7.cell? ⟨gb120, 2, none⟩ = some (.bool false) := (blk_cell BK120.out 2).trans rfl; have hcz8_3 : w7.cell? ⟨gb120, 3, none⟩ = some (.string (⟨#[]⟩ : ByteArray)) := (blk_cell BK120.out 3).trans rfl; have hfz8_0 := blk_frozen BK120.out 0; have hfz8_1 := blk_frozen BK120.out 1; have hfz8_2 := blk_frozen BK120.out 2; have hfz8_3 := blk_frozen BK120.out 3))
    go_ret
    exact ⟨by first | rfl | (simp [errW_none, errW_some] <;> rfl) | (simp [*, errW_none, errW_some] <;> rfl), by repeat (first | (with_reducible first | exact HB.out | apply below_alloc | apply pw_below_drewN | apply below_drew1 | refine below_set ?_ GE120.out) | exact HB.out)⟩
  rw [if_neg c6] at H
  have c6b0 : decide (((rd_T39 l0 x9_1).f1) ≤ a1) = false := decide_eq_false c6
  clear c6
  have H' := Aside0.mk H
  clear H
  have p119 : 0 ≤ (x9_1 : Int) := of_decide_eq_true (by first | (with_reducible assumption) | assumption)
  have q119 : x9_1 < (l0.length : Int) := of_decide_eq_true (by first | (with_reducible assumption) | assumption)
  obtain ⟨ad119, e119, hx119_0, hx119_1, hx119_2, hx119_3⟩ := at_T39 HR0.out x9_1 p119 q119
  cases e119
  replace hx119_0 := (HB.out.cell (World.block_lt_of_cell? w _ hx119_0)).trans hx119_0
  replace hx119_1 := (HB.out.cell (World.block_lt_of_cell? w _ hx119_1)).trans hx119_1
  replace hx119_2 := (HB.out.cell (World.block_lt_of_cell? w _ hx119_2)).trans hx119_2
  replace hx119_3 := (HB.out.cell (World.block_lt_of_cell? w _ hx119_3)).trans hx119_3
  replace p119 := eq_true p119
  replace q119 := eq_true q119
  go_wp2_with (first | ((with_reducible refine gate_dst (N := 6) rfl ?_); refine box_event ?hg (N := 6) ?hd (cs := #[.string (⟨#[]⟩ : ByteArray), .int .i64 0, .bool false, .string (⟨#[]⟩ : ByteArray)]) (t := 39) ?hr ?_; (case hd => rfl); (case hg => rfl); (case hr => first | (go_simp; done) | (go_simp; rfl)); intro gb120 hg w9 hbox hb; have n0_ := Aside0.mk (below_step (by repeat (first | (with_reducible first | exact HB.out | apply below_alloc | apply pw_below_drewN | apply below_drew1) | exact HB.out)) hb); have n1_ := Aside0.mk (hbox); have n2_ := Aside0.mk ((by rw [hg]; exact (below_size (by repeat (first | (with_reducible first | exact HB.out | apply below_alloc | apply pw_below_drewN | apply below_drew1) | exact HB.out))) : w.heap.size ≤ gb120)); have n3_ := Aside0.mk ((by rw [hg]; exact (below_size (by repeat (first | (with_reducible first | exact HB.out | apply below_alloc | apply pw_below_drewN | apply below_drew1) | exact HB.out))) : w.heap.size ≤ gb120)); clear HB; have HB := n0_; have BK120 := n1_; have GW120 := n2_; have GE120 := n3_; clear n0_ n1_ n2_ n3_; clear hb hbox hg; have hcz10_0 : w9.cell? ⟨gb120, 0, none⟩ = some (.string (⟨#[]⟩ : ByteArray)) := (blk_cell BK120.out 0).trans rfl; have hcz10_1 : w9.cell? ⟨gb120, 1, none⟩ = some (.int .i64 0) := (blk_cell BK120.out 1).trans rfl; have hcz10_2 : w9.cell? ⟨gb120, 2, none⟩ = some (.bool false) := (blk_cell BK120.out 2).trans rfl; have hcz10_3 : w9.cell? ⟨gb120, 3, none⟩ = some (.string (⟨#[]⟩ : ByteArray)) := (blk_cell BK120.out 3).trans rfl; have hfz10_0 := blk_frozen BK120.out 0; have hfz10_1 := blk_frozen BK120.out 1; have hfz10_2 := blk_frozen BK120.out 2; have hfz10_3 := blk_frozen BK120.out 3))
  go_roundg k1
  case measure => have := HK1.out; omega
  case rel => exact ⟨(wrap64 (x9_1 + 1)), (by first | rfl | (simp; done) | (simp [*]; done)), H', ⟨by have := HK1.out; omega⟩, ⟨by repeat (first | (with_reducible first | exact HB.out | apply below_alloc | apply pw_below_drewN | apply below_drew1 | refine below_set ?_ GE120.out) | exact HB.out)⟩⟩

/-! ### merge_Visible: function 14 -/
-- by hand
def merge_Visible.l0 : Nat → Int → List (S39) → List (List (S39)) → Int → Int → Option ((List (S39)))
  | 0, _, _, _, _, _ => none
  | k + 1, x1, x5, x13, x14, x15 => if x15 < x14 then (if 0 ≤ x15 then (if x15 < (x13.length : Int) then ((merge_newest.f k (rd_L4 x13 x15) x1).bind fun t154 => (if t154 < ((rd_L4 x13 x15).length : Int) then (if 0 ≤ t154 then (if ((rd_T39 (rd_L4 x13 x15) t154).f2 = true) then (merge_Visible.l0 k x1 x5 x13 x14 (wrap64 (x15 + 1))) else (if x5.length < 2932031007402 then (merge_Visible.l0 k x1 (x5 ++ [(⟨(rd_T39 (rd_L4 x13 x15) t154).f0, (rd_T39 (rd_L4 x13 x15) t154).f1, (rd_T39 (rd_L4 x13 x15) t154).f2, (rd_T39 (rd_L4 x13 x15) t154).f3⟩ : S39)]) x13 x14 (wrap64 (x15 + 1))) else (none))) else (none)) else (merge_Visible.l0 k x1 x5 x13 x14 (wrap64 (x15 + 1))))) else (none)) else (none)) else (some x5)
def merge_Visible.f (k : Nat) (l0 : List (S39)) (a1 : Int) : Option ((List (S39))) := (entry_Sorted.f k l0).bind fun t149 => (if t149 = true then ((merge_groups.f k l0).bind fun t150 => (merge_Visible.l0 k a1 ([] : List (S39)) t150 (t150.length : Int) 0)) else (some ([] : List (S39))))
theorem merge_Visible.mono_l : ∀ k, (∀ y0 y1 y2 y3 y4, LeO (merge_Visible.l0 k y0 y1 y2 y3 y4) (merge_Visible.l0 (k + 1) y0 y1 y2 y3 y4))
  | 0 => fun _ _ _ _ _ r h => by simp [merge_Visible.l0] at h
  | k + 1 => by
    have ih0 := merge_Visible.mono_l k
    · intro y0 y1 y2 y3 y4
      unfold merge_Visible.l0
      repeat' first
      | (with_reducible exact ih0 _ _ _ _ _)
      | (with_reducible exact entry_Sorted.mono _ _)
      | (with_reducible exact merge_groups.mono _ _)
      | (with_reducible exact merge_newest.mono _ _ _)
      | (with_reducible exact LeO.refl _)
      | (with_reducible exact LeO.none _)
      | (with_reducible refine LeO.ite ?_ ?_)
      | (with_reducible refine LeO.bind ?_ (fun _ => ?_))
      | exact ih0 _ _ _ _ _
      | exact entry_Sorted.mono _ _
      | exact merge_groups.mono _ _
      | exact merge_newest.mono _ _ _
      | exact LeO.none _
      | refine LeO.ite ?_ ?_
      | refine LeO.bind ?_ (fun _ => ?_)
theorem merge_Visible.mono : ∀ a0 a1 k, LeO (merge_Visible.f k a0 a1) (merge_Visible.f (k + 1) a0 a1) := by
  intro a0 a1 k
  have ih0 := merge_Visible.mono_l k
  unfold merge_Visible.f
  repeat' first
      | (with_reducible exact ih0 _ _ _ _ _)
      | (with_reducible exact entry_Sorted.mono _ _)
      | (with_reducible exact merge_groups.mono _ _)
      | (with_reducible exact merge_newest.mono _ _ _)
      | (with_reducible exact LeO.refl _)
      | (with_reducible exact LeO.none _)
      | (with_reducible refine LeO.ite ?_ ?_)
      | (with_reducible refine LeO.bind ?_ (fun _ => ?_))
      | exact ih0 _ _ _ _ _
      | exact entry_Sorted.mono _ _
      | exact merge_groups.mono _ _
      | exact merge_newest.mono _ _ _
      | exact LeO.none _
      | refine LeO.ite ?_ ?_
      | refine LeO.bind ?_ (fun _ => ?_)
set_option maxHeartbeats 8000000 in
set_option maxRecDepth 100000 in
theorem merge_Visible.calls (k : Nat) (A0 : Option Addr) (c0 : Nat) (l0 : List (S39)) (a1 : Int) (r : List (S39)) (w : World) (hr0 : Kd.C k39 w A0 l0.length l0) (hc0 : l0.length ≤ c0) (h : merge_Visible.f k l0 a1 = some r) :
    Calls Try.prog 14 #[.slice A0 l0.length c0, .int .i64 a1] w fun e w' => ∃ v0_ : Value, e = .returned (v0_) ∧ Kd.R k39 39 w' w.heap.size (fun _ => True) v0_ r ∧ Below w.heap.size w w' := by
  have hu39 := Try.underlying39
  have HR0 := Aside0.mk hr0
  have HC0 := Aside0.mk hc0
  clear hr0 hc0
  have HB := Aside0.mk (Below.refl w.heap.size w)
  have H : ((entry_Sorted.f k l0).bind fun t149 => (if t149 = true then ((merge_groups.f k l0).bind fun t150 => (merge_Visible.l0 k a1 ([] : List (S39)) t150 (t150.length : Int) 0)) else (some ([] : List (S39))))) = some r := h
  clear h
  replace H := Option.bind_eq_some_iff.mp H
  obtain ⟨t149, A30, H⟩ := H
  replace H : (if t149 = true then ((merge_groups.f k l0).bind fun t150 => (merge_Visible.l0 k a1 ([] : List (S39)) t150 (t150.length : Int) 0)) else (some ([] : List (S39)))) = some r := H
  have A3 := Aside0.mk A30
  clear A30
  by_cases c4 : t149 = true
  rotate_left
  · replace c4 := Bool.eq_false_iff.mpr c4
    subst c4
    have H1 : (some ([] : List (S39))) = some r := by rw [if_neg (show ¬ (false = true) by decide)] at H; exact H
    clear H
    have H := H1
    clear H1
    obtain rfl := Option.some.inj H
    go_enter Try.func14, Try.ntmps14
    go_wp2_with (first | ((with_reducible refine gate_callee (f := 22) rfl ?_); refine goesL_ (some 10) rfl rfl Try.func22 (by kernel_rfl) rfl #[.slice A0 l0.length c0] rfl (by (try simp only [List.map_toArray, List.map_cons, List.map_nil]); first | done | rfl | (simp only [List.length_drop, List.length_take]; rfl)) ?_; (with_reducible refine (entry_Sorted.calls k _ _ l0 false _ ?side1 ?side2 A3.out).mono ?_); (case side1 => repeat (first | exact HR0.out | (with_reducible refine Kd.C_alloc ?_ _) | (with_reducible refine Kd.C_drewN ?_ _) | (with_reducible refine Kd.C_drew ?_))); (case side2 => exact HC0.out); rintro e w22 ⟨rfl, hb⟩; refine ⟨_, rfl, ?_⟩; have n0_ := Aside0.mk (below_step (by repeat (first | (with_reducible first | exact HB.out | apply below_alloc | apply pw_below_drewN | apply below_drew1) | exact HB.out)) hb); clear HB; have HB := n0_; clear n0_; (try clear hb); (try clear hb2); (try clear hk); (try clear hi)))
    go_ret
    exact ⟨_, by first | rfl | (simp [errW_none, errW_some] <;> rfl) | (simp [*, errW_none, errW_some] <;> rfl), by first | exact Kd.R_nil _ _ _ _ _ | exact Kd.N_nil _ _ _ _ _ | exact Kd.V_nil _ _ _ _ _ | exact Kd.Q_nil _ _ _ _ _ | exact Kd.S_nil _ _ _ _ _, by repeat (first | (with_reducible first | exact HB.out | apply below_alloc | apply pw_below_drewN | apply below_drew1) | exact HB.out)⟩
  subst c4
  have H1 : ((merge_groups.f k l0).bind fun t150 => (merge_Visible.l0 k a1 ([] : List (S39)) t150 (t150.length : Int) 0)) = some r := by rw [if_pos rfl] at H; exact H
  clear H
  have H := H1
  clear H1
  replace H := Option.bind_eq_some_iff.mp H
  obtain ⟨t150, A50, H⟩ := H
  replace H : (merge_Visible.l0 k a1 ([] : List (S39)) t150 (t150.length : Int) 0) = some r := H
  have A5 := Aside0.mk A50
  clear A50
  have H' := Aside0.mk H
  clear H
  go_enter Try.func14, Try.ntmps14
  go_wp2_with (first | ((with_reducible refine gate_callee (f := 22) rfl ?_); refine goesL_ (some 10) rfl rfl Try.func22 (by kernel_rfl) rfl #[.slice A0 l0.length c0] rfl (by (try simp only [List.map_toArray, List.map_cons, List.map_nil]); first | done | rfl | (simp only [List.length_drop, List.length_take]; rfl)) ?_; (with_reducible refine (entry_Sorted.calls k _ _ l0 true _ ?side1 ?side2 A3.out).mono ?_); (case side1 => repeat (first | exact HR0.out | (with_reducible refine Kd.C_alloc ?_ _) | (with_reducible refine Kd.C_drewN ?_ _) | (with_reducible refine Kd.C_drew ?_))); (case side2 => exact HC0.out); rintro e w6 ⟨rfl, hb⟩; refine ⟨_, rfl, ?_⟩; have n0_ := Aside0.mk (below_step (by repeat (first | (with_reducible first | exact HB.out | apply below_alloc | apply pw_below_drewN | apply below_drew1) | exact HB.out)) hb); clear HB; have HB := n0_; clear n0_; (try clear hb); (try clear hb2); (try clear hk); (try clear hi)) | ((with_reducible refine gate_callee (f := 26) rfl ?_); refine goesL_ (some 13) rfl rfl Try.func26 (by kernel_rfl) rfl #[.slice A0 l0.length c0] rfl (by (try simp only [List.map_toArray, List.map_cons, List.map_nil]); first | done | rfl | (simp only [List.length_drop, List.length_take]; rfl)) ?_; (with_reducible refine (merge_groups.calls k w _ _ l0 t150 _ ?side0 ?side1 ?side2 A5.out).mono ?_); (case side0 => repeat (first | (with_reducible first | exact HB.out | apply below_alloc | apply pw_below_drewN | apply below_drew1) | exact HB.out)); (case side1 => exact HR0.out); (case side2 => exact HC0.out); rintro e w7 ⟨v151, rfl, ho0, hb⟩; refine ⟨_, rfl, ?_⟩; have n0_ := Aside0.mk (Kd.S_lower (kGL_S ho0) (below_size (by repeat (first | (with_reducible first | exact HB.out | apply below_alloc | apply pw_below_drewN | apply below_drew1) | exact HB.out)))); have n1_ := Aside0.mk (below_step (by repeat (first | (with_reducible first | exact HB.out | apply below_alloc | apply pw_below_drewN | apply below_drew1) | exact HB.out)) hb); clear HB; have HO152 := n0_; have HB := n1_; clear n0_ n1_; (try clear hb); (try clear hb2); (try clear hk); (try clear hi); (try clear ho0); obtain ⟨Ao8, co8, eo8⟩ := Kd.S_slice HO152.out; subst eo8))
  go_loopg [5, 15] k (fun kq v5 v15 w' => ∃ (x5_1 : List (S39)) (x15_1 : Int), v15 = .int .i64 x15_1 ∧ Aside0 (merge_Visible.l0 kq a1 x5_1 t150 (t150.length : Int) x15_1 = some r) ∧ Aside0 (kq ≤ k) ∧ Aside0 (Kd.R k39 39 w' w.heap.size (fun _ => True) v5 x5_1) ∧ Aside0 (Kd.S (kGL w) 23 w' w.heap.size (fun k_ => some k_ ≠ (v5 : Value).ownBlock) (.slice Ao8 t150.length co8) t150) ∧ Aside0 (Below w.heap.size w w'))
  case atStart => exact ⟨(([] : List (S39))), (0), (by first | rfl | (simp; done) | (simp [*]; done)), H', ⟨Nat.le_refl _⟩, ⟨by first | exact Kd.R_nil _ _ _ _ _ | exact Kd.N_nil _ _ _ _ _ | exact Kd.V_nil _ _ _ _ _ | exact Kd.Q_nil _ _ _ _ _ | exact Kd.S_nil _ _ _ _ _⟩, ⟨by (with_reducible repeat (first | apply Kd.S_alloc | apply Kd.S_drewN | apply Kd.S_drew)); exact Kd.S_mono HO152.out (fun _ hk => (by simp [Value.ownBlock]))⟩, ⟨by repeat (first | (with_reducible first | exact HB.out | apply below_alloc | apply pw_below_drewN | apply below_drew1) | exact HB.out)⟩⟩
  clear H'
  try clear c1
  try clear c2
  try clear p2
  try clear c4
  obtain ⟨x5_1, x15_1, rfl, HA, HK1, HO_5, HO_13, HB⟩ := hrel
  cases gk with
  | zero => exact absurd HA.out (by simp [merge_Visible.l0])
  | succ k1 => ?_
  have H := HA.out
  clear HA
  simp only [merge_Visible.l0] at H
  by_cases c9 : x15_1 < (t150.length : Int)
  rotate_left
  · rw [if_neg c9] at H
    have c9b0 : decide (x15_1 < (t150.length : Int)) = false := decide_eq_false c9
    clear c9
    obtain rfl := Option.some.inj H
    go_wp2
    go_ret
    exact ⟨_, by first | rfl | (simp [errW_none, errW_some] <;> rfl) | (simp [*, errW_none, errW_some] <;> rfl), by (with_reducible repeat (first | apply Kd.R_alloc | apply Kd.R_drewN | apply Kd.R_drew)); exact HO_5.out, by repeat (first | (with_reducible first | exact HB.out | apply below_alloc | apply pw_below_drewN | apply below_drew1) | exact HB.out)⟩
  rw [if_pos c9] at H
  have c9b0 : decide (x15_1 < (t150.length : Int)) = true := decide_eq_true c9
  clear c9
  by_cases c10 : 0 ≤ x15_1
  rotate_left
  · rw [if_neg c10] at H
    exact absurd H (by simp)
  rw [if_pos c10] at H
  have c10b0 : decide (0 ≤ x15_1) = true := decide_eq_true c10
  clear c10
  by_cases c11 : x15_1 < (t150.length : Int)
  rotate_left
  · rw [if_neg c11] at H
    exact absurd H (by simp)
  rw [if_pos c11] at H
  have c11b0 : decide (x15_1 < (t150.length : Int)) = true := decide_eq_true c11
  clear c11
  replace H := Option.bind_eq_some_iff.mp H
  obtain ⟨t154, A120, H⟩ := H
  replace H : (if t154 < ((rd_L4 t150 x15_1).length : Int) then (if 0 ≤ t154 then (if ((rd_T39 (rd_L4 t150 x15_1) t154).f2 = true) then (merge_Visible.l0 k1 a1 x5_1 t150 (t150.length : Int) (wrap64 (x15_1 + 1))) else (if x5_1.length < 2932031007402 then (merge_Visible.l0 k1 a1 (x5_1 ++ [(⟨(rd_T39 (rd_L4 t150 x15_1) t154).f0, (rd_T39 (rd_L4 t150 x15_1) t154).f1, (rd_T39 (rd_L4 t150 x15_1) t154).f2, (rd_T39 (rd_L4 t150 x15_1) t154).f3⟩ : S39)]) t150 (t150.length : Int) (wrap64 (x15_1 + 1))) else (none))) else (none)) else (merge_Visible.l0 k1 a1 x5_1 t150 (t150.length : Int) (wrap64 (x15_1 + 1)))) = some r := H
  have A12 := Aside0.mk A120
  clear A120
  by_cases c13 : t154 < ((rd_L4 t150 x15_1).length : Int)
  rotate_left
  · rw [if_neg c13] at H
    have c13b0 : decide (t154 < ((rd_L4 t150 x15_1).length : Int)) = false := decide_eq_false c13
    clear c13
    have H' := Aside0.mk H
    clear H
    have p153 : 0 ≤ (x15_1 : Int) := of_decide_eq_true (by first | (with_reducible assumption) | assumption)
    have q153 : x15_1 < (t150.length : Int) := of_decide_eq_true (by first | (with_reducible assumption) | assumption)
    obtain ⟨ad153, A153_0, c153_0, e153, hx153_0, hl153_0, hi153_0⟩ := at_GL (Kd.S_reads' HO_13.out).2.2 x15_1 p153 q153 (by repeat (first | (with_reducible first | exact HB.out | apply below_alloc | apply pw_below_drewN | apply below_drew1) | exact HB.out))
    cases e153
    have HR153_0 := Aside0.mk hi153_0
    have HC153_0 := Aside0.mk hl153_0
    clear hi153_0 hl153_0
    replace p153 := eq_true p153
    replace q153 := eq_true q153
    go_wp2_with (first | ((with_reducible refine gate_callee (f := 27) rfl ?_); refine goesL_ (some 21) rfl rfl Try.func27 (by kernel_rfl) rfl #[.slice A153_0 (rd_L4 t150 x15_1).length c153_0, .int .i64 a1] rfl (by (try simp only [List.map_toArray, List.map_cons, List.map_nil]); first | done | rfl | (simp only [List.length_drop, List.length_take]; rfl)) ?_; (with_reducible refine (merge_newest.calls k1 _ _ (rd_L4 t150 x15_1) a1 t154 _ ?side1 ?side2 A12.out).mono ?_); (case side1 => repeat (first | exact (by repeat (first | (with_reducible exact HR153_0.out) | (with_reducible refine Kd.C_alloc ?_ _) | (with_reducible refine Kd.C_drewN ?_ _) | (with_reducible refine Kd.C_drew ?_) | exact HR153_0.out)) | (with_reducible refine Kd.C_alloc ?_ _) | (with_reducible refine Kd.C_drewN ?_ _) | (with_reducible refine Kd.C_drew ?_))); (case side2 => exact HC153_0.out); rintro e w21 ⟨rfl, hb⟩; refine ⟨_, rfl, ?_⟩; have n0_ := Aside0.mk (Kd.R_below (by (with_reducible repeat (first | apply Kd.R_alloc | apply Kd.R_drewN | apply Kd.R_drew)); exact HO_5.out) hb); have n1_ := Aside0.mk (Kd.S_below (by (with_reducible repeat (first | apply Kd.S_alloc | apply Kd.S_drewN | apply Kd.S_drew)); exact HO_13.out) hb); have n3_ := Aside0.mk (Kd.C_below (by repeat (first | (with_reducible exact HR153_0.out) | (with_reducible refine Kd.C_alloc ?_ _) | (with_reducible refine Kd.C_drewN ?_ _) | (with_reducible refine Kd.C_drew ?_) | exact HR153_0.out)) hb); have n4_ := Aside0.mk (below_step (by repeat (first | (with_reducible first | exact HB.out | apply below_alloc | apply pw_below_drewN | apply below_drew1) | exact HB.out)) hb); clear HO_5; clear HO_13; clear HR153_0; clear HB; have HO_5 := n0_; have HO_13 := n1_; have HR153_0 := n3_; have HB := n4_; clear n0_ n1_ n3_ n4_; (try clear hb); (try clear hb2); (try clear hk); (try clear hi)))
    go_roundg k1
    case measure => have := HK1.out; omega
    case rel => exact ⟨(x5_1), (wrap64 (x15_1 + 1)), (by first | rfl | (simp; done) | (simp [*]; done)), H', ⟨by have := HK1.out; omega⟩, ⟨by (with_reducible repeat (first | apply Kd.R_alloc | apply Kd.R_drewN | apply Kd.R_drew)); exact HO_5.out⟩, ⟨by (with_reducible repeat (first | apply Kd.S_alloc | apply Kd.S_drewN | apply Kd.S_drew)); exact HO_13.out⟩, ⟨by repeat (first | (with_reducible first | exact HB.out | apply below_alloc | apply pw_below_drewN | apply below_drew1) | exact HB.out)⟩⟩
  rw [if_pos c13] at H
  have c13b0 : decide (t154 < ((rd_L4 t150 x15_1).length : Int)) = true := decide_eq_true c13
  clear c13
  by_cases c14 : 0 ≤ t154
  rotate_left
  · rw [if_neg c14] at H
    exact absurd H (by simp)
  rw [if_pos c14] at H
  have c14b0 : decide (0 ≤ t154) = true := decide_eq_true c14
  clear c14
  obtain ⟨bq15, hbq15⟩ : ∃ b_ : Bool, b_ = ((rd_T39 (rd_L4 t150 x15_1) t154).f2) := ⟨_, rfl⟩
  replace H : (if (bq15 = true) then (merge_Visible.l0 k1 a1 x5_1 t150 (t150.length : Int) (wrap64 (x15_1 + 1))) else (if x5_1.length < 2932031007402 then (merge_Visible.l0 k1 a1 (x5_1 ++ [(⟨(rd_T39 (rd_L4 t150 x15_1) t154).f0, (rd_T39 (rd_L4 t150 x15_1) t154).f1, bq15, (rd_T39 (rd_L4 t150 x15_1) t154).f3⟩ : S39)]) t150 (t150.length : Int) (wrap64 (x15_1 + 1))) else (none))) = some r := by rw [← hbq15] at H; exact H
  have Nbq15 := Aside0.mk hbq15
  clear hbq15
  by_cases c16 : (bq15 = true)
  · subst c16
    have H1 : (merge_Visible.l0 k1 a1 x5_1 t150 (t150.length : Int) (wrap64 (x15_1 + 1))) = some r := by rw [if_pos rfl] at H; exact H
    clear H
    have H := H1
    clear H1
    have H' := Aside0.mk H
    clear H
    have p153 : 0 ≤ (x15_1 : Int) := of_decide_eq_true (by first | (with_reducible assumption) | assumption)
    have q153 : x15_1 < (t150.length : Int) := of_decide_eq_true (by first | (with_reducible assumption) | assumption)
    obtain ⟨ad153, A153_0, c153_0, e153, hx153_0, hl153_0, hi153_0⟩ := at_GL (Kd.S_reads' HO_13.out).2.2 x15_1 p153 q153 (by repeat (first | (with_reducible first | exact HB.out | apply below_alloc | apply pw_below_drewN | apply below_drew1) | exact HB.out))
    cases e153
    have HR153_0 := Aside0.mk hi153_0
    have HC153_0 := Aside0.mk hl153_0
    clear hi153_0 hl153_0
    replace p153 := eq_true p153
    replace q153 := eq_true q153
    go_wp2_with (first | ((with_reducible refine gate_callee (f := 27) rfl ?_); refine goesL_ (some 21) rfl rfl Try.func27 (by kernel_rfl) rfl #[.slice A153_0 (rd_L4 t150 x15_1).length c153_0, .int .i64 a1] rfl (by (try simp only [List.map_toArray, List.map_cons, List.map_nil]); first | done | rfl | (simp only [List.length_drop, List.length_take]; rfl)) ?_; (with_reducible refine (merge_newest.calls k1 _ _ (rd_L4 t150 x15_1) a1 t154 _ ?side1 ?side2 A12.out).mono ?_); (case side1 => repeat (first | exact (by repeat (first | (with_reducible exact HR153_0.out) | (with_reducible refine Kd.C_alloc ?_ _) | (with_reducible refine Kd.C_drewN ?_ _) | (with_reducible refine Kd.C_drew ?_) | exact HR153_0.out)) | (with_reducible refine Kd.C_alloc ?_ _) | (with_reducible refine Kd.C_drewN ?_ _) | (with_reducible refine Kd.C_drew ?_))); (case side2 => exact HC153_0.out); rintro e w17 ⟨rfl, hb⟩; refine ⟨_, rfl, ?_⟩; have n0_ := Aside0.mk (Kd.R_below (by (with_reducible repeat (first | apply Kd.R_alloc | apply Kd.R_drewN | apply Kd.R_drew)); exact HO_5.out) hb); have n1_ := Aside0.mk (Kd.S_below (by (with_reducible repeat (first | apply Kd.S_alloc | apply Kd.S_drewN | apply Kd.S_drew)); exact HO_13.out) hb); have n3_ := Aside0.mk (Kd.C_below (by repeat (first | (with_reducible exact HR153_0.out) | (with_reducible refine Kd.C_alloc ?_ _) | (with_reducible refine Kd.C_drewN ?_ _) | (with_reducible refine Kd.C_drew ?_) | exact HR153_0.out)) hb); have n4_ := Aside0.mk (below_step (by repeat (first | (with_reducible first | exact HB.out | apply below_alloc | apply pw_below_drewN | apply below_drew1) | exact HB.out)) hb); clear HO_5; clear HO_13; clear HR153_0; clear HB; have HO_5 := n0_; have HO_13 := n1_; have HR153_0 := n3_; have HB := n4_; clear n0_ n1_ n3_ n4_; (try clear hb); (try clear hb2); (try clear hk); (try clear hi); have p155 : 0 ≤ (t154 : Int) := of_decide_eq_true (by first | (with_reducible assumption) | assumption); have q155 : t154 < ((rd_L4 t150 x15_1).length : Int) := of_decide_eq_true (by first | (with_reducible assumption) | assumption); obtain ⟨ad155, e155, hx155_0, hx155_1, hx155_2, hx155_3⟩ := at_T39 (by repeat (first | (with_reducible exact HR153_0.out) | (with_reducible refine Kd.C_alloc ?_ _) | (with_reducible refine Kd.C_drewN ?_ _) | (with_reducible refine Kd.C_drew ?_) | exact HR153_0.out)) t154 p155 q155; (try rw [← Nbq15.out] at hx155_2); cases e155; replace p155 := eq_true p155; replace q155 := eq_true q155))
    go_roundg k1
    case measure => have := HK1.out; omega
    case rel => exact ⟨(x5_1), (wrap64 (x15_1 + 1)), (by first | rfl | (simp; done) | (simp [*]; done)), H', ⟨by have := HK1.out; omega⟩, ⟨by (with_reducible repeat (first | apply Kd.R_alloc | apply Kd.R_drewN | apply Kd.R_drew)); exact HO_5.out⟩, ⟨by (with_reducible repeat (first | apply Kd.S_alloc | apply Kd.S_drewN | apply Kd.S_drew)); exact HO_13.out⟩, ⟨by repeat (first | (with_reducible first | exact HB.out | apply below_alloc | apply pw_below_drewN | apply below_drew1) | exact HB.out)⟩⟩
  replace c16 := Bool.eq_false_iff.mpr c16
  subst c16
  have H1 : (if x5_1.length < 2932031007402 then (merge_Visible.l0 k1 a1 (x5_1 ++ [(⟨(rd_T39 (rd_L4 t150 x15_1) t154).f0, (rd_T39 (rd_L4 t150 x15_1) t154).f1, false, (rd_T39 (rd_L4 t150 x15_1) t154).f3⟩ : S39)]) t150 (t150.length : Int) (wrap64 (x15_1 + 1))) else (none)) = some r := by rw [if_neg (show ¬ (false = true) by decide)] at H; exact H
  clear H
  have H := H1
  clear H1
  by_cases c18 : x5_1.length < 2932031007402
  rotate_left
  · rw [if_neg c18] at H
    exact absurd H (by simp)
  rw [if_pos c18] at H
  have LMc18 := Aside0.mk c18
  clear c18
  obtain ⟨y157, hy157⟩ : ∃ y_ : List (S39), y_ = (x5_1 ++ [(⟨(rd_T39 (rd_L4 t150 x15_1) t154).f0, (rd_T39 (rd_L4 t150 x15_1) t154).f1, false, (rd_T39 (rd_L4 t150 x15_1) t154).f3⟩ : S39)]) := ⟨_, rfl⟩
  replace H : (merge_Visible.l0 k1 a1 y157 t150 (t150.length : Int) (wrap64 (x15_1 + 1))) = some r := by first | (rw [hy157]; with_reducible exact H) | (have H2_ := (Option.bind_some _ _).symm.trans H; rw [hy157]; with_reducible exact H2_) | (have H2_ := (Option.bind_some _ _).symm.trans H; with_reducible exact H2_) | with_reducible exact H | (rw [hy157]; exact H) | exact H
  have Ny157 := Aside0.mk hy157
  clear hy157
  have H' := Aside0.mk H
  clear H
  have p153 : 0 ≤ (x15_1 : Int) := of_decide_eq_true (by first | (with_reducible assumption) | assumption)
  have q153 : x15_1 < (t150.length : Int) := of_decide_eq_true (by first | (with_reducible assumption) | assumption)
  obtain ⟨ad153, A153_0, c153_0, e153, hx153_0, hl153_0, hi153_0⟩ := at_GL (Kd.S_reads' HO_13.out).2.2 x15_1 p153 q153 (by repeat (first | (with_reducible first | exact HB.out | apply below_alloc | apply pw_below_drewN | apply below_drew1) | exact HB.out))
  cases e153
  have HR153_0 := Aside0.mk hi153_0
  have HC153_0 := Aside0.mk hl153_0
  clear hi153_0 hl153_0
  replace p153 := eq_true p153
  replace q153 := eq_true q153
  go_wp2_with (first | ((with_reducible refine gate_callee (f := 27) rfl ?_); refine goesL_ (some 21) rfl rfl Try.func27 (by kernel_rfl) rfl #[.slice A153_0 (rd_L4 t150 x15_1).length c153_0, .int .i64 a1] rfl (by (try simp only [List.map_toArray, List.map_cons, List.map_nil]); first | done | rfl | (simp only [List.length_drop, List.length_take]; rfl)) ?_; (with_reducible refine (merge_newest.calls k1 _ _ (rd_L4 t150 x15_1) a1 t154 _ ?side1 ?side2 A12.out).mono ?_); (case side1 => repeat (first | exact (by repeat (first | (with_reducible exact HR153_0.out) | (with_reducible refine Kd.C_alloc ?_ _) | (with_reducible refine Kd.C_drewN ?_ _) | (with_reducible refine Kd.C_drew ?_) | exact HR153_0.out)) | (with_reducible refine Kd.C_alloc ?_ _) | (with_reducible refine Kd.C_drewN ?_ _) | (with_reducible refine Kd.C_drew ?_))); (case side2 => exact HC153_0.out); rintro e w19 ⟨rfl, hb⟩; refine ⟨_, rfl, ?_⟩; have n0_ := Aside0.mk (Kd.R_below (by (with_reducible repeat (first | apply Kd.R_alloc | apply Kd.R_drewN | apply Kd.R_drew)); exact HO_5.out) hb); have n1_ := Aside0.mk (Kd.S_below (by (with_reducible repeat (first | apply Kd.S_alloc | apply Kd.S_drewN | apply Kd.S_drew)); exact HO_13.out) hb); have n3_ := Aside0.mk (Kd.C_below (by repeat (first | (with_reducible exact HR153_0.out) | (with_reducible refine Kd.C_alloc ?_ _) | (with_reducible refine Kd.C_drewN ?_ _) | (with_reducible refine Kd.C_drew ?_) | exact HR153_0.out)) hb); have n4_ := Aside0.mk (below_step (by repeat (first | (with_reducible first | exact HB.out | apply below_alloc | apply pw_below_drewN | apply below_drew1) | exact HB.out)) hb); clear HO_5; clear HO_13; clear HR153_0; clear HB; have HO_5 := n0_; have HO_13 := n1_; have HR153_0 := n3_; have HB := n4_; clear n0_ n1_ n3_ n4_; (try clear hb); (try clear hb2); (try clear hk); (try clear hi); have p155 : 0 ≤ (t154 : Int) := of_decide_eq_true (by first | (with_reducible assumption) | assumption); have q155 : t154 < ((rd_L4 t150 x15_1).length : Int) := of_decide_eq_true (by first | (with_reducible assumption) | assumption); obtain ⟨ad155, e155, hx155_0, hx155_1, hx155_2, hx155_3⟩ := at_T39 (by repeat (first | (with_reducible exact HR153_0.out) | (with_reducible refine Kd.C_alloc ?_ _) | (with_reducible refine Kd.C_drewN ?_ _) | (with_reducible refine Kd.C_drew ?_) | exact HR153_0.out)) t154 p155 q155; (try rw [← Nbq15.out] at hx155_2); cases e155; replace p155 := eq_true p155; replace q155 := eq_true q155; have p156 : 0 ≤ (t154 : Int) := of_decide_eq_true (by first | (with_reducible assumption) | assumption); have q156 : t154 < ((rd_L4 t150 x15_1).length : Int) := of_decide_eq_true (by first | (with_reducible assumption) | assumption); obtain ⟨ad156, e156, hx156_0, hx156_1, hx156_2, hx156_3⟩ := at_T39 (by repeat (first | (with_reducible exact HR153_0.out) | (with_reducible refine Kd.C_alloc ?_ _) | (with_reducible refine Kd.C_drewN ?_ _) | (with_reducible refine Kd.C_drew ?_) | exact HR153_0.out)) t154 p156 q156; (try rw [← Nbq15.out] at hx156_2); obtain rfl : ad155 = ad156 := (by injection e156); replace p156 := eq_true p156; replace q156 := eq_true q156) | ((with_reducible refine gate_builtin (b := .append) (xs := #[.tmp 34, .tmp 39]) rfl ?_); at_builtin; refine Kd.R_append k39 (w0 := w) w.heap.size rfl (.tmp 34) (.tmp 39) 23 39 (.agg #[(.string ⟨#[]⟩), (.int .i64 0), (.bool false), (.string ⟨#[]⟩)]) 48 rfl Try.underlying23 info39 rfl (by decide) (by omega) u5 x5_1 (⟨(rd_T39 (rd_L4 t150 x15_1) t154).f0, (rd_T39 (rd_L4 t150 x15_1) t154).f1, false, (rd_T39 (rd_L4 t150 x15_1) t154).f3⟩ : S39) [.string ((rd_T39 (rd_L4 t150 x15_1) t154).f0), .int .i64 ((rd_T39 (rd_L4 t150 x15_1) t154).f1), .bool false, .string ((rd_T39 (rd_L4 t150 x15_1) t154).f3)] (fun _ => True) (fun _ => False) rfl rfl ?aP (fun _ hk => hk.elim) ?aF ?aO ?aB ?aS ?aL ?_; (case aP => exact k39_mkM _ _ _ (⟨(rd_T39 (rd_L4 t150 x15_1) t154).f0, (rd_T39 (rd_L4 t150 x15_1) t154).f1, false, (rd_T39 (rd_L4 t150 x15_1) t154).f3⟩ : S39)); (case aB => exact (by repeat (first | (with_reducible first | exact HB.out | apply below_alloc | apply pw_below_drewN | apply below_drew1) | exact HB.out))); (case aF => exact (fun _ _ => trivial)); (case aO => exact (by (with_reducible repeat (first | apply Kd.R_alloc | apply Kd.R_drewN | apply Kd.R_drew)); exact HO_5.out)); (case aS => exact (below_size (by repeat (first | (with_reducible first | exact HB.out | apply below_alloc | apply pw_below_drewN | apply below_drew1) | exact HB.out)))); (case aL => have := LMc18.out; omega); intro v158 w20 ho hb hg hat; rw [← Ny157.out] at ho; have n0_ := Aside0.mk (Kd.S_after (ok := (fun _ => True)) (by (with_reducible repeat (first | apply Kd.S_alloc | apply Kd.S_drewN | apply Kd.S_drew)); exact Kd.S_mono HO_13.out (fun _ hk => ⟨trivial, hk⟩)) hg hat); have n2_ := Aside0.mk (hb); have n3_ := Aside0.mk (ho); clear HO_13; clear HB; clear HO_5; have HO_13 := n0_; have HB := n2_; have HO159 := n3_; clear n0_ n2_ n3_; clear ho hb hg hat))
  go_roundg k1
  case measure => have := HK1.out; omega
  case rel => exact ⟨(y157), (wrap64 (x15_1 + 1)), (by first | rfl | (simp; done) | (simp [*]; done)), H', ⟨by have := HK1.out; omega⟩, ⟨by (with_reducible repeat (first | apply Kd.R_alloc | apply Kd.R_drewN | apply Kd.R_drew)); exact HO159.out⟩, ⟨by (with_reducible repeat (first | apply Kd.S_alloc | apply Kd.S_drewN | apply Kd.S_drew)); exact Kd.S_mono HO_13.out (fun _ hk => hk.2)⟩, ⟨by repeat (first | (with_reducible first | exact HB.out | apply below_alloc | apply pw_below_drewN | apply below_drew1) | exact HB.out)⟩⟩

/-! ### entry_IsWrite: function 37 -/
def entry_IsWrite.f (a0_0 : ByteArray) (a0_1 : Bool) (a0_2 : ByteArray) : Option (Bool) := if (a0_0.size : Int) ≥ 1 then (if (a0_0.size : Int) ≤ 13 then (if (a0_2.size : Int) ≤ 24 then (if a0_1 = true then (some (a0_2.toList == ([] : List UInt8))) else (some true)) else (some false)) else (some false)) else (some false)
set_option maxHeartbeats 8000000 in
set_option maxRecDepth 100000 in
theorem entry_IsWrite.calls (a0_0 : ByteArray) (a0_1 : Bool) (a0_2 : ByteArray) (r : Bool) (w : World) (h : entry_IsWrite.f a0_0 a0_1 a0_2 = some r) :
    Calls Try.prog 37 #[.agg #[.string a0_0, .bool a0_1, .string a0_2]] w fun e w' => e = .returned (.bool r) ∧ Below w.heap.size w w' := by
  have hu62 := Try.underlying62
  have HB := Aside0.mk (Below.refl w.heap.size w)
  have H : (if (a0_0.size : Int) ≥ 1 then (if (a0_0.size : Int) ≤ 13 then (if (a0_2.size : Int) ≤ 24 then (if a0_1 = true then (some (a0_2.toList == ([] : List UInt8))) else (some true)) else (some false)) else (some false)) else (some false)) = some r := h
  clear h
  by_cases c2 : (a0_0.size : Int) ≥ 1
  rotate_left
  · rw [if_neg c2] at H
    have c2b0 : decide (1 ≤ (a0_0.size : Int)) = false := decide_eq_false c2
    have c2b1 : decide (1 ≤ a0_0.size) = false := decide_eq_false (by omega)
    clear c2
    obtain rfl := Option.some.inj H
    go_enter Try.func37, Try.ntmps37
    go_wp2_with (first | ((with_reducible refine gate_dst (N := 1) rfl ?_); (try (refine gate_guard (by rfl) ?_; dsimp only)); refine box_event ?hg (N := 1) ?hd (cs := #[.string a0_0, .bool a0_1, .string a0_2]) (t := 62) ?hr ?_; (case hd => rfl); (case hg => rfl); (case hr => first | (go_simp; done) | (go_simp; rfl)); intro gb121 hg w14 hbox hb; have n0_ := Aside0.mk (below_step (by repeat (first | (with_reducible first | exact HB.out | apply below_alloc | apply pw_below_drewN | apply below_drew1) | exact HB.out)) hb); have n1_ := Aside0.mk (hbox); have n2_ := Aside0.mk ((by rw [hg]; exact (below_size (by repeat (first | (with_reducible first | exact HB.out | apply below_alloc | apply pw_below_drewN | apply below_drew1) | exact HB.out))) : w.heap.size ≤ gb121)); have n3_ := Aside0.mk ((by rw [hg]; exact (below_size (by repeat (first | (with_reducible first | exact HB.out | apply below_alloc | apply pw_below_drewN | apply below_drew1) | exact HB.out))) : w.heap.size ≤ gb121)); clear HB; have HB := n0_; have BK121 := n1_; have GW121 := n2_; have GE121 := n3_; clear n0_ n1_ n2_ n3_; clear hb hbox hg; have hcz15_0 : w14.cell? ⟨gb121, 0, none⟩ = some (.string a0_0) := (blk_cell BK121.out 0).trans rfl; have hcz15_1 : w14.cell? ⟨gb121, 1, none⟩ = some (.bool a0_1) := (blk_cell BK121.out 1).trans rfl; have hcz15_2 : w14.cell? ⟨gb121, 2, none⟩ = some (.string a0_2) := (blk_cell BK121.out 2).trans rfl; have hfz15_0 := blk_frozen BK121.out 0; have hfz15_1 := blk_frozen BK121.out 1; have hfz15_2 := blk_frozen BK121.out 2))
    go_ret
    exact ⟨by first | rfl | (simp [errW_none, errW_some] <;> rfl) | (simp [*, errW_none, errW_some] <;> rfl), by repeat (first | (with_reducible first | exact HB.out | apply below_alloc | apply pw_below_drewN | apply below_drew1 | refine below_set ?_ GE121.out) | exact HB.out)⟩
  rw [if_pos c2] at H
  have c2b0 : decide (1 ≤ (a0_0.size : Int)) = true := decide_eq_true c2
  have c2b1 : decide (1 ≤ a0_0.size) = true := decide_eq_true (by omega)
  clear c2
  by_cases c3 : (a0_0.size : Int) ≤ 13
  rotate_left
  · rw [if_neg c3] at H
    have c3b0 : decide ((a0_0.size : Int) ≤ 13) = false := decide_eq_false c3
    have c3b1 : decide (a0_0.size ≤ 13) = false := decide_eq_false (by omega)
    clear c3
    obtain rfl := Option.some.inj H
    go_enter Try.func37, Try.ntmps37
    go_wp2_with (first | ((with_reducible refine gate_dst (N := 1) rfl ?_); (try (refine gate_guard (by rfl) ?_; dsimp only)); refine box_event ?hg (N := 1) ?hd (cs := #[.string a0_0, .bool a0_1, .string a0_2]) (t := 62) ?hr ?_; (case hd => rfl); (case hg => rfl); (case hr => first | (go_simp; done) | (go_simp; rfl)); intro gb121 hg w12 hbox hb; have n0_ := Aside0.mk (below_step (by repeat (first | (with_reducible first | exact HB.out | apply below_alloc | apply pw_below_drewN | apply below_drew1) | exact HB.out)) hb); have n1_ := Aside0.mk (hbox); have n2_ := Aside0.mk ((by rw [hg]; exact (below_size (by repeat (first | (with_reducible first | exact HB.out | apply below_alloc | apply pw_below_drewN | apply below_drew1) | exact HB.out))) : w.heap.size ≤ gb121)); have n3_ := Aside0.mk ((by rw [hg]; exact (below_size (by repeat (first | (with_reducible first | exact HB.out | apply below_alloc | apply pw_below_drewN | apply below_drew1) | exact HB.out))) : w.heap.size ≤ gb121)); clear HB; have HB := n0_; have BK121 := n1_; have GW121 := n2_; have GE121 := n3_; clear n0_ n1_ n2_ n3_; clear hb hbox hg; have hcz13_0 : w12.cell? ⟨gb121, 0, none⟩ = some (.string a0_0) := (blk_cell BK121.out 0).trans rfl; have hcz13_1 : w12.cell? ⟨gb121, 1, none⟩ = some (.bool a0_1) := (blk_cell BK121.out 1).trans rfl; have hcz13_2 : w12.cell? ⟨gb121, 2, none⟩ = some (.string a0_2) := (blk_cell BK121.out 2).trans rfl; have hfz13_0 := blk_frozen BK121.out 0; have hfz13_1 := blk_frozen BK121.out 1; have hfz13_2 := blk_frozen BK121.out 2))
    go_ret
    exact ⟨by first | rfl | (simp [errW_none, errW_some] <;> rfl) | (simp [*, errW_none, errW_some] <;> rfl), by repeat (first | (with_reducible first | exact HB.out | apply below_alloc | apply pw_below_drewN | apply below_drew1 | refine below_set ?_ GE121.out) | exact HB.out)⟩
  rw [if_pos c3] at H
  have c3b0 : decide ((a0_0.size : Int) ≤ 13) = true := decide_eq_true c3
  have c3b1 : decide (a0_0.size ≤ 13) = true := decide_eq_true (by omega)
  clear c3
  by_cases c4 : (a0_2.size : Int) ≤ 24
  rotate_left
  · rw [if_neg c4] at H
    have c4b0 : decide ((a0_2.size : Int) ≤ 24) = false := decide_eq_false c4
    have c4b1 : decide (a0_2.size ≤ 24) = false := decide_eq_false (by omega)
    clear c4
    obtain rfl := Option.some.inj H
    go_enter Try.func37, Try.ntmps37
    go_wp2_with (first | ((with_reducible refine gate_dst (N := 1) rfl ?_); (try (refine gate_guard (by rfl) ?_; dsimp only)); refine box_event ?hg (N := 1) ?hd (cs := #[.string a0_0, .bool a0_1, .string a0_2]) (t := 62) ?hr ?_; (case hd => rfl); (case hg => rfl); (case hr => first | (go_simp; done) | (go_simp; rfl)); intro gb121 hg w10 hbox hb; have n0_ := Aside0.mk (below_step (by repeat (first | (with_reducible first | exact HB.out | apply below_alloc | apply pw_below_drewN | apply below_drew1) | exact HB.out)) hb); have n1_ := Aside0.mk (hbox); have n2_ := Aside0.mk ((by rw [hg]; exact (below_size (by repeat (first | (with_reducible first | exact HB.out | apply below_alloc | apply pw_below_drewN | apply below_drew1) | exact HB.out))) : w.heap.size ≤ gb121)); have n3_ := Aside0.mk ((by rw [hg]; exact (below_size (by repeat (first | (with_reducible first | exact HB.out | apply below_alloc | apply pw_below_drewN | apply below_drew1) | exact HB.out))) : w.heap.size ≤ gb121)); clear HB; have HB := n0_; have BK121 := n1_; have GW121 := n2_; have GE121 := n3_; clear n0_ n1_ n2_ n3_; clear hb hbox hg; have hcz11_0 : w10.cell? ⟨gb121, 0, none⟩ = some (.string a0_0) := (blk_cell BK121.out 0).trans rfl; have hcz11_1 : w10.cell? ⟨gb121, 1, none⟩ = some (.bool a0_1) := (blk_cell BK121.out 1).trans rfl; have hcz11_2 : w10.cell? ⟨gb121, 2, none⟩ = some (.string a0_2) := (blk_cell BK121.out 2).trans rfl; have hfz11_0 := blk_frozen BK121.out 0; have hfz11_1 := blk_frozen BK121.out 1; have hfz11_2 := blk_frozen BK121.out 2))
    go_ret
    exact ⟨by first | rfl | (simp [errW_none, errW_some] <;> rfl) | (simp [*, errW_none, errW_some] <;> rfl), by repeat (first | (with_reducible first | exact HB.out | apply below_alloc | apply pw_below_drewN | apply below_drew1 | refine below_set ?_ GE121.out) | exact HB.out)⟩
  rw [if_pos c4] at H
  have c4b0 : decide ((a0_2.size : Int) ≤ 24) = true := decide_eq_true c4
  have c4b1 : decide (a0_2.size ≤ 24) = true := decide_eq_true (by omega)
  clear c4
  by_cases c5 : a0_1 = true
  · subst c5
    have H1 : (some (a0_2.toList == ([] : List UInt8))) = some r := by rw [if_pos rfl] at H; exact H
    clear H
    have H := H1
    clear H1
    obtain rfl := Option.some.inj H
    go_enter Try.func37, Try.ntmps37
    go_wp2_with (first | ((with_reducible refine gate_dst (N := 1) rfl ?_); (try (refine gate_guard (by rfl) ?_; dsimp only)); refine box_event ?hg (N := 1) ?hd (cs := #[.string a0_0, .bool true, .string a0_2]) (t := 62) ?hr ?_; (case hd => rfl); (case hg => rfl); (case hr => first | (go_simp; done) | (go_simp; rfl)); intro gb121 hg w6 hbox hb; have n0_ := Aside0.mk (below_step (by repeat (first | (with_reducible first | exact HB.out | apply below_alloc | apply pw_below_drewN | apply below_drew1) | exact HB.out)) hb); have n1_ := Aside0.mk (hbox); have n2_ := Aside0.mk ((by rw [hg]; exact (below_size (by repeat (first | (with_reducible first | exact HB.out | apply below_alloc | apply pw_below_drewN | apply below_drew1) | exact HB.out))) : w.heap.size ≤ gb121)); have n3_ := Aside0.mk ((by rw [hg]; exact (below_size (by repeat (first | (with_reducible first | exact HB.out | apply below_alloc | apply pw_below_drewN | apply below_drew1) | exact HB.out))) : w.heap.size ≤ gb121)); clear HB; have HB := n0_; have BK121 := n1_; have GW121 := n2_; have GE121 := n3_; clear n0_ n1_ n2_ n3_; clear hb hbox hg; have hcz7_0 : w6.cell? ⟨gb121, 0, none⟩ = some (.string a0_0) := (blk_cell BK121.out 0).trans rfl; have hcz7_1 : w6.cell? ⟨gb121, 1, none⟩ = some (.bool true) := (blk_cell BK121.out 1).trans rfl; have hcz7_2 : w6.cell? ⟨gb121, 2, none⟩ = some (.string a0_2) := (blk_cell BK121.out 2).trans rfl; have hfz7_0 := blk_frozen BK121.out 0; have hfz7_1 := blk_frozen BK121.out 1; have hfz7_2 := blk_frozen BK121.out 2))
    go_ret
    exact ⟨by first | rfl | (simp [errW_none, errW_some] <;> rfl) | (simp [*, errW_none, errW_some] <;> rfl), by repeat (first | (with_reducible first | exact HB.out | apply below_alloc | apply pw_below_drewN | apply below_drew1 | refine below_set ?_ GE121.out) | exact HB.out)⟩
  replace c5 := Bool.eq_false_iff.mpr c5
  subst c5
  have H1 : (some true) = some r := by rw [if_neg (show ¬ (false = true) by decide)] at H; exact H
  clear H
  have H := H1
  clear H1
  obtain rfl := Option.some.inj H
  go_enter Try.func37, Try.ntmps37
  go_wp2_with (first | ((with_reducible refine gate_dst (N := 1) rfl ?_); (try (refine gate_guard (by rfl) ?_; dsimp only)); refine box_event ?hg (N := 1) ?hd (cs := #[.string a0_0, .bool false, .string a0_2]) (t := 62) ?hr ?_; (case hd => rfl); (case hg => rfl); (case hr => first | (go_simp; done) | (go_simp; rfl)); intro gb121 hg w8 hbox hb; have n0_ := Aside0.mk (below_step (by repeat (first | (with_reducible first | exact HB.out | apply below_alloc | apply pw_below_drewN | apply below_drew1) | exact HB.out)) hb); have n1_ := Aside0.mk (hbox); have n2_ := Aside0.mk ((by rw [hg]; exact (below_size (by repeat (first | (with_reducible first | exact HB.out | apply below_alloc | apply pw_below_drewN | apply below_drew1) | exact HB.out))) : w.heap.size ≤ gb121)); have n3_ := Aside0.mk ((by rw [hg]; exact (below_size (by repeat (first | (with_reducible first | exact HB.out | apply below_alloc | apply pw_below_drewN | apply below_drew1) | exact HB.out))) : w.heap.size ≤ gb121)); clear HB; have HB := n0_; have BK121 := n1_; have GW121 := n2_; have GE121 := n3_; clear n0_ n1_ n2_ n3_; clear hb hbox hg; have hcz9_0 : w8.cell? ⟨gb121, 0, none⟩ = some (.string a0_0) := (blk_cell BK121.out 0).trans rfl; have hcz9_1 : w8.cell? ⟨gb121, 1, none⟩ = some (.bool false) := (blk_cell BK121.out 1).trans rfl; have hcz9_2 : w8.cell? ⟨gb121, 2, none⟩ = some (.string a0_2) := (blk_cell BK121.out 2).trans rfl; have hfz9_0 := blk_frozen BK121.out 0; have hfz9_1 := blk_frozen BK121.out 1; have hfz9_2 := blk_frozen BK121.out 2))
  go_ret
  exact ⟨by first | rfl | (simp [errW_none, errW_some] <;> rfl) | (simp [*, errW_none, errW_some] <;> rfl), by repeat (first | (with_reducible first | exact HB.out | apply below_alloc | apply pw_below_drewN | apply below_drew1 | refine below_set ?_ GE121.out) | exact HB.out)⟩

/-! ### entry_Is: function 30 -/
def entry_Is.f (a0_0 : ByteArray) (a0_1 : Int) (a0_2 : Bool) (a0_3 : ByteArray) : Option (Bool) := if a0_1 ≥ 1 then (if a0_1 ≤ 1000000 then ((entry_IsWrite.f a0_0 a0_2 a0_3).bind fun t123 => (some t123)) else (some false)) else (some false)
set_option maxHeartbeats 8000000 in
set_option maxRecDepth 100000 in
theorem entry_Is.calls (a0_0 : ByteArray) (a0_1 : Int) (a0_2 : Bool) (a0_3 : ByteArray) (r : Bool) (w : World) (h : entry_Is.f a0_0 a0_1 a0_2 a0_3 = some r) :
    Calls Try.prog 30 #[.agg #[.string a0_0, .int .i64 a0_1, .bool a0_2, .string a0_3]] w fun e w' => e = .returned (.bool r) ∧ Below w.heap.size w w' := by
  have hu39 := Try.underlying39
  have hu62 := Try.underlying62
  have HB := Aside0.mk (Below.refl w.heap.size w)
  have H : (if a0_1 ≥ 1 then (if a0_1 ≤ 1000000 then ((entry_IsWrite.f a0_0 a0_2 a0_3).bind fun t123 => (some t123)) else (some false)) else (some false)) = some r := h
  clear h
  by_cases c2 : a0_1 ≥ 1
  rotate_left
  · rw [if_neg c2] at H
    have c2b0 : decide (1 ≤ a0_1) = false := decide_eq_false c2
    clear c2
    obtain rfl := Option.some.inj H
    go_enter Try.func30, Try.ntmps30
    go_wp2_with (first | ((with_reducible refine gate_dst (N := 1) rfl ?_); refine box_event ?hg (N := 1) ?hd (cs := #[.string a0_0, .int .i64 a0_1, .bool a0_2, .string a0_3]) (t := 39) ?hr ?_; (case hd => rfl); (case hg => rfl); (case hr => first | (go_simp; done) | (go_simp; rfl)); intro gb122 hg w10 hbox hb; have n0_ := Aside0.mk (below_step (by repeat (first | (with_reducible first | exact HB.out | apply below_alloc | apply pw_below_drewN | apply below_drew1) | exact HB.out)) hb); have n1_ := Aside0.mk (hbox); have n2_ := Aside0.mk ((by rw [hg]; exact (below_size (by repeat (first | (with_reducible first | exact HB.out | apply below_alloc | apply pw_below_drewN | apply below_drew1) | exact HB.out))) : w.heap.size ≤ gb122)); have n3_ := Aside0.mk ((by rw [hg]; exact (below_size (by repeat (first | (with_reducible first | exact HB.out | apply below_alloc | apply pw_below_drewN | apply below_drew1) | exact HB.out))) : w.heap.size ≤ gb122)); clear HB; have HB := n0_; have BK122 := n1_; have GW122 := n2_; have GE122 := n3_; clear n0_ n1_ n2_ n3_; clear hb hbox hg; have hcz11_0 : w10.cell? ⟨gb122, 0, none⟩ = some (.string a0_0) := (blk_cell BK122.out 0).trans rfl; have hcz11_1 : w10.cell? ⟨gb122, 1, none⟩ = some (.int .i64 a0_1) := (blk_cell BK122.out 1).trans rfl; have hcz11_2 : w10.cell? ⟨gb122, 2, none⟩ = some (.bool a0_2) := (blk_cell BK122.out 2).trans rfl; have hcz11_3 : w10.cell? ⟨gb122, 3, none⟩ = some (.string a0_3) := (blk_cell BK122.out 3).trans rfl; have hfz11_0 := blk_frozen BK122.out 0; have hfz11_1 := blk_frozen BK122.out 1; have hfz11_2 := blk_frozen BK122.out 2; have hfz11_3 := blk_frozen BK122.out 3))
    go_ret
    exact ⟨by first | rfl | (simp [errW_none, errW_some] <;> rfl) | (simp [*, errW_none, errW_some] <;> rfl), by repeat (first | (with_reducible first | exact HB.out | apply below_alloc | apply pw_below_drewN | apply below_drew1 | refine below_set ?_ GE122.out) | exact HB.out)⟩
  rw [if_pos c2] at H
  have c2b0 : decide (1 ≤ a0_1) = true := decide_eq_true c2
  clear c2
  by_cases c3 : a0_1 ≤ 1000000
  rotate_left
  · rw [if_neg c3] at H
    have c3b0 : decide (a0_1 ≤ 1000000) = false := decide_eq_false c3
    clear c3
    obtain rfl := Option.some.inj H
    go_enter Try.func30, Try.ntmps30
    go_wp2_with (first | ((with_reducible refine gate_dst (N := 1) rfl ?_); refine box_event ?hg (N := 1) ?hd (cs := #[.string a0_0, .int .i64 a0_1, .bool a0_2, .string a0_3]) (t := 39) ?hr ?_; (case hd => rfl); (case hg => rfl); (case hr => first | (go_simp; done) | (go_simp; rfl)); intro gb122 hg w8 hbox hb; have n0_ := Aside0.mk (below_step (by repeat (first | (with_reducible first | exact HB.out | apply below_alloc | apply pw_below_drewN | apply below_drew1) | exact HB.out)) hb); have n1_ := Aside0.mk (hbox); have n2_ := Aside0.mk ((by rw [hg]; exact (below_size (by repeat (first | (with_reducible first | exact HB.out | apply below_alloc | apply pw_below_drewN | apply below_drew1) | exact HB.out))) : w.heap.size ≤ gb122)); have n3_ := Aside0.mk ((by rw [hg]; exact (below_size (by repeat (first | (with_reducible first | exact HB.out | apply below_alloc | apply pw_below_drewN | apply below_drew1) | exact HB.out))) : w.heap.size ≤ gb122)); clear HB; have HB := n0_; have BK122 := n1_; have GW122 := n2_; have GE122 := n3_; clear n0_ n1_ n2_ n3_; clear hb hbox hg; have hcz9_0 : w8.cell? ⟨gb122, 0, none⟩ = some (.string a0_0) := (blk_cell BK122.out 0).trans rfl; have hcz9_1 : w8.cell? ⟨gb122, 1, none⟩ = some (.int .i64 a0_1) := (blk_cell BK122.out 1).trans rfl; have hcz9_2 : w8.cell? ⟨gb122, 2, none⟩ = some (.bool a0_2) := (blk_cell BK122.out 2).trans rfl; have hcz9_3 : w8.cell? ⟨gb122, 3, none⟩ = some (.string a0_3) := (blk_cell BK122.out 3).trans rfl; have hfz9_0 := blk_frozen BK122.out 0; have hfz9_1 := blk_frozen BK122.out 1; have hfz9_2 := blk_frozen BK122.out 2; have hfz9_3 := blk_frozen BK122.out 3))
    go_ret
    exact ⟨by first | rfl | (simp [errW_none, errW_some] <;> rfl) | (simp [*, errW_none, errW_some] <;> rfl), by repeat (first | (with_reducible first | exact HB.out | apply below_alloc | apply pw_below_drewN | apply below_drew1 | refine below_set ?_ GE122.out) | exact HB.out)⟩
  rw [if_pos c3] at H
  have c3b0 : decide (a0_1 ≤ 1000000) = true := decide_eq_true c3
  clear c3
  replace H := Option.bind_eq_some_iff.mp H
  obtain ⟨t123, A40, H⟩ := H
  replace H : (some t123) = some r := H
  have A4 := Aside0.mk A40
  clear A40
  obtain rfl := Option.some.inj H
  go_enter Try.func30, Try.ntmps30
  go_wp2_with (first | ((with_reducible refine gate_dst (N := 1) rfl ?_); refine box_event ?hg (N := 1) ?hd (cs := #[.string a0_0, .int .i64 a0_1, .bool a0_2, .string a0_3]) (t := 39) ?hr ?_; (case hd => rfl); (case hg => rfl); (case hr => first | (go_simp; done) | (go_simp; rfl)); intro gb122 hg w5 hbox hb; have n0_ := Aside0.mk (below_step (by repeat (first | (with_reducible first | exact HB.out | apply below_alloc | apply pw_below_drewN | apply below_drew1) | exact HB.out)) hb); have n1_ := Aside0.mk (hbox); have n2_ := Aside0.mk ((by rw [hg]; exact (below_size (by repeat (first | (with_reducible first | exact HB.out | apply below_alloc | apply pw_below_drewN | apply below_drew1) | exact HB.out))) : w.heap.size ≤ gb122)); have n3_ := Aside0.mk ((by rw [hg]; exact (below_size (by repeat (first | (with_reducible first | exact HB.out | apply below_alloc | apply pw_below_drewN | apply below_drew1) | exact HB.out))) : w.heap.size ≤ gb122)); clear HB; have HB := n0_; have BK122 := n1_; have GW122 := n2_; have GE122 := n3_; clear n0_ n1_ n2_ n3_; clear hb hbox hg; have hcz6_0 : w5.cell? ⟨gb122, 0, none⟩ = some (.string a0_0) := (blk_cell BK122.out 0).trans rfl; have hcz6_1 : w5.cell? ⟨gb122, 1, none⟩ = some (.int .i64 a0_1) := (blk_cell BK122.out 1).trans rfl; have hcz6_2 : w5.cell? ⟨gb122, 2, none⟩ = some (.bool a0_2) := (blk_cell BK122.out 2).trans rfl; have hcz6_3 : w5.cell? ⟨gb122, 3, none⟩ = some (.string a0_3) := (blk_cell BK122.out 3).trans rfl; have hfz6_0 := blk_frozen BK122.out 0; have hfz6_1 := blk_frozen BK122.out 1; have hfz6_2 := blk_frozen BK122.out 2; have hfz6_3 := blk_frozen BK122.out 3) | (go_at_call 37; (with_reducible refine (entry_IsWrite.calls a0_0 a0_2 a0_3 t123 _ A4.out).mono ?_); rintro e w7 ⟨rfl, hb⟩; have n0_ := Aside0.mk (blk_below (g := gb122) (o := .cells #[.string a0_0, .int .i64 a0_1, .bool a0_2, .string a0_3] 39 (0, 0)) (by (with_reducible repeat (first | refine blk_drewN ?_ _ | refine blk_drew ?_ | refine blk_alloc ?_ _)); exact BK122.out) hb); have n1_ := Aside0.mk (below_step (by repeat (first | (with_reducible first | exact HB.out | apply below_alloc | apply pw_below_drewN | apply below_drew1 | refine below_set ?_ GE122.out) | exact HB.out)) hb); clear BK122; clear HB; have BK122 := n0_; have HB := n1_; clear n0_ n1_; (try clear hb); (try clear hb2); (try clear hk); (try clear hi)))
  go_ret
  exact ⟨by first | rfl | (simp [errW_none, errW_some] <;> rfl) | (simp [*, errW_none, errW_some] <;> rfl), by repeat (first | (with_reducible first | exact HB.out | apply below_alloc | apply pw_below_drewN | apply below_drew1 | refine below_set ?_ GE122.out) | exact HB.out)⟩

/-! ### merge_Pack_1: function 29 -/
def merge_Pack_1.f (a0_0 : ByteArray) (a0_1 : Int) (a0_2 : Bool) (a0_3 : ByteArray) : Option (Bool) := (entry_Is.f a0_0 a0_1 a0_2 a0_3).bind fun t125 => (some (!t125))
set_option maxHeartbeats 8000000 in
set_option maxRecDepth 100000 in
theorem merge_Pack_1.calls (a0_0 : ByteArray) (a0_1 : Int) (a0_2 : Bool) (a0_3 : ByteArray) (r : Bool) (w : World) (h : merge_Pack_1.f a0_0 a0_1 a0_2 a0_3 = some r) :
    Calls Try.prog 29 #[.agg #[.string a0_0, .int .i64 a0_1, .bool a0_2, .string a0_3]] w fun e w' => e = .returned (.bool r) ∧ Below w.heap.size w w' := by
  have hu39 := Try.underlying39
  have HB := Aside0.mk (Below.refl w.heap.size w)
  have H : ((entry_Is.f a0_0 a0_1 a0_2 a0_3).bind fun t125 => (some (!t125))) = some r := h
  clear h
  replace H := Option.bind_eq_some_iff.mp H
  obtain ⟨t125, A20, H⟩ := H
  replace H : (some (!t125)) = some r := H
  have A2 := Aside0.mk A20
  clear A20
  obtain rfl := Option.some.inj H
  go_enter Try.func29, Try.ntmps29
  go_wp2_with (first | ((with_reducible refine gate_dst (N := 1) rfl ?_); refine box_event ?hg (N := 1) ?hd (cs := #[.string a0_0, .int .i64 a0_1, .bool a0_2, .string a0_3]) (t := 39) ?hr ?_; (case hd => rfl); (case hg => rfl); (case hr => first | (go_simp; done) | (go_simp; rfl)); intro gb124 hg w3 hbox hb; have n0_ := Aside0.mk (below_step (by repeat (first | (with_reducible first | exact HB.out | apply below_alloc | apply pw_below_drewN | apply below_drew1) | exact HB.out)) hb); have n1_ := Aside0.mk (hbox); have n2_ := Aside0.mk ((by rw [hg]; exact (below_size (by repeat (first | (with_reducible first | exact HB.out | apply below_alloc | apply pw_below_drewN | apply below_drew1) | exact HB.out))) : w.heap.size ≤ gb124)); have n3_ := Aside0.mk ((by rw [hg]; exact (below_size (by repeat (first | (with_reducible first | exact HB.out | apply below_alloc | apply pw_below_drewN | apply below_drew1) | exact HB.out))) : w.heap.size ≤ gb124)); clear HB; have HB := n0_; have BK124 := n1_; have GW124 := n2_; have GE124 := n3_; clear n0_ n1_ n2_ n3_; clear hb hbox hg; have hcz4_0 : w3.cell? ⟨gb124, 0, none⟩ = some (.string a0_0) := (blk_cell BK124.out 0).trans rfl; have hcz4_1 : w3.cell? ⟨gb124, 1, none⟩ = some (.int .i64 a0_1) := (blk_cell BK124.out 1).trans rfl; have hcz4_2 : w3.cell? ⟨gb124, 2, none⟩ = some (.bool a0_2) := (blk_cell BK124.out 2).trans rfl; have hcz4_3 : w3.cell? ⟨gb124, 3, none⟩ = some (.string a0_3) := (blk_cell BK124.out 3).trans rfl; have hfz4_0 := blk_frozen BK124.out 0; have hfz4_1 := blk_frozen BK124.out 1; have hfz4_2 := blk_frozen BK124.out 2; have hfz4_3 := blk_frozen BK124.out 3) | ((with_reducible refine gate_callee (f := 30) rfl ?_); refine goesL_ (some 4) rfl rfl Try.func30 (by kernel_rfl) rfl #[.agg #[.string a0_0, .int .i64 a0_1, .bool a0_2, .string a0_3]] rfl (by (try simp only [List.map_toArray, List.map_cons, List.map_nil]); first | done | rfl | (simp only [List.length_drop, List.length_take]; rfl)) ?_; (with_reducible refine (entry_Is.calls a0_0 a0_1 a0_2 a0_3 t125 _ A2.out).mono ?_); rintro e w5 ⟨rfl, hb⟩; refine ⟨_, rfl, ?_⟩; have n0_ := Aside0.mk (blk_below (g := gb124) (o := .cells #[.string a0_0, .int .i64 a0_1, .bool a0_2, .string a0_3] 39 (0, 0)) (by (with_reducible repeat (first | refine blk_drewN ?_ _ | refine blk_drew ?_ | refine blk_alloc ?_ _)); exact BK124.out) hb); have n1_ := Aside0.mk (below_step (by repeat (first | (with_reducible first | exact HB.out | apply below_alloc | apply pw_below_drewN | apply below_drew1 | refine below_set ?_ GE124.out) | exact HB.out)) hb); clear BK124; clear HB; have BK124 := n0_; have HB := n1_; clear n0_ n1_; (try clear hb); (try clear hb2); (try clear hk); (try clear hi)))
  go_ret
  exact ⟨by first | rfl | (simp [errW_none, errW_some] <;> rfl) | (simp [*, errW_none, errW_some] <;> rfl), by repeat (first | (with_reducible first | exact HB.out | apply below_alloc | apply pw_below_drewN | apply below_drew1 | refine below_set ?_ GE124.out) | exact HB.out)⟩

/-! ### api_Entry_36: function 36 -/
-- by hand
def api_Entry_36.l0 : Nat → List (S39) → Int → Option (Int)
  | 0, _, _ => none
  | k + 1, x0, x8 => if x8 < (x0.length : Int) then (if 0 ≤ x8 then ((merge_Pack_1.f (rd_T39 x0 x8).f0 (rd_T39 x0 x8).f1 (rd_T39 x0 x8).f2 (rd_T39 x0 x8).f3).bind fun t => (if t = true then (some x8) else (api_Entry_36.l0 k x0 (wrap64 (x8 + 1))))) else (none)) else (some (-1))
def api_Entry_36.f (k : Nat) (l0 : List (S39)) : Option (Int) := api_Entry_36.l0 k l0 0
theorem api_Entry_36.mono_l : ∀ k, (∀ y0 y1, LeO (api_Entry_36.l0 k y0 y1) (api_Entry_36.l0 (k + 1) y0 y1))
  | 0 => fun _ _ r h => by simp [api_Entry_36.l0] at h
  | k + 1 => by
    have ih0 := api_Entry_36.mono_l k
    intro y0 y1
    unfold api_Entry_36.l0
    exact LeO.ite (LeO.ite (LeO.bind (LeO.refl _) (fun _ => LeO.ite (LeO.refl _) (ih0 _ _))) (LeO.none _)) (LeO.refl _)
theorem api_Entry_36.mono : ∀ a0 k, LeO (api_Entry_36.f k a0) (api_Entry_36.f (k + 1) a0) := fun _ k => api_Entry_36.mono_l k _ _
set_option maxHeartbeats 8000000 in
set_option maxRecDepth 100000 in
theorem api_Entry_36.calls (k : Nat) (A0 : Option Addr) (c0 : Nat) (l0 : List (S39)) (r : Int) (w : World) (hr0 : Kd.C k39 w A0 l0.length l0) (hc0 : l0.length ≤ c0) (h : api_Entry_36.f k l0 = some r) :
    Calls Try.prog 36 #[.slice A0 l0.length c0, .func (.func 29) #[] #[]] w fun e w' => e = .returned (.int .i64 r) ∧ Below w.heap.size w w' := by
  have hu39 := Try.underlying39
  have HR0 := Aside0.mk hr0
  clear hr0 hc0
  have HB := Aside0.mk (Below.refl w.heap.size w)
  have H' := Aside0.mk (show api_Entry_36.l0 k l0 0 = some r from h)
  clear h
  go_enter Try.func36, Try.ntmps36
  go_wp2
  go_loopg [8] k (fun kq v8 w' => ∃ (x8_1 : Int), v8 = .int .i64 x8_1 ∧ Aside0 (api_Entry_36.l0 kq l0 x8_1 = some r) ∧ Aside0 (kq ≤ k) ∧ Aside0 (Below w.heap.size w w'))
  case atStart => exact ⟨0, rfl, H', ⟨Nat.le_refl _⟩, ⟨HB.out⟩⟩
  clear H'
  obtain ⟨x8_1, rfl, HA, HK1, HB⟩ := hrel
  cases gk with
  | zero => exact absurd HA.out (by simp [api_Entry_36.l0])
  | succ k1 => ?_
  have H := HA.out
  clear HA
  simp only [api_Entry_36.l0] at H
  by_cases c3 : x8_1 < (l0.length : Int)
  rotate_left
  · rw [if_neg c3] at H
    have c3b0 : decide (x8_1 < (l0.length : Int)) = false := decide_eq_false c3
    clear c3
    obtain rfl := Option.some.inj H
    clear H
    go_wp2
    go_ret
    exact ⟨rfl, HB.out⟩
  rw [if_pos c3] at H
  have c3b0 : decide (x8_1 < (l0.length : Int)) = true := decide_eq_true c3
  clear c3
  by_cases c4 : 0 ≤ x8_1
  rotate_left
  · rw [if_neg c4] at H
    exact absurd H (by simp)
  rw [if_pos c4] at H
  have c4b0 : decide (0 ≤ x8_1) = true := decide_eq_true c4
  clear c4
  obtain ⟨t, A50, H⟩ := Option.bind_eq_some_iff.mp H
  have A5 := Aside0.mk A50
  clear A50
  have p147 : 0 ≤ (x8_1 : Int) := of_decide_eq_true (by first | (with_reducible assumption) | assumption)
  have q147 : x8_1 < (l0.length : Int) := of_decide_eq_true (by first | (with_reducible assumption) | assumption)
  obtain ⟨ad147, e147, hx147_0, hx147_1, hx147_2, hx147_3⟩ := at_T39 HR0.out x8_1 p147 q147
  cases e147
  replace hx147_0 := (HB.out.cell (World.block_lt_of_cell? w _ hx147_0)).trans hx147_0
  replace hx147_1 := (HB.out.cell (World.block_lt_of_cell? w _ hx147_1)).trans hx147_1
  replace hx147_2 := (HB.out.cell (World.block_lt_of_cell? w _ hx147_2)).trans hx147_2
  replace hx147_3 := (HB.out.cell (World.block_lt_of_cell? w _ hx147_3)).trans hx147_3
  replace p147 := eq_true p147
  replace q147 := eq_true q147
  cases t with
  | true =>
    obtain rfl := Option.some.inj ((if_pos rfl).symm.trans H)
    clear H
    go_wp2_with (go_at_call 29; refine (merge_Pack_1.calls _ _ _ _ true _ A5.out).mono ?_; rintro e w' ⟨rfl, hB⟩; have n0_ := Aside0.mk (below_step HB.out hB); clear HB hB; have HB := n0_; clear n0_)
    go_ret
    exact ⟨rfl, HB.out⟩
  | false =>
    have H' := Aside0.mk ((if_neg (show ¬ (false = true) by decide)).symm.trans H)
    clear H
    go_wp2_with (go_at_call 29; refine (merge_Pack_1.calls _ _ _ _ false _ A5.out).mono ?_; rintro e w' ⟨rfl, hB⟩; have n0_ := Aside0.mk (below_step HB.out hB); clear HB hB; have HB := n0_; clear n0_)
    go_roundg k1
    case measure => have := HK1.out; omega
    case rel => exact ⟨(wrap64 (x8_1 + 1)), rfl, H', ⟨by have := HK1.out; omega⟩, ⟨HB.out⟩⟩

end Go.Proofs.Ytjcpdbekdimceaa.P
