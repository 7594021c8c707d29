-- Printed by a changed copy of the kit's printer (wip/tools/ext.py); labels and more
import Derived.Test.YtkmbgihfdfgmgaaQShort
import Derived.Test.YtkmbgihfdfgmgaaM0
namespace Go.Proofs.Ytkmbgihfdfgmgaa.P
open Go.RowKit Go.Proofs.YtkmbgihfdfgmgaaW.PrintWords Go.Proofs.YtkmbgihfdfgmgaaW.PrintLast Go.Proofs.YtkmbgihfdfgmgaaW.PrintMore
attribute [local go_sem] max2_int min2_int max_two min_two max_three min_three max_four min_four   -- for this text's walks alone
attribute [local go_sem high] string_leq string_geq string_gtr
set_option linter.unusedVariables false
set_option linter.unusedSimpArgs false

attribute [local go_sem high] eqA39
/-! ### api_Write_29: function 29 -/
-- by hand
def api_Write_29.f (l0 : List S39) : Option (List S39) := if l0.length < 3518437208883 then some l0 else none
set_option maxHeartbeats 1000000 in
set_option maxRecDepth 100000 in
theorem api_Write_29.calls (A0 : Option Addr) (c0 : Nat) (l0 : List S39) (r : List S39) (w : World) (hr0 : Kd.C k39 w A0 l0.length l0) (hc0 : l0.length ≤ c0) (h : api_Write_29.f l0 = some r) :
    Calls Try.prog 29 #[.slice A0 l0.length c0] w fun e w' => ∃ v0_ : Value, e = .returned v0_ ∧ Kd.R k39 39 w' w.heap.size (fun _ => True) v0_ r ∧ Below w.heap.size w w' := by
  unfold api_Write_29.f at h
  by_cases hl : l0.length < 3518437208883
  rotate_left
  · rw [if_neg hl] at h
    cases h
  rw [if_pos hl] at h
  obtain rfl := Option.some.inj h
  clear h
  have HL := Aside0.mk hl
  have HR := Aside0.mk hr0
  have HB := Aside0.mk (Below.refl w.heap.size w)
  cases A0 with
  | none =>
    have h0 : l0 = [] := by
      cases l0 with
      | nil => rfl
      | cons x t =>
        obtain ⟨ad, he, _⟩ := hr0.2.2 (by simp)
        cases he
    subst h0
    clear hl hr0 hc0 HL HR
    have ke := fun W : World => run_eql_slice_nil (P := Try.prog) W 22 39 none 0 c0 Try.underlying22
    go_enter Try.func29, Try.ntmps29
    go_wp2
    go_ret
    exact ⟨_, rfl, Kd.R_nil _ _ _ _ _, HB.out⟩
  | some ad =>
    clear hl hr0
    have ke := fun W : World => run_eql_slice_nil (P := Try.prog) W 22 39 (some ad) l0.length c0 Try.underlying22
    go_enter Try.func29, Try.ntmps29
    go_wp2_with (first
      | ((with_reducible refine gate_dst (N := 5) rfl ?_); refine Kd.R_lit k39 _ 39 ?hg (N := 5) ?hd (xs := ([] : List S39)) (inner := []) (ok := fun _ => True) (okp := fun _ => True) ?hr ?hp (fun _ hk => hk) trivial (Below.refl _ _) (Nat.le_refl _) (by simp) ?_; (case hd => rfl); (case hg => rfl); (case hr => first | (go_simp; done) | (go_simp; rfl)); (case hp => exact Reps.none _ _); intro v1 w1 ho hb hg_ hnew_; clear hg_ hnew_; have n0_ := Aside0.mk (Kd.R_lower ho (below_size HB.out)); have n1_ := Aside0.mk (Kd.C_below HR.out hb); have n2_ := Aside0.mk (below_step HB.out hb); clear HB HR hb ho; have HO := n0_; have HR := n1_; have HB := n2_; clear n0_ n1_ n2_)
      | ((with_reducible refine gate_builtin (b := .append) (xs := #[.tmp 5, .tmp 6]) rfl ?_); at_builtin; refine Kd.R_append_rows k39 (w0 := w) w.heap.size rfl (.tmp 5) (.tmp 6) 22 39 (.agg #[(.string ⟨#[]⟩), (.bool false), (.string ⟨#[]⟩)]) 40 rfl Try.underlying22 info39 rfl (by decide) (by omega) v1 ([] : List S39) l0 _ _ _ (fun _ => True) (fun _ => False) rfl rfl ?aO ?aR (fun _ _ h => h) (fun _ h => h.elim) ?aF ?aB ?aS ?aL ?_; (case aR => exact HR.out); (case aB => exact HB.out); (case aF => exact (fun _ _ => trivial)); (case aO => exact HO.out); (case aS => exact (below_size HB.out)); (case aL => have := HL.out; simp only [List.length_nil]; omega); intro v2 w2 ho hb hg hat; rw [List.nil_append] at ho; have HO2 := Aside0.mk ho; have HB2 := Aside0.mk hb; clear ho hb hg hat HO HR HB))
    go_ret
    exact ⟨_, rfl, HO2.out, HB2.out⟩

/-! ### item_Copy: function 13 -/
def item_Copy.f (a0_0 : Int) (a0_1 : Int) (a0_2 : Int) (a0_3 : Bool) (l0_4 : List (S39)) : Option (Int × Int × Int × Bool × (List (S39))) := (api_Write_29.f l0_4).bind fun t218 => (some (a0_0, a0_1, a0_2, a0_3, t218))
set_option maxHeartbeats 8000000 in
set_option maxRecDepth 100000 in
theorem item_Copy.calls (a0_0 : Int) (a0_1 : Int) (a0_2 : Int) (a0_3 : Bool) (A0_4 : Option Addr) (c0_4 : Nat) (l0_4 : List (S39)) (r1 : Int) (r2 : Int) (r3 : Int) (r4 : Bool) (r5 : List (S39)) (w : World) (hr0_4 : Kd.C k39 w A0_4 l0_4.length l0_4) (hc0_4 : l0_4.length ≤ c0_4) (h : item_Copy.f a0_0 a0_1 a0_2 a0_3 l0_4 = some (r1, r2, r3, r4, r5)) :
    Calls Try.prog 13 #[.agg #[.int .i64 a0_0, .int .i64 a0_1, .int .i64 a0_2, .bool a0_3, .slice A0_4 l0_4.length c0_4]] w fun e w' => ∃ v4_ : Value, e = .returned (.agg #[.int .i64 r1, .int .i64 r2, .int .i64 r3, .bool r4, v4_]) ∧ Kd.R k39 39 w' w.heap.size (fun _ => True) v4_ r5 ∧ Below w.heap.size w w' := by
  have hu24 := Try.underlying24
  have HR0_4 := Aside0.mk hr0_4
  have HC0_4 := Aside0.mk hc0_4
  clear hr0_4 hc0_4
  have HB := Aside0.mk (Below.refl w.heap.size w)
  have H : ((api_Write_29.f l0_4).bind fun t218 => (some (a0_0, a0_1, a0_2, a0_3, t218))) = some (r1, r2, r3, r4, r5) := h
  clear h
  replace H := Option.bind_eq_some_iff.mp H
  obtain ⟨t218, A20, H⟩ := H
  try dsimp only at H
  have A2 := Aside0.mk A20
  clear A20
  simp only [Option.some.injEq, Prod.mk.injEq] at H
  obtain ⟨rfl, rfl, rfl, rfl, rfl⟩ := H
  go_enter Try.func13, Try.ntmps13
  go_wp2_with (first | ((with_reducible refine gate_dst (N := 1) rfl ?_); refine box_event ?hg (N := 1) ?hd (cs := #[.int .i64 a0_0, .int .i64 a0_1, .int .i64 a0_2, .bool a0_3, .slice A0_4 l0_4.length c0_4]) (t := 24) ?hr ?_; (case hd => rfl); (case hg => rfl); (case hr => first | (go_simp; done) | (go_simp; rfl)); intro gb216 hg w3 hbox hb; have n0_ := bs_ HB hb; have n1_ := Aside0.mk (hbox); have n2_ := gz_ HB hg; have n3_ := gz_ HB hg; clear HB; have HB := n0_; have BK216 := n1_; have GW216 := n2_; have GE216 := n3_; clear n0_ n1_ n2_ n3_; clear hb hbox hg) | ((with_reducible refine gate_dst (N := 2) rfl ?_); refine box_event ?hg (N := 2) ?hd (cs := #[.int .i64 0, .int .i64 0, .int .i64 0, .bool false, .slice none 0 0]) (t := 24) ?hr ?_; (case hd => rfl); (case hg => rfl); (case hr => first | (go_simp; done) | (go_simp; rfl)); intro gb217 hg w4 hbox hb; have n0_ := bb_ BK216 hb; have n1_ := bl_ [gb216] HB ⟨GE216, ⟨⟩⟩ hb; have n2_ := Aside0.mk (hbox); have n3_ := gl_ [gb216] HB ⟨GE216, ⟨⟩⟩ hg; have n4_ := gl_ [gb216] HB ⟨GE216, ⟨⟩⟩ hg; have n5_ := gn_ BK216 hg; have n6_ := Aside0.mk ((by rw [hg]; exact Nat.ne_of_gt (blk_lt (g := gb216) (o := .cells #[.int .i64 a0_0, .int .i64 a0_1, .int .i64 a0_2, .bool a0_3, .slice A0_4 l0_4.length c0_4] 24 (0, 0)) (gb_ BK216)) : gb217 ≠ gb216)); clear BK216; clear HB; have BK216 := n0_; have HB := n1_; have BK217 := n2_; have GW217 := n3_; have GE217 := n4_; have NB216_217 := n5_; have NB217_216 := n6_; clear n0_ n1_ n2_ n3_ n4_ n5_ n6_; clear hb hbox hg; have hnb5 := NB216_217.out; have hnc5 := NB217_216.out; have hcz6_0 := bc0 BK216; have hcz6_1 := bc1 BK216; have hcz6_2 := bc2 BK216; have hcz6_3 := bc3 BK216; have hcz6_4 := bc4 BK216; have hfz6_0 := bf_ BK216 0; have hfz6_1 := bf_ BK216 1; have hfz6_2 := bf_ BK216 2; have hfz6_3 := bf_ BK216 3; have hfz6_4 := bf_ BK216 4) | ((with_reducible refine gate_callee (f := 29) rfl ?_); refine goesL_ (some 5) rfl rfl Try.func29 (by kernel_rfl) rfl #[.slice A0_4 l0_4.length c0_4] rfl (by (try simp only [maps_]); first | done | rfl) ?_; (with_reducible refine (api_Write_29.calls _ _ l0_4 t218 _ ?side1 ?side2 A2.out).mono ?_); (case side1 => exact cb_ HR0_4 HB); (case side2 => exact HC0_4.out); rintro e w7 ⟨v219, rfl, ho0, hb⟩; refine ⟨_, rfl, ?_⟩; have n0_ := Aside0.mk (Kd.R_lower ho0 (below_size (gwl_ [gb216, gb217] HB ⟨GE216, GE217, ⟨⟩⟩))); have n1_ := bb_ BK216 hb; have n2_ := bb_ BK217 hb; have n3_ := bl_ [gb216, gb217] HB ⟨GE216, GE217, ⟨⟩⟩ hb; clear BK216; clear BK217; clear HB; have HO220 := n0_; have BK216 := n1_; have BK217 := n2_; have HB := n3_; clear n0_ n1_ n2_ n3_; (try clear hb); (try clear hb2); (try clear hk); (try clear hi); (try clear ho0); obtain ⟨Ao8, co8, eo8⟩ := Kd.R_slice HO220.out; subst eo8; have hcz9_0 := bc0 BK216; have hcz9_1 := bc1 BK216; have hcz9_2 := bc2 BK216; have hcz9_3 := bc3 BK216; have hcz9_4 := bc4 BK216; have hfz9_0 := bf_ BK216 0; have hfz9_1 := bf_ BK216 1; have hfz9_2 := bf_ BK216 2; have hfz9_3 := bf_ BK216 3; have hfz9_4 := bf_ BK216 4; have hcz10_0 := bc0 BK217; have hcz10_1 := bc1 BK217; have hcz10_2 := bc2 BK217; have hcz10_3 := bc3 BK217; have hcz10_4 := bc4 BK217; have hfz10_0 := bf_ BK217 0; have hfz10_1 := bf_ BK217 1; have hfz10_2 := bf_ BK217 2; have hfz10_3 := bf_ BK217 3; have hfz10_4 := bf_ BK217 4))
  refine bodyPost_ret (results_cell_row rfl _ _ gb217 24 #[.int .i64 a0_0, .int .i64 a0_1, .int .i64 a0_2, .bool a0_3, .slice Ao8 t218.length co8] (0, 0) _ rfl (by (with_reducible repeat (first | refine blk_drewN ?_ _ | refine blk_drew ?_ | refine blk_alloc ?_ _)); refine blk_put (cs := #[.int .i64 a0_0, .int .i64 a0_1, .int .i64 a0_2, .bool a0_3, .slice none 0 0]) ?_ 4 _ rfl; refine blk_put (cs := #[.int .i64 a0_0, .int .i64 a0_1, .int .i64 a0_2, .bool false, .slice none 0 0]) ?_ 3 _ rfl; refine blk_put (cs := #[.int .i64 a0_0, .int .i64 a0_1, .int .i64 0, .bool false, .slice none 0 0]) ?_ 2 _ rfl; refine blk_put (cs := #[.int .i64 a0_0, .int .i64 0, .int .i64 0, .bool false, .slice none 0 0]) ?_ 1 _ rfl; refine blk_put (cs := #[.int .i64 0, .int .i64 0, .int .i64 0, .bool false, .slice none 0 0]) ?_ 0 _ rfl; refine blk_far ?_ NB217_216.out _; exact gb_ BK217) Try.underlying24 rfl (by kernel_rfl)) rfl ?_
  exact ⟨_, by first | rfl | (simp [*, errW_none, errW_some] <;> rfl), by (with_reducible repeat (first | apply Kd.R_alloc | apply Kd.R_drewN | apply Kd.R_drew)); exact Kd.R_mono (Kd.R_far (p := ⟨gb217, 4, none⟩) (Kd.R_far (p := ⟨gb217, 3, none⟩) (Kd.R_far (p := ⟨gb217, 2, none⟩) (Kd.R_far (p := ⟨gb217, 1, none⟩) (Kd.R_far (p := ⟨gb217, 0, none⟩) (Kd.R_far (p := ⟨gb216, 4, none⟩) (Kd.R_types (Kd.R_types HO220.out BK216.out (by decide)) BK217.out (by decide)) (fun _ hk => hk.1.2) (.slice Ao8 t218.length co8)) (fun _ hk => hk.2) (.int .i64 a0_0)) (fun _ hk => hk.2) (.int .i64 a0_1)) (fun _ hk => hk.2) (.int .i64 a0_2)) (fun _ hk => hk.2) (.bool a0_3)) (fun _ hk => hk.2) (.slice Ao8 t218.length co8)) (fun _ hk => trivial), gwl_ [gb216, gb217] HB ⟨GE216, GE217, ⟨⟩⟩⟩

/-! ### api_Write_34: function 34 -/
def api_Write_34.l0 : Nat → List (S39) → List (S39) → Int → Int → Option (Bool)
  | 0, _, _, _, _ => none
  | k + 1, x0, x1, x12, x13 => if x13 < x12 then (if 0 ≤ x13 then (if x13 < (x0.length : Int) then (if x13 < (x1.length : Int) then (if (!((((rd_T39 x0 x13).f0).toList) == (((rd_T39 x1 x13).f0).toList)) || (!(((rd_T39 x0 x13).f1) == ((rd_T39 x1 x13).f1)) || (!((((rd_T39 x0 x13).f2).toList) == (((rd_T39 x1 x13).f2).toList))))) = true then (some false) else (api_Write_34.l0 k x0 x1 x12 (wrap64 (x13 + 1)))) else (none)) else (none)) else (none)) else (some true)
def api_Write_34.f (k : Nat) (l0 : List (S39)) (l1 : List (S39)) : Option (Bool) := if (l0.length : Int) = (l1.length : Int) then (api_Write_34.l0 k l0 l1 (l0.length : Int) 0) else (some false)
theorem api_Write_34.mono_l : ∀ k, (∀ y0 y1 y2 y3, LeO (api_Write_34.l0 k y0 y1 y2 y3) (api_Write_34.l0 (k + 1) y0 y1 y2 y3))
  | 0 => fun _ _ _ _ r h => by simp [api_Write_34.l0] at h
  | k + 1 => by
    have ih0 := api_Write_34.mono_l k
    · intro y0 y1 y2 y3
      unfold api_Write_34.l0
      repeat' first
      | (with_reducible exact ih0 _ _ _ _)
      | (with_reducible exact LeO.refl _)
      | (with_reducible exact LeO.none _)
      | (with_reducible refine LeO.ite ?_ ?_)
      | (with_reducible refine LeO.bind ?_ (fun _ => ?_))
      | exact ih0 _ _ _ _
      | exact LeO.none _
      | refine LeO.ite ?_ ?_
      | refine LeO.bind ?_ (fun _ => ?_)
theorem api_Write_34.mono : ∀ a0 a1 k, LeO (api_Write_34.f k a0 a1) (api_Write_34.f (k + 1) a0 a1) := by
  intro a0 a1 k
  have ih0 := api_Write_34.mono_l k
  unfold api_Write_34.f
  repeat' first
      | (with_reducible exact ih0 _ _ _ _)
      | (with_reducible exact LeO.refl _)
      | (with_reducible exact LeO.none _)
      | (with_reducible refine LeO.ite ?_ ?_)
      | (with_reducible refine LeO.bind ?_ (fun _ => ?_))
      | exact ih0 _ _ _ _
      | exact LeO.none _
      | refine LeO.ite ?_ ?_
      | refine LeO.bind ?_ (fun _ => ?_)
set_option maxHeartbeats 8000000 in
set_option maxRecDepth 100000 in
theorem api_Write_34.calls (k : Nat) (A0 : Option Addr) (c0 : Nat) (l0 : List (S39)) (A1 : Option Addr) (c1 : Nat) (l1 : List (S39)) (r : Bool) (w : World) (hr0 : Kd.C k39 w A0 l0.length l0) (hc0 : l0.length ≤ c0) (hr1 : Kd.C k39 w A1 l1.length l1) (hc1 : l1.length ≤ c1) (h : api_Write_34.f k l0 l1 = some r) :
    Calls Try.prog 34 #[.slice A0 l0.length c0, .slice A1 l1.length c1] w fun e w' => e = .returned (.bool r) ∧ Drawn0 w w' := by
  have hu39 := Try.underlying39
  have HR0 := Aside0.mk hr0
  have HC0 := Aside0.mk hc0
  clear hr0 hc0
  have HR1 := Aside0.mk hr1
  have HC1 := Aside0.mk hc1
  clear hr1 hc1
  have H : (if (l0.length : Int) = (l1.length : Int) then (api_Write_34.l0 k l0 l1 (l0.length : Int) 0) else (some false)) = some r := h
  clear h
  by_cases c3 : (l0.length : Int) = (l1.length : Int)
  rotate_left
  · rw [if_neg c3] at H
    have c3b0 : ((l0.length : Int) == (l1.length : Int)) = false := beq_eq_false_iff_ne.mpr c3
    have c3b1 : ((l0.length : Int) != (l1.length : Int)) = true := bne_iff_ne.mpr c3
    have c3b2 : (l0.length == l1.length) = false := by first | simpa using c3 | (simp at c3 ⊢; omega)
    obtain rfl := Option.some.inj H
    go_enter Try.func34, Try.ntmps34
    go_wp2
    repeat (go_quiet (fail); try go_wp2)
    go_ret
    exact ⟨by first | rfl | (simp; done) | (simp [*]; done), by repeat (first | exact Drawn0.refl _ | apply Drawn0.step)⟩
  rw [if_pos c3] at H
  have c3b0 : ((l0.length : Int) == (l1.length : Int)) = true := beq_iff_eq.mpr c3
  have c3b1 : ((l0.length : Int) != (l1.length : Int)) = false := bne_eq_false_iff_eq.mpr c3
  have c3b2 : (l0.length == l1.length) = true := by first | simpa using c3 | (simp at c3 ⊢; omega)
  clear c3
  have H' := Aside0.mk H
  clear H
  go_enter Try.func34, Try.ntmps34
  go_wp2
  repeat (go_quiet (fail); try go_wp2)
  go_loopg [13] k (fun kq v13 w' => ∃ (x13_1 : Int), v13 = .int .i64 x13_1 ∧ Aside0 (api_Write_34.l0 kq l0 l1 (l0.length : Int) x13_1 = some r) ∧ Aside0 (kq ≤ k) ∧ Drawn0 w w')
  case atStart => exact ⟨(0), (by first | rfl | (simp; done) | (simp [*]; done)), H', ⟨Nat.le_refl _⟩, by repeat (first | exact Drawn0.refl _ | apply Drawn0.step)⟩
  clear H'
  try clear c1
  try clear p2
  try clear c3
  try clear c3b0
  try clear c3b1
  try clear c3b2
  obtain ⟨x13_1, rfl, HA, HK1, ⟨m1, rfl⟩⟩ := hrel
  cases gk with
  | zero => exact absurd HA.out (by simp [api_Write_34.l0])
  | succ k1 => ?_
  have H := HA.out
  clear HA
  simp only [api_Write_34.l0] at H
  by_cases c4 : x13_1 < (l0.length : Int)
  rotate_left
  · rw [if_neg c4] at H
    have c4b0 : decide (x13_1 < (l0.length : Int)) = false := decide_eq_false c4
    clear c4
    obtain rfl := Option.some.inj H
    go_wp2
    repeat (go_quiet (fail); try go_wp2)
    go_ret
    exact ⟨by first | rfl | (simp; done) | (simp [*]; done), by repeat (first | exact Drawn0.refl _ | apply Drawn0.step)⟩
  rw [if_pos c4] at H
  have c4b0 : decide (x13_1 < (l0.length : Int)) = true := decide_eq_true c4
  clear c4
  by_cases c5 : 0 ≤ x13_1
  rotate_left
  · rw [if_neg c5] at H
    exact absurd H (by simp)
  rw [if_pos c5] at H
  have c5b0 : decide (0 ≤ x13_1) = true := decide_eq_true c5
  clear c5
  by_cases c6 : x13_1 < (l0.length : Int)
  rotate_left
  · rw [if_neg c6] at H
    exact absurd H (by simp)
  rw [if_pos c6] at H
  have c6b0 : decide (x13_1 < (l0.length : Int)) = true := decide_eq_true c6
  clear c6
  by_cases c7 : x13_1 < (l1.length : Int)
  rotate_left
  · rw [if_neg c7] at H
    exact absurd H (by simp)
  rw [if_pos c7] at H
  have c7b0 : decide (x13_1 < (l1.length : Int)) = true := decide_eq_true c7
  clear c7
  by_cases c8 : (!((((rd_T39 l0 x13_1).f0).toList) == (((rd_T39 l1 x13_1).f0).toList)) || (!(((rd_T39 l0 x13_1).f1) == ((rd_T39 l1 x13_1).f1)) || (!((((rd_T39 l0 x13_1).f2).toList) == (((rd_T39 l1 x13_1).f2).toList))))) = true
  · rw [if_pos c8] at H
    have c8b0 : (!((((rd_T39 l0 x13_1).f0).toList) == (((rd_T39 l1 x13_1).f0).toList)) || (!(((rd_T39 l0 x13_1).f1) == ((rd_T39 l1 x13_1).f1)) || (!((((rd_T39 l0 x13_1).f2).toList) == (((rd_T39 l1 x13_1).f2).toList))))) = true := c8
    clear c8
    obtain rfl := Option.some.inj H
    have p221 : 0 ≤ (x13_1 : Int) := of_decide_eq_true (by assumption)
    have q221 : x13_1 < (l0.length : Int) := of_decide_eq_true (by assumption)
    obtain ⟨ad221, e221, hx221_0, hx221_1, hx221_2⟩ := at_T39 HR0.out x13_1 p221 q221
    cases e221
    replace p221 := eq_true p221
    replace q221 := eq_true q221
    have p222 : 0 ≤ (x13_1 : Int) := of_decide_eq_true (by assumption)
    have q222 : x13_1 < (l1.length : Int) := of_decide_eq_true (by assumption)
    obtain ⟨ad222, e222, hx222_0, hx222_1, hx222_2⟩ := at_T39 HR1.out x13_1 p222 q222
    cases e222
    replace p222 := eq_true p222
    replace q222 := eq_true q222
    go_wp2
    repeat (go_quiet (fail); try go_wp2)
    go_ret
    exact ⟨by first | rfl | (simp; done) | (simp [*]; done), by repeat (first | exact Drawn0.refl _ | apply Drawn0.step)⟩
  rw [if_neg c8] at H
  have c8b0 : (!((((rd_T39 l0 x13_1).f0).toList) == (((rd_T39 l1 x13_1).f0).toList)) || (!(((rd_T39 l0 x13_1).f1) == ((rd_T39 l1 x13_1).f1)) || (!((((rd_T39 l0 x13_1).f2).toList) == (((rd_T39 l1 x13_1).f2).toList))))) = false := by simpa using c8
  clear c8
  have H' := Aside0.mk H
  clear H
  have p221 : 0 ≤ (x13_1 : Int) := of_decide_eq_true (by assumption)
  have q221 : x13_1 < (l0.length : Int) := of_decide_eq_true (by assumption)
  obtain ⟨ad221, e221, hx221_0, hx221_1, hx221_2⟩ := at_T39 HR0.out x13_1 p221 q221
  cases e221
  replace p221 := eq_true p221
  replace q221 := eq_true q221
  have p222 : 0 ≤ (x13_1 : Int) := of_decide_eq_true (by assumption)
  have q222 : x13_1 < (l1.length : Int) := of_decide_eq_true (by assumption)
  obtain ⟨ad222, e222, hx222_0, hx222_1, hx222_2⟩ := at_T39 HR1.out x13_1 p222 q222
  cases e222
  replace p222 := eq_true p222
  replace q222 := eq_true q222
  go_wp2
  repeat (go_quiet (fail); try go_wp2)
  go_roundg k1
  case measure => have := HK1.out; omega
  case rel => exact ⟨(wrap64 (x13_1 + 1)), (by first | rfl | (simp; done) | (simp [*]; done)), H', ⟨by have := HK1.out; omega⟩, by repeat (first | exact Drawn0.refl _ | apply Drawn0.step)⟩

/-! ### item_Same: function 17 -/
def item_Same.f (k : Nat) (a0_0 : Int) (a0_1 : Int) (a0_2 : Int) (a0_3 : Bool) (l0_4 : List (S39)) (a1_0 : Int) (a1_1 : Int) (a1_2 : Int) (a1_3 : Bool) (l1_4 : List (S39)) : Option (Bool) := if a0_0 = a1_0 then (if a0_1 = a1_1 then (if a0_2 = a1_2 then (if (a0_3 == a1_3) = true then ((api_Write_34.f k l0_4 l1_4).bind fun t225 => (some t225)) else (some false)) else (some false)) else (some false)) else (some false)
theorem item_Same.mono : ∀ a0 a1 a2 a3 a4 a5 a6 a7 a8 a9 k, LeO (item_Same.f k a0 a1 a2 a3 a4 a5 a6 a7 a8 a9) (item_Same.f (k + 1) a0 a1 a2 a3 a4 a5 a6 a7 a8 a9) := by
  intro a0 a1 a2 a3 a4 a5 a6 a7 a8 a9 k
  unfold item_Same.f
  repeat' first
      | (with_reducible exact api_Write_34.mono _ _ _)
      | (with_reducible exact LeO.refl _)
      | (with_reducible exact LeO.none _)
      | (with_reducible refine LeO.ite ?_ ?_)
      | (with_reducible refine LeO.bind ?_ (fun _ => ?_))
      | exact api_Write_34.mono _ _ _
      | exact LeO.none _
      | refine LeO.ite ?_ ?_
      | refine LeO.bind ?_ (fun _ => ?_)
set_option maxHeartbeats 8000000 in
set_option maxRecDepth 100000 in
theorem item_Same.calls (k : Nat) (a0_0 : Int) (a0_1 : Int) (a0_2 : Int) (a0_3 : Bool) (A0_4 : Option Addr) (c0_4 : Nat) (l0_4 : List (S39)) (a1_0 : Int) (a1_1 : Int) (a1_2 : Int) (a1_3 : Bool) (A1_4 : Option Addr) (c1_4 : Nat) (l1_4 : List (S39)) (r : Bool) (w : World) (hr0_4 : Kd.C k39 w A0_4 l0_4.length l0_4) (hc0_4 : l0_4.length ≤ c0_4) (hr1_4 : Kd.C k39 w A1_4 l1_4.length l1_4) (hc1_4 : l1_4.length ≤ c1_4) (h : item_Same.f k a0_0 a0_1 a0_2 a0_3 l0_4 a1_0 a1_1 a1_2 a1_3 l1_4 = some r) :
    Calls Try.prog 17 #[.agg #[.int .i64 a0_0, .int .i64 a0_1, .int .i64 a0_2, .bool a0_3, .slice A0_4 l0_4.length c0_4], .agg #[.int .i64 a1_0, .int .i64 a1_1, .int .i64 a1_2, .bool a1_3, .slice A1_4 l1_4.length c1_4]] w fun e w' => e = .returned (.bool r) ∧ Below w.heap.size w w' := by
  have hu24 := Try.underlying24
  have HR0_4 := Aside0.mk hr0_4
  have HC0_4 := Aside0.mk hc0_4
  clear hr0_4 hc0_4
  have HR1_4 := Aside0.mk hr1_4
  have HC1_4 := Aside0.mk hc1_4
  clear hr1_4 hc1_4
  have HB := Aside0.mk (Below.refl w.heap.size w)
  have H : (if a0_0 = a1_0 then (if a0_1 = a1_1 then (if a0_2 = a1_2 then (if (a0_3 == a1_3) = true then ((api_Write_34.f k l0_4 l1_4).bind fun t225 => (some t225)) else (some false)) else (some false)) else (some false)) else (some false)) = some r := h
  clear h
  by_cases c3 : a0_0 = a1_0
  rotate_left
  · rw [if_neg c3] at H
    have c3b0 : (a0_0 == a1_0) = false := beq_eq_false_iff_ne.mpr c3
    have c3b1 : (a0_0 != a1_0) = true := bne_iff_ne.mpr c3
    obtain rfl := Option.some.inj H
    go_enter Try.func17, Try.ntmps17
    go_wp2_with (first | ((with_reducible refine gate_dst (N := 2) rfl ?_); refine box_event ?hg (N := 2) ?hd (cs := #[.int .i64 a0_0, .int .i64 a0_1, .int .i64 a0_2, .bool a0_3, .slice A0_4 l0_4.length c0_4]) (t := 24) ?hr ?_; (case hd => rfl); (case hg => rfl); (case hr => first | (go_simp; done) | (go_simp; rfl)); intro gb223 hg w28 hbox hb; have n0_ := bs_ HB hb; have n1_ := Aside0.mk (hbox); have n2_ := gz_ HB hg; have n3_ := gz_ HB hg; clear HB; have HB := n0_; have BK223 := n1_; have GW223 := n2_; have GE223 := n3_; clear n0_ n1_ n2_ n3_; clear hb hbox hg) | ((with_reducible refine gate_dst (N := 3) rfl ?_); refine box_event ?hg (N := 3) ?hd (cs := #[.int .i64 a1_0, .int .i64 a1_1, .int .i64 a1_2, .bool a1_3, .slice A1_4 l1_4.length c1_4]) (t := 24) ?hr ?_; (case hd => rfl); (case hg => rfl); (case hr => first | (go_simp; done) | (go_simp; rfl)); intro gb224 hg w29 hbox hb; have n0_ := bb_ BK223 hb; have n1_ := bl_ [gb223] HB ⟨GE223, ⟨⟩⟩ hb; have n2_ := Aside0.mk (hbox); have n3_ := gl_ [gb223] HB ⟨GE223, ⟨⟩⟩ hg; have n4_ := gl_ [gb223] HB ⟨GE223, ⟨⟩⟩ hg; have n5_ := gn_ BK223 hg; have n6_ := Aside0.mk ((by rw [hg]; exact Nat.ne_of_gt (blk_lt (g := gb223) (o := .cells #[.int .i64 a0_0, .int .i64 a0_1, .int .i64 a0_2, .bool a0_3, .slice A0_4 l0_4.length c0_4] 24 (0, 0)) (gb_ BK223)) : gb224 ≠ gb223)); clear BK223; clear HB; have BK223 := n0_; have HB := n1_; have BK224 := n2_; have GW224 := n3_; have GE224 := n4_; have NB223_224 := n5_; have NB224_223 := n6_; clear n0_ n1_ n2_ n3_ n4_ n5_ n6_; clear hb hbox hg; have hnb30 := NB223_224.out; have hnc30 := NB224_223.out; have hcz31_0 := bc0 BK223; have hcz31_1 := bc1 BK223; have hcz31_2 := bc2 BK223; have hcz31_3 := bc3 BK223; have hcz31_4 := bc4 BK223; have hfz31_0 := bf_ BK223 0; have hfz31_1 := bf_ BK223 1; have hfz31_2 := bf_ BK223 2; have hfz31_3 := bf_ BK223 3; have hfz31_4 := bf_ BK223 4; have hcz32_0 := bc0 BK224; have hcz32_1 := bc1 BK224; have hcz32_2 := bc2 BK224; have hcz32_3 := bc3 BK224; have hcz32_4 := bc4 BK224; have hfz32_0 := bf_ BK224 0; have hfz32_1 := bf_ BK224 1; have hfz32_2 := bf_ BK224 2; have hfz32_3 := bf_ BK224 3; have hfz32_4 := bf_ BK224 4))
    go_ret
    exact ⟨by first | rfl | (simp [*, errW_none, errW_some] <;> rfl), gwl_ [gb223, gb224] HB ⟨GE223, GE224, ⟨⟩⟩⟩
  rw [if_pos c3] at H
  have c3b0 : (a0_0 == a1_0) = true := beq_iff_eq.mpr c3
  have c3b1 : (a0_0 != a1_0) = false := bne_eq_false_iff_eq.mpr c3
  clear c3
  by_cases c4 : a0_1 = a1_1
  rotate_left
  · rw [if_neg c4] at H
    have c4b0 : (a0_1 == a1_1) = false := beq_eq_false_iff_ne.mpr c4
    have c4b1 : (a0_1 != a1_1) = true := bne_iff_ne.mpr c4
    obtain rfl := Option.some.inj H
    go_enter Try.func17, Try.ntmps17
    go_wp2_with (first | ((with_reducible refine gate_dst (N := 2) rfl ?_); refine box_event ?hg (N := 2) ?hd (cs := #[.int .i64 a0_0, .int .i64 a0_1, .int .i64 a0_2, .bool a0_3, .slice A0_4 l0_4.length c0_4]) (t := 24) ?hr ?_; (case hd => rfl); (case hg => rfl); (case hr => first | (go_simp; done) | (go_simp; rfl)); intro gb223 hg w23 hbox hb; have n0_ := bs_ HB hb; have n1_ := Aside0.mk (hbox); have n2_ := gz_ HB hg; have n3_ := gz_ HB hg; clear HB; have HB := n0_; have BK223 := n1_; have GW223 := n2_; have GE223 := n3_; clear n0_ n1_ n2_ n3_; clear hb hbox hg) | ((with_reducible refine gate_dst (N := 3) rfl ?_); refine box_event ?hg (N := 3) ?hd (cs := #[.int .i64 a1_0, .int .i64 a1_1, .int .i64 a1_2, .bool a1_3, .slice A1_4 l1_4.length c1_4]) (t := 24) ?hr ?_; (case hd => rfl); (case hg => rfl); (case hr => first | (go_simp; done) | (go_simp; rfl)); intro gb224 hg w24 hbox hb; have n0_ := bb_ BK223 hb; have n1_ := bl_ [gb223] HB ⟨GE223, ⟨⟩⟩ hb; have n2_ := Aside0.mk (hbox); have n3_ := gl_ [gb223] HB ⟨GE223, ⟨⟩⟩ hg; have n4_ := gl_ [gb223] HB ⟨GE223, ⟨⟩⟩ hg; have n5_ := gn_ BK223 hg; have n6_ := Aside0.mk ((by rw [hg]; exact Nat.ne_of_gt (blk_lt (g := gb223) (o := .cells #[.int .i64 a0_0, .int .i64 a0_1, .int .i64 a0_2, .bool a0_3, .slice A0_4 l0_4.length c0_4] 24 (0, 0)) (gb_ BK223)) : gb224 ≠ gb223)); clear BK223; clear HB; have BK223 := n0_; have HB := n1_; have BK224 := n2_; have GW224 := n3_; have GE224 := n4_; have NB223_224 := n5_; have NB224_223 := n6_; clear n0_ n1_ n2_ n3_ n4_ n5_ n6_; clear hb hbox hg; have hnb25 := NB223_224.out; have hnc25 := NB224_223.out; have hcz26_0 := bc0 BK223; have hcz26_1 := bc1 BK223; have hcz26_2 := bc2 BK223; have hcz26_3 := bc3 BK223; have hcz26_4 := bc4 BK223; have hfz26_0 := bf_ BK223 0; have hfz26_1 := bf_ BK223 1; have hfz26_2 := bf_ BK223 2; have hfz26_3 := bf_ BK223 3; have hfz26_4 := bf_ BK223 4; have hcz27_0 := bc0 BK224; have hcz27_1 := bc1 BK224; have hcz27_2 := bc2 BK224; have hcz27_3 := bc3 BK224; have hcz27_4 := bc4 BK224; have hfz27_0 := bf_ BK224 0; have hfz27_1 := bf_ BK224 1; have hfz27_2 := bf_ BK224 2; have hfz27_3 := bf_ BK224 3; have hfz27_4 := bf_ BK224 4))
    go_ret
    exact ⟨by first | rfl | (simp [*, errW_none, errW_some] <;> rfl), gwl_ [gb223, gb224] HB ⟨GE223, GE224, ⟨⟩⟩⟩
  rw [if_pos c4] at H
  have c4b0 : (a0_1 == a1_1) = true := beq_iff_eq.mpr c4
  have c4b1 : (a0_1 != a1_1) = false := bne_eq_false_iff_eq.mpr c4
  clear c4
  by_cases c5 : a0_2 = a1_2
  rotate_left
  · rw [if_neg c5] at H
    have c5b0 : (a0_2 == a1_2) = false := beq_eq_false_iff_ne.mpr c5
    have c5b1 : (a0_2 != a1_2) = true := bne_iff_ne.mpr c5
    obtain rfl := Option.some.inj H
    go_enter Try.func17, Try.ntmps17
    go_wp2_with (first | ((with_reducible refine gate_dst (N := 2) rfl ?_); refine box_event ?hg (N := 2) ?hd (cs := #[.int .i64 a0_0, .int .i64 a0_1, .int .i64 a0_2, .bool a0_3, .slice A0_4 l0_4.length c0_4]) (t := 24) ?hr ?_; (case hd => rfl); (case hg => rfl); (case hr => first | (go_simp; done) | (go_simp; rfl)); intro gb223 hg w18 hbox hb; have n0_ := bs_ HB hb; have n1_ := Aside0.mk (hbox); have n2_ := gz_ HB hg; have n3_ := gz_ HB hg; clear HB; have HB := n0_; have BK223 := n1_; have GW223 := n2_; have GE223 := n3_; clear n0_ n1_ n2_ n3_; clear hb hbox hg) | ((with_reducible refine gate_dst (N := 3) rfl ?_); refine box_event ?hg (N := 3) ?hd (cs := #[.int .i64 a1_0, .int .i64 a1_1, .int .i64 a1_2, .bool a1_3, .slice A1_4 l1_4.length c1_4]) (t := 24) ?hr ?_; (case hd => rfl); (case hg => rfl); (case hr => first | (go_simp; done) | (go_simp; rfl)); intro gb224 hg w19 hbox hb; have n0_ := bb_ BK223 hb; have n1_ := bl_ [gb223] HB ⟨GE223, ⟨⟩⟩ hb; have n2_ := Aside0.mk (hbox); have n3_ := gl_ [gb223] HB ⟨GE223, ⟨⟩⟩ hg; have n4_ := gl_ [gb223] HB ⟨GE223, ⟨⟩⟩ hg; have n5_ := gn_ BK223 hg; have n6_ := Aside0.mk ((by rw [hg]; exact Nat.ne_of_gt (blk_lt (g := gb223) (o := .cells #[.int .i64 a0_0, .int .i64 a0_1, .int .i64 a0_2, .bool a0_3, .slice A0_4 l0_4.length c0_4] 24 (0, 0)) (gb_ BK223)) : gb224 ≠ gb223)); clear BK223; clear HB; have BK223 := n0_; have HB := n1_; have BK224 := n2_; have GW224 := n3_; have GE224 := n4_; have NB223_224 := n5_; have NB224_223 := n6_; clear n0_ n1_ n2_ n3_ n4_ n5_ n6_; clear hb hbox hg; have hnb20 := NB223_224.out; have hnc20 := NB224_223.out; have hcz21_0 := bc0 BK223; have hcz21_1 := bc1 BK223; have hcz21_2 := bc2 BK223; have hcz21_3 := bc3 BK223; have hcz21_4 := bc4 BK223; have hfz21_0 := bf_ BK223 0; have hfz21_1 := bf_ BK223 1; have hfz21_2 := bf_ BK223 2; have hfz21_3 := bf_ BK223 3; have hfz21_4 := bf_ BK223 4; have hcz22_0 := bc0 BK224; have hcz22_1 := bc1 BK224; have hcz22_2 := bc2 BK224; have hcz22_3 := bc3 BK224; have hcz22_4 := bc4 BK224; have hfz22_0 := bf_ BK224 0; have hfz22_1 := bf_ BK224 1; have hfz22_2 := bf_ BK224 2; have hfz22_3 := bf_ BK224 3; have hfz22_4 := bf_ BK224 4))
    go_ret
    exact ⟨by first | rfl | (simp [*, errW_none, errW_some] <;> rfl), gwl_ [gb223, gb224] HB ⟨GE223, GE224, ⟨⟩⟩⟩
  rw [if_pos c5] at H
  have c5b0 : (a0_2 == a1_2) = true := beq_iff_eq.mpr c5
  have c5b1 : (a0_2 != a1_2) = false := bne_eq_false_iff_eq.mpr c5
  clear c5
  by_cases c6 : (a0_3 == a1_3) = true
  rotate_left
  · rw [if_neg c6] at H
    have c6b0 : (a0_3 == a1_3) = false := by simpa using c6
    (try (have c6b1 : decide (a0_3 = a1_3) = false := by simpa using c6))
    (try (have c6b2 : (a0_3 == a1_3) = false := by simpa using c6))
    (try (have c6b3 : ¬ (a0_3 = a1_3) := by simpa using c6))
    (try (have c6b4 : (a1_3) = !a0_3 := by have h_ := c6; revert h_; generalize a0_3 = u_; generalize a1_3 = v_; cases u_ <;> cases v_ <;> simp))
    clear c6
    obtain rfl := Option.some.inj H
    go_enter Try.func17, Try.ntmps17
    go_wp2_with (first | ((with_reducible refine gate_dst (N := 2) rfl ?_); refine box_event ?hg (N := 2) ?hd (cs := #[.int .i64 a0_0, .int .i64 a0_1, .int .i64 a0_2, .bool a0_3, .slice A0_4 l0_4.length c0_4]) (t := 24) ?hr ?_; (case hd => rfl); (case hg => rfl); (case hr => first | (go_simp; done) | (go_simp; rfl)); intro gb223 hg w13 hbox hb; have n0_ := bs_ HB hb; have n1_ := Aside0.mk (hbox); have n2_ := gz_ HB hg; have n3_ := gz_ HB hg; clear HB; have HB := n0_; have BK223 := n1_; have GW223 := n2_; have GE223 := n3_; clear n0_ n1_ n2_ n3_; clear hb hbox hg) | ((with_reducible refine gate_dst (N := 3) rfl ?_); refine box_event ?hg (N := 3) ?hd (cs := #[.int .i64 a1_0, .int .i64 a1_1, .int .i64 a1_2, .bool a1_3, .slice A1_4 l1_4.length c1_4]) (t := 24) ?hr ?_; (case hd => rfl); (case hg => rfl); (case hr => first | (go_simp; done) | (go_simp; rfl)); intro gb224 hg w14 hbox hb; have n0_ := bb_ BK223 hb; have n1_ := bl_ [gb223] HB ⟨GE223, ⟨⟩⟩ hb; have n2_ := Aside0.mk (hbox); have n3_ := gl_ [gb223] HB ⟨GE223, ⟨⟩⟩ hg; have n4_ := gl_ [gb223] HB ⟨GE223, ⟨⟩⟩ hg; have n5_ := gn_ BK223 hg; have n6_ := Aside0.mk ((by rw [hg]; exact Nat.ne_of_gt (blk_lt (g := gb223) (o := .cells #[.int .i64 a0_0, .int .i64 a0_1, .int .i64 a0_2, .bool a0_3, .slice A0_4 l0_4.length c0_4] 24 (0, 0)) (gb_ BK223)) : gb224 ≠ gb223)); clear BK223; clear HB; have BK223 := n0_; have HB := n1_; have BK224 := n2_; have GW224 := n3_; have GE224 := n4_; have NB223_224 := n5_; have NB224_223 := n6_; clear n0_ n1_ n2_ n3_ n4_ n5_ n6_; clear hb hbox hg; have hnb15 := NB223_224.out; have hnc15 := NB224_223.out; have hcz16_0 := bc0 BK223; have hcz16_1 := bc1 BK223; have hcz16_2 := bc2 BK223; have hcz16_3 := bc3 BK223; have hcz16_4 := bc4 BK223; have hfz16_0 := bf_ BK223 0; have hfz16_1 := bf_ BK223 1; have hfz16_2 := bf_ BK223 2; have hfz16_3 := bf_ BK223 3; have hfz16_4 := bf_ BK223 4; have hcz17_0 := bc0 BK224; have hcz17_1 := bc1 BK224; have hcz17_2 := bc2 BK224; have hcz17_3 := bc3 BK224; have hcz17_4 := bc4 BK224; have hfz17_0 := bf_ BK224 0; have hfz17_1 := bf_ BK224 1; have hfz17_2 := bf_ BK224 2; have hfz17_3 := bf_ BK224 3; have hfz17_4 := bf_ BK224 4))
    go_ret
    exact ⟨by first | rfl | (simp [*, errW_none, errW_some] <;> rfl), gwl_ [gb223, gb224] HB ⟨GE223, GE224, ⟨⟩⟩⟩
  rw [if_pos c6] at H
  have c6b0 : (a0_3 == a1_3) = true := c6
  (try (have c6b1 : decide (a0_3 = a1_3) = true := by simpa using c6))
  (try (have c6b2 : (a0_3 == a1_3) = true := by simpa using c6))
  (try (have c6b3 : (a1_3) = a0_3 := by have h_ := c6; revert h_; generalize a0_3 = u_; generalize a1_3 = v_; cases u_ <;> cases v_ <;> simp))
  clear c6
  replace H := Option.bind_eq_some_iff.mp H
  obtain ⟨t225, A70, H⟩ := H
  try dsimp only at H
  have A7 := Aside0.mk A70
  clear A70
  obtain rfl := Option.some.inj H
  go_enter Try.func17, Try.ntmps17
  go_wp2_with (first | ((with_reducible refine gate_dst (N := 2) rfl ?_); refine box_event ?hg (N := 2) ?hd (cs := #[.int .i64 a0_0, .int .i64 a0_1, .int .i64 a0_2, .bool a0_3, .slice A0_4 l0_4.length c0_4]) (t := 24) ?hr ?_; (case hd => rfl); (case hg => rfl); (case hr => first | (go_simp; done) | (go_simp; rfl)); intro gb223 hg w8 hbox hb; have n0_ := bs_ HB hb; have n1_ := Aside0.mk (hbox); have n2_ := gz_ HB hg; have n3_ := gz_ HB hg; clear HB; have HB := n0_; have BK223 := n1_; have GW223 := n2_; have GE223 := n3_; clear n0_ n1_ n2_ n3_; clear hb hbox hg) | ((with_reducible refine gate_dst (N := 3) rfl ?_); refine box_event ?hg (N := 3) ?hd (cs := #[.int .i64 a1_0, .int .i64 a1_1, .int .i64 a1_2, .bool a1_3, .slice A1_4 l1_4.length c1_4]) (t := 24) ?hr ?_; (case hd => rfl); (case hg => rfl); (case hr => first | (go_simp; done) | (go_simp; rfl)); intro gb224 hg w9 hbox hb; have n0_ := bb_ BK223 hb; have n1_ := bl_ [gb223] HB ⟨GE223, ⟨⟩⟩ hb; have n2_ := Aside0.mk (hbox); have n3_ := gl_ [gb223] HB ⟨GE223, ⟨⟩⟩ hg; have n4_ := gl_ [gb223] HB ⟨GE223, ⟨⟩⟩ hg; have n5_ := gn_ BK223 hg; have n6_ := Aside0.mk ((by rw [hg]; exact Nat.ne_of_gt (blk_lt (g := gb223) (o := .cells #[.int .i64 a0_0, .int .i64 a0_1, .int .i64 a0_2, .bool a0_3, .slice A0_4 l0_4.length c0_4] 24 (0, 0)) (gb_ BK223)) : gb224 ≠ gb223)); clear BK223; clear HB; have BK223 := n0_; have HB := n1_; have BK224 := n2_; have GW224 := n3_; have GE224 := n4_; have NB223_224 := n5_; have NB224_223 := n6_; clear n0_ n1_ n2_ n3_ n4_ n5_ n6_; clear hb hbox hg; have hnb10 := NB223_224.out; have hnc10 := NB224_223.out; have hcz11_0 := bc0 BK223; have hcz11_1 := bc1 BK223; have hcz11_2 := bc2 BK223; have hcz11_3 := bc3 BK223; have hcz11_4 := bc4 BK223; have hfz11_0 := bf_ BK223 0; have hfz11_1 := bf_ BK223 1; have hfz11_2 := bf_ BK223 2; have hfz11_3 := bf_ BK223 3; have hfz11_4 := bf_ BK223 4; have hcz12_0 := bc0 BK224; have hcz12_1 := bc1 BK224; have hcz12_2 := bc2 BK224; have hcz12_3 := bc3 BK224; have hcz12_4 := bc4 BK224; have hfz12_0 := bf_ BK224 0; have hfz12_1 := bf_ BK224 1; have hfz12_2 := bf_ BK224 2; have hfz12_3 := bf_ BK224 3; have hfz12_4 := bf_ BK224 4) | (go_at_call 34; (with_reducible refine (api_Write_34.calls k _ _ l0_4 _ _ l1_4 t225 _ ?side1 ?side2 ?side3 ?side4 A7.out).mono ?_); (case side1 => exact cb_ HR0_4 HB); (case side2 => exact HC0_4.out); (case side3 => exact cb_ HR1_4 HB); (case side4 => exact HC1_4.out); rintro e w' ⟨rfl, ⟨nd, rfl⟩⟩))
  go_ret
  exact ⟨by first | rfl | (simp [*, errW_none, errW_some] <;> rfl), gwl_ [gb223, gb224] HB ⟨GE223, GE224, ⟨⟩⟩⟩

end Go.Proofs.Ytkmbgihfdfgmgaa.P
