-- Printed by a changed copy of the kit's printer (wip/tools/ext.py); labels and more
import Derived.Test.YtdkdnfgpgedglaaQShort
import Derived.Test.YtdkdnfgpgedglaaPx0
import Derived.Test.YtdkdnfgpgedglaaPx3
namespace Go.Proofs.Ytdkdnfgpgedglaa.P
open Go.RowKit Go.Proofs.YtdkdnfgpgedglaaW.PrintWords Go.Proofs.YtdkdnfgpgedglaaW.PrintLast Go.Proofs.YtdkdnfgpgedglaaW.PrintMore
attribute [local go_sem] max2_int min2_int max_two min_two max_three min_three max_four min_four   -- for this text's walks alone
attribute [local go_sem high] string_leq string_geq string_gtr
set_option linter.unusedVariables false
set_option linter.unusedSimpArgs false

abbrev mkPx4_0 : Array Bool := #[false, false, false, false, false, false, false, false, false, false, false, false, false, false, false, false, false, false]
abbrev mkPx4_1 : Array Bool := #[true, false, false, false, false, false, false, false, false, false, false, false, false, false, false, false, false, false]
abbrev mkPx4_2 : Array Bool := #[true, true, false, false, false, false, false, false, false, false, false, false, false, false, false, false, false, false]
abbrev mkPx4_3 : Array Bool := #[true, true, true, false, false, false, false, false, false, false, false, false, false, false, false, false, false, false]
abbrev mkPx4_4 : Array Bool := #[true, true, true, true, false, false, false, false, false, false, false, false, false, false, false, false, false, false]
abbrev mkPx4_5 : Array Bool := #[true, true, true, true, false, true, false, false, false, false, false, false, false, false, false, false, false, false]
abbrev mkPx4_6 : Array Bool := #[true, true, true, true, true, true, false, false, false, false, false, false, false, false, false, false, false, false]
abbrev mkPx4_7 : Array Bool := #[true, true, true, true, true, true, true, false, false, false, false, false, false, false, false, false, false, false]
abbrev mkPx4_8 : Array Bool := #[true, true, true, true, true, true, true, true, false, false, false, false, false, false, false, false, false, false]
abbrev mkPx4_9 : Array Bool := #[true, true, true, true, true, true, true, true, true, false, false, false, false, false, false, false, false, false]
abbrev mkPx4_10 : Array Bool := #[true, true, true, true, true, true, true, true, true, true, false, false, false, false, false, false, false, false]
abbrev mkPx4_11 : Array Bool := #[true, true, true, true, true, true, true, true, true, true, true, false, false, false, false, false, false, false]
abbrev mkPx4_12 : Array Bool := #[true, true, true, true, true, true, true, true, true, true, true, true, false, false, false, false, false, false]
abbrev mkPx4_13 : Array Bool := #[true, true, true, true, true, true, true, true, true, true, true, true, true, false, false, false, false, false]
abbrev mkPx4_14 : Array Bool := #[true, true, true, true, true, true, true, true, true, true, true, true, true, true, false, false, false, false]
abbrev mkPx4_15 : Array Bool := #[true, true, true, true, true, true, true, true, true, true, true, true, true, true, true, false, false, false]
abbrev mkPx4_16 : Array Bool := #[true, true, true, true, true, true, true, true, true, true, true, true, true, true, true, true, false, false]
abbrev mkPx4_17 : Array Bool := #[true, true, true, true, true, true, true, true, true, true, true, true, true, true, true, true, true, false]
abbrev mkPx4_18 : Array Bool := #[true, true, true, true, true, true, true, true, true, true, true, true, true, true, true, true, true, true]
abbrev mkPx4_19 : Array Bool := #[true, true, true, true, true, true, true, true, true, true, true, true, true, false, true, false, false, false]
abbrev mkPx4_20 : Array Bool := #[false, false, false, false, false, false, false, false, false, false]
abbrev mkPx4_21 : Array Bool := #[true, false, false, false, false, false, false, false, false, false]
abbrev mkPx4_22 : Array Bool := #[true, true, false, false, false, false, false, false, false, false]
abbrev mkPx4_23 : Array Bool := #[true, true, true, false, false, false, false, false, false, false]
abbrev mkPx4_24 : Array Bool := #[true, true, true, true, false, false, false, false, false, false]
abbrev mkPx4_25 : Array Bool := #[true, true, true, true, true, false, false, false, false, false]
abbrev mkPx4_26 : Array Bool := #[true, true, true, true, true, true, false, false, false, false]
abbrev mkPx4_27 : Array Bool := #[true, true, true, true, true, true, true, false, false, false]
abbrev mkPx4_28 : Array Bool := #[true, true, true, true, true, true, true, true, false, false]
abbrev mkPx4_29 : Array Bool := #[true, true, true, true, true, true, true, true, true, false]
abbrev mkPx4_30 : Array Bool := #[true, true, true, true, true, true, true, true, true, true]
abbrev mkPx4_31 : Array Bool := #[true, true, true, false, true, false, false, false, false, false]
abbrev mkPx4_32 : Array Bool := #[true, true, true, false, true, true, false, false, false, false]
abbrev mkPx4_33 : Array Bool := #[true, true, true, false, true, true, true, false, false, false]
/-! ### ravelinref6_Put: function 13 -/
mutual
def ravelinref6_Put.l0 : Nat → List (S29) → List (S29) → Bool → Int → ByteArray → Int → Bool → ByteArray → Option ((List (S29)) × Bool)
  | 0, _, _, _, _, _, _, _, _ => none
  | k + 1, x0, x6, x7, x8, x162000, x162001, x162002, x162003 => if x8 < (x0.length : Int) then (if 0 ≤ x8 then (if ((rd_T29 x0 x8).f0).toList = x162000.toList then (ravelinref6_Put.j1 k x0 x6 x7 x8 (((rd_T29 x0 x8).f1) == x162001) x162000 x162001 x162002 x162003) else (ravelinref6_Put.j1 k x0 x6 x7 x8 false x162000 x162001 x162002 x162003)) else (none)) else (if x7 = true then (some (x6, true)) else (if x6.length < 2932031007402 then (some ((x6 ++ [(⟨x162000, x162001, x162002, x162003⟩ : S29)]), true)) else (none)))
def ravelinref6_Put.j1 : Nat → List (S29) → List (S29) → Bool → Int → Bool → ByteArray → Int → Bool → ByteArray → Option ((List (S29)) × Bool)
  | 0, _, _, _, _, _, _, _, _, _ => none
  | k + 1, x0, x6, x7, x8, x36, x162000, x162001, x162002, x162003 => if x36 = true then (some (x0, false)) else (if x7 = true then (if 0 ≤ x8 then (if x8 < (x0.length : Int) then (if x6.length < 2932031007402 then (ravelinref6_Put.l0 k x0 (x6 ++ [(⟨(rd_T29 x0 x8).f0, (rd_T29 x0 x8).f1, (rd_T29 x0 x8).f2, (rd_T29 x0 x8).f3⟩ : S29)]) x7 (wrap64 (x8 + 1)) x162000 x162001 x162002 x162003) else (none)) else (none)) else (none)) else (if 0 ≤ x8 then (if x8 < (x0.length : Int) then ((ravelinref6_Less.f x162000 x162001 x162002 x162003 ((rd_T29 x0 x8).f0) ((rd_T29 x0 x8).f1) ((rd_T29 x0 x8).f2) ((rd_T29 x0 x8).f3)).bind fun t173 => (if t173 = true then (if x6.length < 2932031007402 then ((some (x6 ++ [(⟨x162000, x162001, x162002, x162003⟩ : S29)] : List (S29))).bind fun y174 => (if y174.length < 2932031007402 then (ravelinref6_Put.l0 k x0 (y174 ++ [(⟨(rd_T29 x0 x8).f0, (rd_T29 x0 x8).f1, (rd_T29 x0 x8).f2, (rd_T29 x0 x8).f3⟩ : S29)]) true (wrap64 (x8 + 1)) x162000 x162001 x162002 x162003) else (none))) else (none)) else (if x6.length < 2932031007402 then (ravelinref6_Put.l0 k x0 (x6 ++ [(⟨(rd_T29 x0 x8).f0, (rd_T29 x0 x8).f1, (rd_T29 x0 x8).f2, (rd_T29 x0 x8).f3⟩ : S29)]) x7 (wrap64 (x8 + 1)) x162000 x162001 x162002 x162003) else (none)))) else (none)) else (none)))
end
def ravelinref6_Put.f (k : Nat) (l0 : List (S29)) (a1_0 : ByteArray) (a1_1 : Int) (a1_2 : Bool) (a1_3 : ByteArray) : Option ((List (S29)) × Bool) := (ravelinref6_Is.f a1_0 a1_1 a1_2 a1_3).bind fun t162 => (if t162 = true then (ravelinref6_Put.l0 k l0 ([] : List (S29)) false 0 a1_0 a1_1 a1_2 a1_3) else (some (l0, false)))
theorem ravelinref6_Put.mono_l : ∀ k, (∀ y0 y1 y2 y3 y4 y5 y6 y7, LeO (ravelinref6_Put.l0 k y0 y1 y2 y3 y4 y5 y6 y7) (ravelinref6_Put.l0 (k + 1) y0 y1 y2 y3 y4 y5 y6 y7)) ∧ (∀ y0 y1 y2 y3 y4 y5 y6 y7 y8, LeO (ravelinref6_Put.j1 k y0 y1 y2 y3 y4 y5 y6 y7 y8) (ravelinref6_Put.j1 (k + 1) y0 y1 y2 y3 y4 y5 y6 y7 y8))
  | 0 => ⟨fun _ _ _ _ _ _ _ _ r h => by simp [ravelinref6_Put.l0] at h, fun _ _ _ _ _ _ _ _ _ r h => by simp [ravelinref6_Put.j1] at h⟩
  | k + 1 => by
    obtain ⟨ih0, ih1⟩ := ravelinref6_Put.mono_l k
    refine ⟨?_, ?_⟩
    all_goals
      intros
      first | unfold ravelinref6_Put.l0 | unfold ravelinref6_Put.j1
      repeat' first
      | (with_reducible exact ih0 _ _ _ _ _ _ _ _)
      | (with_reducible exact ih1 _ _ _ _ _ _ _ _ _)
      | (with_reducible exact LeO.refl _)
      | (with_reducible exact LeO.none _)
      | (with_reducible refine LeO.ite ?_ ?_)
      | (with_reducible refine LeO.bind ?_ (fun _ => ?_))
      | exact ih0 _ _ _ _ _ _ _ _
      | exact ih1 _ _ _ _ _ _ _ _ _
      | exact LeO.none _
      | refine LeO.ite ?_ ?_
      | refine LeO.bind ?_ (fun _ => ?_)
theorem ravelinref6_Put.mono : ∀ a0 a1 a2 a3 a4 k, LeO (ravelinref6_Put.f k a0 a1 a2 a3 a4) (ravelinref6_Put.f (k + 1) a0 a1 a2 a3 a4) := by
  intro a0 a1 a2 a3 a4 k
  obtain ⟨ih0, ih1⟩ := ravelinref6_Put.mono_l k
  unfold ravelinref6_Put.f
  repeat' first
      | (with_reducible exact ih0 _ _ _ _ _ _ _ _)
      | (with_reducible exact ih1 _ _ _ _ _ _ _ _ _)
      | (with_reducible exact LeO.refl _)
      | (with_reducible exact LeO.none _)
      | (with_reducible refine LeO.ite ?_ ?_)
      | (with_reducible refine LeO.bind ?_ (fun _ => ?_))
      | exact ih0 _ _ _ _ _ _ _ _
      | exact ih1 _ _ _ _ _ _ _ _ _
      | exact LeO.none _
      | refine LeO.ite ?_ ?_
      | refine LeO.bind ?_ (fun _ => ?_)
def ravelinref6_Put.T8 : Bool × List (List Nat × List Nat) := (true, [([], []), ([], []), ([0, 1], [0, 1]), ([2], [2]), ([3], [3]), ([], []), ([5], [5]), ([4, 6], [4, 6]), ([7], [7]), ([8], [8]), ([8], [8]), ([9, 10, 8], [8, 9, 10]), ([11, 8], [8, 11]), ([12, 8], [8, 12]), ([8], [8]), ([14, 8], [8, 14]), ([13, 15, 8], [8, 13, 15]), ([8, 16], [8, 16])])
def ravelinref6_Put.B8 : List Nat := [0, 0, 3, 7, 15, 0, 32, 127, 255, 511, 511, 2047, 4095, 8191, 511, 16895, 65535, 131071]
theorem ravelinref6_Put.tab8 : rtab .any (opsOf Try.f13 8) = ravelinref6_Put.T8 := by kernel_rfl
theorem ravelinref6_Put.bits8 : waitsOk ravelinref6_Put.T8.2 ravelinref6_Put.B8 = true := by kernel_rfl
def ravelinref6_Put.T10 : Bool × List (List Nat × List Nat) := (true, [([], []), ([0], [0]), ([1], [1]), ([2], [2]), ([2], [2]), ([2], [2]), ([4, 5, 2], [2, 4, 5]), ([6, 2], [2, 6]), ([3, 7, 2, 2], [2, 3, 7]), ([2, 8], [2, 8])])
def ravelinref6_Put.B10 : List Nat := [0, 1, 3, 7, 7, 7, 55, 119, 255, 511]
theorem ravelinref6_Put.tab10 : rtab .any (opsOf Try.f13 10) = ravelinref6_Put.T10 := by kernel_rfl
theorem ravelinref6_Put.bits10 : waitsOk ravelinref6_Put.T10.2 ravelinref6_Put.B10 = true := by kernel_rfl
set_option maxHeartbeats 8000000 in
set_option maxRecDepth 100000 in
theorem ravelinref6_Put.calls (k : Nat) (P0_ : Nat → Prop) (u9000_ : Value) (l0 : List (S29)) (a1_0 : ByteArray) (a1_1 : Int) (a1_2 : Bool) (a1_3 : ByteArray) (r1 : List (S29)) (r2 : Bool) (w0 w : World) (hB : Below w0.heap.size w0 w) (ho0 : Kd.R k29 29 w w0.heap.size P0_ u9000_ l0) (h : ravelinref6_Put.f k l0 a1_0 a1_1 a1_2 a1_3 = some (r1, r2)) :
    Calls Try.prog 13 #[u9000_, .agg #[.string a1_0, .int .i64 a1_1, .bool a1_2, .string a1_3]] w fun e w' => ∃ v0_ : Value, e = .returned (.tuple #[v0_, .bool r2]) ∧ Kd.R k29 29 w' w0.heap.size (fun k_ => (P0_ k_ ∨ w.heap.size ≤ k_)) v0_ r1 ∧ Below w0.heap.size w0 w' ∧ Kept w w' (fun k_ => P0_ k_) := by
  have hu29 := Try.underlying29
  have HO0 := Aside0.mk (show Kd.R k29 29 w w0.heap.size (fun k_ => (P0_ k_ ∨ w.heap.size ≤ k_)) u9000_ l0 from Kd.R_mono ho0 (fun k_ hk => (.inl hk)))
  have HK := Aside0.mk (Kept.refl w (fun k_ => P0_ k_))
  have HW0 := Aside0.mk hB.size
  have HB := Aside0.mk hB
  clear hB
  have H : ((ravelinref6_Is.f a1_0 a1_1 a1_2 a1_3).bind fun t162 => (if t162 = true then (ravelinref6_Put.l0 k l0 ([] : List (S29)) false 0 a1_0 a1_1 a1_2 a1_3) else (some (l0, false)))) = some (r1, r2) := h
  clear h
  replace H := Option.bind_eq_some_iff.mp H
  obtain ⟨t162, A30, H⟩ := H
  try dsimp only at H
  have A3 := Aside0.mk A30
  clear A30
  by_cases c4 : t162 = true
  rotate_left
  · replace c4 := Bool.eq_false_iff.mpr c4
    subst c4
    have H1 : (some (l0, false)) = some (r1, r2) := by rw [if_neg (show ¬ (false = true) by decide)] at H; exact H
    clear H
    have H := H1
    clear H1
    simp only [Option.some.injEq, Prod.mk.injEq] at H
    obtain ⟨rfl, rfl⟩ := H
    go_enter Try.func13, Try.ntmps13
    go_wp2_with (first | ((with_reducible refine gate_dst (N := 3) rfl ?_); refine box_event ?hg (N := 3) ?hd (cs := #[.string a1_0, .int .i64 a1_1, .bool a1_2, .string a1_3]) (t := 29) ?hr ?_; (case hd => rfl); (case hg => rfl); (case hr => first | (go_simp; done) | (go_simp; rfl)); intro gb161 hg w43 hbox hb; have n0_ := Aside0.mk (Kd.R_below (Kd.R_elderB (by (with_reducible repeat (first | apply Kd.R_alloc | apply Kd.R_drewN | apply Kd.R_drew)); exact HO0.out) gb161 (Nat.le_of_eq hg.symm)) hb); have n1_ := Aside0.mk (Kept.below (S := (fun k_ => P0_ k_)) (by repeat (first | (with_reducible first | exact HK.out | apply Kept.alloc | apply Kept.drewN | apply Kept.drew) | exact HK.out)) hb); have n2_ := bs_ HB hb; have n3_ := Aside0.mk (hbox); have n4_ := Aside0.mk ((by rw [hg]; exact (by first | exact HK.out.1 | exact (show Kept w _ (fun k_ => P0_ k_) from by repeat (first | (with_reducible first | exact HK.out | apply Kept.alloc | apply Kept.drewN | apply Kept.drew) | exact HK.out)).1) : w.heap.size ≤ gb161)); have n5_ := Aside0.mk ((by rw [hg]; exact (below_size (gw_ HB)) : w0.heap.size ≤ gb161)); clear HO0; clear HK; clear HB; have HO0 := n0_; have HK := n1_; have HB := n2_; have BK161 := n3_; have GW161 := n4_; have GE161 := n5_; clear n0_ n1_ n2_ n3_ n4_ n5_; clear hb hbox hg; have hcz44_0 := bc0 BK161; have hcz44_1 := bc1 BK161; have hcz44_2 := bc2 BK161; have hcz44_3 := bc3 BK161; have hfz44_0 := bf_ BK161 0; have hfz44_1 := bf_ BK161 1; have hfz44_2 := bf_ BK161 2; have hfz44_3 := bf_ BK161 3) | ((with_reducible refine gate_callee (f := 27) rfl ?_); refine goesL_ (some 10) rfl rfl Try.func27 (by kernel_rfl) rfl #[.agg #[.string a1_0, .int .i64 a1_1, .bool a1_2, .string a1_3]] rfl (by (try simp only [maps_]); first | done | rfl) ?_; (with_reducible refine (ravelinref6_Is.calls a1_0 a1_1 a1_2 a1_3 false _ A3.out).mono ?_); rintro e w45 ⟨rfl, hb⟩; refine ⟨_, rfl, ?_⟩; have n0_ := rb_ HO0 hb; have n1_ := bb_ BK161 hb; have n2_ := Aside0.mk (Kept.below (S := (fun k_ => P0_ k_)) (by repeat (first | (with_reducible first | exact HK.out | apply Kept.alloc | apply Kept.drewN | apply Kept.drew | refine Kept.setCell ?_ (.inr GW161.out) _) | exact HK.out)) hb); have n3_ := bl_ [gb161] HB ⟨GE161, ⟨⟩⟩ hb; clear HO0; clear BK161; clear HK; clear HB; have HO0 := n0_; have BK161 := n1_; have HK := n2_; have HB := n3_; clear n0_ n1_ n2_ n3_; (try clear hb); (try clear hb2); (try clear hk); (try clear hi)))
    go_ret2
    exact ⟨_, by first | rfl | (simp [*, errW_none, errW_some] <;> rfl), by (with_reducible repeat (first | apply Kd.R_alloc | apply Kd.R_drewN | apply Kd.R_drew)); exact Kd.R_mono HO0.out (fun _ hk => hk.1), by repeat (first | (with_reducible first | exact HB.out | apply below_alloc | apply pw_below_drewN | apply below_drew1 | refine below_set ?_ GE161.out) | exact HB.out), by repeat (first | (with_reducible first | exact HK.out | apply Kept.alloc | apply Kept.drewN | apply Kept.drew | refine Kept.setCell ?_ (.inr GW161.out) _) | exact HK.out)⟩
  subst c4
  have H1 : (ravelinref6_Put.l0 k l0 ([] : List (S29)) false 0 a1_0 a1_1 a1_2 a1_3) = some (r1, r2) := by rw [if_pos rfl] at H; exact H
  clear H
  have H := H1
  clear H1
  have H' := Aside0.mk H
  clear H
  go_enter Try.func13, Try.ntmps13
  go_wp2_with (first | ((with_reducible refine gate_dst (N := 3) rfl ?_); refine box_event ?hg (N := 3) ?hd (cs := #[.string a1_0, .int .i64 a1_1, .bool a1_2, .string a1_3]) (t := 29) ?hr ?_; (case hd => rfl); (case hg => rfl); (case hr => first | (go_simp; done) | (go_simp; rfl)); intro gb161 hg w5 hbox hb; have n0_ := Aside0.mk (Kd.R_below (Kd.R_elderB (by (with_reducible repeat (first | apply Kd.R_alloc | apply Kd.R_drewN | apply Kd.R_drew)); exact HO0.out) gb161 (Nat.le_of_eq hg.symm)) hb); have n1_ := Aside0.mk (Kept.below (S := (fun k_ => P0_ k_)) (by repeat (first | (with_reducible first | exact HK.out | apply Kept.alloc | apply Kept.drewN | apply Kept.drew) | exact HK.out)) hb); have n2_ := bs_ HB hb; have n3_ := Aside0.mk (hbox); have n4_ := Aside0.mk ((by rw [hg]; exact (by first | exact HK.out.1 | exact (show Kept w _ (fun k_ => P0_ k_) from by repeat (first | (with_reducible first | exact HK.out | apply Kept.alloc | apply Kept.drewN | apply Kept.drew) | exact HK.out)).1) : w.heap.size ≤ gb161)); have n5_ := Aside0.mk ((by rw [hg]; exact (below_size (gw_ HB)) : w0.heap.size ≤ gb161)); clear HO0; clear HK; clear HB; have HO0 := n0_; have HK := n1_; have HB := n2_; have BK161 := n3_; have GW161 := n4_; have GE161 := n5_; clear n0_ n1_ n2_ n3_ n4_ n5_; clear hb hbox hg; have hcz6_0 := bc0 BK161; have hcz6_1 := bc1 BK161; have hcz6_2 := bc2 BK161; have hcz6_3 := bc3 BK161; have hfz6_0 := bf_ BK161 0; have hfz6_1 := bf_ BK161 1; have hfz6_2 := bf_ BK161 2; have hfz6_3 := bf_ BK161 3) | ((with_reducible refine gate_callee (f := 27) rfl ?_); refine goesL_ (some 10) rfl rfl Try.func27 (by kernel_rfl) rfl #[.agg #[.string a1_0, .int .i64 a1_1, .bool a1_2, .string a1_3]] rfl (by (try simp only [maps_]); first | done | rfl) ?_; (with_reducible refine (ravelinref6_Is.calls a1_0 a1_1 a1_2 a1_3 true _ A3.out).mono ?_); rintro e w7 ⟨rfl, hb⟩; refine ⟨_, rfl, ?_⟩; have n0_ := rb_ HO0 hb; have n1_ := bb_ BK161 hb; have n2_ := Aside0.mk (Kept.below (S := (fun k_ => P0_ k_)) (by repeat (first | (with_reducible first | exact HK.out | apply Kept.alloc | apply Kept.drewN | apply Kept.drew | refine Kept.setCell ?_ (.inr GW161.out) _) | exact HK.out)) hb); have n3_ := bl_ [gb161] HB ⟨GE161, ⟨⟩⟩ hb; clear HO0; clear BK161; clear HK; clear HB; have HO0 := n0_; have BK161 := n1_; have HK := n2_; have HB := n3_; clear n0_ n1_ n2_ n3_; (try clear hb); (try clear hb2); (try clear hk); (try clear hi)))
  go_loopg [6, 7, 8] k (fun kq v6 v7 v8 w' => ∃ (x6_1 : List (S29)) (x7_1 : Bool) (x8_1 : Int), v7 = .bool x7_1 ∧ v8 = .int .i64 x8_1 ∧ Aside0 (ravelinref6_Put.l0 kq l0 x6_1 x7_1 x8_1 a1_0 a1_1 a1_2 a1_3 = some (r1, r2)) ∧ Aside0 (kq ≤ k) ∧ Aside0 (Kd.R k29 29 w' w0.heap.size (fun k_ => (P0_ k_ ∨ w.heap.size ≤ k_) ∧ some k_ ≠ (v6 : Value).ownBlock ∧ k_ ≠ gb161) u9000_ l0) ∧ Aside0 (Kd.R k29 29 w' w0.heap.size (fun k_ => (P0_ k_ ∨ w.heap.size ≤ k_) ∧ some k_ ≠ (u9000_ : Value).ownBlock ∧ k_ ≠ gb161) v6 x6_1) ∧ Aside0 (w'.heap[gb161]? = some (.cells #[.string a1_0, .int .i64 a1_1, .bool a1_2, .string a1_3] 29 (0, 0))) ∧ Aside0 (Kept w w' (fun k_ => P0_ k_)) ∧ Aside0 (Below w0.heap.size w0 w'))
  case atStart => exact ⟨(([] : List (S29))), (false), (0), (by first | rfl | (simp; done) | (simp [*]; done)), (by first | rfl | (simp; done) | (simp [*]; done)), H', ⟨Nat.le_refl _⟩, ⟨by (with_reducible repeat (first | apply Kd.R_alloc | apply Kd.R_drewN | apply Kd.R_drew)); exact Kd.R_mono HO0.out (fun _ hk => ⟨hk.1, ⟨(by simp [Value.ownBlock]), hk.2⟩⟩)⟩, ⟨by first | exact Kd.R_nil _ _ _ _ _ | exact Kd.N_nil _ _ _ _ _ | exact Kd.V_nil _ _ _ _ _ | exact Kd.Q_nil _ _ _ _ _ | exact Kd.S_nil _ _ _ _ _⟩, ⟨gb_ BK161⟩, ⟨by repeat (first | (with_reducible first | exact HK.out | apply Kept.alloc | apply Kept.drewN | apply Kept.drew | refine Kept.setCell ?_ (.inr GW161.out) _) | exact HK.out)⟩, ⟨gwl_ [gb161] HB ⟨GE161, ⟨⟩⟩⟩⟩
  clear H'
  try clear c1
  try clear c2
  try clear p2
  try clear c4
  try clear hcz6_0
  try clear hcz6_1
  try clear hcz6_2
  try clear hcz6_3
  try clear hfz6_0
  try clear hfz6_1
  try clear hfz6_2
  try clear hfz6_3
  obtain ⟨x6_1, x7_1, x8_1, rfl, rfl, HA, HK1, HO_0, HO_6, BK161, HK, HB⟩ := hrel
  cases gk with
  | zero => exact absurd HA.out (by simp [ravelinref6_Put.l0])
  | succ k1 => ?_
  have H := HA.out
  clear HA
  simp only [ravelinref6_Put.l0] at H
  by_cases c8 : x8_1 < (l0.length : Int)
  rotate_left
  · rw [if_neg c8] at H
    have c8b0 : decide (x8_1 < (l0.length : Int)) = false := decide_eq_false c8
    clear c8
    by_cases c37 : x7_1 = true
    · subst c37
      have H1 : (some (x6_1, true)) = some (r1, r2) := by rw [if_pos rfl] at H; exact H
      clear H
      have H := H1
      clear H1
      simp only [Option.some.injEq, Prod.mk.injEq] at H
      obtain ⟨rfl, rfl⟩ := H
      obtain ⟨Ao38, co38, eo38⟩ := Kd.R_slice HO_0.out
      subst eo38
      go_wp2
      go_ret2
      exact ⟨_, by first | rfl | (simp [*, errW_none, errW_some] <;> rfl), by (with_reducible repeat (first | apply Kd.R_alloc | apply Kd.R_drewN | apply Kd.R_drew)); exact Kd.R_mono HO_6.out (fun _ hk => hk.1), by repeat (first | (with_reducible first | exact HB.out | apply below_alloc | apply pw_below_drewN | apply below_drew1 | refine below_set ?_ GE161.out) | exact HB.out), by repeat (first | (with_reducible first | exact HK.out | apply Kept.alloc | apply Kept.drewN | apply Kept.drew | refine Kept.setCell ?_ (.inr GW161.out) _) | exact HK.out)⟩
    replace c37 := Bool.eq_false_iff.mpr c37
    subst c37
    have H1 : (if x6_1.length < 2932031007402 then (some ((x6_1 ++ [(⟨a1_0, a1_1, a1_2, a1_3⟩ : S29)]), true)) else (none)) = some (r1, r2) := by rw [if_neg (show ¬ (false = true) by decide)] at H; exact H
    clear H
    have H := H1
    clear H1
    by_cases c39 : x6_1.length < 2932031007402
    rotate_left
    · rw [if_neg c39] at H
      exact absurd H (by simp)
    rw [if_pos c39] at H
    have LMc39 := Aside0.mk c39
    clear c39
    obtain ⟨y163, hy163⟩ : ∃ y_ : List (S29), y_ = (x6_1 ++ [(⟨a1_0, a1_1, a1_2, a1_3⟩ : S29)]) := ⟨_, rfl⟩
    replace H : (some (y163, true)) = some (r1, r2) := by first | (rw [hy163]; with_reducible exact H) | (have H2_ := (Option.bind_some _ _).symm.trans H; rw [hy163]; with_reducible exact H2_) | (have H2_ := (Option.bind_some _ _).symm.trans H; with_reducible exact H2_) | with_reducible exact H | (rw [hy163]; exact H) | exact H
    have Ny163 := Aside0.mk hy163
    clear hy163
    simp only [Option.some.injEq, Prod.mk.injEq] at H
    obtain ⟨rfl, rfl⟩ := H
    obtain ⟨Ao40, co40, eo40⟩ := Kd.R_slice HO_0.out
    subst eo40
    have hcz41_0 := bc0 BK161
    have hcz41_1 := bc1 BK161
    have hcz41_2 := bc2 BK161
    have hcz41_3 := bc3 BK161
    have hfz41_0 := bf_ BK161 0
    have hfz41_1 := bf_ BK161 1
    have hfz41_2 := bf_ BK161 2
    have hfz41_3 := bf_ BK161 3
    go_wp2_with (first | ((with_reducible refine gate_builtin (b := .append) (xs := #[.tmp 61, .tmp 63]) rfl ?_); at_builtin; refine Kd.R_append k29 (w0 := w0) w0.heap.size rfl (.tmp 61) (.tmp 63) 22 29 (.agg #[(.string ⟨#[]⟩), (.int .i64 0), (.bool false), (.string ⟨#[]⟩)]) 48 rfl Try.underlying22 info29 rfl (by decide) (by omega) u6 x6_1 (⟨a1_0, a1_1, a1_2, a1_3⟩ : S29) [.string a1_0, .int .i64 a1_1, .bool a1_2, .string a1_3] (fun k_ => (P0_ k_ ∨ w.heap.size ≤ k_) ∧ some k_ ≠ (.slice Ao40 l0.length co40 : Value).ownBlock ∧ k_ ≠ gb161) (fun _ => False) rfl rfl ?aP (fun _ hk => hk.elim) ?aF ?aO ?aB ?aS ?aL ?_; (case aP => exact k29_mkM _ _ _ (⟨a1_0, a1_1, a1_2, a1_3⟩ : S29)); (case aB => exact (gwl_ [gb161] HB ⟨GE161, ⟨⟩⟩)); (case aF => exact (fun k_ hk => ⟨(.inr (Nat.le_trans (by first | exact HK.out.1 | exact (show Kept w _ (fun k_ => P0_ k_) from by repeat (first | (with_reducible first | exact HK.out | apply Kept.alloc | apply Kept.drewN | apply Kept.drew | refine Kept.setCell ?_ (.inr GW161.out) _) | exact HK.out)).1) hk)), Kd.fresh' (Kd.R_lt (by (with_reducible repeat (first | apply Kd.R_alloc | apply Kd.R_drewN | apply Kd.R_drew)); exact HO_0.out)) k_ hk, Kd.freshB (g := gb161) (o := .cells #[.string a1_0, .int .i64 a1_1, .bool a1_2, .string a1_3] 29 (0, 0)) (gb_ BK161) k_ hk⟩)); (case aO => exact (by (with_reducible repeat (first | apply Kd.R_alloc | apply Kd.R_drewN | apply Kd.R_drew)); exact HO_6.out)); (case aS => exact (below_size (gwl_ [gb161] HB ⟨GE161, ⟨⟩⟩))); (case aL => have := LMc39.out; omega); intro v164 w42 ho hb hg hat; rw [← Ny163.out] at ho; have n0_ := Aside0.mk (Kd.R_after (ok := (fun k_ => (P0_ k_ ∨ w.heap.size ≤ k_) ∧ k_ ≠ gb161)) (by (with_reducible repeat (first | apply Kd.R_alloc | apply Kd.R_drewN | apply Kd.R_drew)); exact Kd.R_mono HO_0.out (fun _ hk => ⟨⟨hk.1, hk.2.2⟩, hk.2.1⟩)) hg hat); have n1_ := Aside0.mk (blk_grown (g := gb161) (o := .cells #[.string a1_0, .int .i64 a1_1, .bool a1_2, .string a1_3] 29 (0, 0)) (gb_ BK161) hg (Kd.R_away HO_6.out (fun _ hk => hk.2.2))); have n2_ := Aside0.mk (hb); have n3_ := Aside0.mk (Kept.of_grown (S := (fun k_ => P0_ k_)) hg (by repeat (first | (with_reducible first | exact HK.out | apply Kept.alloc | apply Kept.drewN | apply Kept.drew | refine Kept.setCell ?_ (.inr GW161.out) _) | exact HK.out)) (fun k_ e_ => (HO_6.out.1 k_ e_).1)); have n4_ := Aside0.mk (ho); clear HO_0; clear BK161; clear HB; clear HK; clear HO_6; have HO_0 := n0_; have BK161 := n1_; have HB := n2_; have HK := n3_; have HO165 := n4_; clear n0_ n1_ n2_ n3_ n4_; clear ho hb hg hat))
    go_ret2
    exact ⟨_, by first | rfl | (simp [*, errW_none, errW_some] <;> rfl), by (with_reducible repeat (first | apply Kd.R_alloc | apply Kd.R_drewN | apply Kd.R_drew)); exact Kd.R_mono HO165.out (fun _ hk => hk.1), by repeat (first | (with_reducible first | exact HB.out | apply below_alloc | apply pw_below_drewN | apply below_drew1 | refine below_set ?_ GE161.out) | exact HB.out), by repeat (first | (with_reducible first | exact HK.out | apply Kept.alloc | apply Kept.drewN | apply Kept.drew | refine Kept.setCell ?_ (.inr GW161.out) _) | exact HK.out)⟩
  rw [if_pos c8] at H
  have c8b0 : decide (x8_1 < (l0.length : Int)) = true := decide_eq_true c8
  clear c8
  have HC9 := Aside0.mk H
  clear H
  obtain ⟨Ao10, co10, eo10⟩ := Kd.R_slice HO_0.out
  subst eo10
  go_upto_region 8 with (fail)
  go_cut [36] (fun v36 wc => ∃ (kq : Nat) (x36_8 : Bool), v36 = .bool x36_8 ∧ Aside0 (ravelinref6_Put.j1 kq l0 x6_1 x7_1 x8_1 x36_8 a1_0 a1_1 a1_2 a1_3 = some (r1, r2)) ∧ Aside0 (kq ≤ k1) ∧ Aside0 (Kd.R k29 29 wc w0.heap.size (fun k_ => (P0_ k_ ∨ w.heap.size ≤ k_) ∧ some k_ ≠ (u6 : Value).ownBlock ∧ k_ ≠ gb161) (.slice Ao10 l0.length co10) l0) ∧ Aside0 (Kd.R k29 29 wc w0.heap.size (fun k_ => (P0_ k_ ∨ w.heap.size ≤ k_) ∧ some k_ ≠ ((.slice Ao10 l0.length co10) : Value).ownBlock ∧ k_ ≠ gb161) u6 x6_1) ∧ Aside0 (wc.heap[gb161]? = some (.cells #[.string a1_0, .int .i64 a1_1, .bool a1_2, .string a1_3] 29 (0, 0))) ∧ Aside0 (Kept w wc (fun k_ => P0_ k_)) ∧ Aside0 (Below w0.heap.size w0 wc))
  case first =>
    have H := HC9.out
    clear HC9
    by_cases c11 : 0 ≤ x8_1
    rotate_left
    · rw [if_neg c11] at H
      exact absurd H (by simp)
    rw [if_pos c11] at H
    have c11b0 : decide (0 ≤ x8_1) = true := decide_eq_true c11
    clear c11
    (first | rw [c11b0] | (simp only [i64_w, i32_w]; rw [c11b0]) | skip)
    by_cases c12 : ((rd_T29 l0 x8_1).f0).toList = a1_0.toList
    rotate_left
    · rw [if_neg c12] at H
      have c12b0 : (((rd_T29 l0 x8_1).f0).toList == a1_0.toList) = false := beq_eq_false_iff_ne.mpr c12
      have c12b1 : (((rd_T29 l0 x8_1).f0).toList != a1_0.toList) = true := bne_iff_ne.mpr c12
      have H' := Aside0.mk H
      clear H
      try go_wp2
      have n0_ := Aside0.mk (Kd.R_drew HO_0.out)
      have n1_ := Aside0.mk (Kd.R_drew HO_6.out)
      have n2_ := Aside0.mk (blk_drew BK161.out)
      have n3_ := Aside0.mk (Kept.drew HK.out)
      have n4_ := Aside0.mk (below_drew1 HB.out)
      clear HO_0
      clear HO_6
      clear BK161
      clear HK
      clear HB
      have HO_0 := n0_
      have HO_6 := n1_
      have BK161 := n2_
      have HK := n3_
      have HB := n4_
      clear n0_ n1_ n2_ n3_ n4_
      have p166 : 0 ≤ (x8_1 : Int) := of_decide_eq_true (by assumption)
      have q166 : x8_1 < (l0.length : Int) := of_decide_eq_true (by assumption)
      obtain ⟨ad166, e166, hx166_0, hx166_1, hx166_2, hx166_3⟩ := at_T29 (Kd.R_reads' HO_0.out).2.2 x8_1 p166 q166
      cases e166
      replace p166 := eq_true p166
      replace q166 := eq_true q166
      refine start_ (n := 18) (S := fun w' => w'.cell? ⟨gb161, 0, none⟩ = some (.string a1_0) ∧ w'.cell? ⟨gb161, 1, none⟩ = some (.int .i64 a1_1) ∧ w'.cell? ⟨gb161, 2, none⟩ = some (.bool a1_2) ∧ w'.cell? ⟨gb161, 3, none⟩ = some (.string a1_3) ∧ w'.cell? (ad166.add ((x8_1).toNat * 4)) = some (.string ((rd_T29 l0 x8_1).f0)) ∧ w'.cell? ⟨(ad166.add ((x8_1).toNat * 4)).block, (ad166.add ((x8_1).toNat * 4)).off + 1, none⟩ = some (.int .i64 ((rd_T29 l0 x8_1).f1)) ∧ w'.cell? ⟨(ad166.add ((x8_1).toNat * 4)).block, (ad166.add ((x8_1).toNat * 4)).off + 2, none⟩ = some (.bool ((rd_T29 l0 x8_1).f2)) ∧ w'.cell? ⟨(ad166.add ((x8_1).toNat * 4)).block, (ad166.add ((x8_1).toNat * 4)).off + 3, none⟩ = some (.string ((rd_T29 l0 x8_1).f3))) (ds := []) mkPx4_0 (by kernel_rfl) rfl rfl ⟨bc0 BK161, bc1 BK161, bc2 BK161, bc3 BK161, hx166_0, hx166_1, hx166_2, hx166_3⟩ (fun hHeld => ?_); refine with_tabW ravelinref6_Put.tab8 ravelinref6_Put.bits8 (fun HT_ HW_ => ?_)
      generalize wr.drew = w14 at HO_0 HO_6 BK161 HK HB hx166_0 hx166_1 hx166_2 hx166_3 hHeld ⊢
      refine pu_ 0 (some 19) mkPx4_1 HT_ ?_ rfl rfl (by kernel_rfl) (fun _ _ _ h => h) (Or.inl ⟨by rfl, ?_⟩) ?_ ?_ ?_
      rotate_left
      · intro w'
        go_simp
        with_reducible rfl
      rotate_left
      · simp only [Act.put, lists_, i64_w, i32_w]
        rfl
      refine pu_ 1 (some 20) mkPx4_2 HT_ ?_ rfl rfl (by kernel_rfl) (fun _ _ _ h => h) (Or.inl ⟨by rfl, ?_⟩) ?_ ?_ ?_
      rotate_left
      · intro w'
        go_simp
        with_reducible rfl
      rotate_left
      · simp only [Act.put, lists_, i64_w, i32_w]
        rfl
      refine pu_ 2 (some 21) mkPx4_3 HT_ ?_ rfl rfl (by kernel_rfl) (fun _ _ _ h => h) (Or.inl ⟨by rfl, ?_⟩) ?_ ?_ ?_
      rotate_left
      · intro w'
        go_simp
        with_reducible rfl
      rotate_left
      · simp only [Act.put, lists_, i64_w, i32_w]
        rfl
      refine pu_ 3 (some 22) mkPx4_4 HT_ ?_ rfl rfl (by kernel_rfl) (fun _ _ _ h => h) (Or.inl ⟨by rfl, ?_⟩) ?_ ?_ ?_
      rotate_left
      · intro w'
        go_simp
        with_reducible rfl
      rotate_left
      · simp only [Act.put, lists_, i64_w, i32_w]
        rfl
      refine pu_ 5 (some 24) mkPx4_5 HT_ ?_ rfl rfl (by kernel_rfl) (fun _ _ _ h => h) (Or.inl ⟨by rfl, ?_⟩) ?_ ?_ ?_
      rotate_left
      · intro w'
        go_simp
        with_reducible rfl
      rotate_left
      · simp only [Act.put, lists_, i64_w, i32_w]
        rfl
      refine take_ (i := 4) (N := some 23) (v := ?_) (a' := ?_) mkPx4_6 rfl rfl (take_ofW HT_.out HW_.out (by kernel_rfl)) (fun _ _ _ h => h) (Or.inl ⟨by rfl, ?_⟩) hHeld ?_ ?_
      rotate_left
      · rintro w' ⟨s0, s1, s2, s3, s4, s5, s6, s7⟩
        go_simp
        with_reducible rfl
      rotate_left
      · simp only [Act.put, lists_, i64_w, i32_w]
        rfl
      refine take_ (i := 6) (N := some 25) (v := ?_) (a' := ?_) mkPx4_7 rfl rfl (take_ofW HT_.out HW_.out (by kernel_rfl)) (fun _ _ _ h => h) (Or.inl ⟨by rfl, ?_⟩) hHeld ?_ ?_
      rotate_left
      · rintro w' ⟨s0, s1, s2, s3, s4, s5, s6, s7⟩
        go_simp
        with_reducible rfl
      rotate_left
      · simp only [Act.put, lists_, i64_w, i32_w]
        rfl
      refine pu_ 7 (some 26) mkPx4_8 HT_ ?_ rfl rfl (by kernel_rfl) (fun _ _ _ h => h) (Or.inl ⟨by rfl, ?_⟩) ?_ ?_ ?_
      rotate_left
      · intro w'
        go_simp
        with_reducible rfl
      rotate_left
      · simp only [Act.put, lists_, i64_w, i32_w]
        rfl
      refine pu_ 8 (some 27) mkPx4_9 HT_ ?_ rfl rfl (by kernel_rfl) (fun _ _ _ h => h) (Or.inl ⟨by rfl, ?_⟩) ?_ ?_ ?_
      rotate_left
      · intro w'
        go_simp
        with_reducible rfl
      rotate_left
      · simp only [Act.put, lists_, i64_w, i32_w]
        rfl
      refine pu_ 9 (some 28) mkPx4_10 HT_ undef rfl rfl (by kernel_rfl) (fun _ _ _ h => h) (Or.inr ⟨by rfl, rfl⟩) ?_ ?_ ?_
      rotate_left
      · simp only [Act.put, lists_, i64_w, i32_w]
        rfl
      refine pu_ 10 (some 29) mkPx4_11 HT_ undef rfl rfl (by kernel_rfl) (fun _ _ _ h => h) (Or.inr ⟨by rfl, rfl⟩) ?_ ?_ ?_
      rotate_left
      · simp only [Act.put, lists_, i64_w, i32_w]
        rfl
      refine pu_ 11 (some 30) mkPx4_12 HT_ undef rfl rfl (by kernel_rfl) (fun _ _ _ h => h) (Or.inr ⟨by rfl, rfl⟩) ?_ ?_ ?_
      rotate_left
      · simp only [Act.put, lists_, i64_w, i32_w]
        rfl
      refine pu_ 12 (some 31) mkPx4_13 HT_ undef rfl rfl (by kernel_rfl) (fun _ _ _ h => h) (Or.inr ⟨by rfl, rfl⟩) ?_ ?_ ?_
      rotate_left
      · simp only [Act.put, lists_, i64_w, i32_w]
        rfl
      refine pu_ 13 (some 32) mkPx4_14 HT_ undef rfl rfl (by kernel_rfl) (fun _ _ _ h => h) (Or.inr ⟨by rfl, rfl⟩) ?_ ?_ ?_
      rotate_left
      · simp only [Act.put, lists_, i64_w, i32_w]
        rfl
      refine pu_ 14 (some 33) mkPx4_15 HT_ undef rfl rfl (by kernel_rfl) (fun _ _ _ h => h) (Or.inr ⟨by rfl, rfl⟩) ?_ ?_ ?_
      rotate_left
      · simp only [Act.put, lists_, i64_w, i32_w]
        rfl
      refine pu_ 15 (some 34) mkPx4_16 HT_ undef rfl rfl (by kernel_rfl) (fun _ _ _ h => h) (Or.inr ⟨by rfl, rfl⟩) ?_ ?_ ?_
      rotate_left
      · simp only [Act.put, lists_, i64_w, i32_w]
        rfl
      refine pu_ 16 (some 35) mkPx4_17 HT_ undef rfl rfl (by kernel_rfl) (fun _ _ _ h => h) (Or.inr ⟨by rfl, rfl⟩) ?_ ?_ ?_
      rotate_left
      · simp only [Act.put, lists_, i64_w, i32_w]
        rfl
      refine pu_ 17 (some 36) mkPx4_18 HT_ ?_ rfl rfl (by kernel_rfl) (fun _ _ _ h => h) (Or.inl ⟨by rfl, ?_⟩) ?_ ?_ ?_
      rotate_left
      · intro w'
        go_simp
        with_reducible rfl
      rotate_left
      · simp only [Act.put, lists_, i64_w, i32_w]
        rfl
      refine done_ (done_of HT_.out (by kernel_rfl)) ?_
      try go_wp2
      go_meet
      case rel => exact ⟨_, (false), (by first | rfl | (simp; done) | (simp [*]; done)), H', ⟨by have := HK1.out; first | omega | exact Nat.le_refl _⟩, ⟨by (with_reducible repeat (first | apply Kd.R_alloc | apply Kd.R_drewN | apply Kd.R_drew)); exact HO_0.out⟩, ⟨by (with_reducible repeat (first | apply Kd.R_alloc | apply Kd.R_drewN | apply Kd.R_drew)); exact HO_6.out⟩, ⟨gb_ BK161⟩, ⟨by repeat (first | (with_reducible first | exact HK.out | apply Kept.alloc | apply Kept.drewN | apply Kept.drew | refine Kept.setCell ?_ (.inr GW161.out) _) | exact HK.out)⟩, ⟨gwl_ [gb161] HB ⟨GE161, ⟨⟩⟩⟩⟩
    rw [if_pos c12] at H
    have c12b0 : (((rd_T29 l0 x8_1).f0).toList == a1_0.toList) = true := beq_iff_eq.mpr c12
    have c12b1 : (((rd_T29 l0 x8_1).f0).toList != a1_0.toList) = false := bne_eq_false_iff_eq.mpr c12
    clear c12
    have H' := Aside0.mk H
    clear H
    try go_wp2
    have n0_ := Aside0.mk (Kd.R_drew HO_0.out)
    have n1_ := Aside0.mk (Kd.R_drew HO_6.out)
    have n2_ := Aside0.mk (blk_drew BK161.out)
    have n3_ := Aside0.mk (Kept.drew HK.out)
    have n4_ := Aside0.mk (below_drew1 HB.out)
    clear HO_0
    clear HO_6
    clear BK161
    clear HK
    clear HB
    have HO_0 := n0_
    have HO_6 := n1_
    have BK161 := n2_
    have HK := n3_
    have HB := n4_
    clear n0_ n1_ n2_ n3_ n4_
    have p166 : 0 ≤ (x8_1 : Int) := of_decide_eq_true (by assumption)
    have q166 : x8_1 < (l0.length : Int) := of_decide_eq_true (by assumption)
    obtain ⟨ad166, e166, hx166_0, hx166_1, hx166_2, hx166_3⟩ := at_T29 (Kd.R_reads' HO_0.out).2.2 x8_1 p166 q166
    cases e166
    replace p166 := eq_true p166
    replace q166 := eq_true q166
    have p167 : 0 ≤ (x8_1 : Int) := of_decide_eq_true (by assumption)
    have q167 : x8_1 < (l0.length : Int) := of_decide_eq_true (by assumption)
    obtain ⟨ad167, e167, hx167_0, hx167_1, hx167_2, hx167_3⟩ := at_T29 (Kd.R_reads' HO_0.out).2.2 x8_1 p167 q167
    obtain rfl : ad166 = ad167 := (by injection e167)
    replace p167 := eq_true p167
    replace q167 := eq_true q167
    refine start_ (n := 18) (S := fun w' => w'.cell? ⟨gb161, 0, none⟩ = some (.string a1_0) ∧ w'.cell? ⟨gb161, 1, none⟩ = some (.int .i64 a1_1) ∧ w'.cell? ⟨gb161, 2, none⟩ = some (.bool a1_2) ∧ w'.cell? ⟨gb161, 3, none⟩ = some (.string a1_3) ∧ w'.cell? (ad166.add ((x8_1).toNat * 4)) = some (.string ((rd_T29 l0 x8_1).f0)) ∧ w'.cell? ⟨(ad166.add ((x8_1).toNat * 4)).block, (ad166.add ((x8_1).toNat * 4)).off + 1, none⟩ = some (.int .i64 ((rd_T29 l0 x8_1).f1)) ∧ w'.cell? ⟨(ad166.add ((x8_1).toNat * 4)).block, (ad166.add ((x8_1).toNat * 4)).off + 2, none⟩ = some (.bool ((rd_T29 l0 x8_1).f2)) ∧ w'.cell? ⟨(ad166.add ((x8_1).toNat * 4)).block, (ad166.add ((x8_1).toNat * 4)).off + 3, none⟩ = some (.string ((rd_T29 l0 x8_1).f3)) ∧ w'.cell? (ad166.add ((x8_1).toNat * 4)) = some (.string ((rd_T29 l0 x8_1).f0)) ∧ w'.cell? ⟨(ad166.add ((x8_1).toNat * 4)).block, (ad166.add ((x8_1).toNat * 4)).off + 1, none⟩ = some (.int .i64 ((rd_T29 l0 x8_1).f1)) ∧ w'.cell? ⟨(ad166.add ((x8_1).toNat * 4)).block, (ad166.add ((x8_1).toNat * 4)).off + 2, none⟩ = some (.bool ((rd_T29 l0 x8_1).f2)) ∧ w'.cell? ⟨(ad166.add ((x8_1).toNat * 4)).block, (ad166.add ((x8_1).toNat * 4)).off + 3, none⟩ = some (.string ((rd_T29 l0 x8_1).f3))) (ds := []) mkPx4_0 (by kernel_rfl) rfl rfl ⟨bc0 BK161, bc1 BK161, bc2 BK161, bc3 BK161, hx166_0, hx166_1, hx166_2, hx166_3, hx167_0, hx167_1, hx167_2, hx167_3⟩ (fun hHeld => ?_); refine with_tabW ravelinref6_Put.tab8 ravelinref6_Put.bits8 (fun HT_ HW_ => ?_)
    generalize wr.drew = w13 at HO_0 HO_6 BK161 HK HB hx166_0 hx166_1 hx166_2 hx166_3 hx167_0 hx167_1 hx167_2 hx167_3 hHeld ⊢
    refine pu_ 0 (some 19) mkPx4_1 HT_ ?_ rfl rfl (by kernel_rfl) (fun _ _ _ h => h) (Or.inl ⟨by rfl, ?_⟩) ?_ ?_ ?_
    rotate_left
    · intro w'
      go_simp
      with_reducible rfl
    rotate_left
    · simp only [Act.put, lists_, i64_w, i32_w]
      rfl
    refine pu_ 1 (some 20) mkPx4_2 HT_ ?_ rfl rfl (by kernel_rfl) (fun _ _ _ h => h) (Or.inl ⟨by rfl, ?_⟩) ?_ ?_ ?_
    rotate_left
    · intro w'
      go_simp
      with_reducible rfl
    rotate_left
    · simp only [Act.put, lists_, i64_w, i32_w]
      rfl
    refine pu_ 2 (some 21) mkPx4_3 HT_ ?_ rfl rfl (by kernel_rfl) (fun _ _ _ h => h) (Or.inl ⟨by rfl, ?_⟩) ?_ ?_ ?_
    rotate_left
    · intro w'
      go_simp
      with_reducible rfl
    rotate_left
    · simp only [Act.put, lists_, i64_w, i32_w]
      rfl
    refine pu_ 3 (some 22) mkPx4_4 HT_ ?_ rfl rfl (by kernel_rfl) (fun _ _ _ h => h) (Or.inl ⟨by rfl, ?_⟩) ?_ ?_ ?_
    rotate_left
    · intro w'
      go_simp
      with_reducible rfl
    rotate_left
    · simp only [Act.put, lists_, i64_w, i32_w]
      rfl
    refine pu_ 5 (some 24) mkPx4_5 HT_ ?_ rfl rfl (by kernel_rfl) (fun _ _ _ h => h) (Or.inl ⟨by rfl, ?_⟩) ?_ ?_ ?_
    rotate_left
    · intro w'
      go_simp
      with_reducible rfl
    rotate_left
    · simp only [Act.put, lists_, i64_w, i32_w]
      rfl
    refine take_ (i := 4) (N := some 23) (v := ?_) (a' := ?_) mkPx4_6 rfl rfl (take_ofW HT_.out HW_.out (by kernel_rfl)) (fun _ _ _ h => h) (Or.inl ⟨by rfl, ?_⟩) hHeld ?_ ?_
    rotate_left
    · rintro w' ⟨s0, s1, s2, s3, s4, s5, s6, s7, s8, s9, s10, s11⟩
      go_simp
      with_reducible rfl
    rotate_left
    · simp only [Act.put, lists_, i64_w, i32_w]
      rfl
    refine take_ (i := 6) (N := some 25) (v := ?_) (a' := ?_) mkPx4_7 rfl rfl (take_ofW HT_.out HW_.out (by kernel_rfl)) (fun _ _ _ h => h) (Or.inl ⟨by rfl, ?_⟩) hHeld ?_ ?_
    rotate_left
    · rintro w' ⟨s0, s1, s2, s3, s4, s5, s6, s7, s8, s9, s10, s11⟩
      go_simp
      with_reducible rfl
    rotate_left
    · simp only [Act.put, lists_, i64_w, i32_w]
      rfl
    refine pu_ 7 (some 26) mkPx4_8 HT_ ?_ rfl rfl (by kernel_rfl) (fun _ _ _ h => h) (Or.inl ⟨by rfl, ?_⟩) ?_ ?_ ?_
    rotate_left
    · intro w'
      go_simp
      with_reducible rfl
    rotate_left
    · simp only [Act.put, lists_, i64_w, i32_w]
      rfl
    refine pu_ 8 (some 27) mkPx4_9 HT_ ?_ rfl rfl (by kernel_rfl) (fun _ _ _ h => h) (Or.inl ⟨by rfl, ?_⟩) ?_ ?_ ?_
    rotate_left
    · intro w'
      go_simp
      with_reducible rfl
    rotate_left
    · simp only [Act.put, lists_, i64_w, i32_w]
      rfl
    refine pu_ 9 (some 28) mkPx4_10 HT_ ?_ rfl rfl (by kernel_rfl) (fun _ _ _ h => h) (Or.inl ⟨by rfl, ?_⟩) ?_ ?_ ?_
    rotate_left
    · intro w'
      go_simp
      with_reducible rfl
    rotate_left
    · simp only [Act.put, lists_, i64_w, i32_w]
      rfl
    refine pu_ 10 (some 29) mkPx4_11 HT_ ?_ rfl rfl (by kernel_rfl) (fun _ _ _ h => h) (Or.inl ⟨by rfl, ?_⟩) ?_ ?_ ?_
    rotate_left
    · intro w'
      go_simp
      with_reducible rfl
    rotate_left
    · simp only [Act.put, lists_, i64_w, i32_w]
      rfl
    refine pu_ 11 (some 30) mkPx4_12 HT_ ?_ rfl rfl (by kernel_rfl) (fun _ _ _ h => h) (Or.inl ⟨by rfl, ?_⟩) ?_ ?_ ?_
    rotate_left
    · intro w'
      go_simp
      with_reducible rfl
    rotate_left
    · simp only [Act.put, lists_, i64_w, i32_w]
      rfl
    refine pu_ 12 (some 31) mkPx4_13 HT_ ?_ rfl rfl (by kernel_rfl) (fun _ _ _ h => h) (Or.inl ⟨by rfl, ?_⟩) ?_ ?_ ?_
    rotate_left
    · intro w'
      go_simp
      with_reducible rfl
    rotate_left
    · simp only [Act.put, lists_, i64_w, i32_w]
      rfl
    refine pu_ 14 (some 33) mkPx4_19 HT_ ?_ rfl rfl (by kernel_rfl) (fun _ _ _ h => h) (Or.inl ⟨by rfl, ?_⟩) ?_ ?_ ?_
    rotate_left
    · intro w'
      go_simp
      with_reducible rfl
    rotate_left
    · simp only [Act.put, lists_, i64_w, i32_w]
      rfl
    refine take_ (i := 13) (N := some 32) (v := ?_) (a' := ?_) mkPx4_15 rfl rfl (take_ofW HT_.out HW_.out (by kernel_rfl)) (fun _ _ _ h => h) (Or.inl ⟨by rfl, ?_⟩) hHeld ?_ ?_
    rotate_left
    · rintro w' ⟨s0, s1, s2, s3, s4, s5, s6, s7, s8, s9, s10, s11⟩
      go_simp
      with_reducible rfl
    rotate_left
    · simp only [Act.put, lists_, i64_w, i32_w]
      rfl
    refine take_ (i := 15) (N := some 34) (v := ?_) (a' := ?_) mkPx4_16 rfl rfl (take_ofW HT_.out HW_.out (by kernel_rfl)) (fun _ _ _ h => h) (Or.inl ⟨by rfl, ?_⟩) hHeld ?_ ?_
    rotate_left
    · rintro w' ⟨s0, s1, s2, s3, s4, s5, s6, s7, s8, s9, s10, s11⟩
      go_simp
      with_reducible rfl
    rotate_left
    · simp only [Act.put, lists_, i64_w, i32_w]
      rfl
    refine pu_ 16 (some 35) mkPx4_17 HT_ ?_ rfl rfl (by kernel_rfl) (fun _ _ _ h => h) (Or.inl ⟨by rfl, ?_⟩) ?_ ?_ ?_
    rotate_left
    · intro w'
      go_simp
      with_reducible rfl
    rotate_left
    · simp only [Act.put, lists_, i64_w, i32_w]
      rfl
    refine pu_ 17 (some 36) mkPx4_18 HT_ ?_ rfl rfl (by kernel_rfl) (fun _ _ _ h => h) (Or.inl ⟨by rfl, ?_⟩) ?_ ?_ ?_
    rotate_left
    · intro w'
      go_simp
      with_reducible rfl
    rotate_left
    · simp only [Act.put, lists_, i64_w, i32_w]
      rfl
    refine done_ (done_of HT_.out (by kernel_rfl)) ?_
    try go_wp2
    go_meet
    case rel => exact ⟨_, ((((rd_T29 l0 x8_1).f1) == a1_1)), (by first | rfl | (simp; done) | (simp [*]; done)), H', ⟨by have := HK1.out; first | omega | exact Nat.le_refl _⟩, ⟨by (with_reducible repeat (first | apply Kd.R_alloc | apply Kd.R_drewN | apply Kd.R_drew)); exact HO_0.out⟩, ⟨by (with_reducible repeat (first | apply Kd.R_alloc | apply Kd.R_drewN | apply Kd.R_drew)); exact HO_6.out⟩, ⟨gb_ BK161⟩, ⟨by repeat (first | (with_reducible first | exact HK.out | apply Kept.alloc | apply Kept.drewN | apply Kept.drew | refine Kept.setCell ?_ (.inr GW161.out) _) | exact HK.out)⟩, ⟨gwl_ [gb161] HB ⟨GE161, ⟨⟩⟩⟩⟩
  clear HC9
  try clear c1
  try clear p1
  try clear q1
  try clear hx1
  try clear c2
  try clear p2
  try clear c4
  try clear c8
  try clear c8b0
  try clear c11
  try clear c11b0
  try clear c12
  try clear c12b0
  try clear c12b1
  try clear c13
  try clear hcz6_0
  try clear hcz6_1
  try clear hcz6_2
  try clear hcz6_3
  try clear hfz6_0
  try clear hfz6_1
  try clear hfz6_2
  try clear hfz6_3
  try clear hx166_0
  try clear hx166_1
  try clear hx166_2
  try clear hx166_3
  try clear hx167_0
  try clear hx167_1
  try clear hx167_2
  try clear hx167_3
  try clear p166
  try clear p167
  try clear p2
  try clear q166
  try clear q167
  obtain ⟨kq, x36_8, rfl, HA, HJ8, HO_0, HO_6, BK161, HK, HB⟩ := hcut
  cases kq with
  | zero => exact absurd HA.out (by simp [ravelinref6_Put.j1])
  | succ kj8 => ?_
  have H := HA.out
  clear HA
  simp only [ravelinref6_Put.j1] at H
  by_cases c15 : x36_8 = true
  · subst c15
    have H1 : (some (l0, false)) = some (r1, r2) := by rw [if_pos rfl] at H; exact H
    clear H
    have H := H1
    clear H1
    simp only [Option.some.injEq, Prod.mk.injEq] at H
    obtain ⟨rfl, rfl⟩ := H
    go_wp2
    go_ret2
    exact ⟨_, by first | rfl | (simp [*, errW_none, errW_some] <;> rfl), by (with_reducible repeat (first | apply Kd.R_alloc | apply Kd.R_drewN | apply Kd.R_drew)); exact Kd.R_mono HO_0.out (fun _ hk => hk.1), by repeat (first | (with_reducible first | exact HB.out | apply below_alloc | apply pw_below_drewN | apply below_drew1 | refine below_set ?_ GE161.out) | exact HB.out), by repeat (first | (with_reducible first | exact HK.out | apply Kept.alloc | apply Kept.drewN | apply Kept.drew | refine Kept.setCell ?_ (.inr GW161.out) _) | exact HK.out)⟩
  replace c15 := Bool.eq_false_iff.mpr c15
  subst c15
  have H1 : (if x7_1 = true then (if 0 ≤ x8_1 then (if x8_1 < (l0.length : Int) then (if x6_1.length < 2932031007402 then (ravelinref6_Put.l0 kj8 l0 (x6_1 ++ [(⟨(rd_T29 l0 x8_1).f0, (rd_T29 l0 x8_1).f1, (rd_T29 l0 x8_1).f2, (rd_T29 l0 x8_1).f3⟩ : S29)]) x7_1 (wrap64 (x8_1 + 1)) a1_0 a1_1 a1_2 a1_3) else (none)) else (none)) else (none)) else (if 0 ≤ x8_1 then (if x8_1 < (l0.length : Int) then ((ravelinref6_Less.f a1_0 a1_1 a1_2 a1_3 ((rd_T29 l0 x8_1).f0) ((rd_T29 l0 x8_1).f1) ((rd_T29 l0 x8_1).f2) ((rd_T29 l0 x8_1).f3)).bind fun t173 => (if t173 = true then (if x6_1.length < 2932031007402 then ((some (x6_1 ++ [(⟨a1_0, a1_1, a1_2, a1_3⟩ : S29)] : List (S29))).bind fun y174 => (if y174.length < 2932031007402 then (ravelinref6_Put.l0 kj8 l0 (y174 ++ [(⟨(rd_T29 l0 x8_1).f0, (rd_T29 l0 x8_1).f1, (rd_T29 l0 x8_1).f2, (rd_T29 l0 x8_1).f3⟩ : S29)]) true (wrap64 (x8_1 + 1)) a1_0 a1_1 a1_2 a1_3) else (none))) else (none)) else (if x6_1.length < 2932031007402 then (ravelinref6_Put.l0 kj8 l0 (x6_1 ++ [(⟨(rd_T29 l0 x8_1).f0, (rd_T29 l0 x8_1).f1, (rd_T29 l0 x8_1).f2, (rd_T29 l0 x8_1).f3⟩ : S29)]) x7_1 (wrap64 (x8_1 + 1)) a1_0 a1_1 a1_2 a1_3) else (none)))) else (none)) else (none))) = some (r1, r2) := by rw [if_neg (show ¬ (false = true) by decide)] at H; exact H
  clear H
  have H := H1
  clear H1
  by_cases c16 : x7_1 = true
  · subst c16
    have H1 : (if 0 ≤ x8_1 then (if x8_1 < (l0.length : Int) then (if x6_1.length < 2932031007402 then (ravelinref6_Put.l0 kj8 l0 (x6_1 ++ [(⟨(rd_T29 l0 x8_1).f0, (rd_T29 l0 x8_1).f1, (rd_T29 l0 x8_1).f2, (rd_T29 l0 x8_1).f3⟩ : S29)]) true (wrap64 (x8_1 + 1)) a1_0 a1_1 a1_2 a1_3) else (none)) else (none)) else (none)) = some (r1, r2) := by rw [if_pos rfl] at H; exact H
    clear H
    have H := H1
    clear H1
    by_cases c17 : 0 ≤ x8_1
    rotate_left
    · rw [if_neg c17] at H
      exact absurd H (by simp)
    rw [if_pos c17] at H
    have c17b0 : decide (0 ≤ x8_1) = true := decide_eq_true c17
    clear c17
    by_cases c18 : x8_1 < (l0.length : Int)
    rotate_left
    · rw [if_neg c18] at H
      exact absurd H (by simp)
    rw [if_pos c18] at H
    have c18b0 : decide (x8_1 < (l0.length : Int)) = true := decide_eq_true c18
    clear c18
    by_cases c19 : x6_1.length < 2932031007402
    rotate_left
    · rw [if_neg c19] at H
      exact absurd H (by simp)
    rw [if_pos c19] at H
    have LMc19 := Aside0.mk c19
    clear c19
    obtain ⟨y169, hy169⟩ : ∃ y_ : List (S29), y_ = (x6_1 ++ [(⟨(rd_T29 l0 x8_1).f0, (rd_T29 l0 x8_1).f1, (rd_T29 l0 x8_1).f2, (rd_T29 l0 x8_1).f3⟩ : S29)]) := ⟨_, rfl⟩
    replace H : (ravelinref6_Put.l0 kj8 l0 y169 true (wrap64 (x8_1 + 1)) a1_0 a1_1 a1_2 a1_3) = some (r1, r2) := by first | (rw [hy169]; with_reducible exact H) | (have H2_ := (Option.bind_some _ _).symm.trans H; rw [hy169]; with_reducible exact H2_) | (have H2_ := (Option.bind_some _ _).symm.trans H; with_reducible exact H2_) | with_reducible exact H | (rw [hy169]; exact H) | exact H
    have Ny169 := Aside0.mk hy169
    clear hy169
    have H' := Aside0.mk H
    clear H
    try go_wp2
    have n0_ := Aside0.mk (Kd.R_drew HO_0.out)
    have n1_ := Aside0.mk (Kd.R_drew HO_6.out)
    have n2_ := Aside0.mk (blk_drew BK161.out)
    have n3_ := Aside0.mk (Kept.drew HK.out)
    have n4_ := Aside0.mk (below_drew1 HB.out)
    clear HO_0
    clear HO_6
    clear BK161
    clear HK
    clear HB
    have HO_0 := n0_
    have HO_6 := n1_
    have BK161 := n2_
    have HK := n3_
    have HB := n4_
    clear n0_ n1_ n2_ n3_ n4_
    refine start_ (n := 10) (S := fun w' => True) (ds := []) mkPx4_20 (by kernel_rfl) rfl rfl trivial (fun hHeld => ?_); refine with_tabW ravelinref6_Put.tab10 ravelinref6_Put.bits10 (fun HT_ HW_ => ?_)
    generalize wc.drew = w20 at HO_0 HO_6 BK161 HK HB hHeld ⊢
    refine pu_ 0 (some 38) mkPx4_21 HT_ ?_ rfl rfl (by kernel_rfl) (fun _ _ _ h => h) (Or.inl ⟨by rfl, ?_⟩) ?_ ?_ ?_
    rotate_left
    · intro w'
      go_simp
      with_reducible rfl
    rotate_left
    · simp only [Act.put, lists_, i64_w, i32_w]
      rfl
    refine pu_ 1 (some 39) mkPx4_22 HT_ ?_ rfl rfl (by kernel_rfl) (fun _ _ _ h => h) (Or.inl ⟨by rfl, ?_⟩) ?_ ?_ ?_
    rotate_left
    · intro w'
      go_simp
      with_reducible rfl
    rotate_left
    · simp only [Act.put, lists_, i64_w, i32_w]
      rfl
    refine pu_ 2 (some 40) mkPx4_23 HT_ ?_ rfl rfl (by kernel_rfl) (fun _ _ _ h => h) (Or.inl ⟨by rfl, ?_⟩) ?_ ?_ ?_
    rotate_left
    · intro w'
      go_simp
      with_reducible rfl
    rotate_left
    · simp only [Act.put, lists_, i64_w, i32_w]
      rfl
    refine pu_ 3 (some 41) mkPx4_24 HT_ undef rfl rfl (by kernel_rfl) (fun _ _ _ h => h) (Or.inr ⟨by rfl, rfl⟩) ?_ ?_ ?_
    rotate_left
    · simp only [Act.put, lists_, i64_w, i32_w]
      rfl
    refine pu_ 4 (some 42) mkPx4_25 HT_ undef rfl rfl (by kernel_rfl) (fun _ _ _ h => h) (Or.inr ⟨by rfl, rfl⟩) ?_ ?_ ?_
    rotate_left
    · simp only [Act.put, lists_, i64_w, i32_w]
      rfl
    refine pu_ 5 (some 43) mkPx4_26 HT_ undef rfl rfl (by kernel_rfl) (fun _ _ _ h => h) (Or.inr ⟨by rfl, rfl⟩) ?_ ?_ ?_
    rotate_left
    · simp only [Act.put, lists_, i64_w, i32_w]
      rfl
    refine pu_ 6 (some 44) mkPx4_27 HT_ undef rfl rfl (by kernel_rfl) (fun _ _ _ h => h) (Or.inr ⟨by rfl, rfl⟩) ?_ ?_ ?_
    rotate_left
    · simp only [Act.put, lists_, i64_w, i32_w]
      rfl
    refine pu_ 7 (some 45) mkPx4_28 HT_ undef rfl rfl (by kernel_rfl) (fun _ _ _ h => h) (Or.inr ⟨by rfl, rfl⟩) ?_ ?_ ?_
    rotate_left
    · simp only [Act.put, lists_, i64_w, i32_w]
      rfl
    refine pu_ 8 (some 46) mkPx4_29 HT_ undef rfl rfl (by kernel_rfl) (fun _ _ _ h => h) (Or.inr ⟨by rfl, rfl⟩) ?_ ?_ ?_
    rotate_left
    · simp only [Act.put, lists_, i64_w, i32_w]
      rfl
    refine pu_ 9 (some 47) mkPx4_30 HT_ ?_ rfl rfl (by kernel_rfl) (fun _ _ _ h => h) (Or.inl ⟨by rfl, ?_⟩) ?_ ?_ ?_
    rotate_left
    · intro w'
      go_simp
      with_reducible rfl
    rotate_left
    · simp only [Act.put, lists_, i64_w, i32_w]
      rfl
    refine done_ (done_of HT_.out (by kernel_rfl)) ?_
    have p168 : 0 ≤ (x8_1 : Int) := of_decide_eq_true (by assumption)
    have q168 : x8_1 < (l0.length : Int) := of_decide_eq_true (by assumption)
    obtain ⟨ad168, e168, hx168_0, hx168_1, hx168_2, hx168_3⟩ := at_T29 (Kd.R_reads' HO_0.out).2.2 x8_1 p168 q168
    cases e168
    replace p168 := eq_true p168
    replace q168 := eq_true q168
    try go_wp2_with (first | ((with_reducible refine gate_builtin (b := .append) (xs := #[.tmp 52, .tmp 57]) rfl ?_); at_builtin; refine Kd.R_append k29 (w0 := w0) w0.heap.size rfl (.tmp 52) (.tmp 57) 22 29 (.agg #[(.string ⟨#[]⟩), (.int .i64 0), (.bool false), (.string ⟨#[]⟩)]) 48 rfl Try.underlying22 info29 rfl (by decide) (by omega) u6 x6_1 (⟨(rd_T29 l0 x8_1).f0, (rd_T29 l0 x8_1).f1, (rd_T29 l0 x8_1).f2, (rd_T29 l0 x8_1).f3⟩ : S29) [.string ((rd_T29 l0 x8_1).f0), .int .i64 ((rd_T29 l0 x8_1).f1), .bool ((rd_T29 l0 x8_1).f2), .string ((rd_T29 l0 x8_1).f3)] (fun k_ => (P0_ k_ ∨ w.heap.size ≤ k_) ∧ some k_ ≠ (.slice (some ad168) l0.length co10 : Value).ownBlock ∧ k_ ≠ gb161) (fun _ => False) rfl rfl ?aP (fun _ hk => hk.elim) ?aF ?aO ?aB ?aS ?aL ?_; (case aP => exact k29_mkM _ _ _ (⟨(rd_T29 l0 x8_1).f0, (rd_T29 l0 x8_1).f1, (rd_T29 l0 x8_1).f2, (rd_T29 l0 x8_1).f3⟩ : S29)); (case aB => exact (gwl_ [gb161] HB ⟨GE161, ⟨⟩⟩)); (case aF => exact (fun k_ hk => ⟨(.inr (Nat.le_trans (by first | exact HK.out.1 | exact (show Kept w _ (fun k_ => P0_ k_) from by repeat (first | (with_reducible first | exact HK.out | apply Kept.alloc | apply Kept.drewN | apply Kept.drew | refine Kept.setCell ?_ (.inr GW161.out) _) | exact HK.out)).1) hk)), Kd.fresh' (Kd.R_lt (by (with_reducible repeat (first | apply Kd.R_alloc | apply Kd.R_drewN | apply Kd.R_drew)); exact HO_0.out)) k_ hk, Kd.freshB (g := gb161) (o := .cells #[.string a1_0, .int .i64 a1_1, .bool a1_2, .string a1_3] 29 (0, 0)) (gb_ BK161) k_ hk⟩)); (case aO => exact (by (with_reducible repeat (first | apply Kd.R_alloc | apply Kd.R_drewN | apply Kd.R_drew)); exact HO_6.out)); (case aS => exact (below_size (gwl_ [gb161] HB ⟨GE161, ⟨⟩⟩))); (case aL => have := LMc19.out; omega); intro v170 w21 ho hb hg hat; rw [← Ny169.out] at ho; have n0_ := Aside0.mk (Kd.R_after (ok := (fun k_ => (P0_ k_ ∨ w.heap.size ≤ k_) ∧ k_ ≠ gb161)) (by (with_reducible repeat (first | apply Kd.R_alloc | apply Kd.R_drewN | apply Kd.R_drew)); exact Kd.R_mono HO_0.out (fun _ hk => ⟨⟨hk.1, hk.2.2⟩, hk.2.1⟩)) hg hat); have n1_ := Aside0.mk (blk_grown (g := gb161) (o := .cells #[.string a1_0, .int .i64 a1_1, .bool a1_2, .string a1_3] 29 (0, 0)) (gb_ BK161) hg (Kd.R_away HO_6.out (fun _ hk => hk.2.2))); have n2_ := Aside0.mk (hb); have n3_ := Aside0.mk (Kept.of_grown (S := (fun k_ => P0_ k_)) hg (by repeat (first | (with_reducible first | exact HK.out | apply Kept.alloc | apply Kept.drewN | apply Kept.drew | refine Kept.setCell ?_ (.inr GW161.out) _) | exact HK.out)) (fun k_ e_ => (HO_6.out.1 k_ e_).1)); have n4_ := Aside0.mk (ho); clear HO_0; clear BK161; clear HB; clear HK; clear HO_6; have HO_0 := n0_; have BK161 := n1_; have HB := n2_; have HK := n3_; have HO171 := n4_; clear n0_ n1_ n2_ n3_ n4_; clear ho hb hg hat))
    go_roundg kj8
    case measure => have := HK1.out; have := HJ8.out; omega
    case rel => exact ⟨(y169), (true), (wrap64 (x8_1 + 1)), (by first | rfl | (simp; done) | (simp [*]; done)), (by first | rfl | (simp; done) | (simp [*]; done)), H', ⟨by have := HK1.out; have := HJ8.out; omega⟩, ⟨by (with_reducible repeat (first | apply Kd.R_alloc | apply Kd.R_drewN | apply Kd.R_drew)); exact Kd.R_mono HO_0.out (fun _ hk => ⟨hk.1.1, ⟨hk.2, hk.1.2⟩⟩)⟩, ⟨by (with_reducible repeat (first | apply Kd.R_alloc | apply Kd.R_drewN | apply Kd.R_drew)); exact HO171.out⟩, ⟨gb_ BK161⟩, ⟨by repeat (first | (with_reducible first | exact HK.out | apply Kept.alloc | apply Kept.drewN | apply Kept.drew | refine Kept.setCell ?_ (.inr GW161.out) _) | exact HK.out)⟩, ⟨gwl_ [gb161] HB ⟨GE161, ⟨⟩⟩⟩⟩
  replace c16 := Bool.eq_false_iff.mpr c16
  subst c16
  have H1 : (if 0 ≤ x8_1 then (if x8_1 < (l0.length : Int) then ((ravelinref6_Less.f a1_0 a1_1 a1_2 a1_3 ((rd_T29 l0 x8_1).f0) ((rd_T29 l0 x8_1).f1) ((rd_T29 l0 x8_1).f2) ((rd_T29 l0 x8_1).f3)).bind fun t173 => (if t173 = true then (if x6_1.length < 2932031007402 then ((some (x6_1 ++ [(⟨a1_0, a1_1, a1_2, a1_3⟩ : S29)] : List (S29))).bind fun y174 => (if y174.length < 2932031007402 then (ravelinref6_Put.l0 kj8 l0 (y174 ++ [(⟨(rd_T29 l0 x8_1).f0, (rd_T29 l0 x8_1).f1, (rd_T29 l0 x8_1).f2, (rd_T29 l0 x8_1).f3⟩ : S29)]) true (wrap64 (x8_1 + 1)) a1_0 a1_1 a1_2 a1_3) else (none))) else (none)) else (if x6_1.length < 2932031007402 then (ravelinref6_Put.l0 kj8 l0 (x6_1 ++ [(⟨(rd_T29 l0 x8_1).f0, (rd_T29 l0 x8_1).f1, (rd_T29 l0 x8_1).f2, (rd_T29 l0 x8_1).f3⟩ : S29)]) false (wrap64 (x8_1 + 1)) a1_0 a1_1 a1_2 a1_3) else (none)))) else (none)) else (none)) = some (r1, r2) := by rw [if_neg (show ¬ (false = true) by decide)] at H; exact H
  clear H
  have H := H1
  clear H1
  by_cases c22 : 0 ≤ x8_1
  rotate_left
  · rw [if_neg c22] at H
    exact absurd H (by simp)
  rw [if_pos c22] at H
  have c22b0 : decide (0 ≤ x8_1) = true := decide_eq_true c22
  clear c22
  by_cases c23 : x8_1 < (l0.length : Int)
  rotate_left
  · rw [if_neg c23] at H
    exact absurd H (by simp)
  rw [if_pos c23] at H
  have c23b0 : decide (x8_1 < (l0.length : Int)) = true := decide_eq_true c23
  clear c23
  replace H := Option.bind_eq_some_iff.mp H
  obtain ⟨t173, A240, H⟩ := H
  try dsimp only at H
  have A24 := Aside0.mk A240
  clear A240
  by_cases c25 : t173 = true
  rotate_left
  · replace c25 := Bool.eq_false_iff.mpr c25
    subst c25
    have H1 : (if x6_1.length < 2932031007402 then (ravelinref6_Put.l0 kj8 l0 (x6_1 ++ [(⟨(rd_T29 l0 x8_1).f0, (rd_T29 l0 x8_1).f1, (rd_T29 l0 x8_1).f2, (rd_T29 l0 x8_1).f3⟩ : S29)]) false (wrap64 (x8_1 + 1)) a1_0 a1_1 a1_2 a1_3) else (none)) = some (r1, r2) := by rw [if_neg (show ¬ (false = true) by decide)] at H; exact H
    clear H
    have H := H1
    clear H1
    by_cases c33 : x6_1.length < 2932031007402
    rotate_left
    · rw [if_neg c33] at H
      exact absurd H (by simp)
    rw [if_pos c33] at H
    have LMc33 := Aside0.mk c33
    clear c33
    obtain ⟨y182, hy182⟩ : ∃ y_ : List (S29), y_ = (x6_1 ++ [(⟨(rd_T29 l0 x8_1).f0, (rd_T29 l0 x8_1).f1, (rd_T29 l0 x8_1).f2, (rd_T29 l0 x8_1).f3⟩ : S29)]) := ⟨_, rfl⟩
    replace H : (ravelinref6_Put.l0 kj8 l0 y182 false (wrap64 (x8_1 + 1)) a1_0 a1_1 a1_2 a1_3) = some (r1, r2) := by first | (rw [hy182]; with_reducible exact H) | (have H2_ := (Option.bind_some _ _).symm.trans H; rw [hy182]; with_reducible exact H2_) | (have H2_ := (Option.bind_some _ _).symm.trans H; with_reducible exact H2_) | with_reducible exact H | (rw [hy182]; exact H) | exact H
    have Ny182 := Aside0.mk hy182
    clear hy182
    have H' := Aside0.mk H
    clear H
    try go_wp2
    have n0_ := Aside0.mk (Kd.R_drew HO_0.out)
    have n1_ := Aside0.mk (Kd.R_drew HO_6.out)
    have n2_ := Aside0.mk (blk_drew BK161.out)
    have n3_ := Aside0.mk (Kept.drew HK.out)
    have n4_ := Aside0.mk (below_drew1 HB.out)
    clear HO_0
    clear HO_6
    clear BK161
    clear HK
    clear HB
    have HO_0 := n0_
    have HO_6 := n1_
    have BK161 := n2_
    have HK := n3_
    have HB := n4_
    clear n0_ n1_ n2_ n3_ n4_
    have p172 : 0 ≤ (x8_1 : Int) := of_decide_eq_true (by assumption)
    have q172 : x8_1 < (l0.length : Int) := of_decide_eq_true (by assumption)
    obtain ⟨ad172, e172, hx172_0, hx172_1, hx172_2, hx172_3⟩ := at_T29 (Kd.R_reads' HO_0.out).2.2 x8_1 p172 q172
    cases e172
    replace p172 := eq_true p172
    replace q172 := eq_true q172
    refine start_ (n := 10) (S := fun w' => w'.cell? ⟨gb161, 0, none⟩ = some (.string a1_0) ∧ w'.cell? ⟨gb161, 1, none⟩ = some (.int .i64 a1_1) ∧ w'.cell? ⟨gb161, 2, none⟩ = some (.bool a1_2) ∧ w'.cell? ⟨gb161, 3, none⟩ = some (.string a1_3) ∧ w'.cell? (ad172.add ((x8_1).toNat * 4)) = some (.string ((rd_T29 l0 x8_1).f0)) ∧ w'.cell? ⟨(ad172.add ((x8_1).toNat * 4)).block, (ad172.add ((x8_1).toNat * 4)).off + 1, none⟩ = some (.int .i64 ((rd_T29 l0 x8_1).f1)) ∧ w'.cell? ⟨(ad172.add ((x8_1).toNat * 4)).block, (ad172.add ((x8_1).toNat * 4)).off + 2, none⟩ = some (.bool ((rd_T29 l0 x8_1).f2)) ∧ w'.cell? ⟨(ad172.add ((x8_1).toNat * 4)).block, (ad172.add ((x8_1).toNat * 4)).off + 3, none⟩ = some (.string ((rd_T29 l0 x8_1).f3))) (ds := []) mkPx4_20 (by kernel_rfl) rfl rfl ⟨bc0 BK161, bc1 BK161, bc2 BK161, bc3 BK161, hx172_0, hx172_1, hx172_2, hx172_3⟩ (fun hHeld => ?_); refine with_tabW ravelinref6_Put.tab10 ravelinref6_Put.bits10 (fun HT_ HW_ => ?_)
    generalize wc.drew = w34 at HO_0 HO_6 BK161 HK HB hx172_0 hx172_1 hx172_2 hx172_3 hHeld ⊢
    refine pu_ 0 (some 38) mkPx4_21 HT_ ?_ rfl rfl (by kernel_rfl) (fun _ _ _ h => h) (Or.inl ⟨by rfl, ?_⟩) ?_ ?_ ?_
    rotate_left
    · intro w'
      go_simp
      with_reducible rfl
    rotate_left
    · simp only [Act.put, lists_, i64_w, i32_w]
      rfl
    refine pu_ 1 (some 39) mkPx4_22 HT_ ?_ rfl rfl (by kernel_rfl) (fun _ _ _ h => h) (Or.inl ⟨by rfl, ?_⟩) ?_ ?_ ?_
    rotate_left
    · intro w'
      go_simp
      with_reducible rfl
    rotate_left
    · simp only [Act.put, lists_, i64_w, i32_w]
      rfl
    refine pu_ 2 (some 40) mkPx4_23 HT_ ?_ rfl rfl (by kernel_rfl) (fun _ _ _ h => h) (Or.inl ⟨by rfl, ?_⟩) ?_ ?_ ?_
    rotate_left
    · intro w'
      go_simp
      with_reducible rfl
    rotate_left
    · simp only [Act.put, lists_, i64_w, i32_w]
      rfl
    refine pu_ 4 (some 42) mkPx4_31 HT_ ?_ rfl rfl (by kernel_rfl) (fun _ _ _ h => h) (Or.inl ⟨by rfl, ?_⟩) ?_ ?_ ?_
    rotate_left
    · intro w'
      go_simp
      with_reducible rfl
    rotate_left
    · simp only [Act.put, lists_, i64_w, i32_w]
      rfl
    refine pu_ 5 (some 43) mkPx4_32 HT_ ?_ rfl rfl (by kernel_rfl) (fun _ _ _ h => h) (Or.inl ⟨by rfl, ?_⟩) ?_ ?_ ?_
    rotate_left
    · intro w'
      go_simp
      with_reducible rfl
    rotate_left
    · simp only [Act.put, lists_, i64_w, i32_w]
      rfl
    refine pu_ 6 (some 44) mkPx4_33 HT_ ?_ rfl rfl (by kernel_rfl) (fun _ _ _ h => h) (Or.inl ⟨by rfl, ?_⟩) ?_ ?_ ?_
    rotate_left
    · intro w'
      go_simp
      with_reducible rfl
    rotate_left
    · simp only [Act.put, lists_, i64_w, i32_w]
      rfl
    refine take_ (i := 3) (N := some 41) (v := ?_) (a' := ?_) mkPx4_27 rfl rfl (take_ofW HT_.out HW_.out (by kernel_rfl)) (fun _ _ _ h => h) (Or.inl ⟨by rfl, ?_⟩) hHeld ?_ ?_
    rotate_left
    · rintro w' ⟨s0, s1, s2, s3, s4, s5, s6, s7⟩
      go_simp
      with_reducible rfl
    rotate_left
    · simp only [Act.put, lists_, i64_w, i32_w]
      rfl
    refine take_ (i := 7) (N := some 45) (v := ?_) (a' := ?_) mkPx4_28 rfl rfl (take_ofW HT_.out HW_.out (by kernel_rfl)) (fun _ _ _ h => h) (Or.inl ⟨by rfl, ?_⟩) hHeld ?_ ?_
    rotate_left
    · rintro w' ⟨s0, s1, s2, s3, s4, s5, s6, s7⟩
      go_simp
      with_reducible rfl
    rotate_left
    · simp only [Act.put, lists_, i64_w, i32_w]
      rfl
    refine one_ (i := 8) (N := some 46) mkPx4_29 rfl rfl (one_of HT_.out (by kernel_rfl)) (by decide) (fun K hK => ?_)
    refine goes_ Try.func22 (by kernel_rfl) rfl #[.agg #[.string a1_0, .int .i64 a1_1, .bool a1_2, .string a1_3], .agg #[.string ((rd_T29 l0 x8_1).f0), .int .i64 ((rd_T29 l0 x8_1).f1), .bool ((rd_T29 l0 x8_1).f2), .string ((rd_T29 l0 x8_1).f3)]] (by rfl) rfl rfl (by (try simp only [maps_]); first | done | rfl) ?_
    with_reducible refine (ravelinref6_Less.calls a1_0 a1_1 a1_2 a1_3 ((rd_T29 l0 x8_1).f0) ((rd_T29 l0 x8_1).f1) ((rd_T29 l0 x8_1).f2) ((rd_T29 l0 x8_1).f3) false _ A24.out).mono ?_
    rintro e w35 ⟨rfl, hb⟩
    have HS4_ := (hb.cell (World.block_lt_of_cell? _ _ (hHeld.2.2.2.2.1))).trans (hHeld.2.2.2.2.1)
    have HS5_ := (hb.cell (World.block_lt_of_cell? _ _ (hHeld.2.2.2.2.2.1))).trans (hHeld.2.2.2.2.2.1)
    have HS6_ := (hb.cell (World.block_lt_of_cell? _ _ (hHeld.2.2.2.2.2.2.1))).trans (hHeld.2.2.2.2.2.2.1)
    have HS7_ := (hb.cell (World.block_lt_of_cell? _ _ (hHeld.2.2.2.2.2.2.2))).trans (hHeld.2.2.2.2.2.2.2)
    refine ⟨_, rfl, ?_⟩
    have n0_ := rb_ HO_0 hb
    have n1_ := rb_ HO_6 hb
    have n2_ := bb_ BK161 hb
    have n3_ := Aside0.mk (Kept.below (S := (fun k_ => P0_ k_)) (by repeat (first | (with_reducible first | exact HK.out | apply Kept.alloc | apply Kept.drewN | apply Kept.drew | refine Kept.setCell ?_ (.inr GW161.out) _) | exact HK.out)) hb)
    have n4_ := bl_ [gb161] HB ⟨GE161, ⟨⟩⟩ hb
    clear HO_0
    clear HO_6
    clear BK161
    clear HK
    clear HB
    have HO_0 := n0_
    have HO_6 := n1_
    have BK161 := n2_
    have HK := n3_
    have HB := n4_
    clear n0_ n1_ n2_ n3_ n4_
    (try clear hb)
    (try clear hb2)
    (try clear hk)
    (try clear hi)
    refine hK.out _ _ ⟨bc0 BK161, bc1 BK161, bc2 BK161, bc3 BK161, HS4_, HS5_, HS6_, HS7_⟩ (fun hHeld => ?_)
    clear hK K
    refine norm_ (a' := ?_) ?_ ?_
    rotate_left
    · show Act.put _ (some 46) _ = _
      simp only [Act.put, lists_, i64_w, i32_w]
      rfl
    refine pu_ 9 (some 47) mkPx4_30 HT_ ?_ rfl rfl (by kernel_rfl) (fun _ _ _ h => h) (Or.inl ⟨by rfl, ?_⟩) ?_ ?_ ?_
    rotate_left
    · intro w'
      go_simp
      with_reducible rfl
    rotate_left
    · simp only [Act.put, lists_, i64_w, i32_w]
      rfl
    refine done_ (done_of HT_.out (by kernel_rfl)) ?_
    have p181 : 0 ≤ (x8_1 : Int) := of_decide_eq_true (by assumption)
    have q181 : x8_1 < (l0.length : Int) := of_decide_eq_true (by assumption)
    obtain ⟨ad181, e181, hx181_0, hx181_1, hx181_2, hx181_3⟩ := at_T29 (Kd.R_reads' HO_0.out).2.2 x8_1 p181 q181
    obtain rfl : ad172 = ad181 := (by injection e181)
    replace p181 := eq_true p181
    replace q181 := eq_true q181
    try go_wp2_with (first | ((with_reducible refine gate_builtin (b := .append) (xs := #[.tmp 52, .tmp 57]) rfl ?_); at_builtin; refine Kd.R_append k29 (w0 := w0) w0.heap.size rfl (.tmp 52) (.tmp 57) 22 29 (.agg #[(.string ⟨#[]⟩), (.int .i64 0), (.bool false), (.string ⟨#[]⟩)]) 48 rfl Try.underlying22 info29 rfl (by decide) (by omega) u6 x6_1 (⟨(rd_T29 l0 x8_1).f0, (rd_T29 l0 x8_1).f1, (rd_T29 l0 x8_1).f2, (rd_T29 l0 x8_1).f3⟩ : S29) [.string ((rd_T29 l0 x8_1).f0), .int .i64 ((rd_T29 l0 x8_1).f1), .bool ((rd_T29 l0 x8_1).f2), .string ((rd_T29 l0 x8_1).f3)] (fun k_ => (P0_ k_ ∨ w.heap.size ≤ k_) ∧ some k_ ≠ (.slice (some ad172) l0.length co10 : Value).ownBlock ∧ k_ ≠ gb161) (fun _ => False) rfl rfl ?aP (fun _ hk => hk.elim) ?aF ?aO ?aB ?aS ?aL ?_; (case aP => exact k29_mkM _ _ _ (⟨(rd_T29 l0 x8_1).f0, (rd_T29 l0 x8_1).f1, (rd_T29 l0 x8_1).f2, (rd_T29 l0 x8_1).f3⟩ : S29)); (case aB => exact (gwl_ [gb161] HB ⟨GE161, ⟨⟩⟩)); (case aF => exact (fun k_ hk => ⟨(.inr (Nat.le_trans (by first | exact HK.out.1 | exact (show Kept w _ (fun k_ => P0_ k_) from by repeat (first | (with_reducible first | exact HK.out | apply Kept.alloc | apply Kept.drewN | apply Kept.drew | refine Kept.setCell ?_ (.inr GW161.out) _) | exact HK.out)).1) hk)), Kd.fresh' (Kd.R_lt (by (with_reducible repeat (first | apply Kd.R_alloc | apply Kd.R_drewN | apply Kd.R_drew)); exact HO_0.out)) k_ hk, Kd.freshB (g := gb161) (o := .cells #[.string a1_0, .int .i64 a1_1, .bool a1_2, .string a1_3] 29 (0, 0)) (gb_ BK161) k_ hk⟩)); (case aO => exact (by (with_reducible repeat (first | apply Kd.R_alloc | apply Kd.R_drewN | apply Kd.R_drew)); exact HO_6.out)); (case aS => exact (below_size (gwl_ [gb161] HB ⟨GE161, ⟨⟩⟩))); (case aL => have := LMc33.out; omega); intro v183 w36 ho hb hg hat; rw [← Ny182.out] at ho; have n0_ := Aside0.mk (Kd.R_after (ok := (fun k_ => (P0_ k_ ∨ w.heap.size ≤ k_) ∧ k_ ≠ gb161)) (by (with_reducible repeat (first | apply Kd.R_alloc | apply Kd.R_drewN | apply Kd.R_drew)); exact Kd.R_mono HO_0.out (fun _ hk => ⟨⟨hk.1, hk.2.2⟩, hk.2.1⟩)) hg hat); have n1_ := Aside0.mk (blk_grown (g := gb161) (o := .cells #[.string a1_0, .int .i64 a1_1, .bool a1_2, .string a1_3] 29 (0, 0)) (gb_ BK161) hg (Kd.R_away HO_6.out (fun _ hk => hk.2.2))); have n2_ := Aside0.mk (hb); have n3_ := Aside0.mk (Kept.of_grown (S := (fun k_ => P0_ k_)) hg (by repeat (first | (with_reducible first | exact HK.out | apply Kept.alloc | apply Kept.drewN | apply Kept.drew | refine Kept.setCell ?_ (.inr GW161.out) _) | exact HK.out)) (fun k_ e_ => (HO_6.out.1 k_ e_).1)); have n4_ := Aside0.mk (ho); clear HO_0; clear BK161; clear HB; clear HK; clear HO_6; have HO_0 := n0_; have BK161 := n1_; have HB := n2_; have HK := n3_; have HO184 := n4_; clear n0_ n1_ n2_ n3_ n4_; clear ho hb hg hat))
    go_roundg kj8
    case measure => have := HK1.out; have := HJ8.out; omega
    case rel => exact ⟨(y182), (false), (wrap64 (x8_1 + 1)), (by first | rfl | (simp; done) | (simp [*]; done)), (by first | rfl | (simp; done) | (simp [*]; done)), H', ⟨by have := HK1.out; have := HJ8.out; omega⟩, ⟨by (with_reducible repeat (first | apply Kd.R_alloc | apply Kd.R_drewN | apply Kd.R_drew)); exact Kd.R_mono HO_0.out (fun _ hk => ⟨hk.1.1, ⟨hk.2, hk.1.2⟩⟩)⟩, ⟨by (with_reducible repeat (first | apply Kd.R_alloc | apply Kd.R_drewN | apply Kd.R_drew)); exact HO184.out⟩, ⟨gb_ BK161⟩, ⟨by repeat (first | (with_reducible first | exact HK.out | apply Kept.alloc | apply Kept.drewN | apply Kept.drew | refine Kept.setCell ?_ (.inr GW161.out) _) | exact HK.out)⟩, ⟨gwl_ [gb161] HB ⟨GE161, ⟨⟩⟩⟩⟩
  subst c25
  have H1 : (if x6_1.length < 2932031007402 then ((some (x6_1 ++ [(⟨a1_0, a1_1, a1_2, a1_3⟩ : S29)] : List (S29))).bind fun y174 => (if y174.length < 2932031007402 then (ravelinref6_Put.l0 kj8 l0 (y174 ++ [(⟨(rd_T29 l0 x8_1).f0, (rd_T29 l0 x8_1).f1, (rd_T29 l0 x8_1).f2, (rd_T29 l0 x8_1).f3⟩ : S29)]) true (wrap64 (x8_1 + 1)) a1_0 a1_1 a1_2 a1_3) else (none))) else (none)) = some (r1, r2) := by rw [if_pos rfl] at H; exact H
  clear H
  have H := H1
  clear H1
  by_cases c26 : x6_1.length < 2932031007402
  rotate_left
  · rw [if_neg c26] at H
    exact absurd H (by simp)
  rw [if_pos c26] at H
  have LMc26 := Aside0.mk c26
  clear c26
  obtain ⟨y174, hy174⟩ : ∃ y_ : List (S29), y_ = (x6_1 ++ [(⟨a1_0, a1_1, a1_2, a1_3⟩ : S29)]) := ⟨_, rfl⟩
  replace H : (if y174.length < 2932031007402 then (ravelinref6_Put.l0 kj8 l0 (y174 ++ [(⟨(rd_T29 l0 x8_1).f0, (rd_T29 l0 x8_1).f1, (rd_T29 l0 x8_1).f2, (rd_T29 l0 x8_1).f3⟩ : S29)]) true (wrap64 (x8_1 + 1)) a1_0 a1_1 a1_2 a1_3) else (none)) = some (r1, r2) := by first | (rw [hy174]; with_reducible exact H) | (have H2_ := (Option.bind_some _ _).symm.trans H; rw [hy174]; with_reducible exact H2_) | (have H2_ := (Option.bind_some _ _).symm.trans H; with_reducible exact H2_) | with_reducible exact H | (rw [hy174]; exact H) | exact H
  have Ny174 := Aside0.mk hy174
  clear hy174
  by_cases c27 : y174.length < 2932031007402
  rotate_left
  · rw [if_neg c27] at H
    exact absurd H (by simp)
  rw [if_pos c27] at H
  have LMc27 := Aside0.mk c27
  clear c27
  obtain ⟨y178, hy178⟩ : ∃ y_ : List (S29), y_ = (y174 ++ [(⟨(rd_T29 l0 x8_1).f0, (rd_T29 l0 x8_1).f1, (rd_T29 l0 x8_1).f2, (rd_T29 l0 x8_1).f3⟩ : S29)]) := ⟨_, rfl⟩
  replace H : (ravelinref6_Put.l0 kj8 l0 y178 true (wrap64 (x8_1 + 1)) a1_0 a1_1 a1_2 a1_3) = some (r1, r2) := by first | (rw [hy178]; with_reducible exact H) | (have H2_ := (Option.bind_some _ _).symm.trans H; rw [hy178]; with_reducible exact H2_) | (have H2_ := (Option.bind_some _ _).symm.trans H; with_reducible exact H2_) | with_reducible exact H | (rw [hy178]; exact H) | exact H
  have Ny178 := Aside0.mk hy178
  clear hy178
  have H' := Aside0.mk H
  clear H
  try go_wp2
  have n0_ := Aside0.mk (Kd.R_drew HO_0.out)
  have n1_ := Aside0.mk (Kd.R_drew HO_6.out)
  have n2_ := Aside0.mk (blk_drew BK161.out)
  have n3_ := Aside0.mk (Kept.drew HK.out)
  have n4_ := Aside0.mk (below_drew1 HB.out)
  clear HO_0
  clear HO_6
  clear BK161
  clear HK
  clear HB
  have HO_0 := n0_
  have HO_6 := n1_
  have BK161 := n2_
  have HK := n3_
  have HB := n4_
  clear n0_ n1_ n2_ n3_ n4_
  have p172 : 0 ≤ (x8_1 : Int) := of_decide_eq_true (by assumption)
  have q172 : x8_1 < (l0.length : Int) := of_decide_eq_true (by assumption)
  obtain ⟨ad172, e172, hx172_0, hx172_1, hx172_2, hx172_3⟩ := at_T29 (Kd.R_reads' HO_0.out).2.2 x8_1 p172 q172
  cases e172
  replace p172 := eq_true p172
  replace q172 := eq_true q172
  refine start_ (n := 10) (S := fun w' => w'.cell? ⟨gb161, 0, none⟩ = some (.string a1_0) ∧ w'.cell? ⟨gb161, 1, none⟩ = some (.int .i64 a1_1) ∧ w'.cell? ⟨gb161, 2, none⟩ = some (.bool a1_2) ∧ w'.cell? ⟨gb161, 3, none⟩ = some (.string a1_3) ∧ w'.cell? (ad172.add ((x8_1).toNat * 4)) = some (.string ((rd_T29 l0 x8_1).f0)) ∧ w'.cell? ⟨(ad172.add ((x8_1).toNat * 4)).block, (ad172.add ((x8_1).toNat * 4)).off + 1, none⟩ = some (.int .i64 ((rd_T29 l0 x8_1).f1)) ∧ w'.cell? ⟨(ad172.add ((x8_1).toNat * 4)).block, (ad172.add ((x8_1).toNat * 4)).off + 2, none⟩ = some (.bool ((rd_T29 l0 x8_1).f2)) ∧ w'.cell? ⟨(ad172.add ((x8_1).toNat * 4)).block, (ad172.add ((x8_1).toNat * 4)).off + 3, none⟩ = some (.string ((rd_T29 l0 x8_1).f3))) (ds := []) mkPx4_20 (by kernel_rfl) rfl rfl ⟨bc0 BK161, bc1 BK161, bc2 BK161, bc3 BK161, hx172_0, hx172_1, hx172_2, hx172_3⟩ (fun hHeld => ?_); refine with_tabW ravelinref6_Put.tab10 ravelinref6_Put.bits10 (fun HT_ HW_ => ?_)
  generalize wc.drew = w28 at HO_0 HO_6 BK161 HK HB hx172_0 hx172_1 hx172_2 hx172_3 hHeld ⊢
  refine pu_ 0 (some 38) mkPx4_21 HT_ ?_ rfl rfl (by kernel_rfl) (fun _ _ _ h => h) (Or.inl ⟨by rfl, ?_⟩) ?_ ?_ ?_
  rotate_left
  · intro w'
    go_simp
    with_reducible rfl
  rotate_left
  · simp only [Act.put, lists_, i64_w, i32_w]
    rfl
  refine pu_ 1 (some 39) mkPx4_22 HT_ ?_ rfl rfl (by kernel_rfl) (fun _ _ _ h => h) (Or.inl ⟨by rfl, ?_⟩) ?_ ?_ ?_
  rotate_left
  · intro w'
    go_simp
    with_reducible rfl
  rotate_left
  · simp only [Act.put, lists_, i64_w, i32_w]
    rfl
  refine pu_ 2 (some 40) mkPx4_23 HT_ ?_ rfl rfl (by kernel_rfl) (fun _ _ _ h => h) (Or.inl ⟨by rfl, ?_⟩) ?_ ?_ ?_
  rotate_left
  · intro w'
    go_simp
    with_reducible rfl
  rotate_left
  · simp only [Act.put, lists_, i64_w, i32_w]
    rfl
  refine pu_ 4 (some 42) mkPx4_31 HT_ ?_ rfl rfl (by kernel_rfl) (fun _ _ _ h => h) (Or.inl ⟨by rfl, ?_⟩) ?_ ?_ ?_
  rotate_left
  · intro w'
    go_simp
    with_reducible rfl
  rotate_left
  · simp only [Act.put, lists_, i64_w, i32_w]
    rfl
  refine pu_ 5 (some 43) mkPx4_32 HT_ ?_ rfl rfl (by kernel_rfl) (fun _ _ _ h => h) (Or.inl ⟨by rfl, ?_⟩) ?_ ?_ ?_
  rotate_left
  · intro w'
    go_simp
    with_reducible rfl
  rotate_left
  · simp only [Act.put, lists_, i64_w, i32_w]
    rfl
  refine pu_ 6 (some 44) mkPx4_33 HT_ ?_ rfl rfl (by kernel_rfl) (fun _ _ _ h => h) (Or.inl ⟨by rfl, ?_⟩) ?_ ?_ ?_
  rotate_left
  · intro w'
    go_simp
    with_reducible rfl
  rotate_left
  · simp only [Act.put, lists_, i64_w, i32_w]
    rfl
  refine take_ (i := 3) (N := some 41) (v := ?_) (a' := ?_) mkPx4_27 rfl rfl (take_ofW HT_.out HW_.out (by kernel_rfl)) (fun _ _ _ h => h) (Or.inl ⟨by rfl, ?_⟩) hHeld ?_ ?_
  rotate_left
  · rintro w' ⟨s0, s1, s2, s3, s4, s5, s6, s7⟩
    go_simp
    with_reducible rfl
  rotate_left
  · simp only [Act.put, lists_, i64_w, i32_w]
    rfl
  refine take_ (i := 7) (N := some 45) (v := ?_) (a' := ?_) mkPx4_28 rfl rfl (take_ofW HT_.out HW_.out (by kernel_rfl)) (fun _ _ _ h => h) (Or.inl ⟨by rfl, ?_⟩) hHeld ?_ ?_
  rotate_left
  · rintro w' ⟨s0, s1, s2, s3, s4, s5, s6, s7⟩
    go_simp
    with_reducible rfl
  rotate_left
  · simp only [Act.put, lists_, i64_w, i32_w]
    rfl
  refine one_ (i := 8) (N := some 46) mkPx4_29 rfl rfl (one_of HT_.out (by kernel_rfl)) (by decide) (fun K hK => ?_)
  refine goes_ Try.func22 (by kernel_rfl) rfl #[.agg #[.string a1_0, .int .i64 a1_1, .bool a1_2, .string a1_3], .agg #[.string ((rd_T29 l0 x8_1).f0), .int .i64 ((rd_T29 l0 x8_1).f1), .bool ((rd_T29 l0 x8_1).f2), .string ((rd_T29 l0 x8_1).f3)]] (by rfl) rfl rfl (by (try simp only [maps_]); first | done | rfl) ?_
  with_reducible refine (ravelinref6_Less.calls a1_0 a1_1 a1_2 a1_3 ((rd_T29 l0 x8_1).f0) ((rd_T29 l0 x8_1).f1) ((rd_T29 l0 x8_1).f2) ((rd_T29 l0 x8_1).f3) true _ A24.out).mono ?_
  rintro e w29 ⟨rfl, hb⟩
  have HS4_ := (hb.cell (World.block_lt_of_cell? _ _ (hHeld.2.2.2.2.1))).trans (hHeld.2.2.2.2.1)
  have HS5_ := (hb.cell (World.block_lt_of_cell? _ _ (hHeld.2.2.2.2.2.1))).trans (hHeld.2.2.2.2.2.1)
  have HS6_ := (hb.cell (World.block_lt_of_cell? _ _ (hHeld.2.2.2.2.2.2.1))).trans (hHeld.2.2.2.2.2.2.1)
  have HS7_ := (hb.cell (World.block_lt_of_cell? _ _ (hHeld.2.2.2.2.2.2.2))).trans (hHeld.2.2.2.2.2.2.2)
  refine ⟨_, rfl, ?_⟩
  have n0_ := rb_ HO_0 hb
  have n1_ := rb_ HO_6 hb
  have n2_ := bb_ BK161 hb
  have n3_ := Aside0.mk (Kept.below (S := (fun k_ => P0_ k_)) (by repeat (first | (with_reducible first | exact HK.out | apply Kept.alloc | apply Kept.drewN | apply Kept.drew | refine Kept.setCell ?_ (.inr GW161.out) _) | exact HK.out)) hb)
  have n4_ := bl_ [gb161] HB ⟨GE161, ⟨⟩⟩ hb
  clear HO_0
  clear HO_6
  clear BK161
  clear HK
  clear HB
  have HO_0 := n0_
  have HO_6 := n1_
  have BK161 := n2_
  have HK := n3_
  have HB := n4_
  clear n0_ n1_ n2_ n3_ n4_
  (try clear hb)
  (try clear hb2)
  (try clear hk)
  (try clear hi)
  refine hK.out _ _ ⟨bc0 BK161, bc1 BK161, bc2 BK161, bc3 BK161, HS4_, HS5_, HS6_, HS7_⟩ (fun hHeld => ?_)
  clear hK K
  refine norm_ (a' := ?_) ?_ ?_
  rotate_left
  · show Act.put _ (some 46) _ = _
    simp only [Act.put, lists_, i64_w, i32_w]
    rfl
  refine pu_ 9 (some 47) mkPx4_30 HT_ ?_ rfl rfl (by kernel_rfl) (fun _ _ _ h => h) (Or.inl ⟨by rfl, ?_⟩) ?_ ?_ ?_
  rotate_left
  · intro w'
    go_simp
    with_reducible rfl
  rotate_left
  · simp only [Act.put, lists_, i64_w, i32_w]
    rfl
  refine done_ (done_of HT_.out (by kernel_rfl)) ?_
  have hcz30_0 := bc0 BK161
  have hcz30_1 := bc1 BK161
  have hcz30_2 := bc2 BK161
  have hcz30_3 := bc3 BK161
  have hfz30_0 := bf_ BK161 0
  have hfz30_1 := bf_ BK161 1
  have hfz30_2 := bf_ BK161 2
  have hfz30_3 := bf_ BK161 3
  try go_wp2_with (first | ((with_reducible refine gate_builtin (b := .append) (xs := #[.tmp 48, .tmp 50]) rfl ?_); at_builtin; refine Kd.R_append k29 (w0 := w0) w0.heap.size rfl (.tmp 48) (.tmp 50) 22 29 (.agg #[(.string ⟨#[]⟩), (.int .i64 0), (.bool false), (.string ⟨#[]⟩)]) 48 rfl Try.underlying22 info29 rfl (by decide) (by omega) u6 x6_1 (⟨a1_0, a1_1, a1_2, a1_3⟩ : S29) [.string a1_0, .int .i64 a1_1, .bool a1_2, .string a1_3] (fun k_ => (P0_ k_ ∨ w.heap.size ≤ k_) ∧ some k_ ≠ (.slice (some ad172) l0.length co10 : Value).ownBlock ∧ k_ ≠ gb161) (fun _ => False) rfl rfl ?aP (fun _ hk => hk.elim) ?aF ?aO ?aB ?aS ?aL ?_; (case aP => exact k29_mkM _ _ _ (⟨a1_0, a1_1, a1_2, a1_3⟩ : S29)); (case aB => exact (gwl_ [gb161] HB ⟨GE161, ⟨⟩⟩)); (case aF => exact (fun k_ hk => ⟨(.inr (Nat.le_trans (by first | exact HK.out.1 | exact (show Kept w _ (fun k_ => P0_ k_) from by repeat (first | (with_reducible first | exact HK.out | apply Kept.alloc | apply Kept.drewN | apply Kept.drew | refine Kept.setCell ?_ (.inr GW161.out) _) | exact HK.out)).1) hk)), Kd.fresh' (Kd.R_lt (by (with_reducible repeat (first | apply Kd.R_alloc | apply Kd.R_drewN | apply Kd.R_drew)); exact HO_0.out)) k_ hk, Kd.freshB (g := gb161) (o := .cells #[.string a1_0, .int .i64 a1_1, .bool a1_2, .string a1_3] 29 (0, 0)) (gb_ BK161) k_ hk⟩)); (case aO => exact (by (with_reducible repeat (first | apply Kd.R_alloc | apply Kd.R_drewN | apply Kd.R_drew)); exact HO_6.out)); (case aS => exact (below_size (gwl_ [gb161] HB ⟨GE161, ⟨⟩⟩))); (case aL => have := LMc26.out; omega); intro v175 w31 ho hb hg hat; rw [← Ny174.out] at ho; have n0_ := Aside0.mk (Kd.R_after (ok := (fun k_ => (P0_ k_ ∨ w.heap.size ≤ k_) ∧ k_ ≠ gb161)) (by (with_reducible repeat (first | apply Kd.R_alloc | apply Kd.R_drewN | apply Kd.R_drew)); exact Kd.R_mono HO_0.out (fun _ hk => ⟨⟨hk.1, hk.2.2⟩, hk.2.1⟩)) hg hat); have n1_ := Aside0.mk (blk_grown (g := gb161) (o := .cells #[.string a1_0, .int .i64 a1_1, .bool a1_2, .string a1_3] 29 (0, 0)) (gb_ BK161) hg (Kd.R_away HO_6.out (fun _ hk => hk.2.2))); have n2_ := Aside0.mk (hb); have n3_ := Aside0.mk (Kept.of_grown (S := (fun k_ => P0_ k_)) hg (by repeat (first | (with_reducible first | exact HK.out | apply Kept.alloc | apply Kept.drewN | apply Kept.drew | refine Kept.setCell ?_ (.inr GW161.out) _) | exact HK.out)) (fun k_ e_ => (HO_6.out.1 k_ e_).1)); have n4_ := Aside0.mk (ho); clear HO_0; clear BK161; clear HB; clear HK; clear HO_6; have HO_0 := n0_; have BK161 := n1_; have HB := n2_; have HK := n3_; have HO176 := n4_; clear n0_ n1_ n2_ n3_ n4_; clear ho hb hg hat; have p177 : 0 ≤ (x8_1 : Int) := of_decide_eq_true (by assumption); have q177 : x8_1 < (l0.length : Int) := of_decide_eq_true (by assumption); obtain ⟨ad177, e177, hx177_0, hx177_1, hx177_2, hx177_3⟩ := at_T29 (Kd.R_reads' HO_0.out).2.2 x8_1 p177 q177; obtain rfl : ad172 = ad177 := (by injection e177); replace p177 := eq_true p177; replace q177 := eq_true q177) | ((with_reducible refine gate_builtin (b := .append) (xs := #[.tmp 52, .tmp 57]) rfl ?_); at_builtin; refine Kd.R_append k29 (w0 := w0) w0.heap.size rfl (.tmp 52) (.tmp 57) 22 29 (.agg #[(.string ⟨#[]⟩), (.int .i64 0), (.bool false), (.string ⟨#[]⟩)]) 48 rfl Try.underlying22 info29 rfl (by decide) (by omega) v175 y174 (⟨(rd_T29 l0 x8_1).f0, (rd_T29 l0 x8_1).f1, (rd_T29 l0 x8_1).f2, (rd_T29 l0 x8_1).f3⟩ : S29) [.string ((rd_T29 l0 x8_1).f0), .int .i64 ((rd_T29 l0 x8_1).f1), .bool ((rd_T29 l0 x8_1).f2), .string ((rd_T29 l0 x8_1).f3)] (fun k_ => (P0_ k_ ∨ w.heap.size ≤ k_) ∧ some k_ ≠ (.slice (some ad172) l0.length co10 : Value).ownBlock ∧ k_ ≠ gb161) (fun _ => False) rfl rfl ?aP (fun _ hk => hk.elim) ?aF ?aO ?aB ?aS ?aL ?_; (case aP => exact k29_mkM _ _ _ (⟨(rd_T29 l0 x8_1).f0, (rd_T29 l0 x8_1).f1, (rd_T29 l0 x8_1).f2, (rd_T29 l0 x8_1).f3⟩ : S29)); (case aB => exact (gwl_ [gb161] HB ⟨GE161, ⟨⟩⟩)); (case aF => exact (fun k_ hk => ⟨(.inr (Nat.le_trans (by first | exact HK.out.1 | exact (show Kept w _ (fun k_ => P0_ k_) from by repeat (first | (with_reducible first | exact HK.out | apply Kept.alloc | apply Kept.drewN | apply Kept.drew | refine Kept.setCell ?_ (.inr GW161.out) _) | exact HK.out)).1) hk)), Kd.fresh' (Kd.R_lt (by (with_reducible repeat (first | apply Kd.R_alloc | apply Kd.R_drewN | apply Kd.R_drew)); exact HO_0.out)) k_ hk, Kd.freshB (g := gb161) (o := .cells #[.string a1_0, .int .i64 a1_1, .bool a1_2, .string a1_3] 29 (0, 0)) (gb_ BK161) k_ hk⟩)); (case aO => exact (by (with_reducible repeat (first | apply Kd.R_alloc | apply Kd.R_drewN | apply Kd.R_drew)); exact HO176.out)); (case aS => exact (below_size (gwl_ [gb161] HB ⟨GE161, ⟨⟩⟩))); (case aL => have := LMc27.out; omega); intro v179 w32 ho hb hg hat; rw [← Ny178.out] at ho; have n0_ := Aside0.mk (Kd.R_after (ok := (fun k_ => (P0_ k_ ∨ w.heap.size ≤ k_) ∧ k_ ≠ gb161)) (by (with_reducible repeat (first | apply Kd.R_alloc | apply Kd.R_drewN | apply Kd.R_drew)); exact HO_0.out) hg hat); have n1_ := Aside0.mk (blk_grown (g := gb161) (o := .cells #[.string a1_0, .int .i64 a1_1, .bool a1_2, .string a1_3] 29 (0, 0)) (gb_ BK161) hg (Kd.R_away HO176.out (fun _ hk => hk.2.2))); have n2_ := Aside0.mk (hb); have n3_ := Aside0.mk (Kept.of_grown (S := (fun k_ => P0_ k_)) hg (by repeat (first | (with_reducible first | exact HK.out | apply Kept.alloc | apply Kept.drewN | apply Kept.drew | refine Kept.setCell ?_ (.inr GW161.out) _) | exact HK.out)) (fun k_ e_ => (HO176.out.1 k_ e_).1)); have n4_ := Aside0.mk (ho); clear HO_0; clear BK161; clear HB; clear HK; clear HO176; have HO_0 := n0_; have BK161 := n1_; have HB := n2_; have HK := n3_; have HO180 := n4_; clear n0_ n1_ n2_ n3_ n4_; clear ho hb hg hat))
  go_roundg kj8
  case measure => have := HK1.out; have := HJ8.out; omega
  case rel => exact ⟨(y178), (true), (wrap64 (x8_1 + 1)), (by first | rfl | (simp; done) | (simp [*]; done)), (by first | rfl | (simp; done) | (simp [*]; done)), H', ⟨by have := HK1.out; have := HJ8.out; omega⟩, ⟨by (with_reducible repeat (first | apply Kd.R_alloc | apply Kd.R_drewN | apply Kd.R_drew)); exact Kd.R_mono HO_0.out (fun _ hk => ⟨hk.1.1, ⟨hk.2, hk.1.2⟩⟩)⟩, ⟨by (with_reducible repeat (first | apply Kd.R_alloc | apply Kd.R_drewN | apply Kd.R_drew)); exact HO180.out⟩, ⟨gb_ BK161⟩, ⟨by repeat (first | (with_reducible first | exact HK.out | apply Kept.alloc | apply Kept.drewN | apply Kept.drew | refine Kept.setCell ?_ (.inr GW161.out) _) | exact HK.out)⟩, ⟨gwl_ [gb161] HB ⟨GE161, ⟨⟩⟩⟩⟩

end Go.Proofs.Ytdkdnfgpgedglaa.P
