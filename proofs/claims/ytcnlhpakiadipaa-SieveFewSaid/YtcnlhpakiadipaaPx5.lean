-- Printed by a changed copy of the kit's printer (wip/tools/ext.py); labels and more
import Derived.Test.YtcnlhpakiadipaaM0
import Derived.Test.YtcnlhpakiadipaaM1
import Derived.Test.YtcnlhpakiadipaaM2
namespace Go.Proofs.Ytcnlhpakiadipaa.P
open Go.RowKit Go.Proofs.YtcnlhpakiadipaaW.PrintWords Go.Proofs.YtcnlhpakiadipaaW.PrintLast Go.Proofs.YtcnlhpakiadipaaW.PrintMore
attribute [local go_sem] max2_int min2_int max_two min_two max_three min_three max_four min_four   -- for this text's walks alone
set_option linter.unusedVariables false
set_option linter.unusedSimpArgs false

/-! ### ravelinlaw7_SieveFew: function 5 -/
mutual
def ravelinlaw7_SieveFew.l0 : Nat → Int → List ByteArray → Int → Int → Option (Bool)
  | 0, _, _, _, _ => none
  | k + 1, x1, x5, x6, x7 => if x7 < x6 then ((some (([x1, (x7) % 256] : List Int) : List Int)).bind fun y170 => (if 4 + (strOfNums y170).size ≤ 9223372036854775807 then (if x5.length < 8796093022208 then (ravelinlaw7_SieveFew.l0 k x1 (x5 ++ [(⟨#[107, 101, 121, 45]⟩ : ByteArray) ++ (strOfNums y170)]) x6 (wrap64 (x7 + 1))) else (none)) else (none))) else ((sieve_Make.f k x5).bind fun t176 => (ravelinlaw7_SieveFew.l1 k x1 x6 t176 0))
def ravelinlaw7_SieveFew.l1 : Nat → Int → Int → ByteArray → Int → Option (Bool)
  | 0, _, _, _, _ => none
  | k + 1, x1, x6, x8, x9 => if x9 < 200 then ((some (([(x9) % 256, x1] : List Int) : List Int)).bind fun y177 => (if 6 + (strOfNums y177).size ≤ 9223372036854775807 then ((sieve_May.f k x8 ((⟨#[111, 116, 104, 101, 114, 45]⟩ : ByteArray) ++ (strOfNums y177))).bind fun t180 => ((ravelinref6_May.f k x8 ((⟨#[111, 116, 104, 101, 114, 45]⟩ : ByteArray) ++ (strOfNums y177))).bind fun t181 => (if (t180 != t181) = true then (some false) else (ravelinlaw7_SieveFew.l1 k x1 x6 x8 (wrap64 (x9 + 1)))))) else (none))) else (ravelinlaw7_SieveFew.l2 k x6 x8 0 0)
def ravelinlaw7_SieveFew.l2 : Nat → Int → ByteArray → Int → Int → Option (Bool)
  | 0, _, _, _, _ => none
  | k + 1, x6, x8, x11, x12 => if x12 < (x8.size : Int) then (ravelinlaw7_SieveFew.l3 k x6 x8 x11 x12 0) else (if (x8.size : Int) = x6 then (some (decide (x11 ≤ (wrap64 (4 * x6))))) else (some false))
def ravelinlaw7_SieveFew.l3 : Nat → Int → ByteArray → Int → Int → Int → Option (Bool)
  | 0, _, _, _, _, _ => none
  | k + 1, x6, x8, x11, x12, x13 => if x13 < 8 then (if 0 ≤ x12 then (if x12 < (x8.size : Int) then (if 0 ≤ (IntKind.u64.wrap (x13)) then (ravelinlaw7_SieveFew.l3 k x6 x8 (wrap64 (x11 + (wrap64 (Go.bits .and .u8 (shr .u8 (bt x8 x12) (IntKind.u64.wrap (x13))) 1)))) x12 (wrap64 (x13 + 1))) else (none)) else (none)) else (none)) else (ravelinlaw7_SieveFew.l2 k x6 x8 x11 (wrap64 (x12 + 1)))
end
def ravelinlaw7_SieveFew.f (k : Nat) (a0 : Int) (a1 : Int) : Option (Bool) := (ravelinlaw7_known.f k).bind fun t169 => (if t169 = true then (ravelinlaw7_SieveFew.l0 k a1 ([] : List ByteArray) (wrap64 ((wrap64 (Int.tmod a0 40)) + 8)) 0) else (some false))
theorem ravelinlaw7_SieveFew.mono_l : ∀ k, (∀ y0 y1 y2 y3, LeO (ravelinlaw7_SieveFew.l0 k y0 y1 y2 y3) (ravelinlaw7_SieveFew.l0 (k + 1) y0 y1 y2 y3)) ∧ (∀ y0 y1 y2 y3, LeO (ravelinlaw7_SieveFew.l1 k y0 y1 y2 y3) (ravelinlaw7_SieveFew.l1 (k + 1) y0 y1 y2 y3)) ∧ (∀ y0 y1 y2 y3, LeO (ravelinlaw7_SieveFew.l2 k y0 y1 y2 y3) (ravelinlaw7_SieveFew.l2 (k + 1) y0 y1 y2 y3)) ∧ (∀ y0 y1 y2 y3 y4, LeO (ravelinlaw7_SieveFew.l3 k y0 y1 y2 y3 y4) (ravelinlaw7_SieveFew.l3 (k + 1) y0 y1 y2 y3 y4))
  | 0 => ⟨fun _ _ _ _ r h => by simp [ravelinlaw7_SieveFew.l0] at h, fun _ _ _ _ r h => by simp [ravelinlaw7_SieveFew.l1] at h, fun _ _ _ _ r h => by simp [ravelinlaw7_SieveFew.l2] at h, fun _ _ _ _ _ r h => by simp [ravelinlaw7_SieveFew.l3] at h⟩
  | k + 1 => by
    obtain ⟨ih0, ih1, ih2, ih3⟩ := ravelinlaw7_SieveFew.mono_l k
    refine ⟨?_, ?_, ?_, ?_⟩
    · intro y0 y1 y2 y3
      unfold ravelinlaw7_SieveFew.l0
      repeat' first
      | (with_reducible exact ih0 _ _ _ _)
      | (with_reducible exact ih1 _ _ _ _)
      | (with_reducible exact ih2 _ _ _ _)
      | (with_reducible exact ih3 _ _ _ _ _)
      | (with_reducible exact ravelinlaw7_known.mono _)
      | (with_reducible exact ravelinref6_May.mono _ _ _)
      | (with_reducible exact sieve_Make.mono _ _)
      | (with_reducible exact sieve_May.mono _ _ _)
      | (with_reducible exact LeO.refl _)
      | (with_reducible exact LeO.none _)
      | (with_reducible refine LeO.ite ?_ ?_)
      | (with_reducible refine LeO.bind ?_ (fun _ => ?_))
      | exact ih0 _ _ _ _
      | exact ih1 _ _ _ _
      | exact ih2 _ _ _ _
      | exact ih3 _ _ _ _ _
      | exact ravelinlaw7_known.mono _
      | exact ravelinref6_May.mono _ _ _
      | exact sieve_Make.mono _ _
      | exact sieve_May.mono _ _ _
      | exact LeO.none _
      | refine LeO.ite ?_ ?_
      | refine LeO.bind ?_ (fun _ => ?_)
    · intro y0 y1 y2 y3
      unfold ravelinlaw7_SieveFew.l1
      repeat' first
      | (with_reducible exact ih0 _ _ _ _)
      | (with_reducible exact ih1 _ _ _ _)
      | (with_reducible exact ih2 _ _ _ _)
      | (with_reducible exact ih3 _ _ _ _ _)
      | (with_reducible exact ravelinlaw7_known.mono _)
      | (with_reducible exact ravelinref6_May.mono _ _ _)
      | (with_reducible exact sieve_Make.mono _ _)
      | (with_reducible exact sieve_May.mono _ _ _)
      | (with_reducible exact LeO.refl _)
      | (with_reducible exact LeO.none _)
      | (with_reducible refine LeO.ite ?_ ?_)
      | (with_reducible refine LeO.bind ?_ (fun _ => ?_))
      | exact ih0 _ _ _ _
      | exact ih1 _ _ _ _
      | exact ih2 _ _ _ _
      | exact ih3 _ _ _ _ _
      | exact ravelinlaw7_known.mono _
      | exact ravelinref6_May.mono _ _ _
      | exact sieve_Make.mono _ _
      | exact sieve_May.mono _ _ _
      | exact LeO.none _
      | refine LeO.ite ?_ ?_
      | refine LeO.bind ?_ (fun _ => ?_)
    · intro y0 y1 y2 y3
      unfold ravelinlaw7_SieveFew.l2
      repeat' first
      | (with_reducible exact ih0 _ _ _ _)
      | (with_reducible exact ih1 _ _ _ _)
      | (with_reducible exact ih2 _ _ _ _)
      | (with_reducible exact ih3 _ _ _ _ _)
      | (with_reducible exact ravelinlaw7_known.mono _)
      | (with_reducible exact ravelinref6_May.mono _ _ _)
      | (with_reducible exact sieve_Make.mono _ _)
      | (with_reducible exact sieve_May.mono _ _ _)
      | (with_reducible exact LeO.refl _)
      | (with_reducible exact LeO.none _)
      | (with_reducible refine LeO.ite ?_ ?_)
      | (with_reducible refine LeO.bind ?_ (fun _ => ?_))
      | exact ih0 _ _ _ _
      | exact ih1 _ _ _ _
      | exact ih2 _ _ _ _
      | exact ih3 _ _ _ _ _
      | exact ravelinlaw7_known.mono _
      | exact ravelinref6_May.mono _ _ _
      | exact sieve_Make.mono _ _
      | exact sieve_May.mono _ _ _
      | exact LeO.none _
      | refine LeO.ite ?_ ?_
      | refine LeO.bind ?_ (fun _ => ?_)
    · intro y0 y1 y2 y3 y4
      unfold ravelinlaw7_SieveFew.l3
      repeat' first
      | (with_reducible exact ih0 _ _ _ _)
      | (with_reducible exact ih1 _ _ _ _)
      | (with_reducible exact ih2 _ _ _ _)
      | (with_reducible exact ih3 _ _ _ _ _)
      | (with_reducible exact ravelinlaw7_known.mono _)
      | (with_reducible exact ravelinref6_May.mono _ _ _)
      | (with_reducible exact sieve_Make.mono _ _)
      | (with_reducible exact sieve_May.mono _ _ _)
      | (with_reducible exact LeO.refl _)
      | (with_reducible exact LeO.none _)
      | (with_reducible refine LeO.ite ?_ ?_)
      | (with_reducible refine LeO.bind ?_ (fun _ => ?_))
      | exact ih0 _ _ _ _
      | exact ih1 _ _ _ _
      | exact ih2 _ _ _ _
      | exact ih3 _ _ _ _ _
      | exact ravelinlaw7_known.mono _
      | exact ravelinref6_May.mono _ _ _
      | exact sieve_Make.mono _ _
      | exact sieve_May.mono _ _ _
      | exact LeO.none _
      | refine LeO.ite ?_ ?_
      | refine LeO.bind ?_ (fun _ => ?_)
theorem ravelinlaw7_SieveFew.mono : ∀ a0 a1 k, LeO (ravelinlaw7_SieveFew.f k a0 a1) (ravelinlaw7_SieveFew.f (k + 1) a0 a1) := by
  intro a0 a1 k
  obtain ⟨ih0, ih1, ih2, ih3⟩ := ravelinlaw7_SieveFew.mono_l k
  unfold ravelinlaw7_SieveFew.f
  repeat' first
      | (with_reducible exact ih0 _ _ _ _)
      | (with_reducible exact ih1 _ _ _ _)
      | (with_reducible exact ih2 _ _ _ _)
      | (with_reducible exact ih3 _ _ _ _ _)
      | (with_reducible exact ravelinlaw7_known.mono _)
      | (with_reducible exact ravelinref6_May.mono _ _ _)
      | (with_reducible exact sieve_Make.mono _ _)
      | (with_reducible exact sieve_May.mono _ _ _)
      | (with_reducible exact LeO.refl _)
      | (with_reducible exact LeO.none _)
      | (with_reducible refine LeO.ite ?_ ?_)
      | (with_reducible refine LeO.bind ?_ (fun _ => ?_))
      | exact ih0 _ _ _ _
      | exact ih1 _ _ _ _
      | exact ih2 _ _ _ _
      | exact ih3 _ _ _ _ _
      | exact ravelinlaw7_known.mono _
      | exact ravelinref6_May.mono _ _ _
      | exact sieve_Make.mono _ _
      | exact sieve_May.mono _ _ _
      | exact LeO.none _
      | refine LeO.ite ?_ ?_
      | refine LeO.bind ?_ (fun _ => ?_)
set_option maxHeartbeats 8000000 in
set_option maxRecDepth 100000 in
theorem ravelinlaw7_SieveFew.calls (k : Nat) (a0 : Int) (a1 : Int) (r : Bool) (w : World) (h : ravelinlaw7_SieveFew.f k a0 a1 = some r) (hr_ : r = true) :
    Calls Try.prog 5 #[.int .u8 a0, .int .u8 a1] w fun e w' => e = .returned (.bool r) ∧ Below w.heap.size w w' := by
  have HB := Aside0.mk (Below.refl w.heap.size w)
  have H : ((ravelinlaw7_known.f k).bind fun t169 => (if t169 = true then (ravelinlaw7_SieveFew.l0 k a1 ([] : List ByteArray) (wrap64 ((wrap64 (Int.tmod a0 40)) + 8)) 0) else (some false))) = some r := h
  clear h
  have HR_ := Aside0.mk hr_
  clear hr_
  replace H := Option.bind_eq_some_iff.mp H
  obtain ⟨t169, A30, H⟩ := H
  replace H : (if t169 = true then (ravelinlaw7_SieveFew.l0 k a1 ([] : List ByteArray) (wrap64 ((wrap64 (Int.tmod a0 40)) + 8)) 0) else (some false)) = some r := H
  have A3 := Aside0.mk A30
  clear A30
  by_cases c4 : t169 = true
  · subst c4
    have H1 : (ravelinlaw7_SieveFew.l0 k a1 ([] : List ByteArray) (wrap64 ((wrap64 (Int.tmod a0 40)) + 8)) 0) = some r := by rw [if_pos rfl] at H; exact H
    clear H
    have H := H1
    clear H1
    have H' := Aside0.mk H
    clear H
    go_enter Try.func5, Try.ntmps5
    go_wp2_with (first | ((with_reducible refine gate_callee (f := 7) rfl ?_); refine goesL_ (some 14) rfl rfl Try.func7 (by kernel_rfl) rfl #[] rfl (by (try simp only [List.map_toArray, List.map_cons, List.map_nil]); first | done | rfl | (simp only [List.length_drop, List.length_take]; rfl)) ?_; (with_reducible refine (ravelinlaw7_known.calls k  true _ A3.out (by first | rfl | assumption | exact of_decide_eq_true (by assumption))).mono ?_); rintro e w5 ⟨rfl, hb⟩; refine ⟨_, rfl, ?_⟩; have n0_ := Aside0.mk (below_step (by repeat (first | (with_reducible first | exact HB.out | apply below_alloc | apply pw_below_drewN | apply below_drew1) | exact HB.out)) hb); clear HB; have HB := n0_; clear n0_; (try clear hb); (try clear hb2); (try clear hk); (try clear hi)))
    go_loopg [5, 7] k (fun kq v5 v7 w' => ∃ (x5_1 : List ByteArray) (x7_1 : Int), v7 = .int .i64 x7_1 ∧ Aside0 (ravelinlaw7_SieveFew.l0 kq a1 x5_1 (wrap64 ((wrap64 (Int.tmod a0 40)) + 8)) x7_1 = some r) ∧ Aside0 (kq ≤ k) ∧ Aside0 (Kd.R Kd.string 9 w' w.heap.size (fun _ => True) v5 x5_1) ∧ Aside0 (Below w.heap.size w w'))
    case atStart => exact ⟨(([] : List ByteArray)), (0), (by first | rfl | (simp; done) | (simp [*]; done)), H', ⟨Nat.le_refl _⟩, ⟨by first | exact Kd.R_nil _ _ _ _ _ | exact Kd.N_nil _ _ _ _ _ | exact Kd.V_nil _ _ _ _ _ | exact Kd.Q_nil _ _ _ _ _ | exact Kd.S_nil _ _ _ _ _⟩, ⟨by repeat (first | (with_reducible first | exact HB.out | apply below_alloc | apply pw_below_drewN | apply below_drew1) | exact HB.out)⟩⟩
    case round =>
      clear H'
      try clear p2
      try clear c4
      try clear c5
      obtain ⟨x5_1, x7_1, rfl, HA, HK1, HO_5, HB⟩ := hrel
      cases gk with
      | zero => exact absurd HA.out (by simp [ravelinlaw7_SieveFew.l0])
      | succ k1 =>
        have H := HA.out
        clear HA
        simp only [ravelinlaw7_SieveFew.l0] at H
        by_cases c6 : x7_1 < (wrap64 ((wrap64 (Int.tmod a0 40)) + 8))
        · rw [if_pos c6] at H
          have c6b0 : decide (x7_1 < (wrap64 ((wrap64 (Int.tmod a0 40)) + 8))) = true := decide_eq_true c6
          clear c6
          obtain ⟨y170, hy170⟩ : ∃ y_ : List Int, y_ = (([a1, (x7_1) % 256] : List Int)) := ⟨_, rfl⟩
          replace H : (if 4 + (strOfNums y170).size ≤ 9223372036854775807 then (if x5_1.length < 8796093022208 then (ravelinlaw7_SieveFew.l0 k1 a1 (x5_1 ++ [(⟨#[107, 101, 121, 45]⟩ : ByteArray) ++ (strOfNums y170)]) (wrap64 ((wrap64 (Int.tmod a0 40)) + 8)) (wrap64 (x7_1 + 1))) else (none)) else (none)) = some r := by first | (rw [hy170]; with_reducible exact H) | (have H2_ := (Option.bind_some _ _).symm.trans H; rw [hy170]; with_reducible exact H2_) | (have H2_ := (Option.bind_some _ _).symm.trans H; with_reducible exact H2_) | with_reducible exact H | (rw [hy170]; exact H) | exact H
          have Ny170 := Aside0.mk hy170
          clear hy170
          by_cases c7 : 4 + (strOfNums y170).size ≤ 9223372036854775807
          · rw [if_pos c7] at H
            have c7b0 := eq_true c7
            have c7b1 : decide (4 + (strOfNums y170).size ≤ 9223372036854775807) = true := decide_eq_true c7
            try have c7b2 : (9223372036854775807 < 4 + (strOfNums y170).size) = False := eq_false (Nat.not_lt.2 c7)
            by_cases c8 : x5_1.length < 8796093022208
            · rw [if_pos c8] at H
              have LMc8 := Aside0.mk c8
              clear c8
              obtain ⟨y173, hy173⟩ : ∃ y_ : List ByteArray, y_ = (x5_1 ++ [(⟨#[107, 101, 121, 45]⟩ : ByteArray) ++ (strOfNums y170)]) := ⟨_, rfl⟩
              replace H : (ravelinlaw7_SieveFew.l0 k1 a1 y173 (wrap64 ((wrap64 (Int.tmod a0 40)) + 8)) (wrap64 (x7_1 + 1))) = some r := by first | (rw [hy173]; with_reducible exact H) | (have H2_ := (Option.bind_some _ _).symm.trans H; rw [hy173]; with_reducible exact H2_) | (have H2_ := (Option.bind_some _ _).symm.trans H; with_reducible exact H2_) | with_reducible exact H | (rw [hy173]; exact H) | exact H
              have Ny173 := Aside0.mk hy173
              clear hy173
              have H' := Aside0.mk H
              clear H
              go_wp2_with (first | ((with_reducible refine gate_dst (N := 29) rfl ?_); refine Kd.R_lit (Kd.int .u8) _ 5 ?hg (N := 29) ?hd (xs := ([a1, (x7_1) % 256] : List Int)) (inner := [.int .u8 a1, .int .u8 ((x7_1) % 256)]) (ok := fun _ => True) (okp := fun _ => True) ?hr ?hp (fun _ hk => hk) trivial (Below.refl _ _) (Nat.le_refl _) (by simp) ?_; (case hd => rfl); (case hg => rfl); (case hr => first | (go_simp; done) | (go_simp; rfl)); (case hp => exact (Reps.one (show Kd.M (Kd.int .u8) _ _ _ a1 [.int .u8 a1] from rfl) (Reps.one (show Kd.M (Kd.int .u8) _ _ _ ((x7_1) % 256) [.int .u8 ((x7_1) % 256)] from rfl) (Reps.none _ _)))); intro v171 w9 ho10 hb hg_ hnew_; clear hg_ hnew_; (first | rw [← Ny170.out] at ho10 | (simp only [Int.reduceToNat] at ho10; rw [← Ny170.out] at ho10)); have n0_ := Aside0.mk (Kd.R_below (by (with_reducible repeat (first | apply Kd.R_alloc | apply Kd.R_drewN | apply Kd.R_drew)); exact HO_5.out) hb); have n1_ := Aside0.mk (Kd.R_lower ho10 (below_size (by repeat (first | (with_reducible first | exact HB.out | apply below_alloc | apply pw_below_drewN | apply below_drew1) | exact HB.out)))); have n2_ := Aside0.mk (below_step (by repeat (first | (with_reducible first | exact HB.out | apply below_alloc | apply pw_below_drewN | apply below_drew1) | exact HB.out)) hb); clear HO_5; clear HB; have HO_5 := n0_; have HO172 := n1_; have HB := n2_; clear n0_ n1_ n2_; clear hb ho10; have hcv11 := own_string (P := Try.prog) Try.underlying33 Try.underlying5 Try.underlying9 (Kd.own_of_R HO172.out)) | ((with_reducible refine gate_builtin (b := .append) (xs := #[.tmp 25, .tmp 32]) rfl ?_); at_builtin; refine Kd.R_append Kd.string (w0 := w) w.heap.size rfl (.tmp 25) (.tmp 32) 22 9 (.string ⟨#[]⟩) 16 rfl Try.underlying22 info9 rfl (by decide) (by omega) u5 x5_1 ((⟨#[107, 101, 121, 45]⟩ : ByteArray) ++ (strOfNums y170)) [.string ((⟨#[107, 101, 121, 45]⟩ : ByteArray) ++ (strOfNums y170))] (fun _ => True) (fun _ => False) rfl rfl ?aP (fun _ hk => hk.elim) ?aF ?aO ?aB ?aS ?aL ?_; (case aP => exact rfl); (case aB => exact (by repeat (first | (with_reducible first | exact HB.out | apply below_alloc | apply pw_below_drewN | apply below_drew1) | exact HB.out))); (case aF => exact (fun _ _ => trivial)); (case aO => exact (by (with_reducible repeat (first | apply Kd.R_alloc | apply Kd.R_drewN | apply Kd.R_drew)); exact HO_5.out)); (case aS => exact (below_size (by repeat (first | (with_reducible first | exact HB.out | apply below_alloc | apply pw_below_drewN | apply below_drew1) | exact HB.out)))); (case aL => have := LMc8.out; omega); intro v174 w12 ho hb hg hat; rw [← Ny173.out] at ho; have n0_ := Aside0.mk (Kd.R_over' (by (with_reducible repeat (first | apply Kd.R_alloc | apply Kd.R_drewN | apply Kd.R_drew)); exact HO172.out) (Kd.R_typed (by (with_reducible repeat (first | apply Kd.R_alloc | apply Kd.R_drewN | apply Kd.R_drew)); exact HO_5.out)) (by decide) hg); have n1_ := Aside0.mk (hb); have n2_ := Aside0.mk (ho); clear HO172; clear HB; clear HO_5; have HO172 := n0_; have HB := n1_; have HO175 := n2_; clear n0_ n1_ n2_; clear ho hb hg hat))
              go_roundg k1
              case measure => have := HK1.out; omega
              case rel => exact ⟨(y173), (wrap64 (x7_1 + 1)), (by first | rfl | (simp; done) | (simp [*]; done)), H', ⟨by have := HK1.out; omega⟩, ⟨by (with_reducible repeat (first | apply Kd.R_alloc | apply Kd.R_drewN | apply Kd.R_drew)); exact HO175.out⟩, ⟨by repeat (first | (with_reducible first | exact HB.out | apply below_alloc | apply pw_below_drewN | apply below_drew1) | exact HB.out)⟩⟩
            · rw [if_neg c8] at H
              exact absurd H (by simp)
          · rw [if_neg c7] at H
            exact absurd H (by simp)
        · rw [if_neg c6] at H
          have c6b0 : decide (x7_1 < (wrap64 ((wrap64 (Int.tmod a0 40)) + 8))) = false := decide_eq_false c6
          clear c6
          replace H := Option.bind_eq_some_iff.mp H
          obtain ⟨t176, A130, H⟩ := H
          replace H : (ravelinlaw7_SieveFew.l1 k1 a1 (wrap64 ((wrap64 (Int.tmod a0 40)) + 8)) t176 0) = some r := H
          have A13 := Aside0.mk A130
          clear A130
          have H' := Aside0.mk H
          clear H
          obtain ⟨Ao14, co14, eo14⟩ := Kd.R_slice HO_5.out
          subst eo14
          go_wp2_with (first | ((with_reducible refine gate_callee (f := 11) rfl ?_); refine goesL_ (some 35) rfl rfl Try.func11 (by kernel_rfl) rfl #[.slice Ao14 x5_1.length co14] rfl (by (try simp only [List.map_toArray, List.map_cons, List.map_nil]); first | done | rfl | (simp only [List.length_drop, List.length_take]; rfl)) ?_; (with_reducible refine (sieve_Make.calls k1 _ _ x5_1 t176 _ ?side1 ?side2 A13.out).mono ?_); (case side1 => repeat (first | exact (Kd.R_reads' HO_5.out).2.2 | (with_reducible refine Kd.C_alloc ?_ _) | (with_reducible refine Kd.C_drewN ?_ _) | (with_reducible refine Kd.C_drew ?_))); (case side2 => exact (Kd.R_reads' HO_5.out).2.1); rintro e w15 ⟨rfl, hb⟩; refine ⟨_, rfl, ?_⟩; have n0_ := Aside0.mk (Kd.R_below (by (with_reducible repeat (first | apply Kd.R_alloc | apply Kd.R_drewN | apply Kd.R_drew)); exact HO_5.out) hb); have n1_ := Aside0.mk (below_step (by repeat (first | (with_reducible first | exact HB.out | apply below_alloc | apply pw_below_drewN | apply below_drew1) | exact HB.out)) hb); clear HO_5; clear HB; have HO_5 := n0_; have HB := n1_; clear n0_ n1_; (try clear hb); (try clear hb2); (try clear hk); (try clear hi)))
          go_loopg [9] k1 (fun kq v9 w' => ∃ (x9_2 : Int), v9 = .int .i64 x9_2 ∧ Aside0 (ravelinlaw7_SieveFew.l1 kq a1 (wrap64 ((wrap64 (Int.tmod a0 40)) + 8)) t176 x9_2 = some r) ∧ Aside0 (kq ≤ k1) ∧ Aside0 (Below w.heap.size w w'))
          case atStart => exact ⟨(0), (by first | rfl | (simp; done) | (simp [*]; done)), H', ⟨Nat.le_refl _⟩, ⟨by repeat (first | (with_reducible first | exact HB.out | apply below_alloc | apply pw_below_drewN | apply below_drew1) | exact HB.out)⟩⟩
          case round =>
            clear H'
            try clear c1
            try clear hcv1
            try clear p2
            try clear c4
            try clear c5
            try clear c6
            try clear c6b0
            try clear p6
            try clear c7
            try clear c7b0
            try clear c7b1
            try clear c7b2
            try clear c8
            try clear c11
            try clear hcv11
            try clear p2
            obtain ⟨x9_2, rfl, HA, HK2, HB⟩ := hrel
            cases gk with
            | zero => exact absurd HA.out (by simp [ravelinlaw7_SieveFew.l1])
            | succ k2 =>
              have H := HA.out
              clear HA
              simp only [ravelinlaw7_SieveFew.l1] at H
              by_cases c16 : x9_2 < 200
              · rw [if_pos c16] at H
                have c16b0 : decide (x9_2 < 200) = true := decide_eq_true c16
                clear c16
                obtain ⟨y177, hy177⟩ : ∃ y_ : List Int, y_ = (([(x9_2) % 256, a1] : List Int)) := ⟨_, rfl⟩
                replace H : (if 6 + (strOfNums y177).size ≤ 9223372036854775807 then ((sieve_May.f k2 t176 ((⟨#[111, 116, 104, 101, 114, 45]⟩ : ByteArray) ++ (strOfNums y177))).bind fun t180 => ((ravelinref6_May.f k2 t176 ((⟨#[111, 116, 104, 101, 114, 45]⟩ : ByteArray) ++ (strOfNums y177))).bind fun t181 => (if (t180 != t181) = true then (some false) else (ravelinlaw7_SieveFew.l1 k2 a1 (wrap64 ((wrap64 (Int.tmod a0 40)) + 8)) t176 (wrap64 (x9_2 + 1)))))) else (none)) = some r := by first | (rw [hy177]; with_reducible exact H) | (have H2_ := (Option.bind_some _ _).symm.trans H; rw [hy177]; with_reducible exact H2_) | (have H2_ := (Option.bind_some _ _).symm.trans H; with_reducible exact H2_) | with_reducible exact H | (rw [hy177]; exact H) | exact H
                have Ny177 := Aside0.mk hy177
                clear hy177
                by_cases c17 : 6 + (strOfNums y177).size ≤ 9223372036854775807
                · rw [if_pos c17] at H
                  have c17b0 := eq_true c17
                  have c17b1 : decide (6 + (strOfNums y177).size ≤ 9223372036854775807) = true := decide_eq_true c17
                  try have c17b2 : (9223372036854775807 < 6 + (strOfNums y177).size) = False := eq_false (Nat.not_lt.2 c17)
                  replace H := Option.bind_eq_some_iff.mp H
                  obtain ⟨t180, A180, H⟩ := H
                  replace H : ((ravelinref6_May.f k2 t176 ((⟨#[111, 116, 104, 101, 114, 45]⟩ : ByteArray) ++ (strOfNums y177))).bind fun t181 => (if (t180 != t181) = true then (some false) else (ravelinlaw7_SieveFew.l1 k2 a1 (wrap64 ((wrap64 (Int.tmod a0 40)) + 8)) t176 (wrap64 (x9_2 + 1))))) = some r := H
                  have A18 := Aside0.mk A180
                  clear A180
                  replace H := Option.bind_eq_some_iff.mp H
                  obtain ⟨t181, A190, H⟩ := H
                  replace H : (if (t180 != t181) = true then (some false) else (ravelinlaw7_SieveFew.l1 k2 a1 (wrap64 ((wrap64 (Int.tmod a0 40)) + 8)) t176 (wrap64 (x9_2 + 1)))) = some r := H
                  have A19 := Aside0.mk A190
                  clear A190
                  by_cases c20 : (t180 != t181) = true
                  · rw [if_pos c20] at H
                    have c20b0 : (t180 != t181) = true := c20
                    (try (have c20b1 : decide (t180 = t181) = false := by simpa using c20))
                    (try (have c20b2 : (t180 == t181) = false := by simpa using c20))
                    (try (have c20b3 : ¬ (t180 = t181) := by simpa using c20))
                    (try (have c20b4 : (t181) = !t180 := by have h_ := c20; revert h_; generalize t180 = u_; generalize t181 = v_; cases u_ <;> cases v_ <;> simp))
                    clear c20
                    exact absurd ((Option.some.inj H).trans HR_.out) (by decide)
                  · rw [if_neg c20] at H
                    have c20b0 : (t180 != t181) = false := by simpa using c20
                    (try (have c20b1 : decide (t180 = t181) = true := by simpa using c20))
                    (try (have c20b2 : (t180 == t181) = true := by simpa using c20))
                    (try (have c20b3 : (t181) = t180 := by have h_ := c20; revert h_; generalize t180 = u_; generalize t181 = v_; cases u_ <;> cases v_ <;> simp))
                    clear c20
                    have H' := Aside0.mk H
                    clear H
                    go_wp2_with (first | ((with_reducible refine gate_dst (N := 43) rfl ?_); refine Kd.R_lit (Kd.int .u8) _ 5 ?hg (N := 43) ?hd (xs := ([(x9_2) % 256, a1] : List Int)) (inner := [.int .u8 ((x9_2) % 256), .int .u8 a1]) (ok := fun _ => True) (okp := fun _ => True) ?hr ?hp (fun _ hk => hk) trivial (Below.refl _ _) (Nat.le_refl _) (by simp) ?_; (case hd => rfl); (case hg => rfl); (case hr => first | (go_simp; done) | (go_simp; rfl)); (case hp => exact (Reps.one (show Kd.M (Kd.int .u8) _ _ _ ((x9_2) % 256) [.int .u8 ((x9_2) % 256)] from rfl) (Reps.one (show Kd.M (Kd.int .u8) _ _ _ a1 [.int .u8 a1] from rfl) (Reps.none _ _)))); intro v178 w21 ho22 hb hg_ hnew_; clear hg_ hnew_; (first | rw [← Ny177.out] at ho22 | (simp only [Int.reduceToNat] at ho22; rw [← Ny177.out] at ho22)); have n0_ := Aside0.mk (Kd.R_lower ho22 (below_size (by repeat (first | (with_reducible first | exact HB.out | apply below_alloc | apply pw_below_drewN | apply below_drew1) | exact HB.out)))); have n1_ := Aside0.mk (below_step (by repeat (first | (with_reducible first | exact HB.out | apply below_alloc | apply pw_below_drewN | apply below_drew1) | exact HB.out)) hb); clear HB; have HO179 := n0_; have HB := n1_; clear n0_ n1_; clear hb ho22; have hcv23 := own_string (P := Try.prog) Try.underlying33 Try.underlying5 Try.underlying9 (Kd.own_of_R HO179.out)) | ((with_reducible refine gate_callee (f := 13) rfl ?_); refine goesL_ (some 48) rfl rfl Try.func13 (by kernel_rfl) rfl #[.string t176, .string ((⟨#[111, 116, 104, 101, 114, 45]⟩ : ByteArray) ++ (strOfNums y177))] rfl (by (try simp only [List.map_toArray, List.map_cons, List.map_nil]); first | done | rfl | (simp only [List.length_drop, List.length_take]; rfl)) ?_; (with_reducible refine (sieve_May.calls k2 t176 ((⟨#[111, 116, 104, 101, 114, 45]⟩ : ByteArray) ++ (strOfNums y177)) t180 _ A18.out).mono ?_); rintro e w24 ⟨rfl, hb⟩; refine ⟨_, rfl, ?_⟩; have n0_ := Aside0.mk (Kd.R_below (by (with_reducible repeat (first | apply Kd.R_alloc | apply Kd.R_drewN | apply Kd.R_drew)); exact HO179.out) hb); have n1_ := Aside0.mk (below_step (by repeat (first | (with_reducible first | exact HB.out | apply below_alloc | apply pw_below_drewN | apply below_drew1) | exact HB.out)) hb); clear HO179; clear HB; have HO179 := n0_; have HB := n1_; clear n0_ n1_; (try clear hb); (try clear hb2); (try clear hk); (try clear hi)) | ((with_reducible refine gate_callee (f := 14) rfl ?_); refine goesL_ (some 51) rfl rfl Try.func14 (by kernel_rfl) rfl #[.string t176, .string ((⟨#[111, 116, 104, 101, 114, 45]⟩ : ByteArray) ++ (strOfNums y177))] rfl (by (try simp only [List.map_toArray, List.map_cons, List.map_nil]); first | done | rfl | (simp only [List.length_drop, List.length_take]; rfl)) ?_; (with_reducible refine (ravelinref6_May.calls k2 t176 ((⟨#[111, 116, 104, 101, 114, 45]⟩ : ByteArray) ++ (strOfNums y177)) t181 _ A19.out).mono ?_); rintro e w' ⟨rfl, ⟨nd, rfl⟩⟩; refine ⟨_, rfl, ?_⟩))
                    go_roundg k2
                    case measure => have := HK1.out; have := HK2.out; omega
                    case rel => exact ⟨(wrap64 (x9_2 + 1)), (by first | rfl | (simp; done) | (simp [*]; done)), H', ⟨by have := HK1.out; have := HK2.out; omega⟩, ⟨by repeat (first | (with_reducible first | exact HB.out | apply below_alloc | apply pw_below_drewN | apply below_drew1) | exact HB.out)⟩⟩
                · rw [if_neg c17] at H
                  exact absurd H (by simp)
              · rw [if_neg c16] at H
                have c16b0 : decide (x9_2 < 200) = false := decide_eq_false c16
                clear c16
                have H' := Aside0.mk H
                clear H
                go_wp2
                go_loopg [11, 12] k2 (fun kq v11 v12 w' => ∃ (x11_3 : Int) (x12_3 : Int), v11 = .int .i64 x11_3 ∧ v12 = .int .i64 x12_3 ∧ Aside0 (ravelinlaw7_SieveFew.l2 kq (wrap64 ((wrap64 (Int.tmod a0 40)) + 8)) t176 x11_3 x12_3 = some r) ∧ Aside0 (kq ≤ k2) ∧ Aside0 (Below w.heap.size w w'))
                case atStart => exact ⟨(0), (0), (by first | rfl | (simp; done) | (simp [*]; done)), (by first | rfl | (simp; done) | (simp [*]; done)), H', ⟨Nat.le_refl _⟩, ⟨by repeat (first | (with_reducible first | exact HB.out | apply below_alloc | apply pw_below_drewN | apply below_drew1) | exact HB.out)⟩⟩
                case round =>
                  clear H'
                  try clear c1
                  try clear hcv1
                  try clear c2
                  try clear p2
                  try clear hcv2
                  try clear c4
                  try clear c5
                  try clear c6
                  try clear c6b0
                  try clear p6
                  try clear c7
                  try clear c7b0
                  try clear c7b1
                  try clear c7b2
                  try clear c8
                  try clear c11
                  try clear hcv11
                  try clear c13
                  try clear c14
                  try clear c16
                  try clear c16b0
                  try clear c17
                  try clear c17b0
                  try clear c17b1
                  try clear c17b2
                  try clear c20
                  try clear c20b0
                  try clear c20b1
                  try clear c20b2
                  try clear hcv23
                  try clear p2
                  try clear p6
                  obtain ⟨x11_3, x12_3, rfl, rfl, HA, HK3, HB⟩ := hrel
                  cases gk with
                  | zero => exact absurd HA.out (by simp [ravelinlaw7_SieveFew.l2])
                  | succ k3 =>
                    have H := HA.out
                    clear HA
                    simp only [ravelinlaw7_SieveFew.l2] at H
                    by_cases c25 : x12_3 < (t176.size : Int)
                    · rw [if_pos c25] at H
                      have c25b0 : decide (x12_3 < (t176.size : Int)) = true := decide_eq_true c25
                      clear c25
                      have H' := Aside0.mk H
                      clear H
                      go_wp2
                      go_loopg [11, 13] k3 (fun kq v11 v13 w' => ∃ (x11_4 : Int) (x13_4 : Int), v11 = .int .i64 x11_4 ∧ v13 = .int .i64 x13_4 ∧ Aside0 (ravelinlaw7_SieveFew.l3 kq (wrap64 ((wrap64 (Int.tmod a0 40)) + 8)) t176 x11_4 x12_3 x13_4 = some r) ∧ Aside0 (kq ≤ k3) ∧ Aside0 (Below w.heap.size w w'))
                      case atStart => exact ⟨(x11_3), (0), (by first | rfl | (simp; done) | (simp [*]; done)), (by first | rfl | (simp; done) | (simp [*]; done)), H', ⟨Nat.le_refl _⟩, ⟨by repeat (first | (with_reducible first | exact HB.out | apply below_alloc | apply pw_below_drewN | apply below_drew1) | exact HB.out)⟩⟩
                      case round =>
                        clear H'
                        try clear c1
                        try clear hcv1
                        try clear c2
                        try clear p2
                        try clear hcv2
                        try clear c4
                        try clear c5
                        try clear c6
                        try clear c6b0
                        try clear p6
                        try clear c7
                        try clear c7b0
                        try clear c7b1
                        try clear c7b2
                        try clear c8
                        try clear c11
                        try clear hcv11
                        try clear c13
                        try clear c14
                        try clear c16
                        try clear c16b0
                        try clear c17
                        try clear c17b0
                        try clear c17b1
                        try clear c17b2
                        try clear c20
                        try clear c20b0
                        try clear c20b1
                        try clear c20b2
                        try clear hcv23
                        try clear c25
                        try clear c25b0
                        try clear p2
                        try clear p6
                        obtain ⟨x11_4, x13_4, rfl, rfl, HA, HK4, HB⟩ := hrel
                        cases gk with
                        | zero => exact absurd HA.out (by simp [ravelinlaw7_SieveFew.l3])
                        | succ k4 =>
                          have H := HA.out
                          clear HA
                          simp only [ravelinlaw7_SieveFew.l3] at H
                          by_cases c26 : x13_4 < 8
                          · rw [if_pos c26] at H
                            have c26b0 : decide (x13_4 < 8) = true := decide_eq_true c26
                            clear c26
                            by_cases c27 : 0 ≤ x12_3
                            · rw [if_pos c27] at H
                              have c27b0 : decide (0 ≤ x12_3) = true := decide_eq_true c27
                              clear c27
                              by_cases c28 : x12_3 < (t176.size : Int)
                              · rw [if_pos c28] at H
                                have c28b0 : decide (x12_3 < (t176.size : Int)) = true := decide_eq_true c28
                                clear c28
                                obtain ⟨ji30, hji30⟩ : ∃ j_ : Int, (IntKind.u64.wrap (x13_4)) = j_ := ⟨_, rfl⟩
                                replace H : (if 0 ≤ (ji30) then (ravelinlaw7_SieveFew.l3 k4 (wrap64 ((wrap64 (Int.tmod a0 40)) + 8)) t176 (wrap64 (x11_4 + (wrap64 (Go.bits .and .u8 (shr .u8 (bt t176 x12_3) (ji30)) 1)))) x12_3 (wrap64 (x13_4 + 1))) else (none)) = some r := by first | (rw [hji30] at H; exact H) | (simp only [hji30] at H ⊢; exact H)
                                by_cases c31 : 0 ≤ (ji30)
                                · rw [if_pos c31] at H
                                  have c31b0 := eq_true c31
                                  have c31b1 : decide (0 ≤ (ji30)) = true := decide_eq_true c31
                                  clear c31
                                  obtain ⟨ji32, hji32⟩ : ∃ j_ : Int, (shr .u8 (bt t176 x12_3) (ji30)) = j_ := ⟨_, rfl⟩
                                  replace H : (ravelinlaw7_SieveFew.l3 k4 (wrap64 ((wrap64 (Int.tmod a0 40)) + 8)) t176 (wrap64 (x11_4 + (wrap64 (Go.bits .and .u8 (ji32) 1)))) x12_3 (wrap64 (x13_4 + 1))) = some r := by first | (rw [hji32] at H; exact H) | (simp only [hji32] at H ⊢; exact H)
                                  have hji32_ : ((bt t176 x12_3) / 2 ^ min (ji30).toNat 8) = ji32 := hji32
                                  have hji32z : (ji30) ≤ 8 → ((bt t176 x12_3) / 2 ^ (ji30).toNat) = ji32 := shr_small hji32
                                  have H' := Aside0.mk H
                                  clear H
                                  have p29 : 0 ≤ (x12_3 : Int) := of_decide_eq_true (by first | (with_reducible assumption) | assumption)
                                  have q29 : x12_3 < (t176.size : Int) := of_decide_eq_true (by first | (with_reducible assumption) | assumption)
                                  have hx29 := bt_at t176 x12_3
                                  replace p29 := eq_true p29
                                  replace q29 := eq_true q29
                                  go_wp2
                                  go_roundg k4
                                  case measure => have := HK1.out; have := HK2.out; have := HK3.out; have := HK4.out; omega
                                  case rel => exact ⟨(wrap64 (x11_4 + (wrap64 (Go.bits .and .u8 (ji32) 1)))), (wrap64 (x13_4 + 1)), (by first | rfl | (simp; done) | (simp only [← hji32] <;> (first | rfl | simp)) | (simp [*]; done)), (by first | rfl | (simp; done) | (simp [*]; done)), H', ⟨by have := HK1.out; have := HK2.out; have := HK3.out; have := HK4.out; omega⟩, ⟨by repeat (first | (with_reducible first | exact HB.out | apply below_alloc | apply pw_below_drewN | apply below_drew1) | exact HB.out)⟩⟩
                                · rw [if_neg c31] at H
                                  exact absurd H (by simp)
                              · rw [if_neg c28] at H
                                exact absurd H (by simp)
                            · rw [if_neg c27] at H
                              exact absurd H (by simp)
                          · rw [if_neg c26] at H
                            have c26b0 : decide (x13_4 < 8) = false := decide_eq_false c26
                            clear c26
                            have H' := Aside0.mk H
                            clear H
                            go_wp2
                            go_roundg k4
                            case measure => have := HK1.out; have := HK2.out; have := HK3.out; have := HK4.out; omega
                            case rel => exact ⟨(x11_4), (wrap64 (x12_3 + 1)), (by first | rfl | (simp; done) | (simp [*]; done)), (by first | rfl | (simp; done) | (simp [*]; done)), H', ⟨by have := HK1.out; have := HK2.out; have := HK3.out; have := HK4.out; omega⟩, ⟨by repeat (first | (with_reducible first | exact HB.out | apply below_alloc | apply pw_below_drewN | apply below_drew1) | exact HB.out)⟩⟩
                    · rw [if_neg c25] at H
                      have c25b0 : decide (x12_3 < (t176.size : Int)) = false := decide_eq_false c25
                      clear c25
                      by_cases c33 : (t176.size : Int) = (wrap64 ((wrap64 (Int.tmod a0 40)) + 8))
                      · rw [if_pos c33] at H
                        have c33b0 : ((t176.size : Int) == (wrap64 ((wrap64 (Int.tmod a0 40)) + 8))) = true := beq_iff_eq.mpr c33
                        have c33b1 : ((t176.size : Int) != (wrap64 ((wrap64 (Int.tmod a0 40)) + 8))) = false := bne_eq_false_iff_eq.mpr c33
                        clear c33
                        obtain rfl := Option.some.inj H
                        go_wp2
                        go_ret
                        exact ⟨by first | rfl | (simp [errW_none, errW_some] <;> rfl) | (simp [*, errW_none, errW_some] <;> rfl), by repeat (first | (with_reducible first | exact HB.out | apply below_alloc | apply pw_below_drewN | apply below_drew1) | exact HB.out)⟩
                      · rw [if_neg c33] at H
                        have c33b0 : ((t176.size : Int) == (wrap64 ((wrap64 (Int.tmod a0 40)) + 8))) = false := beq_eq_false_iff_ne.mpr c33
                        have c33b1 : ((t176.size : Int) != (wrap64 ((wrap64 (Int.tmod a0 40)) + 8))) = true := bne_iff_ne.mpr c33
                        exact absurd ((Option.some.inj H).trans HR_.out) (by decide)
  · replace c4 := Bool.eq_false_iff.mpr c4
    subst c4
    have H1 : (some false) = some r := by rw [if_neg (show ¬ (false = true) by decide)] at H; exact H
    clear H
    have H := H1
    clear H1
    exact absurd ((Option.some.inj H).trans HR_.out) (by decide)

/-- THE ONE PURE STATEMENT of ravelinlaw7_SieveFew: yours. -/
def ravelinlaw7_SieveFew.Pure : Prop := ∀ (a0 : Int) (a1 : Int), (Lit.int .u8 a0).wf = true → (Lit.int .u8 a1).wf = true → ∃ k, ravelinlaw7_SieveFew.f k a0 a1 = some true
theorem ravelinlaw7_SieveFew.walk (P : ravelinlaw7_SieveFew.Pure) (a0 : Int) (a1 : Int) (w : World) (w0 : (Lit.int .u8 a0).wf = true) (w1 : (Lit.int .u8 a1).wf = true) :
    Calls Try.prog 5 #[.int .u8 a0, .int .u8 a1] w fun e w' => e = .returned (.bool true) ∧ Below w.heap.size w w' := by
  obtain ⟨k, h⟩ := P a0 a1 w0 w1
  refine (ravelinlaw7_SieveFew.calls k a0 a1 true w h rfl).mono ?_
  rintro e w' ⟨rfl, hd⟩
  exact ⟨rfl, hd⟩

end Go.Proofs.Ytcnlhpakiadipaa.P
