-- Printed by a changed copy of the kit's printer (wip/tools/ext.py); labels and more
import Derived.Test.YtcnlhpakiadipaaM0
namespace Go.Proofs.Ytcnlhpakiadipaa.P
open Go.RowKit Go.Proofs.YtcnlhpakiadipaaW.PrintWords Go.Proofs.YtcnlhpakiadipaaW.PrintLast Go.Proofs.YtcnlhpakiadipaaW.PrintMore
attribute [local go_sem] max2_int min2_int max_two min_two max_three min_three max_four min_four   -- for this text's walks alone
set_option linter.unusedVariables false
set_option linter.unusedSimpArgs false

/-! ### sieve_Hash: function 9 -/
def sieve_Hash.l0 : Nat → ByteArray → Int → Int → Int → Int → Option (Int × Int)
  | 0, _, _, _, _, _ => none
  | k + 1, x0, x4, x5, x8, x9 => if x9 < x8 then (if 0 ≤ x9 then (if x9 < (x0.size : Int) then (sieve_Hash.l0 k x0 ((((x4 * 33) % 4294967296) + ((bt x0 x9) % 4294967296)) % 4294967296) (Go.bits .xor .u32 ((x5 * 31) % 4294967296) ((bt x0 x9) % 4294967296)) x8 (wrap64 (x9 + 1))) else (none)) else (none)) else (some (x4, Go.bits .or .u32 x5 1))
def sieve_Hash.f (k : Nat) (a0 : ByteArray) : Option (Int × Int) := sieve_Hash.l0 k a0 5381 52711 (a0.size : Int) 0
theorem sieve_Hash.mono_l : ∀ k, (∀ y0 y1 y2 y3 y4, LeO (sieve_Hash.l0 k y0 y1 y2 y3 y4) (sieve_Hash.l0 (k + 1) y0 y1 y2 y3 y4))
  | 0 => fun _ _ _ _ _ r h => by simp [sieve_Hash.l0] at h
  | k + 1 => by
    have ih0 := sieve_Hash.mono_l k
    · intro y0 y1 y2 y3 y4
      unfold sieve_Hash.l0
      repeat' first
      | (with_reducible exact ih0 _ _ _ _ _)
      | (with_reducible exact LeO.refl _)
      | (with_reducible exact LeO.none _)
      | (with_reducible refine LeO.ite ?_ ?_)
      | (with_reducible refine LeO.bind ?_ (fun _ => ?_))
      | exact ih0 _ _ _ _ _
      | exact LeO.none _
      | refine LeO.ite ?_ ?_
      | refine LeO.bind ?_ (fun _ => ?_)
theorem sieve_Hash.mono : ∀ a0 k, LeO (sieve_Hash.f k a0) (sieve_Hash.f (k + 1) a0) := by
  intro a0 k
  have ih0 := sieve_Hash.mono_l k
  unfold sieve_Hash.f
  repeat' first
      | (with_reducible exact ih0 _ _ _ _ _)
      | (with_reducible exact LeO.refl _)
      | (with_reducible exact LeO.none _)
      | (with_reducible refine LeO.ite ?_ ?_)
      | (with_reducible refine LeO.bind ?_ (fun _ => ?_))
      | exact ih0 _ _ _ _ _
      | exact LeO.none _
      | refine LeO.ite ?_ ?_
      | refine LeO.bind ?_ (fun _ => ?_)
set_option maxHeartbeats 8000000 in
set_option maxRecDepth 100000 in
theorem sieve_Hash.calls (k : Nat) (a0 : ByteArray) (r1 : Int) (r2 : Int) (w : World) (h : sieve_Hash.f k a0 = some (r1, r2)) :
    Calls Try.prog 9 #[.string a0] w fun e w' => e = .returned (.tuple #[.int .u32 r1, .int .u32 r2]) ∧ Drawn0 w w' := by
  have H : (sieve_Hash.l0 k a0 5381 52711 (a0.size : Int) 0) = some (r1, r2) := h
  clear h
  have H' := Aside0.mk H
  clear H
  go_enter Try.func9, Try.ntmps9
  go_wp2
  go_loopg [4, 5, 9] k (fun kq v4 v5 v9 w' => ∃ (x4_1 : Int) (x5_1 : Int) (x9_1 : Int), v4 = .int .u32 x4_1 ∧ v5 = .int .u32 x5_1 ∧ v9 = .int .i64 x9_1 ∧ Aside0 (sieve_Hash.l0 kq a0 x4_1 x5_1 (a0.size : Int) x9_1 = some (r1, r2)) ∧ Aside0 (kq ≤ k) ∧ Drawn0 w w')
  case atStart => exact ⟨(5381), (52711), (0), (by first | rfl | (simp; done) | (simp [*]; done)), (by first | rfl | (simp; done) | (simp [*]; done)), (by first | rfl | (simp; done) | (simp [*]; done)), H', ⟨Nat.le_refl _⟩, by repeat (first | exact Drawn0.refl _ | apply Drawn0.step)⟩
  case round =>
    clear H'
    obtain ⟨x4_1, x5_1, x9_1, rfl, rfl, rfl, HA, HK1, ⟨m1, rfl⟩⟩ := hrel
    cases gk with
    | zero => exact absurd HA.out (by simp [sieve_Hash.l0])
    | succ k1 =>
      have H := HA.out
      clear HA
      simp only [sieve_Hash.l0] at H
      by_cases c2 : x9_1 < (a0.size : Int)
      · rw [if_pos c2] at H
        have c2b0 : decide (x9_1 < (a0.size : Int)) = true := decide_eq_true c2
        clear c2
        by_cases c3 : 0 ≤ x9_1
        · rw [if_pos c3] at H
          have c3b0 : decide (0 ≤ x9_1) = true := decide_eq_true c3
          clear c3
          by_cases c4 : x9_1 < (a0.size : Int)
          · rw [if_pos c4] at H
            have c4b0 : decide (x9_1 < (a0.size : Int)) = true := decide_eq_true c4
            clear c4
            have H' := Aside0.mk H
            clear H
            have p5 : 0 ≤ (x9_1 : Int) := of_decide_eq_true (by first | (with_reducible assumption) | assumption)
            have q5 : x9_1 < (a0.size : Int) := of_decide_eq_true (by first | (with_reducible assumption) | assumption)
            have hx5 := bt_at a0 x9_1
            replace p5 := eq_true p5
            replace q5 := eq_true q5
            have p6 : 0 ≤ (x9_1 : Int) := of_decide_eq_true (by first | (with_reducible assumption) | assumption)
            have q6 : x9_1 < (a0.size : Int) := of_decide_eq_true (by first | (with_reducible assumption) | assumption)
            have hx6 := bt_at a0 x9_1
            replace p6 := eq_true p6
            replace q6 := eq_true q6
            go_wp2
            go_roundg k1
            case measure => have := HK1.out; omega
            case rel => exact ⟨((((x4_1 * 33) % 4294967296) + ((bt a0 x9_1) % 4294967296)) % 4294967296), (Go.bits .xor .u32 ((x5_1 * 31) % 4294967296) ((bt a0 x9_1) % 4294967296)), (wrap64 (x9_1 + 1)), (by first | rfl | (simp; done) | (simp [*]; done)), (by first | rfl | (simp; done) | (simp [*]; done)), (by first | rfl | (simp; done) | (simp [*]; done)), H', ⟨by have := HK1.out; omega⟩, by repeat (first | exact Drawn0.refl _ | apply Drawn0.step)⟩
          · rw [if_neg c4] at H
            exact absurd H (by simp)
        · rw [if_neg c3] at H
          exact absurd H (by simp)
      · rw [if_neg c2] at H
        have c2b0 : decide (x9_1 < (a0.size : Int)) = false := decide_eq_false c2
        clear c2
        simp only [Option.some.injEq, Prod.mk.injEq] at H
        obtain ⟨rfl, rfl⟩ := H
        go_wp2
        go_ret2
        exact ⟨by first | rfl | (simp; done) | (simp [*]; done), by repeat (first | exact Drawn0.refl _ | apply Drawn0.step)⟩

/-! ### sieve_places: function 15 -/
-- by hand
/-- The four places, if the two numbers are what they are and there are bits. -/
def sieve_places.f (k : Nat) (a0 : ByteArray) (a1 : Int) : Option (Int × Int × Int × Int) := (sieve_Hash.f k a0).bind fun h =>
  if 0 ≤ h.1 ∧ h.1 < 4294967296 ∧ 0 ≤ h.2 ∧ h.2 < 4294967296 ∧ 1 ≤ a1 ∧ a1 ≤ 4611686018427387904 then some (h.1 % a1, (h.1 + h.2) % a1, (h.1 + 2 * h.2) % a1, (h.1 + 3 * h.2) % a1) else none
theorem sieve_places.mono : ∀ a0 a1 k, LeO (sieve_places.f k a0 a1) (sieve_places.f (k + 1) a0 a1) := by
  intro a0 a1 k
  unfold sieve_places.f
  exact LeO.bind (sieve_Hash.mono _ _) (fun _ => LeO.refl _)
set_option maxHeartbeats 4000000 in
set_option maxRecDepth 100000 in
theorem sieve_places.calls (k : Nat) (a0 : ByteArray) (a1 : Int) (r1 r2 r3 r4 : Int) (w : World) (h : sieve_places.f k a0 a1 = some (r1, r2, r3, r4)) :
    Calls Try.prog 15 #[.string a0, .int .i64 a1] w fun e w' => e = .returned (.agg #[.int .u64 r1, .int .u64 r2, .int .u64 r3, .int .u64 r4]) ∧ Below w.heap.size w w' := by
  obtain ⟨⟨x, y⟩, hh, h2⟩ := Option.bind_eq_some_iff.1 h
  clear h
  simp only at h2
  by_cases hb : 0 ≤ x ∧ x < 4294967296 ∧ 0 ≤ y ∧ y < 4294967296 ∧ 1 ≤ a1 ∧ a1 ≤ 4611686018427387904
  · rw [if_pos hb] at h2
    simp only [Option.some.injEq, Prod.mk.injEq] at h2
    obtain ⟨e1, e2, e3, e4⟩ := h2
    subst e1
    subst e2
    subst e3
    subst e4
    obtain ⟨b1, b2, b3, b4, b5, b6⟩ := hb
    have HH := Aside0.mk hh
    have HB := Aside0.mk (Below.refl w.heap.size w)
    clear hh
    go_enter Try.func15, Try.ntmps15
    go_wp2_with (go_at_call 9; refine (sieve_Hash.calls k a0 x y _ HH.out).mono ?_; rintro e w' ⟨rfl, ⟨nd, rfl⟩⟩)
    go_rounds 5
    refine bodyPost_ret (v := .agg #[.int .u64 (x % a1), .int .u64 ((x + y) % a1), .int .u64 ((x + 2 * y) % a1), .int .u64 ((x + 3 * y) % a1)])
      (results_single rfl (Vals.cell w.heap.size 37 #[.int .u64 (x % a1), .int .u64 ((x + y) % a1), .int .u64 ((x + 2 * y) % a1), .int .u64 ((x + 3 * y) % a1)] (0, 0) _ rfl ?hg Try.underlying37 rfl (by kernel_rfl) Vals.nil)) rfl ⟨rfl, ?_⟩
    case hg =>
      refine blk_alloc ?_ _
      refine blk_put (cs := #[.int .u64 (x % a1), .int .u64 ((x + y) % a1), .int .u64 ((x + 2 * y) % a1), .int .u64 0]) ?_ 3 _ rfl
      refine blk_put (cs := #[.int .u64 (x % a1), .int .u64 ((x + y) % a1), .int .u64 0, .int .u64 0]) ?_ 2 _ rfl
      refine blk_put (cs := #[.int .u64 (x % a1), .int .u64 0, .int .u64 0, .int .u64 0]) ?_ 1 _ rfl
      refine blk_put (cs := #[.int .u64 0, .int .u64 0, .int .u64 0, .int .u64 0]) ?_ 0 _ rfl
      exact blk_drewN (blk_new w _) _
    · refine below_alloc ?_ _
      refine below_set ?_ (Nat.le_refl _)
      refine below_set ?_ (Nat.le_refl _)
      refine below_set ?_ (Nat.le_refl _)
      refine below_set ?_ (Nat.le_refl _)
      exact pw_below_drewN (below_alloc HB.out _) _
  · rw [if_neg hb] at h2
    cases h2

/-! ### sieve_Make: function 11 -/
def sieve_Make.l0 : Nat → Int → List Int → List ByteArray → Int → Int → Option (ByteArray)
  | 0, _, _, _, _, _ => none
  | k + 1, x3, x4, x16, x17, x18 => if x18 < x17 then (if 0 ≤ x18 then (if x18 < (x16.length : Int) then ((sieve_places.f k (rdOf ByteArray.empty x16 x18) x3).bind fun bt105 => (if 0 ≤ (IntKind.u64.wrap (Int.tdiv bt105.1 8)) then (if (IntKind.u64.wrap (Int.tdiv bt105.1 8)) < (x4.length : Int) then (if 0 ≤ (Int.tmod bt105.1 8) then ((some (x4.set ((IntKind.u64.wrap (Int.tdiv bt105.1 8)) : Int).toNat (Go.bits .or .u8 (rd x4 (IntKind.u64.wrap (Int.tdiv bt105.1 8))) (shl .u8 1 (Int.tmod bt105.1 8))) : List Int)).bind fun y110 => (if 0 ≤ (IntKind.u64.wrap (Int.tdiv bt105.2.1 8)) then (if (IntKind.u64.wrap (Int.tdiv bt105.2.1 8)) < (x4.length : Int) then (if 0 ≤ (Int.tmod bt105.2.1 8) then ((some (y110.set ((IntKind.u64.wrap (Int.tdiv bt105.2.1 8)) : Int).toNat (Go.bits .or .u8 (rd y110 (IntKind.u64.wrap (Int.tdiv bt105.2.1 8))) (shl .u8 1 (Int.tmod bt105.2.1 8))) : List Int)).bind fun y112 => (if 0 ≤ (IntKind.u64.wrap (Int.tdiv bt105.2.2.1 8)) then (if (IntKind.u64.wrap (Int.tdiv bt105.2.2.1 8)) < (x4.length : Int) then (if 0 ≤ (Int.tmod bt105.2.2.1 8) then ((some (y112.set ((IntKind.u64.wrap (Int.tdiv bt105.2.2.1 8)) : Int).toNat (Go.bits .or .u8 (rd y112 (IntKind.u64.wrap (Int.tdiv bt105.2.2.1 8))) (shl .u8 1 (Int.tmod bt105.2.2.1 8))) : List Int)).bind fun y114 => (if 0 ≤ (IntKind.u64.wrap (Int.tdiv bt105.2.2.2 8)) then (if (IntKind.u64.wrap (Int.tdiv bt105.2.2.2 8)) < (x4.length : Int) then (if 0 ≤ (Int.tmod bt105.2.2.2 8) then (sieve_Make.l0 k x3 (y114.set ((IntKind.u64.wrap (Int.tdiv bt105.2.2.2 8)) : Int).toNat (Go.bits .or .u8 (rd y114 (IntKind.u64.wrap (Int.tdiv bt105.2.2.2 8))) (shl .u8 1 (Int.tmod bt105.2.2.2 8)))) x16 x17 (wrap64 (x18 + 1))) else (none)) else (none)) else (none))) else (none)) else (none)) else (none))) else (none)) else (none)) else (none))) else (none)) else (none)) else (none))) else (none)) else (none)) else (some (strOfNums x4))
def sieve_Make.f (k : Nat) (l0 : List ByteArray) : Option (ByteArray) := if 0 ≤ (wrap64 (Int.tdiv (mx (wrap64 (8 * (l0.length : Int))) 64) 8)) then (if (wrap64 (Int.tdiv (mx (wrap64 (8 * (l0.length : Int))) 64) 8) : Int).toNat ≤ 281474976710656 then (sieve_Make.l0 k (mx (wrap64 (8 * (l0.length : Int))) 64) (List.replicate (wrap64 (Int.tdiv (mx (wrap64 (8 * (l0.length : Int))) 64) 8) : Int).toNat 0) l0 (l0.length : Int) 0) else (none)) else (none)
theorem sieve_Make.mono_l : ∀ k, (∀ y0 y1 y2 y3 y4, LeO (sieve_Make.l0 k y0 y1 y2 y3 y4) (sieve_Make.l0 (k + 1) y0 y1 y2 y3 y4))
  | 0 => fun _ _ _ _ _ r h => by simp [sieve_Make.l0] at h
  | k + 1 => by
    have ih0 := sieve_Make.mono_l k
    · intro y0 y1 y2 y3 y4
      unfold sieve_Make.l0
      repeat' first
      | (with_reducible exact ih0 _ _ _ _ _)
      | (with_reducible exact sieve_places.mono _ _ _)
      | (with_reducible exact LeO.refl _)
      | (with_reducible exact LeO.none _)
      | (with_reducible refine LeO.ite ?_ ?_)
      | (with_reducible refine LeO.bind ?_ (fun _ => ?_))
      | exact ih0 _ _ _ _ _
      | exact sieve_places.mono _ _ _
      | exact LeO.none _
      | refine LeO.ite ?_ ?_
      | refine LeO.bind ?_ (fun _ => ?_)
theorem sieve_Make.mono : ∀ a0 k, LeO (sieve_Make.f k a0) (sieve_Make.f (k + 1) a0) := by
  intro a0 k
  have ih0 := sieve_Make.mono_l k
  unfold sieve_Make.f
  repeat' first
      | (with_reducible exact ih0 _ _ _ _ _)
      | (with_reducible exact sieve_places.mono _ _ _)
      | (with_reducible exact LeO.refl _)
      | (with_reducible exact LeO.none _)
      | (with_reducible refine LeO.ite ?_ ?_)
      | (with_reducible refine LeO.bind ?_ (fun _ => ?_))
      | exact ih0 _ _ _ _ _
      | exact sieve_places.mono _ _ _
      | exact LeO.none _
      | refine LeO.ite ?_ ?_
      | refine LeO.bind ?_ (fun _ => ?_)
set_option maxHeartbeats 8000000 in
set_option maxRecDepth 100000 in
theorem sieve_Make.calls (k : Nat) (A0 : Option Addr) (c0 : Nat) (l0 : List ByteArray) (r : ByteArray) (w : World) (hr0 : Kd.C Kd.string w A0 l0.length l0) (hc0 : l0.length ≤ c0) (h : sieve_Make.f k l0 = some r) :
    Calls Try.prog 11 #[.slice A0 l0.length c0] w fun e w' => e = .returned (.string r) ∧ Below w.heap.size w w' := by
  have HR0 := Aside0.mk hr0
  have HC0 := Aside0.mk hc0
  clear hr0 hc0
  have HB := Aside0.mk (Below.refl w.heap.size w)
  have H : (if 0 ≤ (wrap64 (Int.tdiv (mx (wrap64 (8 * (l0.length : Int))) 64) 8)) then (if (wrap64 (Int.tdiv (mx (wrap64 (8 * (l0.length : Int))) 64) 8) : Int).toNat ≤ 281474976710656 then (sieve_Make.l0 k (mx (wrap64 (8 * (l0.length : Int))) 64) (List.replicate (wrap64 (Int.tdiv (mx (wrap64 (8 * (l0.length : Int))) 64) 8) : Int).toNat 0) l0 (l0.length : Int) 0) else (none)) else (none)) = some r := h
  clear h
  obtain ⟨ji2, hji2⟩ : ∃ j_ : Int, (mx (wrap64 (8 * (l0.length : Int))) 64) = j_ := ⟨_, rfl⟩
  replace H : (if 0 ≤ (wrap64 (Int.tdiv (ji2) 8)) then (if (wrap64 (Int.tdiv (ji2) 8) : Int).toNat ≤ 281474976710656 then (sieve_Make.l0 k ji2 (List.replicate (wrap64 (Int.tdiv (ji2) 8) : Int).toNat 0) l0 (l0.length : Int) 0) else (none)) else (none)) = some r := by first | (rw [hji2] at H; exact H) | (simp only [hji2] at H ⊢; exact H)
  (try (have hji2l : 64 ≤ ji2 := by (rw [← hji2]; unfold mx; (repeat' split) <;> omega)))
  (try (have hji2m : 0 ≤ ji2 := by omega))
  have hji2_ : (if (wrap64 (8 * (l0.length : Int))) < 64 then 64 else (wrap64 (8 * (l0.length : Int)))) = ji2 := hji2
  (try (have hji2_n := hji2_; simp only [Int.ofNat_lt] at hji2_n))
  obtain ⟨ji3, hji3⟩ : ∃ j_ : Int, (wrap64 (Int.tdiv (ji2) 8)) = j_ := ⟨_, rfl⟩
  replace H : (if 0 ≤ (ji3) then (if (ji3 : Int).toNat ≤ 281474976710656 then (sieve_Make.l0 k ji2 (List.replicate (ji3 : Int).toNat 0) l0 (l0.length : Int) 0) else (none)) else (none)) = some r := by first | (rw [hji3] at H; exact H) | (simp only [hji3] at H ⊢; exact H)
  have hji3w : (IntKind.i64.wrap (Int.tdiv (ji2) 8)) = ji3 := (i64_w _).trans hji3
  by_cases c4 : 0 ≤ (ji3)
  · rw [if_pos c4] at H
    have c4b0 := eq_true c4
    have c4b1 : decide (0 ≤ (ji3)) = true := decide_eq_true c4
    clear c4
    by_cases c5 : (ji3 : Int).toNat ≤ 281474976710656
    · rw [if_pos c5] at H
      have c5b0 := eq_true c5
      have c5b1 : decide ((ji3 : Int).toNat ≤ 281474976710656) = true := decide_eq_true c5
      clear c5
      obtain ⟨y101, hy101⟩ : ∃ y_ : List Int, y_ = (List.replicate (ji3 : Int).toNat 0) := ⟨_, rfl⟩
      replace H : (sieve_Make.l0 k ji2 y101 l0 (l0.length : Int) 0) = some r := by first | (rw [hy101]; with_reducible exact H) | (have H2_ := (Option.bind_some _ _).symm.trans H; rw [hy101]; with_reducible exact H2_) | (have H2_ := (Option.bind_some _ _).symm.trans H; with_reducible exact H2_) | with_reducible exact H | (rw [hy101]; exact H) | exact H
      have Ny101 := Aside0.mk hy101
      clear hy101
      have H' := Aside0.mk H
      clear H
      go_enter Try.func11, Try.ntmps11
      go_wp2_with (first | ((with_reducible refine gate_dst (N := 15) rfl ?_); refine Kd.R_make (Kd.int .u8) _ 5 rfl (N := 15) rfl 33 _ _ rfl ji3 (by first | rfl | (simp only [hji3]; rfl)) (by first | rfl | (simp only [hji3]; rfl)) Try.underlying33 (.int .u8 0) 1 info5 rfl (by decide) (by omega) 0 (ok := fun _ => True) (okp := fun _ => True) rfl (fun _ hk => hk) trivial (of_decide_eq_true (by first | (with_reducible assumption) | assumption)) (Nat.le_trans (Nat.mul_le_mul_right _ (of_decide_eq_true (by first | (with_reducible assumption) | assumption) : ji3.toNat ≤ 281474976710656)) (by omega)) (Below.refl _ _) (Nat.le_refl _) ?_; intro v102 w6 ho7 hb hg_ hnew_; clear hg_ hnew_; (first | rw [← Ny101.out] at ho7 | (simp only [Int.reduceToNat] at ho7; rw [← Ny101.out] at ho7)); have n0_ := Aside0.mk (Kd.R_lower ho7 (below_size (by repeat (first | (with_reducible first | exact HB.out | apply below_alloc | apply pw_below_drewN | apply below_drew1) | exact HB.out)))); have n1_ := Aside0.mk (below_step (by repeat (first | (with_reducible first | exact HB.out | apply below_alloc | apply pw_below_drewN | apply below_drew1) | exact HB.out)) hb); clear HB; have HO103 := n0_; have HB := n1_; clear n0_ n1_; clear hb ho7))
      go_loopg [18] k (fun kq v18 w' => ∃ (x4_1 : List Int) (x18_1 : Int), v18 = .int .i64 x18_1 ∧ Aside0 (sieve_Make.l0 kq ji2 x4_1 l0 (l0.length : Int) x18_1 = some r) ∧ Aside0 (kq ≤ k) ∧ Aside0 (Kd.R (Kd.int .u8) 5 w' w.heap.size (fun _ => True) v102 x4_1) ∧ Aside0 (Below w.heap.size w w'))
      case atStart => exact ⟨(y101), (0), (by first | rfl | (simp; done) | (simp [*]; done)), H', ⟨Nat.le_refl _⟩, ⟨by (with_reducible repeat (first | apply Kd.R_alloc | apply Kd.R_drewN | apply Kd.R_drew)); exact HO103.out⟩, ⟨by repeat (first | (with_reducible first | exact HB.out | apply below_alloc | apply pw_below_drewN | apply below_drew1) | exact HB.out)⟩⟩
      case round =>
        clear H'
        try clear c1
        try clear p2
        try clear c4
        try clear c4b0
        try clear c4b1
        try clear c5
        try clear c5b0
        try clear c5b1
        try clear p6
        obtain ⟨x4_1, x18_1, rfl, HA, HK1, HO_4, HB⟩ := hrel
        cases gk with
        | zero => exact absurd HA.out (by simp [sieve_Make.l0])
        | succ k1 =>
          have H := HA.out
          clear HA
          simp only [sieve_Make.l0] at H
          by_cases c8 : x18_1 < (l0.length : Int)
          · rw [if_pos c8] at H
            have c8b0 : decide (x18_1 < (l0.length : Int)) = true := decide_eq_true c8
            clear c8
            by_cases c9 : 0 ≤ x18_1
            · rw [if_pos c9] at H
              have c9b0 : decide (0 ≤ x18_1) = true := decide_eq_true c9
              clear c9
              by_cases c10 : x18_1 < (l0.length : Int)
              · rw [if_pos c10] at H
                have c10b0 : decide (x18_1 < (l0.length : Int)) = true := decide_eq_true c10
                clear c10
                replace H := Option.bind_eq_some_iff.mp H
                obtain ⟨⟨t105, t106, t107, t108⟩, A110, H⟩ := H
                replace H : (if 0 ≤ (IntKind.u64.wrap (Int.tdiv t105 8)) then (if (IntKind.u64.wrap (Int.tdiv t105 8)) < (x4_1.length : Int) then (if 0 ≤ (Int.tmod t105 8) then ((some (x4_1.set ((IntKind.u64.wrap (Int.tdiv t105 8)) : Int).toNat (Go.bits .or .u8 (rd x4_1 (IntKind.u64.wrap (Int.tdiv t105 8))) (shl .u8 1 (Int.tmod t105 8))) : List Int)).bind fun y110 => (if 0 ≤ (IntKind.u64.wrap (Int.tdiv t106 8)) then (if (IntKind.u64.wrap (Int.tdiv t106 8)) < (x4_1.length : Int) then (if 0 ≤ (Int.tmod t106 8) then ((some (y110.set ((IntKind.u64.wrap (Int.tdiv t106 8)) : Int).toNat (Go.bits .or .u8 (rd y110 (IntKind.u64.wrap (Int.tdiv t106 8))) (shl .u8 1 (Int.tmod t106 8))) : List Int)).bind fun y112 => (if 0 ≤ (IntKind.u64.wrap (Int.tdiv t107 8)) then (if (IntKind.u64.wrap (Int.tdiv t107 8)) < (x4_1.length : Int) then (if 0 ≤ (Int.tmod t107 8) then ((some (y112.set ((IntKind.u64.wrap (Int.tdiv t107 8)) : Int).toNat (Go.bits .or .u8 (rd y112 (IntKind.u64.wrap (Int.tdiv t107 8))) (shl .u8 1 (Int.tmod t107 8))) : List Int)).bind fun y114 => (if 0 ≤ (IntKind.u64.wrap (Int.tdiv t108 8)) then (if (IntKind.u64.wrap (Int.tdiv t108 8)) < (x4_1.length : Int) then (if 0 ≤ (Int.tmod t108 8) then (sieve_Make.l0 k1 ji2 (y114.set ((IntKind.u64.wrap (Int.tdiv t108 8)) : Int).toNat (Go.bits .or .u8 (rd y114 (IntKind.u64.wrap (Int.tdiv t108 8))) (shl .u8 1 (Int.tmod t108 8)))) l0 (l0.length : Int) (wrap64 (x18_1 + 1))) else (none)) else (none)) else (none))) else (none)) else (none)) else (none))) else (none)) else (none)) else (none))) else (none)) else (none)) else (none)) = some r := H
                have A11 := Aside0.mk A110
                clear A110
                obtain ⟨ji12, hji12⟩ : ∃ j_ : Int, (IntKind.u64.wrap (Int.tdiv t105 8)) = j_ := ⟨_, rfl⟩
                replace H : (if 0 ≤ (ji12) then (if (ji12) < (x4_1.length : Int) then (if 0 ≤ (Int.tmod t105 8) then ((some (x4_1.set ((ji12) : Int).toNat (Go.bits .or .u8 (rd x4_1 (ji12)) (shl .u8 1 (Int.tmod t105 8))) : List Int)).bind fun y110 => (if 0 ≤ (IntKind.u64.wrap (Int.tdiv t106 8)) then (if (IntKind.u64.wrap (Int.tdiv t106 8)) < (x4_1.length : Int) then (if 0 ≤ (Int.tmod t106 8) then ((some (y110.set ((IntKind.u64.wrap (Int.tdiv t106 8)) : Int).toNat (Go.bits .or .u8 (rd y110 (IntKind.u64.wrap (Int.tdiv t106 8))) (shl .u8 1 (Int.tmod t106 8))) : List Int)).bind fun y112 => (if 0 ≤ (IntKind.u64.wrap (Int.tdiv t107 8)) then (if (IntKind.u64.wrap (Int.tdiv t107 8)) < (x4_1.length : Int) then (if 0 ≤ (Int.tmod t107 8) then ((some (y112.set ((IntKind.u64.wrap (Int.tdiv t107 8)) : Int).toNat (Go.bits .or .u8 (rd y112 (IntKind.u64.wrap (Int.tdiv t107 8))) (shl .u8 1 (Int.tmod t107 8))) : List Int)).bind fun y114 => (if 0 ≤ (IntKind.u64.wrap (Int.tdiv t108 8)) then (if (IntKind.u64.wrap (Int.tdiv t108 8)) < (x4_1.length : Int) then (if 0 ≤ (Int.tmod t108 8) then (sieve_Make.l0 k1 ji2 (y114.set ((IntKind.u64.wrap (Int.tdiv t108 8)) : Int).toNat (Go.bits .or .u8 (rd y114 (IntKind.u64.wrap (Int.tdiv t108 8))) (shl .u8 1 (Int.tmod t108 8)))) l0 (l0.length : Int) (wrap64 (x18_1 + 1))) else (none)) else (none)) else (none))) else (none)) else (none)) else (none))) else (none)) else (none)) else (none))) else (none)) else (none)) else (none)) = some r := by first | (rw [hji12] at H; exact H) | (simp only [hji12] at H ⊢; exact H)
                (try rw [hji12] at A11)
                by_cases c13 : 0 ≤ (ji12)
                · rw [if_pos c13] at H
                  have c13b0 : decide (0 ≤ (ji12)) = true := decide_eq_true c13
                  clear c13
                  by_cases c14 : (ji12) < (x4_1.length : Int)
                  · rw [if_pos c14] at H
                    have c14b0 : decide ((ji12) < (x4_1.length : Int)) = true := decide_eq_true c14
                    clear c14
                    obtain ⟨ji15, hji15⟩ : ∃ j_ : Int, (Int.tmod t105 8) = j_ := ⟨_, rfl⟩
                    replace H : (if 0 ≤ (ji15) then ((some (x4_1.set ((ji12) : Int).toNat (Go.bits .or .u8 (rd x4_1 (ji12)) (shl .u8 1 (ji15))) : List Int)).bind fun y110 => (if 0 ≤ (IntKind.u64.wrap (Int.tdiv t106 8)) then (if (IntKind.u64.wrap (Int.tdiv t106 8)) < (x4_1.length : Int) then (if 0 ≤ (Int.tmod t106 8) then ((some (y110.set ((IntKind.u64.wrap (Int.tdiv t106 8)) : Int).toNat (Go.bits .or .u8 (rd y110 (IntKind.u64.wrap (Int.tdiv t106 8))) (shl .u8 1 (Int.tmod t106 8))) : List Int)).bind fun y112 => (if 0 ≤ (IntKind.u64.wrap (Int.tdiv t107 8)) then (if (IntKind.u64.wrap (Int.tdiv t107 8)) < (x4_1.length : Int) then (if 0 ≤ (Int.tmod t107 8) then ((some (y112.set ((IntKind.u64.wrap (Int.tdiv t107 8)) : Int).toNat (Go.bits .or .u8 (rd y112 (IntKind.u64.wrap (Int.tdiv t107 8))) (shl .u8 1 (Int.tmod t107 8))) : List Int)).bind fun y114 => (if 0 ≤ (IntKind.u64.wrap (Int.tdiv t108 8)) then (if (IntKind.u64.wrap (Int.tdiv t108 8)) < (x4_1.length : Int) then (if 0 ≤ (Int.tmod t108 8) then (sieve_Make.l0 k1 ji2 (y114.set ((IntKind.u64.wrap (Int.tdiv t108 8)) : Int).toNat (Go.bits .or .u8 (rd y114 (IntKind.u64.wrap (Int.tdiv t108 8))) (shl .u8 1 (Int.tmod t108 8)))) l0 (l0.length : Int) (wrap64 (x18_1 + 1))) else (none)) else (none)) else (none))) else (none)) else (none)) else (none))) else (none)) else (none)) else (none))) else (none)) = some r := by first | (rw [hji15] at H; exact H) | (simp only [hji15] at H ⊢; exact H)
                    (try rw [hji15] at A11)
                    by_cases c16 : 0 ≤ (ji15)
                    · rw [if_pos c16] at H
                      have c16b0 := eq_true c16
                      have c16b1 : decide (0 ≤ (ji15)) = true := decide_eq_true c16
                      clear c16
                      obtain ⟨ji17, hji17⟩ : ∃ j_ : Int, (shl .u8 1 (ji15)) = j_ := ⟨_, rfl⟩
                      replace H : ((some (x4_1.set ((ji12) : Int).toNat (Go.bits .or .u8 (rd x4_1 (ji12)) (ji17)) : List Int)).bind fun y110 => (if 0 ≤ (IntKind.u64.wrap (Int.tdiv t106 8)) then (if (IntKind.u64.wrap (Int.tdiv t106 8)) < (x4_1.length : Int) then (if 0 ≤ (Int.tmod t106 8) then ((some (y110.set ((IntKind.u64.wrap (Int.tdiv t106 8)) : Int).toNat (Go.bits .or .u8 (rd y110 (IntKind.u64.wrap (Int.tdiv t106 8))) (shl .u8 1 (Int.tmod t106 8))) : List Int)).bind fun y112 => (if 0 ≤ (IntKind.u64.wrap (Int.tdiv t107 8)) then (if (IntKind.u64.wrap (Int.tdiv t107 8)) < (x4_1.length : Int) then (if 0 ≤ (Int.tmod t107 8) then ((some (y112.set ((IntKind.u64.wrap (Int.tdiv t107 8)) : Int).toNat (Go.bits .or .u8 (rd y112 (IntKind.u64.wrap (Int.tdiv t107 8))) (shl .u8 1 (Int.tmod t107 8))) : List Int)).bind fun y114 => (if 0 ≤ (IntKind.u64.wrap (Int.tdiv t108 8)) then (if (IntKind.u64.wrap (Int.tdiv t108 8)) < (x4_1.length : Int) then (if 0 ≤ (Int.tmod t108 8) then (sieve_Make.l0 k1 ji2 (y114.set ((IntKind.u64.wrap (Int.tdiv t108 8)) : Int).toNat (Go.bits .or .u8 (rd y114 (IntKind.u64.wrap (Int.tdiv t108 8))) (shl .u8 1 (Int.tmod t108 8)))) l0 (l0.length : Int) (wrap64 (x18_1 + 1))) else (none)) else (none)) else (none))) else (none)) else (none)) else (none))) else (none)) else (none)) else (none))) = some r := by first | (rw [hji17] at H; exact H) | (simp only [hji17] at H ⊢; exact H)
                      (try rw [hji17] at A11)
                      have hji17_ : (IntKind.u8.wrap (1 * 2 ^ min (ji15).toNat 8)) = ji17 := hji17
                      have hji17z : (ji15) ≤ 8 → (IntKind.u8.wrap (1 * 2 ^ (ji15).toNat)) = ji17 := shl_small hji17
                      have hji17u : (IntKind.u8.wrap (2 ^ min (ji15).toNat 8)) = ji17 := by have h_ := hji17_; rw [Int.one_mul] at h_; exact h_
                      have hji17v : (ji15) ≤ 8 → (IntKind.u8.wrap (2 ^ (ji15).toNat)) = ji17 := fun hle_ => by have h_ := hji17z hle_; rw [Int.one_mul] at h_; exact h_
                      obtain ⟨y110, hy110⟩ : ∃ y_ : List Int, y_ = (x4_1.set ((ji12) : Int).toNat (Go.bits .or .u8 (rd x4_1 (ji12)) (ji17))) := ⟨_, rfl⟩
                      replace H : (if 0 ≤ (IntKind.u64.wrap (Int.tdiv t106 8)) then (if (IntKind.u64.wrap (Int.tdiv t106 8)) < (x4_1.length : Int) then (if 0 ≤ (Int.tmod t106 8) then ((some (y110.set ((IntKind.u64.wrap (Int.tdiv t106 8)) : Int).toNat (Go.bits .or .u8 (rd y110 (IntKind.u64.wrap (Int.tdiv t106 8))) (shl .u8 1 (Int.tmod t106 8))) : List Int)).bind fun y112 => (if 0 ≤ (IntKind.u64.wrap (Int.tdiv t107 8)) then (if (IntKind.u64.wrap (Int.tdiv t107 8)) < (x4_1.length : Int) then (if 0 ≤ (Int.tmod t107 8) then ((some (y112.set ((IntKind.u64.wrap (Int.tdiv t107 8)) : Int).toNat (Go.bits .or .u8 (rd y112 (IntKind.u64.wrap (Int.tdiv t107 8))) (shl .u8 1 (Int.tmod t107 8))) : List Int)).bind fun y114 => (if 0 ≤ (IntKind.u64.wrap (Int.tdiv t108 8)) then (if (IntKind.u64.wrap (Int.tdiv t108 8)) < (x4_1.length : Int) then (if 0 ≤ (Int.tmod t108 8) then (sieve_Make.l0 k1 ji2 (y114.set ((IntKind.u64.wrap (Int.tdiv t108 8)) : Int).toNat (Go.bits .or .u8 (rd y114 (IntKind.u64.wrap (Int.tdiv t108 8))) (shl .u8 1 (Int.tmod t108 8)))) l0 (l0.length : Int) (wrap64 (x18_1 + 1))) else (none)) else (none)) else (none))) else (none)) else (none)) else (none))) else (none)) else (none)) else (none)) = some r := by first | (rw [hy110]; with_reducible exact H) | (have H2_ := (Option.bind_some _ _).symm.trans H; rw [hy110]; with_reducible exact H2_) | (have H2_ := (Option.bind_some _ _).symm.trans H; with_reducible exact H2_) | with_reducible exact H | (rw [hy110]; exact H) | exact H
                      have Ny110 := Aside0.mk hy110
                      clear hy110
                      obtain ⟨ji19, hji19⟩ : ∃ j_ : Int, (IntKind.u64.wrap (Int.tdiv t106 8)) = j_ := ⟨_, rfl⟩
                      replace H : (if 0 ≤ (ji19) then (if (ji19) < (x4_1.length : Int) then (if 0 ≤ (Int.tmod t106 8) then ((some (y110.set ((ji19) : Int).toNat (Go.bits .or .u8 (rd y110 (ji19)) (shl .u8 1 (Int.tmod t106 8))) : List Int)).bind fun y112 => (if 0 ≤ (IntKind.u64.wrap (Int.tdiv t107 8)) then (if (IntKind.u64.wrap (Int.tdiv t107 8)) < (x4_1.length : Int) then (if 0 ≤ (Int.tmod t107 8) then ((some (y112.set ((IntKind.u64.wrap (Int.tdiv t107 8)) : Int).toNat (Go.bits .or .u8 (rd y112 (IntKind.u64.wrap (Int.tdiv t107 8))) (shl .u8 1 (Int.tmod t107 8))) : List Int)).bind fun y114 => (if 0 ≤ (IntKind.u64.wrap (Int.tdiv t108 8)) then (if (IntKind.u64.wrap (Int.tdiv t108 8)) < (x4_1.length : Int) then (if 0 ≤ (Int.tmod t108 8) then (sieve_Make.l0 k1 ji2 (y114.set ((IntKind.u64.wrap (Int.tdiv t108 8)) : Int).toNat (Go.bits .or .u8 (rd y114 (IntKind.u64.wrap (Int.tdiv t108 8))) (shl .u8 1 (Int.tmod t108 8)))) l0 (l0.length : Int) (wrap64 (x18_1 + 1))) else (none)) else (none)) else (none))) else (none)) else (none)) else (none))) else (none)) else (none)) else (none)) = some r := by first | (rw [hji19] at H; exact H) | (simp only [hji19] at H ⊢; exact H)
                      (try rw [hji19] at A11)
                      by_cases c20 : 0 ≤ (ji19)
                      · rw [if_pos c20] at H
                        have c20b0 : decide (0 ≤ (ji19)) = true := decide_eq_true c20
                        clear c20
                        by_cases c21 : (ji19) < (x4_1.length : Int)
                        · rw [if_pos c21] at H
                          have c21b0 : decide ((ji19) < (x4_1.length : Int)) = true := decide_eq_true c21
                          clear c21
                          obtain ⟨ji22, hji22⟩ : ∃ j_ : Int, (Int.tmod t106 8) = j_ := ⟨_, rfl⟩
                          replace H : (if 0 ≤ (ji22) then ((some (y110.set ((ji19) : Int).toNat (Go.bits .or .u8 (rd y110 (ji19)) (shl .u8 1 (ji22))) : List Int)).bind fun y112 => (if 0 ≤ (IntKind.u64.wrap (Int.tdiv t107 8)) then (if (IntKind.u64.wrap (Int.tdiv t107 8)) < (x4_1.length : Int) then (if 0 ≤ (Int.tmod t107 8) then ((some (y112.set ((IntKind.u64.wrap (Int.tdiv t107 8)) : Int).toNat (Go.bits .or .u8 (rd y112 (IntKind.u64.wrap (Int.tdiv t107 8))) (shl .u8 1 (Int.tmod t107 8))) : List Int)).bind fun y114 => (if 0 ≤ (IntKind.u64.wrap (Int.tdiv t108 8)) then (if (IntKind.u64.wrap (Int.tdiv t108 8)) < (x4_1.length : Int) then (if 0 ≤ (Int.tmod t108 8) then (sieve_Make.l0 k1 ji2 (y114.set ((IntKind.u64.wrap (Int.tdiv t108 8)) : Int).toNat (Go.bits .or .u8 (rd y114 (IntKind.u64.wrap (Int.tdiv t108 8))) (shl .u8 1 (Int.tmod t108 8)))) l0 (l0.length : Int) (wrap64 (x18_1 + 1))) else (none)) else (none)) else (none))) else (none)) else (none)) else (none))) else (none)) = some r := by first | (rw [hji22] at H; exact H) | (simp only [hji22] at H ⊢; exact H)
                          (try rw [hji22] at A11)
                          by_cases c23 : 0 ≤ (ji22)
                          · rw [if_pos c23] at H
                            have c23b0 := eq_true c23
                            have c23b1 : decide (0 ≤ (ji22)) = true := decide_eq_true c23
                            clear c23
                            obtain ⟨ji24, hji24⟩ : ∃ j_ : Int, (shl .u8 1 (ji22)) = j_ := ⟨_, rfl⟩
                            replace H : ((some (y110.set ((ji19) : Int).toNat (Go.bits .or .u8 (rd y110 (ji19)) (ji24)) : List Int)).bind fun y112 => (if 0 ≤ (IntKind.u64.wrap (Int.tdiv t107 8)) then (if (IntKind.u64.wrap (Int.tdiv t107 8)) < (x4_1.length : Int) then (if 0 ≤ (Int.tmod t107 8) then ((some (y112.set ((IntKind.u64.wrap (Int.tdiv t107 8)) : Int).toNat (Go.bits .or .u8 (rd y112 (IntKind.u64.wrap (Int.tdiv t107 8))) (shl .u8 1 (Int.tmod t107 8))) : List Int)).bind fun y114 => (if 0 ≤ (IntKind.u64.wrap (Int.tdiv t108 8)) then (if (IntKind.u64.wrap (Int.tdiv t108 8)) < (x4_1.length : Int) then (if 0 ≤ (Int.tmod t108 8) then (sieve_Make.l0 k1 ji2 (y114.set ((IntKind.u64.wrap (Int.tdiv t108 8)) : Int).toNat (Go.bits .or .u8 (rd y114 (IntKind.u64.wrap (Int.tdiv t108 8))) (shl .u8 1 (Int.tmod t108 8)))) l0 (l0.length : Int) (wrap64 (x18_1 + 1))) else (none)) else (none)) else (none))) else (none)) else (none)) else (none))) = some r := by first | (rw [hji24] at H; exact H) | (simp only [hji24] at H ⊢; exact H)
                            (try rw [hji24] at A11)
                            have hji24_ : (IntKind.u8.wrap (1 * 2 ^ min (ji22).toNat 8)) = ji24 := hji24
                            have hji24z : (ji22) ≤ 8 → (IntKind.u8.wrap (1 * 2 ^ (ji22).toNat)) = ji24 := shl_small hji24
                            have hji24u : (IntKind.u8.wrap (2 ^ min (ji22).toNat 8)) = ji24 := by have h_ := hji24_; rw [Int.one_mul] at h_; exact h_
                            have hji24v : (ji22) ≤ 8 → (IntKind.u8.wrap (2 ^ (ji22).toNat)) = ji24 := fun hle_ => by have h_ := hji24z hle_; rw [Int.one_mul] at h_; exact h_
                            obtain ⟨y112, hy112⟩ : ∃ y_ : List Int, y_ = (y110.set ((ji19) : Int).toNat (Go.bits .or .u8 (rd y110 (ji19)) (ji24))) := ⟨_, rfl⟩
                            replace H : (if 0 ≤ (IntKind.u64.wrap (Int.tdiv t107 8)) then (if (IntKind.u64.wrap (Int.tdiv t107 8)) < (x4_1.length : Int) then (if 0 ≤ (Int.tmod t107 8) then ((some (y112.set ((IntKind.u64.wrap (Int.tdiv t107 8)) : Int).toNat (Go.bits .or .u8 (rd y112 (IntKind.u64.wrap (Int.tdiv t107 8))) (shl .u8 1 (Int.tmod t107 8))) : List Int)).bind fun y114 => (if 0 ≤ (IntKind.u64.wrap (Int.tdiv t108 8)) then (if (IntKind.u64.wrap (Int.tdiv t108 8)) < (x4_1.length : Int) then (if 0 ≤ (Int.tmod t108 8) then (sieve_Make.l0 k1 ji2 (y114.set ((IntKind.u64.wrap (Int.tdiv t108 8)) : Int).toNat (Go.bits .or .u8 (rd y114 (IntKind.u64.wrap (Int.tdiv t108 8))) (shl .u8 1 (Int.tmod t108 8)))) l0 (l0.length : Int) (wrap64 (x18_1 + 1))) else (none)) else (none)) else (none))) else (none)) else (none)) else (none)) = some r := by first | (rw [hy112]; with_reducible exact H) | (have H2_ := (Option.bind_some _ _).symm.trans H; rw [hy112]; with_reducible exact H2_) | (have H2_ := (Option.bind_some _ _).symm.trans H; with_reducible exact H2_) | with_reducible exact H | (rw [hy112]; exact H) | exact H
                            have Ny112 := Aside0.mk hy112
                            clear hy112
                            obtain ⟨ji26, hji26⟩ : ∃ j_ : Int, (IntKind.u64.wrap (Int.tdiv t107 8)) = j_ := ⟨_, rfl⟩
                            replace H : (if 0 ≤ (ji26) then (if (ji26) < (x4_1.length : Int) then (if 0 ≤ (Int.tmod t107 8) then ((some (y112.set ((ji26) : Int).toNat (Go.bits .or .u8 (rd y112 (ji26)) (shl .u8 1 (Int.tmod t107 8))) : List Int)).bind fun y114 => (if 0 ≤ (IntKind.u64.wrap (Int.tdiv t108 8)) then (if (IntKind.u64.wrap (Int.tdiv t108 8)) < (x4_1.length : Int) then (if 0 ≤ (Int.tmod t108 8) then (sieve_Make.l0 k1 ji2 (y114.set ((IntKind.u64.wrap (Int.tdiv t108 8)) : Int).toNat (Go.bits .or .u8 (rd y114 (IntKind.u64.wrap (Int.tdiv t108 8))) (shl .u8 1 (Int.tmod t108 8)))) l0 (l0.length : Int) (wrap64 (x18_1 + 1))) else (none)) else (none)) else (none))) else (none)) else (none)) else (none)) = some r := by first | (rw [hji26] at H; exact H) | (simp only [hji26] at H ⊢; exact H)
                            (try rw [hji26] at A11)
                            by_cases c27 : 0 ≤ (ji26)
                            · rw [if_pos c27] at H
                              have c27b0 : decide (0 ≤ (ji26)) = true := decide_eq_true c27
                              clear c27
                              by_cases c28 : (ji26) < (x4_1.length : Int)
                              · rw [if_pos c28] at H
                                have c28b0 : decide ((ji26) < (x4_1.length : Int)) = true := decide_eq_true c28
                                clear c28
                                obtain ⟨ji29, hji29⟩ : ∃ j_ : Int, (Int.tmod t107 8) = j_ := ⟨_, rfl⟩
                                replace H : (if 0 ≤ (ji29) then ((some (y112.set ((ji26) : Int).toNat (Go.bits .or .u8 (rd y112 (ji26)) (shl .u8 1 (ji29))) : List Int)).bind fun y114 => (if 0 ≤ (IntKind.u64.wrap (Int.tdiv t108 8)) then (if (IntKind.u64.wrap (Int.tdiv t108 8)) < (x4_1.length : Int) then (if 0 ≤ (Int.tmod t108 8) then (sieve_Make.l0 k1 ji2 (y114.set ((IntKind.u64.wrap (Int.tdiv t108 8)) : Int).toNat (Go.bits .or .u8 (rd y114 (IntKind.u64.wrap (Int.tdiv t108 8))) (shl .u8 1 (Int.tmod t108 8)))) l0 (l0.length : Int) (wrap64 (x18_1 + 1))) else (none)) else (none)) else (none))) else (none)) = some r := by first | (rw [hji29] at H; exact H) | (simp only [hji29] at H ⊢; exact H)
                                (try rw [hji29] at A11)
                                by_cases c30 : 0 ≤ (ji29)
                                · rw [if_pos c30] at H
                                  have c30b0 := eq_true c30
                                  have c30b1 : decide (0 ≤ (ji29)) = true := decide_eq_true c30
                                  clear c30
                                  obtain ⟨ji31, hji31⟩ : ∃ j_ : Int, (shl .u8 1 (ji29)) = j_ := ⟨_, rfl⟩
                                  replace H : ((some (y112.set ((ji26) : Int).toNat (Go.bits .or .u8 (rd y112 (ji26)) (ji31)) : List Int)).bind fun y114 => (if 0 ≤ (IntKind.u64.wrap (Int.tdiv t108 8)) then (if (IntKind.u64.wrap (Int.tdiv t108 8)) < (x4_1.length : Int) then (if 0 ≤ (Int.tmod t108 8) then (sieve_Make.l0 k1 ji2 (y114.set ((IntKind.u64.wrap (Int.tdiv t108 8)) : Int).toNat (Go.bits .or .u8 (rd y114 (IntKind.u64.wrap (Int.tdiv t108 8))) (shl .u8 1 (Int.tmod t108 8)))) l0 (l0.length : Int) (wrap64 (x18_1 + 1))) else (none)) else (none)) else (none))) = some r := by first | (rw [hji31] at H; exact H) | (simp only [hji31] at H ⊢; exact H)
                                  (try rw [hji31] at A11)
                                  have hji31_ : (IntKind.u8.wrap (1 * 2 ^ min (ji29).toNat 8)) = ji31 := hji31
                                  have hji31z : (ji29) ≤ 8 → (IntKind.u8.wrap (1 * 2 ^ (ji29).toNat)) = ji31 := shl_small hji31
                                  have hji31u : (IntKind.u8.wrap (2 ^ min (ji29).toNat 8)) = ji31 := by have h_ := hji31_; rw [Int.one_mul] at h_; exact h_
                                  have hji31v : (ji29) ≤ 8 → (IntKind.u8.wrap (2 ^ (ji29).toNat)) = ji31 := fun hle_ => by have h_ := hji31z hle_; rw [Int.one_mul] at h_; exact h_
                                  obtain ⟨y114, hy114⟩ : ∃ y_ : List Int, y_ = (y112.set ((ji26) : Int).toNat (Go.bits .or .u8 (rd y112 (ji26)) (ji31))) := ⟨_, rfl⟩
                                  replace H : (if 0 ≤ (IntKind.u64.wrap (Int.tdiv t108 8)) then (if (IntKind.u64.wrap (Int.tdiv t108 8)) < (x4_1.length : Int) then (if 0 ≤ (Int.tmod t108 8) then (sieve_Make.l0 k1 ji2 (y114.set ((IntKind.u64.wrap (Int.tdiv t108 8)) : Int).toNat (Go.bits .or .u8 (rd y114 (IntKind.u64.wrap (Int.tdiv t108 8))) (shl .u8 1 (Int.tmod t108 8)))) l0 (l0.length : Int) (wrap64 (x18_1 + 1))) else (none)) else (none)) else (none)) = some r := by first | (rw [hy114]; with_reducible exact H) | (have H2_ := (Option.bind_some _ _).symm.trans H; rw [hy114]; with_reducible exact H2_) | (have H2_ := (Option.bind_some _ _).symm.trans H; with_reducible exact H2_) | with_reducible exact H | (rw [hy114]; exact H) | exact H
                                  have Ny114 := Aside0.mk hy114
                                  clear hy114
                                  obtain ⟨ji33, hji33⟩ : ∃ j_ : Int, (IntKind.u64.wrap (Int.tdiv t108 8)) = j_ := ⟨_, rfl⟩
                                  replace H : (if 0 ≤ (ji33) then (if (ji33) < (x4_1.length : Int) then (if 0 ≤ (Int.tmod t108 8) then (sieve_Make.l0 k1 ji2 (y114.set ((ji33) : Int).toNat (Go.bits .or .u8 (rd y114 (ji33)) (shl .u8 1 (Int.tmod t108 8)))) l0 (l0.length : Int) (wrap64 (x18_1 + 1))) else (none)) else (none)) else (none)) = some r := by first | (rw [hji33] at H; exact H) | (simp only [hji33] at H ⊢; exact H)
                                  (try rw [hji33] at A11)
                                  by_cases c34 : 0 ≤ (ji33)
                                  · rw [if_pos c34] at H
                                    have c34b0 : decide (0 ≤ (ji33)) = true := decide_eq_true c34
                                    clear c34
                                    by_cases c35 : (ji33) < (x4_1.length : Int)
                                    · rw [if_pos c35] at H
                                      have c35b0 : decide ((ji33) < (x4_1.length : Int)) = true := decide_eq_true c35
                                      clear c35
                                      obtain ⟨ji36, hji36⟩ : ∃ j_ : Int, (Int.tmod t108 8) = j_ := ⟨_, rfl⟩
                                      replace H : (if 0 ≤ (ji36) then (sieve_Make.l0 k1 ji2 (y114.set ((ji33) : Int).toNat (Go.bits .or .u8 (rd y114 (ji33)) (shl .u8 1 (ji36)))) l0 (l0.length : Int) (wrap64 (x18_1 + 1))) else (none)) = some r := by first | (rw [hji36] at H; exact H) | (simp only [hji36] at H ⊢; exact H)
                                      (try rw [hji36] at A11)
                                      by_cases c37 : 0 ≤ (ji36)
                                      · rw [if_pos c37] at H
                                        have c37b0 := eq_true c37
                                        have c37b1 : decide (0 ≤ (ji36)) = true := decide_eq_true c37
                                        clear c37
                                        obtain ⟨ji38, hji38⟩ : ∃ j_ : Int, (shl .u8 1 (ji36)) = j_ := ⟨_, rfl⟩
                                        replace H : (sieve_Make.l0 k1 ji2 (y114.set ((ji33) : Int).toNat (Go.bits .or .u8 (rd y114 (ji33)) (ji38))) l0 (l0.length : Int) (wrap64 (x18_1 + 1))) = some r := by first | (rw [hji38] at H; exact H) | (simp only [hji38] at H ⊢; exact H)
                                        (try rw [hji38] at A11)
                                        have hji38_ : (IntKind.u8.wrap (1 * 2 ^ min (ji36).toNat 8)) = ji38 := hji38
                                        have hji38z : (ji36) ≤ 8 → (IntKind.u8.wrap (1 * 2 ^ (ji36).toNat)) = ji38 := shl_small hji38
                                        have hji38u : (IntKind.u8.wrap (2 ^ min (ji36).toNat 8)) = ji38 := by have h_ := hji38_; rw [Int.one_mul] at h_; exact h_
                                        have hji38v : (ji36) ≤ 8 → (IntKind.u8.wrap (2 ^ (ji36).toNat)) = ji38 := fun hle_ => by have h_ := hji38z hle_; rw [Int.one_mul] at h_; exact h_
                                        obtain ⟨y116, hy116⟩ : ∃ y_ : List Int, y_ = (y114.set ((ji33) : Int).toNat (Go.bits .or .u8 (rd y114 (ji33)) (ji38))) := ⟨_, rfl⟩
                                        replace H : (sieve_Make.l0 k1 ji2 y116 l0 (l0.length : Int) (wrap64 (x18_1 + 1))) = some r := by first | (rw [hy116]; with_reducible exact H) | (have H2_ := (Option.bind_some _ _).symm.trans H; rw [hy116]; with_reducible exact H2_) | (have H2_ := (Option.bind_some _ _).symm.trans H; with_reducible exact H2_) | with_reducible exact H | (rw [hy116]; exact H) | exact H
                                        have Ny116 := Aside0.mk hy116
                                        clear hy116
                                        have H' := Aside0.mk H
                                        clear H
                                        have p104 : 0 ≤ (x18_1 : Int) := of_decide_eq_true (by first | (with_reducible assumption) | assumption)
                                        have q104 : x18_1 < (l0.length : Int) := of_decide_eq_true (by first | (with_reducible assumption) | assumption)
                                        obtain ⟨ad104, e104, hx104_0⟩ := Kd.at_string HR0.out x18_1 p104 q104
                                        cases e104
                                        replace hx104_0 := (HB.out.cell (World.block_lt_of_cell? w _ hx104_0)).trans hx104_0
                                        replace p104 := eq_true p104
                                        replace q104 := eq_true q104
                                        go_wp2_with (first | ((with_reducible refine gate_callee (f := 15) rfl ?_); refine goesL_ (some 24) rfl rfl Try.func15 (by kernel_rfl) rfl #[.string (rdOf ByteArray.empty l0 x18_1), .int .i64 ji2] rfl (by (try simp only [List.map_toArray, List.map_cons, List.map_nil]); first | done | (simp only [hji2]; rfl) | rfl | (simp only [List.length_drop, List.length_take]; rfl)) ?_; (with_reducible refine (sieve_places.calls k1 (rdOf ByteArray.empty l0 x18_1) ji2 t105 t106 t107 t108 _ A11.out).mono ?_); rintro e w40 ⟨rfl, hb⟩; refine ⟨_, rfl, ?_⟩; have n0_ := Aside0.mk (Kd.R_below (by (with_reducible repeat (first | apply Kd.R_alloc | apply Kd.R_drewN | apply Kd.R_drew)); exact HO_4.out) hb); have n1_ := Aside0.mk (below_step (by repeat (first | (with_reducible first | exact HB.out | apply below_alloc | apply pw_below_drewN | apply below_drew1) | exact HB.out)) hb); clear HO_4; clear HB; have HO_4 := n0_; have HB := n1_; clear n0_ n1_; (try clear hb); (try clear hb2); (try clear hk); (try clear hi)))
                                        refine wp_loop_rounds 5 ?_
                                        rw [rounds_succ]
                                        have hia41 := fun w_ : World => (show (Instr.index 37 (.agg #[.int .u64 t105, .int .u64 t106, .int .u64 t107, .int .u64 t108]) (.int .i64 0)).run Try.prog w_ = .ok (.int .u64 t105) w_ from by first | rfl | kernel_rfl)
                                        obtain ⟨Ao42, co42, eo42⟩ := Kd.R_slice HO_4.out
                                        subst eo42
                                        have p109 : 0 ≤ ((ji12) : Int) := of_decide_eq_true (by first | (with_reducible assumption) | assumption)
                                        have q109 : (ji12) < (x4_1.length : Int) := of_decide_eq_true (by first | (with_reducible assumption) | assumption)
                                        obtain ⟨ad109, e109, hx109_0⟩ := Kd.at_int (Kd.R_reads' HO_4.out).2.2 (ji12) p109 q109
                                        cases e109
                                        replace p109 := eq_true p109
                                        replace q109 := eq_true q109
                                        have p18 : 0 ≤ ((ji12) : Int) := of_decide_eq_true (by first | (with_reducible assumption) | assumption)
                                        have q18 : ((ji12) : Int) < ((x4_1.length : Int) : Int) := of_decide_eq_true (by first | (with_reducible assumption) | assumption)
                                        obtain ⟨go18, co18, eo18, gb18, gl18, cl18, HG18⟩ := Kd.R_form HO_4.out (by omega)
                                        (first | cases eo18 | (injection eo18 with ea_ en_ ec_; (first | subst ea_ | (injection ea_ with ea_; subst ea_)); subst ec_; clear en_))
                                        have GB18 := Aside0.mk gb18
                                        have GG18 := Aside0.mk HG18
                                        clear gb18 gl18 HG18
                                        (first | simp only [add_plain] at hx109_0 | skip)
                                        obtain ⟨hx18_0, hf18_0⟩ := Kd.R_celln 0 HO_4.out ((ji12) : Int) p18 q18
                                        replace p18 := eq_true p18
                                        replace q18 := eq_true q18
                                        obtain ⟨hy43_, hz43_⟩ := Kd.R_celln 0 HO_4.out ((ji12) : Int) (of_decide_eq_true (by first | (with_reducible assumption) | assumption)) (of_decide_eq_true (by first | (with_reducible assumption) | assumption))
                                        have HP43 := Kd.R_putg HO_4.out ((ji12) : Int) (Go.bits .or .u8 (rd x4_1 (ji12)) (ji17))
                                        go_wp2_with (first | ((with_reducible refine gate_store (t := 5) (p := 37) rfl ?_); refine store_event (t := 5) (p := 37) (v := ?vo_w44) (w1 := (w40.setCell ⟨go18, ((ji12) : Int).toNat, none⟩ (.int .u8 (Go.bits .or .u8 (rd x4_1 (ji12)) (ji17))))) ?hg ?ho ?hn ?hr ?_; (case ho => rfl); (case hg => rfl); (case hn => rfl); (case hr => first | (go_simp; done) | (go_simp; rfl)); intro w44 hw; have hg : w40.grownBy w44 (some go18) := (by rw [hw]; exact HP43.2); have hp_ : Kd.R (Kd.int .u8) 5 w44 w.heap.size (fun _ => True) (.slice (some ⟨go18, 0, none⟩) x4_1.length co42) y110 := (by rw [hw, Ny110.out]; exact HP43.1); clear HP43; have n0_ := Aside0.mk (hp_); have n1_ := Aside0.mk ((by rw [hw]; exact below_set (HB.out) GB18.out : Below w.heap.size w w44)); clear HO_4; clear HB; have HO_4 := n0_; have HB := n1_; clear n0_ n1_; clear hg hw hp_))
                                        rw [rounds_succ]
                                        have hia45 := fun w_ : World => (show (Instr.index 37 (.agg #[.int .u64 t105, .int .u64 t106, .int .u64 t107, .int .u64 t108]) (.int .i64 1)).run Try.prog w_ = .ok (.int .u64 t106) w_ from by first | rfl | kernel_rfl)
                                        have p111 : 0 ≤ ((ji19) : Int) := of_decide_eq_true (by first | (with_reducible assumption) | assumption)
                                        have q111 : (ji19) < (y110.length : Int) := (by have h_ : ((ji19) : Int) < ((x4_1.length : Int) : Int) := of_decide_eq_true (by first | (with_reducible assumption) | assumption); first | (have e_ := (Kd.R_reads' HO_4.out).1; omega) | simpa only [Ny110.out, List.length_set] using h_)
                                        have ql111 : (((ji19) : Int) < ((x4_1.length : Int) : Int)) = True := eq_true (of_decide_eq_true (by first | (with_reducible assumption) | assumption))
                                        obtain ⟨ad111, e111, hx111_0⟩ := Kd.at_int (Kd.R_reads' HO_4.out).2.2 (ji19) p111 q111
                                        obtain rfl : (⟨go18, 0, none⟩ : Addr) = ad111 := (by injection e111)
                                        (first | simp only [add_plain] at hx111_0 | simp only [add_at] at hx111_0 | simp only [Addr.add, Nat.zero_add] at hx111_0 | skip)
                                        replace p111 := eq_true p111
                                        replace q111 := eq_true q111
                                        have p25 : 0 ≤ ((ji19) : Int) := of_decide_eq_true (by first | (with_reducible assumption) | assumption)
                                        have q25 : ((ji19) : Int) < ((x4_1.length : Int) : Int) := of_decide_eq_true (by first | (with_reducible assumption) | assumption)
                                        obtain ⟨hx25_0, hf25_0⟩ := Kd.R_celln 0 HO_4.out ((ji19) : Int) p25 q25
                                        replace p25 := eq_true p25
                                        replace q25 := eq_true q25
                                        obtain ⟨hy46_, hz46_⟩ := Kd.R_celln 0 HO_4.out ((ji19) : Int) (of_decide_eq_true (by first | (with_reducible assumption) | assumption)) (of_decide_eq_true (by first | (with_reducible assumption) | assumption))
                                        have HP46 := Kd.R_putg HO_4.out ((ji19) : Int) (Go.bits .or .u8 (rd y110 (ji19)) (ji24))
                                        go_wp2_with (first | ((with_reducible refine gate_store (t := 5) (p := 37) rfl ?_); refine store_event (t := 5) (p := 37) (v := ?vo_w47) (w1 := (w44.setCell ⟨go18, ((ji19) : Int).toNat, none⟩ (.int .u8 (Go.bits .or .u8 (rd y110 (ji19)) (ji24))))) ?hg ?ho ?hn ?hr ?_; (case ho => rfl); (case hg => rfl); (case hn => rfl); (case hr => first | (go_simp; done) | (go_simp; rfl)); intro w47 hw; have hg : w44.grownBy w47 (some go18) := (by rw [hw]; exact HP46.2); have hp_ : Kd.R (Kd.int .u8) 5 w47 w.heap.size (fun _ => True) (.slice (some ⟨go18, 0, none⟩) x4_1.length co42) y112 := (by rw [hw, Ny112.out]; exact HP46.1); clear HP46; have n0_ := Aside0.mk (hp_); have n1_ := Aside0.mk ((by rw [hw]; exact below_set (HB.out) GB18.out : Below w.heap.size w w47)); clear HO_4; clear HB; have HO_4 := n0_; have HB := n1_; clear n0_ n1_; clear hg hw hp_))
                                        rw [rounds_succ]
                                        have hia48 := fun w_ : World => (show (Instr.index 37 (.agg #[.int .u64 t105, .int .u64 t106, .int .u64 t107, .int .u64 t108]) (.int .i64 2)).run Try.prog w_ = .ok (.int .u64 t107) w_ from by first | rfl | kernel_rfl)
                                        have p113 : 0 ≤ ((ji26) : Int) := of_decide_eq_true (by first | (with_reducible assumption) | assumption)
                                        have q113 : (ji26) < (y112.length : Int) := (by have h_ : ((ji26) : Int) < ((x4_1.length : Int) : Int) := of_decide_eq_true (by first | (with_reducible assumption) | assumption); first | (have e_ := (Kd.R_reads' HO_4.out).1; omega) | simpa only [Ny110.out, Ny112.out, List.length_set] using h_)
                                        have ql113 : (((ji26) : Int) < ((x4_1.length : Int) : Int)) = True := eq_true (of_decide_eq_true (by first | (with_reducible assumption) | assumption))
                                        obtain ⟨ad113, e113, hx113_0⟩ := Kd.at_int (Kd.R_reads' HO_4.out).2.2 (ji26) p113 q113
                                        obtain rfl : (⟨go18, 0, none⟩ : Addr) = ad113 := (by injection e113)
                                        (first | simp only [add_plain] at hx113_0 | simp only [add_at] at hx113_0 | simp only [Addr.add, Nat.zero_add] at hx113_0 | skip)
                                        replace p113 := eq_true p113
                                        replace q113 := eq_true q113
                                        have p32 : 0 ≤ ((ji26) : Int) := of_decide_eq_true (by first | (with_reducible assumption) | assumption)
                                        have q32 : ((ji26) : Int) < ((x4_1.length : Int) : Int) := of_decide_eq_true (by first | (with_reducible assumption) | assumption)
                                        obtain ⟨hx32_0, hf32_0⟩ := Kd.R_celln 0 HO_4.out ((ji26) : Int) p32 q32
                                        replace p32 := eq_true p32
                                        replace q32 := eq_true q32
                                        obtain ⟨hy49_, hz49_⟩ := Kd.R_celln 0 HO_4.out ((ji26) : Int) (of_decide_eq_true (by first | (with_reducible assumption) | assumption)) (of_decide_eq_true (by first | (with_reducible assumption) | assumption))
                                        have HP49 := Kd.R_putg HO_4.out ((ji26) : Int) (Go.bits .or .u8 (rd y112 (ji26)) (ji31))
                                        go_wp2_with (first | ((with_reducible refine gate_store (t := 5) (p := 37) rfl ?_); refine store_event (t := 5) (p := 37) (v := ?vo_w50) (w1 := (w47.setCell ⟨go18, ((ji26) : Int).toNat, none⟩ (.int .u8 (Go.bits .or .u8 (rd y112 (ji26)) (ji31))))) ?hg ?ho ?hn ?hr ?_; (case ho => rfl); (case hg => rfl); (case hn => rfl); (case hr => first | (go_simp; done) | (go_simp; rfl)); intro w50 hw; have hg : w47.grownBy w50 (some go18) := (by rw [hw]; exact HP49.2); have hp_ : Kd.R (Kd.int .u8) 5 w50 w.heap.size (fun _ => True) (.slice (some ⟨go18, 0, none⟩) x4_1.length co42) y114 := (by rw [hw, Ny114.out]; exact HP49.1); clear HP49; have n0_ := Aside0.mk (hp_); have n1_ := Aside0.mk ((by rw [hw]; exact below_set (HB.out) GB18.out : Below w.heap.size w w50)); clear HO_4; clear HB; have HO_4 := n0_; have HB := n1_; clear n0_ n1_; clear hg hw hp_))
                                        rw [rounds_succ]
                                        have hia51 := fun w_ : World => (show (Instr.index 37 (.agg #[.int .u64 t105, .int .u64 t106, .int .u64 t107, .int .u64 t108]) (.int .i64 3)).run Try.prog w_ = .ok (.int .u64 t108) w_ from by first | rfl | kernel_rfl)
                                        have p115 : 0 ≤ ((ji33) : Int) := of_decide_eq_true (by first | (with_reducible assumption) | assumption)
                                        have q115 : (ji33) < (y114.length : Int) := (by have h_ : ((ji33) : Int) < ((x4_1.length : Int) : Int) := of_decide_eq_true (by first | (with_reducible assumption) | assumption); first | (have e_ := (Kd.R_reads' HO_4.out).1; omega) | simpa only [Ny110.out, Ny112.out, Ny114.out, List.length_set] using h_)
                                        have ql115 : (((ji33) : Int) < ((x4_1.length : Int) : Int)) = True := eq_true (of_decide_eq_true (by first | (with_reducible assumption) | assumption))
                                        obtain ⟨ad115, e115, hx115_0⟩ := Kd.at_int (Kd.R_reads' HO_4.out).2.2 (ji33) p115 q115
                                        obtain rfl : (⟨go18, 0, none⟩ : Addr) = ad115 := (by injection e115)
                                        (first | simp only [add_plain] at hx115_0 | simp only [add_at] at hx115_0 | simp only [Addr.add, Nat.zero_add] at hx115_0 | skip)
                                        replace p115 := eq_true p115
                                        replace q115 := eq_true q115
                                        have p39 : 0 ≤ ((ji33) : Int) := of_decide_eq_true (by first | (with_reducible assumption) | assumption)
                                        have q39 : ((ji33) : Int) < ((x4_1.length : Int) : Int) := of_decide_eq_true (by first | (with_reducible assumption) | assumption)
                                        obtain ⟨hx39_0, hf39_0⟩ := Kd.R_celln 0 HO_4.out ((ji33) : Int) p39 q39
                                        replace p39 := eq_true p39
                                        replace q39 := eq_true q39
                                        obtain ⟨hy52_, hz52_⟩ := Kd.R_celln 0 HO_4.out ((ji33) : Int) (of_decide_eq_true (by first | (with_reducible assumption) | assumption)) (of_decide_eq_true (by first | (with_reducible assumption) | assumption))
                                        have HP52 := Kd.R_putg HO_4.out ((ji33) : Int) (Go.bits .or .u8 (rd y114 (ji33)) (ji38))
                                        go_wp2_with (first | ((with_reducible refine gate_store (t := 5) (p := 37) rfl ?_); refine store_event (t := 5) (p := 37) (v := ?vo_w53) (w1 := (w50.setCell ⟨go18, ((ji33) : Int).toNat, none⟩ (.int .u8 (Go.bits .or .u8 (rd y114 (ji33)) (ji38))))) ?hg ?ho ?hn ?hr ?_; (case ho => rfl); (case hg => rfl); (case hn => rfl); (case hr => first | (go_simp; done) | (go_simp; rfl)); intro w53 hw; have hg : w50.grownBy w53 (some go18) := (by rw [hw]; exact HP52.2); have hp_ : Kd.R (Kd.int .u8) 5 w53 w.heap.size (fun _ => True) (.slice (some ⟨go18, 0, none⟩) x4_1.length co42) y116 := (by rw [hw, Ny116.out]; exact HP52.1); clear HP52; have n0_ := Aside0.mk (hp_); have n1_ := Aside0.mk ((by rw [hw]; exact below_set (HB.out) GB18.out : Below w.heap.size w w53)); clear HO_4; clear HB; have HO_4 := n0_; have HB := n1_; clear n0_ n1_; clear hg hw hp_))
                                        rw [rounds_succ]
                                        go_wp2
                                        go_roundg k1
                                        case measure => have := HK1.out; omega
                                        case rel => exact ⟨(y116), (wrap64 (x18_1 + 1)), (by first | rfl | (simp; done) | (simp [*]; done)), H', ⟨by have := HK1.out; omega⟩, ⟨by (with_reducible repeat (first | apply Kd.R_alloc | apply Kd.R_drewN | apply Kd.R_drew)); exact HO_4.out⟩, ⟨by repeat (first | (with_reducible first | exact HB.out | apply below_alloc | apply pw_below_drewN | apply below_drew1) | exact HB.out)⟩⟩
                                      · rw [if_neg c37] at H
                                        exact absurd H (by simp)
                                    · rw [if_neg c35] at H
                                      exact absurd H (by simp)
                                  · rw [if_neg c34] at H
                                    exact absurd H (by simp)
                                · rw [if_neg c30] at H
                                  exact absurd H (by simp)
                              · rw [if_neg c28] at H
                                exact absurd H (by simp)
                            · rw [if_neg c27] at H
                              exact absurd H (by simp)
                          · rw [if_neg c23] at H
                            exact absurd H (by simp)
                        · rw [if_neg c21] at H
                          exact absurd H (by simp)
                      · rw [if_neg c20] at H
                        exact absurd H (by simp)
                    · rw [if_neg c16] at H
                      exact absurd H (by simp)
                  · rw [if_neg c14] at H
                    exact absurd H (by simp)
                · rw [if_neg c13] at H
                  exact absurd H (by simp)
              · rw [if_neg c10] at H
                exact absurd H (by simp)
            · rw [if_neg c9] at H
              exact absurd H (by simp)
          · rw [if_neg c8] at H
            have c8b0 : decide (x18_1 < (l0.length : Int)) = false := decide_eq_false c8
            clear c8
            obtain rfl := Option.some.inj H
            have hcv54 := own_string (P := Try.prog) Try.underlying33 Try.underlying5 Try.underlying9 (Kd.own_of_R HO_4.out)
            go_wp2
            go_ret
            exact ⟨by first | rfl | (simp [errW_none, errW_some] <;> rfl) | (simp only [← hji2, ← hji3]; first | rfl | (simp [errW_none, errW_some] <;> rfl)) | (simp [*, errW_none, errW_some] <;> rfl), by repeat (first | (with_reducible first | exact HB.out | apply below_alloc | apply pw_below_drewN | apply below_drew1) | exact HB.out)⟩
    · rw [if_neg c5] at H
      exact absurd H (by simp)
  · rw [if_neg c4] at H
    exact absurd H (by simp)

/-! ### sieve_May: function 13 -/
def sieve_May.f (k : Nat) (a0 : ByteArray) (a1 : ByteArray) : Option (Bool) := if a0.toList = ([] : List UInt8) then (some true) else ((sieve_places.f k a1 (wrap64 (8 * (a0.size : Int)))).bind fun bt117 => (if 0 ≤ (IntKind.u64.wrap (Int.tdiv bt117.1 8)) then (if (IntKind.u64.wrap (Int.tdiv bt117.1 8)) < (a0.size : Int) then (if 0 ≤ (Int.tmod bt117.1 8) then (if (Go.bits .and .u8 (shr .u8 (bt a0 (IntKind.u64.wrap (Int.tdiv bt117.1 8))) (Int.tmod bt117.1 8)) 1) = 1 then (if 0 ≤ (IntKind.u64.wrap (Int.tdiv bt117.2.1 8)) then (if (IntKind.u64.wrap (Int.tdiv bt117.2.1 8)) < (a0.size : Int) then (if 0 ≤ (Int.tmod bt117.2.1 8) then (if (Go.bits .and .u8 (shr .u8 (bt a0 (IntKind.u64.wrap (Int.tdiv bt117.2.1 8))) (Int.tmod bt117.2.1 8)) 1) = 1 then (if 0 ≤ (IntKind.u64.wrap (Int.tdiv bt117.2.2.1 8)) then (if (IntKind.u64.wrap (Int.tdiv bt117.2.2.1 8)) < (a0.size : Int) then (if 0 ≤ (Int.tmod bt117.2.2.1 8) then (if (Go.bits .and .u8 (shr .u8 (bt a0 (IntKind.u64.wrap (Int.tdiv bt117.2.2.1 8))) (Int.tmod bt117.2.2.1 8)) 1) = 1 then (if 0 ≤ (IntKind.u64.wrap (Int.tdiv bt117.2.2.2 8)) then (if (IntKind.u64.wrap (Int.tdiv bt117.2.2.2 8)) < (a0.size : Int) then (if 0 ≤ (Int.tmod bt117.2.2.2 8) then (if (Go.bits .and .u8 (shr .u8 (bt a0 (IntKind.u64.wrap (Int.tdiv bt117.2.2.2 8))) (Int.tmod bt117.2.2.2 8)) 1) = 1 then (some true) else (some false)) else (none)) else (none)) else (none)) else (some false)) else (none)) else (none)) else (none)) else (some false)) else (none)) else (none)) else (none)) else (some false)) else (none)) else (none)) else (none)))
theorem sieve_May.mono : ∀ a0 a1 k, LeO (sieve_May.f k a0 a1) (sieve_May.f (k + 1) a0 a1) := by
  intro a0 a1 k
  unfold sieve_May.f
  repeat' first
      | (with_reducible exact sieve_places.mono _ _ _)
      | (with_reducible exact LeO.refl _)
      | (with_reducible exact LeO.none _)
      | (with_reducible refine LeO.ite ?_ ?_)
      | (with_reducible refine LeO.bind ?_ (fun _ => ?_))
      | exact sieve_places.mono _ _ _
      | exact LeO.none _
      | refine LeO.ite ?_ ?_
      | refine LeO.bind ?_ (fun _ => ?_)
set_option maxHeartbeats 8000000 in
set_option maxRecDepth 100000 in
theorem sieve_May.calls (k : Nat) (a0 : ByteArray) (a1 : ByteArray) (r : Bool) (w : World) (h : sieve_May.f k a0 a1 = some r) :
    Calls Try.prog 13 #[.string a0, .string a1] w fun e w' => e = .returned (.bool r) ∧ Below w.heap.size w w' := by
  have HB := Aside0.mk (Below.refl w.heap.size w)
  have H : (if a0.toList = ([] : List UInt8) then (some true) else ((sieve_places.f k a1 (wrap64 (8 * (a0.size : Int)))).bind fun bt117 => (if 0 ≤ (IntKind.u64.wrap (Int.tdiv bt117.1 8)) then (if (IntKind.u64.wrap (Int.tdiv bt117.1 8)) < (a0.size : Int) then (if 0 ≤ (Int.tmod bt117.1 8) then (if (Go.bits .and .u8 (shr .u8 (bt a0 (IntKind.u64.wrap (Int.tdiv bt117.1 8))) (Int.tmod bt117.1 8)) 1) = 1 then (if 0 ≤ (IntKind.u64.wrap (Int.tdiv bt117.2.1 8)) then (if (IntKind.u64.wrap (Int.tdiv bt117.2.1 8)) < (a0.size : Int) then (if 0 ≤ (Int.tmod bt117.2.1 8) then (if (Go.bits .and .u8 (shr .u8 (bt a0 (IntKind.u64.wrap (Int.tdiv bt117.2.1 8))) (Int.tmod bt117.2.1 8)) 1) = 1 then (if 0 ≤ (IntKind.u64.wrap (Int.tdiv bt117.2.2.1 8)) then (if (IntKind.u64.wrap (Int.tdiv bt117.2.2.1 8)) < (a0.size : Int) then (if 0 ≤ (Int.tmod bt117.2.2.1 8) then (if (Go.bits .and .u8 (shr .u8 (bt a0 (IntKind.u64.wrap (Int.tdiv bt117.2.2.1 8))) (Int.tmod bt117.2.2.1 8)) 1) = 1 then (if 0 ≤ (IntKind.u64.wrap (Int.tdiv bt117.2.2.2 8)) then (if (IntKind.u64.wrap (Int.tdiv bt117.2.2.2 8)) < (a0.size : Int) then (if 0 ≤ (Int.tmod bt117.2.2.2 8) then (if (Go.bits .and .u8 (shr .u8 (bt a0 (IntKind.u64.wrap (Int.tdiv bt117.2.2.2 8))) (Int.tmod bt117.2.2.2 8)) 1) = 1 then (some true) else (some false)) else (none)) else (none)) else (none)) else (some false)) else (none)) else (none)) else (none)) else (some false)) else (none)) else (none)) else (none)) else (some false)) else (none)) else (none)) else (none)))) = some r := h
  clear h
  by_cases c3 : a0.toList = ([] : List UInt8)
  · rw [if_pos c3] at H
    have c3b0 : (a0.toList == ([] : List UInt8)) = true := beq_iff_eq.mpr c3
    have c3b1 : (a0.toList != ([] : List UInt8)) = false := bne_eq_false_iff_eq.mpr c3
    clear c3
    obtain rfl := Option.some.inj H
    go_enter Try.func13, Try.ntmps13
    go_wp2_with (first | go_step3 | go_in)
    ((try rw [Exit.noGoto_ret]); go_ret)
    exact ⟨by first | rfl | (simp [errW_none, errW_some] <;> rfl) | (simp [*, errW_none, errW_some] <;> rfl), by repeat (first | (with_reducible first | exact HB.out | apply below_alloc | apply pw_below_drewN | apply below_drew1) | exact HB.out)⟩
  · rw [if_neg c3] at H
    have c3b0 : (a0.toList == ([] : List UInt8)) = false := beq_eq_false_iff_ne.mpr c3
    have c3b1 : (a0.toList != ([] : List UInt8)) = true := bne_iff_ne.mpr c3
    replace H := Option.bind_eq_some_iff.mp H
    obtain ⟨⟨t117, t118, t119, t120⟩, A40, H⟩ := H
    replace H : (if 0 ≤ (IntKind.u64.wrap (Int.tdiv t117 8)) then (if (IntKind.u64.wrap (Int.tdiv t117 8)) < (a0.size : Int) then (if 0 ≤ (Int.tmod t117 8) then (if (Go.bits .and .u8 (shr .u8 (bt a0 (IntKind.u64.wrap (Int.tdiv t117 8))) (Int.tmod t117 8)) 1) = 1 then (if 0 ≤ (IntKind.u64.wrap (Int.tdiv t118 8)) then (if (IntKind.u64.wrap (Int.tdiv t118 8)) < (a0.size : Int) then (if 0 ≤ (Int.tmod t118 8) then (if (Go.bits .and .u8 (shr .u8 (bt a0 (IntKind.u64.wrap (Int.tdiv t118 8))) (Int.tmod t118 8)) 1) = 1 then (if 0 ≤ (IntKind.u64.wrap (Int.tdiv t119 8)) then (if (IntKind.u64.wrap (Int.tdiv t119 8)) < (a0.size : Int) then (if 0 ≤ (Int.tmod t119 8) then (if (Go.bits .and .u8 (shr .u8 (bt a0 (IntKind.u64.wrap (Int.tdiv t119 8))) (Int.tmod t119 8)) 1) = 1 then (if 0 ≤ (IntKind.u64.wrap (Int.tdiv t120 8)) then (if (IntKind.u64.wrap (Int.tdiv t120 8)) < (a0.size : Int) then (if 0 ≤ (Int.tmod t120 8) then (if (Go.bits .and .u8 (shr .u8 (bt a0 (IntKind.u64.wrap (Int.tdiv t120 8))) (Int.tmod t120 8)) 1) = 1 then (some true) else (some false)) else (none)) else (none)) else (none)) else (some false)) else (none)) else (none)) else (none)) else (some false)) else (none)) else (none)) else (none)) else (some false)) else (none)) else (none)) else (none)) = some r := H
    have A4 := Aside0.mk A40
    clear A40
    obtain ⟨ji5, hji5⟩ : ∃ j_ : Int, (IntKind.u64.wrap (Int.tdiv t117 8)) = j_ := ⟨_, rfl⟩
    replace H : (if 0 ≤ (ji5) then (if (ji5) < (a0.size : Int) then (if 0 ≤ (Int.tmod t117 8) then (if (Go.bits .and .u8 (shr .u8 (bt a0 (ji5)) (Int.tmod t117 8)) 1) = 1 then (if 0 ≤ (IntKind.u64.wrap (Int.tdiv t118 8)) then (if (IntKind.u64.wrap (Int.tdiv t118 8)) < (a0.size : Int) then (if 0 ≤ (Int.tmod t118 8) then (if (Go.bits .and .u8 (shr .u8 (bt a0 (IntKind.u64.wrap (Int.tdiv t118 8))) (Int.tmod t118 8)) 1) = 1 then (if 0 ≤ (IntKind.u64.wrap (Int.tdiv t119 8)) then (if (IntKind.u64.wrap (Int.tdiv t119 8)) < (a0.size : Int) then (if 0 ≤ (Int.tmod t119 8) then (if (Go.bits .and .u8 (shr .u8 (bt a0 (IntKind.u64.wrap (Int.tdiv t119 8))) (Int.tmod t119 8)) 1) = 1 then (if 0 ≤ (IntKind.u64.wrap (Int.tdiv t120 8)) then (if (IntKind.u64.wrap (Int.tdiv t120 8)) < (a0.size : Int) then (if 0 ≤ (Int.tmod t120 8) then (if (Go.bits .and .u8 (shr .u8 (bt a0 (IntKind.u64.wrap (Int.tdiv t120 8))) (Int.tmod t120 8)) 1) = 1 then (some true) else (some false)) else (none)) else (none)) else (none)) else (some false)) else (none)) else (none)) else (none)) else (some false)) else (none)) else (none)) else (none)) else (some false)) else (none)) else (none)) else (none)) = some r := by first | (rw [hji5] at H; exact H) | (simp only [hji5] at H ⊢; exact H)
    (try rw [hji5] at A4)
    by_cases c6 : 0 ≤ (ji5)
    · rw [if_pos c6] at H
      have c6b0 : decide (0 ≤ (ji5)) = true := decide_eq_true c6
      clear c6
      by_cases c7 : (ji5) < (a0.size : Int)
      · rw [if_pos c7] at H
        have c7b0 : decide ((ji5) < (a0.size : Int)) = true := decide_eq_true c7
        clear c7
        obtain ⟨ji9, hji9⟩ : ∃ j_ : Int, (Int.tmod t117 8) = j_ := ⟨_, rfl⟩
        replace H : (if 0 ≤ (ji9) then (if (Go.bits .and .u8 (shr .u8 (bt a0 (ji5)) (ji9)) 1) = 1 then (if 0 ≤ (IntKind.u64.wrap (Int.tdiv t118 8)) then (if (IntKind.u64.wrap (Int.tdiv t118 8)) < (a0.size : Int) then (if 0 ≤ (Int.tmod t118 8) then (if (Go.bits .and .u8 (shr .u8 (bt a0 (IntKind.u64.wrap (Int.tdiv t118 8))) (Int.tmod t118 8)) 1) = 1 then (if 0 ≤ (IntKind.u64.wrap (Int.tdiv t119 8)) then (if (IntKind.u64.wrap (Int.tdiv t119 8)) < (a0.size : Int) then (if 0 ≤ (Int.tmod t119 8) then (if (Go.bits .and .u8 (shr .u8 (bt a0 (IntKind.u64.wrap (Int.tdiv t119 8))) (Int.tmod t119 8)) 1) = 1 then (if 0 ≤ (IntKind.u64.wrap (Int.tdiv t120 8)) then (if (IntKind.u64.wrap (Int.tdiv t120 8)) < (a0.size : Int) then (if 0 ≤ (Int.tmod t120 8) then (if (Go.bits .and .u8 (shr .u8 (bt a0 (IntKind.u64.wrap (Int.tdiv t120 8))) (Int.tmod t120 8)) 1) = 1 then (some true) else (some false)) else (none)) else (none)) else (none)) else (some false)) else (none)) else (none)) else (none)) else (some false)) else (none)) else (none)) else (none)) else (some false)) else (none)) = some r := by first | (rw [hji9] at H; exact H) | (simp only [hji9] at H ⊢; exact H)
        (try rw [hji9] at A4)
        by_cases c10 : 0 ≤ (ji9)
        · rw [if_pos c10] at H
          have c10b0 := eq_true c10
          have c10b1 : decide (0 ≤ (ji9)) = true := decide_eq_true c10
          clear c10
          obtain ⟨ji11, hji11⟩ : ∃ j_ : Int, (shr .u8 (bt a0 (ji5)) (ji9)) = j_ := ⟨_, rfl⟩
          replace H : (if (Go.bits .and .u8 (ji11) 1) = 1 then (if 0 ≤ (IntKind.u64.wrap (Int.tdiv t118 8)) then (if (IntKind.u64.wrap (Int.tdiv t118 8)) < (a0.size : Int) then (if 0 ≤ (Int.tmod t118 8) then (if (Go.bits .and .u8 (shr .u8 (bt a0 (IntKind.u64.wrap (Int.tdiv t118 8))) (Int.tmod t118 8)) 1) = 1 then (if 0 ≤ (IntKind.u64.wrap (Int.tdiv t119 8)) then (if (IntKind.u64.wrap (Int.tdiv t119 8)) < (a0.size : Int) then (if 0 ≤ (Int.tmod t119 8) then (if (Go.bits .and .u8 (shr .u8 (bt a0 (IntKind.u64.wrap (Int.tdiv t119 8))) (Int.tmod t119 8)) 1) = 1 then (if 0 ≤ (IntKind.u64.wrap (Int.tdiv t120 8)) then (if (IntKind.u64.wrap (Int.tdiv t120 8)) < (a0.size : Int) then (if 0 ≤ (Int.tmod t120 8) then (if (Go.bits .and .u8 (shr .u8 (bt a0 (IntKind.u64.wrap (Int.tdiv t120 8))) (Int.tmod t120 8)) 1) = 1 then (some true) else (some false)) else (none)) else (none)) else (none)) else (some false)) else (none)) else (none)) else (none)) else (some false)) else (none)) else (none)) else (none)) else (some false)) = some r := by first | (rw [hji11] at H; exact H) | (simp only [hji11] at H ⊢; exact H)
          (try rw [hji11] at A4)
          have hji11_ : ((bt a0 (ji5)) / 2 ^ min (ji9).toNat 8) = ji11 := hji11
          have hji11z : (ji9) ≤ 8 → ((bt a0 (ji5)) / 2 ^ (ji9).toNat) = ji11 := shr_small hji11
          by_cases c12 : (Go.bits .and .u8 (ji11) 1) = 1
          · rw [if_pos c12] at H
            have c12b0 : ((Go.bits .and .u8 (ji11) 1) == 1) = true := beq_iff_eq.mpr c12
            have c12b1 : ((Go.bits .and .u8 (ji11) 1) != 1) = false := bne_eq_false_iff_eq.mpr c12
            clear c12
            obtain ⟨ji13, hji13⟩ : ∃ j_ : Int, (IntKind.u64.wrap (Int.tdiv t118 8)) = j_ := ⟨_, rfl⟩
            replace H : (if 0 ≤ (ji13) then (if (ji13) < (a0.size : Int) then (if 0 ≤ (Int.tmod t118 8) then (if (Go.bits .and .u8 (shr .u8 (bt a0 (ji13)) (Int.tmod t118 8)) 1) = 1 then (if 0 ≤ (IntKind.u64.wrap (Int.tdiv t119 8)) then (if (IntKind.u64.wrap (Int.tdiv t119 8)) < (a0.size : Int) then (if 0 ≤ (Int.tmod t119 8) then (if (Go.bits .and .u8 (shr .u8 (bt a0 (IntKind.u64.wrap (Int.tdiv t119 8))) (Int.tmod t119 8)) 1) = 1 then (if 0 ≤ (IntKind.u64.wrap (Int.tdiv t120 8)) then (if (IntKind.u64.wrap (Int.tdiv t120 8)) < (a0.size : Int) then (if 0 ≤ (Int.tmod t120 8) then (if (Go.bits .and .u8 (shr .u8 (bt a0 (IntKind.u64.wrap (Int.tdiv t120 8))) (Int.tmod t120 8)) 1) = 1 then (some true) else (some false)) else (none)) else (none)) else (none)) else (some false)) else (none)) else (none)) else (none)) else (some false)) else (none)) else (none)) else (none)) = some r := by first | (rw [hji13] at H; exact H) | (simp only [hji13] at H ⊢; exact H)
            (try rw [hji13] at A4)
            by_cases c14 : 0 ≤ (ji13)
            · rw [if_pos c14] at H
              have c14b0 : decide (0 ≤ (ji13)) = true := decide_eq_true c14
              clear c14
              by_cases c15 : (ji13) < (a0.size : Int)
              · rw [if_pos c15] at H
                have c15b0 : decide ((ji13) < (a0.size : Int)) = true := decide_eq_true c15
                clear c15
                obtain ⟨ji17, hji17⟩ : ∃ j_ : Int, (Int.tmod t118 8) = j_ := ⟨_, rfl⟩
                replace H : (if 0 ≤ (ji17) then (if (Go.bits .and .u8 (shr .u8 (bt a0 (ji13)) (ji17)) 1) = 1 then (if 0 ≤ (IntKind.u64.wrap (Int.tdiv t119 8)) then (if (IntKind.u64.wrap (Int.tdiv t119 8)) < (a0.size : Int) then (if 0 ≤ (Int.tmod t119 8) then (if (Go.bits .and .u8 (shr .u8 (bt a0 (IntKind.u64.wrap (Int.tdiv t119 8))) (Int.tmod t119 8)) 1) = 1 then (if 0 ≤ (IntKind.u64.wrap (Int.tdiv t120 8)) then (if (IntKind.u64.wrap (Int.tdiv t120 8)) < (a0.size : Int) then (if 0 ≤ (Int.tmod t120 8) then (if (Go.bits .and .u8 (shr .u8 (bt a0 (IntKind.u64.wrap (Int.tdiv t120 8))) (Int.tmod t120 8)) 1) = 1 then (some true) else (some false)) else (none)) else (none)) else (none)) else (some false)) else (none)) else (none)) else (none)) else (some false)) else (none)) = some r := by first | (rw [hji17] at H; exact H) | (simp only [hji17] at H ⊢; exact H)
                (try rw [hji17] at A4)
                by_cases c18 : 0 ≤ (ji17)
                · rw [if_pos c18] at H
                  have c18b0 := eq_true c18
                  have c18b1 : decide (0 ≤ (ji17)) = true := decide_eq_true c18
                  clear c18
                  obtain ⟨ji19, hji19⟩ : ∃ j_ : Int, (shr .u8 (bt a0 (ji13)) (ji17)) = j_ := ⟨_, rfl⟩
                  replace H : (if (Go.bits .and .u8 (ji19) 1) = 1 then (if 0 ≤ (IntKind.u64.wrap (Int.tdiv t119 8)) then (if (IntKind.u64.wrap (Int.tdiv t119 8)) < (a0.size : Int) then (if 0 ≤ (Int.tmod t119 8) then (if (Go.bits .and .u8 (shr .u8 (bt a0 (IntKind.u64.wrap (Int.tdiv t119 8))) (Int.tmod t119 8)) 1) = 1 then (if 0 ≤ (IntKind.u64.wrap (Int.tdiv t120 8)) then (if (IntKind.u64.wrap (Int.tdiv t120 8)) < (a0.size : Int) then (if 0 ≤ (Int.tmod t120 8) then (if (Go.bits .and .u8 (shr .u8 (bt a0 (IntKind.u64.wrap (Int.tdiv t120 8))) (Int.tmod t120 8)) 1) = 1 then (some true) else (some false)) else (none)) else (none)) else (none)) else (some false)) else (none)) else (none)) else (none)) else (some false)) = some r := by first | (rw [hji19] at H; exact H) | (simp only [hji19] at H ⊢; exact H)
                  (try rw [hji19] at A4)
                  have hji19_ : ((bt a0 (ji13)) / 2 ^ min (ji17).toNat 8) = ji19 := hji19
                  have hji19z : (ji17) ≤ 8 → ((bt a0 (ji13)) / 2 ^ (ji17).toNat) = ji19 := shr_small hji19
                  by_cases c20 : (Go.bits .and .u8 (ji19) 1) = 1
                  · rw [if_pos c20] at H
                    have c20b0 : ((Go.bits .and .u8 (ji19) 1) == 1) = true := beq_iff_eq.mpr c20
                    have c20b1 : ((Go.bits .and .u8 (ji19) 1) != 1) = false := bne_eq_false_iff_eq.mpr c20
                    clear c20
                    obtain ⟨ji21, hji21⟩ : ∃ j_ : Int, (IntKind.u64.wrap (Int.tdiv t119 8)) = j_ := ⟨_, rfl⟩
                    replace H : (if 0 ≤ (ji21) then (if (ji21) < (a0.size : Int) then (if 0 ≤ (Int.tmod t119 8) then (if (Go.bits .and .u8 (shr .u8 (bt a0 (ji21)) (Int.tmod t119 8)) 1) = 1 then (if 0 ≤ (IntKind.u64.wrap (Int.tdiv t120 8)) then (if (IntKind.u64.wrap (Int.tdiv t120 8)) < (a0.size : Int) then (if 0 ≤ (Int.tmod t120 8) then (if (Go.bits .and .u8 (shr .u8 (bt a0 (IntKind.u64.wrap (Int.tdiv t120 8))) (Int.tmod t120 8)) 1) = 1 then (some true) else (some false)) else (none)) else (none)) else (none)) else (some false)) else (none)) else (none)) else (none)) = some r := by first | (rw [hji21] at H; exact H) | (simp only [hji21] at H ⊢; exact H)
                    (try rw [hji21] at A4)
                    by_cases c22 : 0 ≤ (ji21)
                    · rw [if_pos c22] at H
                      have c22b0 : decide (0 ≤ (ji21)) = true := decide_eq_true c22
                      clear c22
                      by_cases c23 : (ji21) < (a0.size : Int)
                      · rw [if_pos c23] at H
                        have c23b0 : decide ((ji21) < (a0.size : Int)) = true := decide_eq_true c23
                        clear c23
                        obtain ⟨ji25, hji25⟩ : ∃ j_ : Int, (Int.tmod t119 8) = j_ := ⟨_, rfl⟩
                        replace H : (if 0 ≤ (ji25) then (if (Go.bits .and .u8 (shr .u8 (bt a0 (ji21)) (ji25)) 1) = 1 then (if 0 ≤ (IntKind.u64.wrap (Int.tdiv t120 8)) then (if (IntKind.u64.wrap (Int.tdiv t120 8)) < (a0.size : Int) then (if 0 ≤ (Int.tmod t120 8) then (if (Go.bits .and .u8 (shr .u8 (bt a0 (IntKind.u64.wrap (Int.tdiv t120 8))) (Int.tmod t120 8)) 1) = 1 then (some true) else (some false)) else (none)) else (none)) else (none)) else (some false)) else (none)) = some r := by first | (rw [hji25] at H; exact H) | (simp only [hji25] at H ⊢; exact H)
                        (try rw [hji25] at A4)
                        by_cases c26 : 0 ≤ (ji25)
                        · rw [if_pos c26] at H
                          have c26b0 := eq_true c26
                          have c26b1 : decide (0 ≤ (ji25)) = true := decide_eq_true c26
                          clear c26
                          obtain ⟨ji27, hji27⟩ : ∃ j_ : Int, (shr .u8 (bt a0 (ji21)) (ji25)) = j_ := ⟨_, rfl⟩
                          replace H : (if (Go.bits .and .u8 (ji27) 1) = 1 then (if 0 ≤ (IntKind.u64.wrap (Int.tdiv t120 8)) then (if (IntKind.u64.wrap (Int.tdiv t120 8)) < (a0.size : Int) then (if 0 ≤ (Int.tmod t120 8) then (if (Go.bits .and .u8 (shr .u8 (bt a0 (IntKind.u64.wrap (Int.tdiv t120 8))) (Int.tmod t120 8)) 1) = 1 then (some true) else (some false)) else (none)) else (none)) else (none)) else (some false)) = some r := by first | (rw [hji27] at H; exact H) | (simp only [hji27] at H ⊢; exact H)
                          (try rw [hji27] at A4)
                          have hji27_ : ((bt a0 (ji21)) / 2 ^ min (ji25).toNat 8) = ji27 := hji27
                          have hji27z : (ji25) ≤ 8 → ((bt a0 (ji21)) / 2 ^ (ji25).toNat) = ji27 := shr_small hji27
                          by_cases c28 : (Go.bits .and .u8 (ji27) 1) = 1
                          · rw [if_pos c28] at H
                            have c28b0 : ((Go.bits .and .u8 (ji27) 1) == 1) = true := beq_iff_eq.mpr c28
                            have c28b1 : ((Go.bits .and .u8 (ji27) 1) != 1) = false := bne_eq_false_iff_eq.mpr c28
                            clear c28
                            obtain ⟨ji29, hji29⟩ : ∃ j_ : Int, (IntKind.u64.wrap (Int.tdiv t120 8)) = j_ := ⟨_, rfl⟩
                            replace H : (if 0 ≤ (ji29) then (if (ji29) < (a0.size : Int) then (if 0 ≤ (Int.tmod t120 8) then (if (Go.bits .and .u8 (shr .u8 (bt a0 (ji29)) (Int.tmod t120 8)) 1) = 1 then (some true) else (some false)) else (none)) else (none)) else (none)) = some r := by first | (rw [hji29] at H; exact H) | (simp only [hji29] at H ⊢; exact H)
                            (try rw [hji29] at A4)
                            by_cases c30 : 0 ≤ (ji29)
                            · rw [if_pos c30] at H
                              have c30b0 : decide (0 ≤ (ji29)) = true := decide_eq_true c30
                              clear c30
                              by_cases c31 : (ji29) < (a0.size : Int)
                              · rw [if_pos c31] at H
                                have c31b0 : decide ((ji29) < (a0.size : Int)) = true := decide_eq_true c31
                                clear c31
                                obtain ⟨ji33, hji33⟩ : ∃ j_ : Int, (Int.tmod t120 8) = j_ := ⟨_, rfl⟩
                                replace H : (if 0 ≤ (ji33) then (if (Go.bits .and .u8 (shr .u8 (bt a0 (ji29)) (ji33)) 1) = 1 then (some true) else (some false)) else (none)) = some r := by first | (rw [hji33] at H; exact H) | (simp only [hji33] at H ⊢; exact H)
                                (try rw [hji33] at A4)
                                by_cases c34 : 0 ≤ (ji33)
                                · rw [if_pos c34] at H
                                  have c34b0 := eq_true c34
                                  have c34b1 : decide (0 ≤ (ji33)) = true := decide_eq_true c34
                                  clear c34
                                  obtain ⟨ji35, hji35⟩ : ∃ j_ : Int, (shr .u8 (bt a0 (ji29)) (ji33)) = j_ := ⟨_, rfl⟩
                                  replace H : (if (Go.bits .and .u8 (ji35) 1) = 1 then (some true) else (some false)) = some r := by first | (rw [hji35] at H; exact H) | (simp only [hji35] at H ⊢; exact H)
                                  (try rw [hji35] at A4)
                                  have hji35_ : ((bt a0 (ji29)) / 2 ^ min (ji33).toNat 8) = ji35 := hji35
                                  have hji35z : (ji33) ≤ 8 → ((bt a0 (ji29)) / 2 ^ (ji33).toNat) = ji35 := shr_small hji35
                                  by_cases c36 : (Go.bits .and .u8 (ji35) 1) = 1
                                  · rw [if_pos c36] at H
                                    have c36b0 : ((Go.bits .and .u8 (ji35) 1) == 1) = true := beq_iff_eq.mpr c36
                                    have c36b1 : ((Go.bits .and .u8 (ji35) 1) != 1) = false := bne_eq_false_iff_eq.mpr c36
                                    clear c36
                                    obtain rfl := Option.some.inj H
                                    go_enter Try.func13, Try.ntmps13
                                    go_wp2_with (first | go_step3 | ((with_reducible refine gate_callee (f := 15) rfl ?_); refine goesL_ (some 13) rfl rfl Try.func15 (by kernel_rfl) rfl #[.string a1, .int .i64 (wrap64 (8 * (a0.size : Int)))] rfl (by (try simp only [List.map_toArray, List.map_cons, List.map_nil]); first | done | rfl | (simp only [List.length_drop, List.length_take]; rfl)) ?_; (with_reducible refine (sieve_places.calls k a1 (wrap64 (8 * (a0.size : Int))) t117 t118 t119 t120 _ A4.out).mono ?_); rintro e w37 ⟨rfl, hb⟩; refine ⟨_, rfl, ?_⟩; have n0_ := Aside0.mk (below_step (by repeat (first | (with_reducible first | exact HB.out | apply below_alloc | apply pw_below_drewN | apply below_drew1) | exact HB.out)) hb); clear HB; have HB := n0_; clear n0_; (try clear hb); (try clear hb2); (try clear hk); (try clear hi)))
                                    refine wp_loop_rounds 5 ?_
                                    rw [rounds_succ]
                                    have hia38 := fun w_ : World => (show (Instr.index 37 (.agg #[.int .u64 t117, .int .u64 t118, .int .u64 t119, .int .u64 t120]) (.int .i64 0)).run Try.prog w_ = .ok (.int .u64 t117) w_ from by first | rfl | kernel_rfl)
                                    have p8 : 0 ≤ ((ji5) : Int) := of_decide_eq_true (by first | (with_reducible assumption) | assumption)
                                    have q8 : (ji5) < (a0.size : Int) := of_decide_eq_true (by first | (with_reducible assumption) | assumption)
                                    have hx8 := bt_at a0 (ji5)
                                    replace p8 := eq_true p8
                                    replace q8 := eq_true q8
                                    go_wp2_with (first | go_step3 | go_in)
                                    rw [rounds_succ]
                                    have hia39 := fun w_ : World => (show (Instr.index 37 (.agg #[.int .u64 t117, .int .u64 t118, .int .u64 t119, .int .u64 t120]) (.int .i64 1)).run Try.prog w_ = .ok (.int .u64 t118) w_ from by first | rfl | kernel_rfl)
                                    have p16 : 0 ≤ ((ji13) : Int) := of_decide_eq_true (by first | (with_reducible assumption) | assumption)
                                    have q16 : (ji13) < (a0.size : Int) := of_decide_eq_true (by first | (with_reducible assumption) | assumption)
                                    have hx16 := bt_at a0 (ji13)
                                    replace p16 := eq_true p16
                                    replace q16 := eq_true q16
                                    go_wp2_with (first | go_step3 | go_in)
                                    rw [rounds_succ]
                                    have hia40 := fun w_ : World => (show (Instr.index 37 (.agg #[.int .u64 t117, .int .u64 t118, .int .u64 t119, .int .u64 t120]) (.int .i64 2)).run Try.prog w_ = .ok (.int .u64 t119) w_ from by first | rfl | kernel_rfl)
                                    have p24 : 0 ≤ ((ji21) : Int) := of_decide_eq_true (by first | (with_reducible assumption) | assumption)
                                    have q24 : (ji21) < (a0.size : Int) := of_decide_eq_true (by first | (with_reducible assumption) | assumption)
                                    have hx24 := bt_at a0 (ji21)
                                    replace p24 := eq_true p24
                                    replace q24 := eq_true q24
                                    go_wp2_with (first | go_step3 | go_in)
                                    rw [rounds_succ]
                                    have hia41 := fun w_ : World => (show (Instr.index 37 (.agg #[.int .u64 t117, .int .u64 t118, .int .u64 t119, .int .u64 t120]) (.int .i64 3)).run Try.prog w_ = .ok (.int .u64 t120) w_ from by first | rfl | kernel_rfl)
                                    have p32 : 0 ≤ ((ji29) : Int) := of_decide_eq_true (by first | (with_reducible assumption) | assumption)
                                    have q32 : (ji29) < (a0.size : Int) := of_decide_eq_true (by first | (with_reducible assumption) | assumption)
                                    have hx32 := bt_at a0 (ji29)
                                    replace p32 := eq_true p32
                                    replace q32 := eq_true q32
                                    go_wp2_with (first | go_step3 | go_in)
                                    rw [rounds_succ]
                                    go_wp2_with (first | go_step3 | go_in)
                                    ((try rw [Exit.noGoto_ret]); go_ret)
                                    exact ⟨by first | rfl | (simp [errW_none, errW_some] <;> rfl) | (simp only [← hji5, ← hji9, ← hji11, ← hji13, ← hji17, ← hji19, ← hji21, ← hji25, ← hji27, ← hji29, ← hji33, ← hji35]; first | rfl | (simp [errW_none, errW_some] <;> rfl)) | (simp [*, errW_none, errW_some] <;> rfl), by repeat (first | (with_reducible first | exact HB.out | apply below_alloc | apply pw_below_drewN | apply below_drew1) | exact HB.out)⟩
                                  · rw [if_neg c36] at H
                                    have c36b0 : ((Go.bits .and .u8 (ji35) 1) == 1) = false := beq_eq_false_iff_ne.mpr c36
                                    have c36b1 : ((Go.bits .and .u8 (ji35) 1) != 1) = true := bne_iff_ne.mpr c36
                                    obtain rfl := Option.some.inj H
                                    go_enter Try.func13, Try.ntmps13
                                    go_wp2_with (first | go_step3 | ((with_reducible refine gate_callee (f := 15) rfl ?_); refine goesL_ (some 13) rfl rfl Try.func15 (by kernel_rfl) rfl #[.string a1, .int .i64 (wrap64 (8 * (a0.size : Int)))] rfl (by (try simp only [List.map_toArray, List.map_cons, List.map_nil]); first | done | rfl | (simp only [List.length_drop, List.length_take]; rfl)) ?_; (with_reducible refine (sieve_places.calls k a1 (wrap64 (8 * (a0.size : Int))) t117 t118 t119 t120 _ A4.out).mono ?_); rintro e w42 ⟨rfl, hb⟩; refine ⟨_, rfl, ?_⟩; have n0_ := Aside0.mk (below_step (by repeat (first | (with_reducible first | exact HB.out | apply below_alloc | apply pw_below_drewN | apply below_drew1) | exact HB.out)) hb); clear HB; have HB := n0_; clear n0_; (try clear hb); (try clear hb2); (try clear hk); (try clear hi)))
                                    refine wp_loop_rounds 5 ?_
                                    rw [rounds_succ]
                                    have hia43 := fun w_ : World => (show (Instr.index 37 (.agg #[.int .u64 t117, .int .u64 t118, .int .u64 t119, .int .u64 t120]) (.int .i64 0)).run Try.prog w_ = .ok (.int .u64 t117) w_ from by first | rfl | kernel_rfl)
                                    have p8 : 0 ≤ ((ji5) : Int) := of_decide_eq_true (by first | (with_reducible assumption) | assumption)
                                    have q8 : (ji5) < (a0.size : Int) := of_decide_eq_true (by first | (with_reducible assumption) | assumption)
                                    have hx8 := bt_at a0 (ji5)
                                    replace p8 := eq_true p8
                                    replace q8 := eq_true q8
                                    go_wp2_with (first | go_step3 | go_in)
                                    rw [rounds_succ]
                                    have hia44 := fun w_ : World => (show (Instr.index 37 (.agg #[.int .u64 t117, .int .u64 t118, .int .u64 t119, .int .u64 t120]) (.int .i64 1)).run Try.prog w_ = .ok (.int .u64 t118) w_ from by first | rfl | kernel_rfl)
                                    have p16 : 0 ≤ ((ji13) : Int) := of_decide_eq_true (by first | (with_reducible assumption) | assumption)
                                    have q16 : (ji13) < (a0.size : Int) := of_decide_eq_true (by first | (with_reducible assumption) | assumption)
                                    have hx16 := bt_at a0 (ji13)
                                    replace p16 := eq_true p16
                                    replace q16 := eq_true q16
                                    go_wp2_with (first | go_step3 | go_in)
                                    rw [rounds_succ]
                                    have hia45 := fun w_ : World => (show (Instr.index 37 (.agg #[.int .u64 t117, .int .u64 t118, .int .u64 t119, .int .u64 t120]) (.int .i64 2)).run Try.prog w_ = .ok (.int .u64 t119) w_ from by first | rfl | kernel_rfl)
                                    have p24 : 0 ≤ ((ji21) : Int) := of_decide_eq_true (by first | (with_reducible assumption) | assumption)
                                    have q24 : (ji21) < (a0.size : Int) := of_decide_eq_true (by first | (with_reducible assumption) | assumption)
                                    have hx24 := bt_at a0 (ji21)
                                    replace p24 := eq_true p24
                                    replace q24 := eq_true q24
                                    go_wp2_with (first | go_step3 | go_in)
                                    rw [rounds_succ]
                                    have hia46 := fun w_ : World => (show (Instr.index 37 (.agg #[.int .u64 t117, .int .u64 t118, .int .u64 t119, .int .u64 t120]) (.int .i64 3)).run Try.prog w_ = .ok (.int .u64 t120) w_ from by first | rfl | kernel_rfl)
                                    have p32 : 0 ≤ ((ji29) : Int) := of_decide_eq_true (by first | (with_reducible assumption) | assumption)
                                    have q32 : (ji29) < (a0.size : Int) := of_decide_eq_true (by first | (with_reducible assumption) | assumption)
                                    have hx32 := bt_at a0 (ji29)
                                    replace p32 := eq_true p32
                                    replace q32 := eq_true q32
                                    go_wp2_with (first | go_step3 | go_in)
                                    ((try rw [Exit.noGoto_ret]); go_ret)
                                    exact ⟨by first | rfl | (simp [errW_none, errW_some] <;> rfl) | (simp only [← hji5, ← hji9, ← hji11, ← hji13, ← hji17, ← hji19, ← hji21, ← hji25, ← hji27, ← hji29, ← hji33, ← hji35]; first | rfl | (simp [errW_none, errW_some] <;> rfl)) | (simp [*, errW_none, errW_some] <;> rfl), by repeat (first | (with_reducible first | exact HB.out | apply below_alloc | apply pw_below_drewN | apply below_drew1) | exact HB.out)⟩
                                · rw [if_neg c34] at H
                                  exact absurd H (by simp)
                              · rw [if_neg c31] at H
                                exact absurd H (by simp)
                            · rw [if_neg c30] at H
                              exact absurd H (by simp)
                          · rw [if_neg c28] at H
                            have c28b0 : ((Go.bits .and .u8 (ji27) 1) == 1) = false := beq_eq_false_iff_ne.mpr c28
                            have c28b1 : ((Go.bits .and .u8 (ji27) 1) != 1) = true := bne_iff_ne.mpr c28
                            obtain rfl := Option.some.inj H
                            go_enter Try.func13, Try.ntmps13
                            go_wp2_with (first | go_step3 | ((with_reducible refine gate_callee (f := 15) rfl ?_); refine goesL_ (some 13) rfl rfl Try.func15 (by kernel_rfl) rfl #[.string a1, .int .i64 (wrap64 (8 * (a0.size : Int)))] rfl (by (try simp only [List.map_toArray, List.map_cons, List.map_nil]); first | done | rfl | (simp only [List.length_drop, List.length_take]; rfl)) ?_; (with_reducible refine (sieve_places.calls k a1 (wrap64 (8 * (a0.size : Int))) t117 t118 t119 t120 _ A4.out).mono ?_); rintro e w47 ⟨rfl, hb⟩; refine ⟨_, rfl, ?_⟩; have n0_ := Aside0.mk (below_step (by repeat (first | (with_reducible first | exact HB.out | apply below_alloc | apply pw_below_drewN | apply below_drew1) | exact HB.out)) hb); clear HB; have HB := n0_; clear n0_; (try clear hb); (try clear hb2); (try clear hk); (try clear hi)))
                            refine wp_loop_rounds 5 ?_
                            rw [rounds_succ]
                            have hia48 := fun w_ : World => (show (Instr.index 37 (.agg #[.int .u64 t117, .int .u64 t118, .int .u64 t119, .int .u64 t120]) (.int .i64 0)).run Try.prog w_ = .ok (.int .u64 t117) w_ from by first | rfl | kernel_rfl)
                            have p8 : 0 ≤ ((ji5) : Int) := of_decide_eq_true (by first | (with_reducible assumption) | assumption)
                            have q8 : (ji5) < (a0.size : Int) := of_decide_eq_true (by first | (with_reducible assumption) | assumption)
                            have hx8 := bt_at a0 (ji5)
                            replace p8 := eq_true p8
                            replace q8 := eq_true q8
                            go_wp2_with (first | go_step3 | go_in)
                            rw [rounds_succ]
                            have hia49 := fun w_ : World => (show (Instr.index 37 (.agg #[.int .u64 t117, .int .u64 t118, .int .u64 t119, .int .u64 t120]) (.int .i64 1)).run Try.prog w_ = .ok (.int .u64 t118) w_ from by first | rfl | kernel_rfl)
                            have p16 : 0 ≤ ((ji13) : Int) := of_decide_eq_true (by first | (with_reducible assumption) | assumption)
                            have q16 : (ji13) < (a0.size : Int) := of_decide_eq_true (by first | (with_reducible assumption) | assumption)
                            have hx16 := bt_at a0 (ji13)
                            replace p16 := eq_true p16
                            replace q16 := eq_true q16
                            go_wp2_with (first | go_step3 | go_in)
                            rw [rounds_succ]
                            have hia50 := fun w_ : World => (show (Instr.index 37 (.agg #[.int .u64 t117, .int .u64 t118, .int .u64 t119, .int .u64 t120]) (.int .i64 2)).run Try.prog w_ = .ok (.int .u64 t119) w_ from by first | rfl | kernel_rfl)
                            have p24 : 0 ≤ ((ji21) : Int) := of_decide_eq_true (by first | (with_reducible assumption) | assumption)
                            have q24 : (ji21) < (a0.size : Int) := of_decide_eq_true (by first | (with_reducible assumption) | assumption)
                            have hx24 := bt_at a0 (ji21)
                            replace p24 := eq_true p24
                            replace q24 := eq_true q24
                            go_wp2_with (first | go_step3 | go_in)
                            ((try rw [Exit.noGoto_ret]); go_ret)
                            exact ⟨by first | rfl | (simp [errW_none, errW_some] <;> rfl) | (simp only [← hji5, ← hji9, ← hji11, ← hji13, ← hji17, ← hji19, ← hji21, ← hji25, ← hji27]; first | rfl | (simp [errW_none, errW_some] <;> rfl)) | (simp [*, errW_none, errW_some] <;> rfl), by repeat (first | (with_reducible first | exact HB.out | apply below_alloc | apply pw_below_drewN | apply below_drew1) | exact HB.out)⟩
                        · rw [if_neg c26] at H
                          exact absurd H (by simp)
                      · rw [if_neg c23] at H
                        exact absurd H (by simp)
                    · rw [if_neg c22] at H
                      exact absurd H (by simp)
                  · rw [if_neg c20] at H
                    have c20b0 : ((Go.bits .and .u8 (ji19) 1) == 1) = false := beq_eq_false_iff_ne.mpr c20
                    have c20b1 : ((Go.bits .and .u8 (ji19) 1) != 1) = true := bne_iff_ne.mpr c20
                    obtain rfl := Option.some.inj H
                    go_enter Try.func13, Try.ntmps13
                    go_wp2_with (first | go_step3 | ((with_reducible refine gate_callee (f := 15) rfl ?_); refine goesL_ (some 13) rfl rfl Try.func15 (by kernel_rfl) rfl #[.string a1, .int .i64 (wrap64 (8 * (a0.size : Int)))] rfl (by (try simp only [List.map_toArray, List.map_cons, List.map_nil]); first | done | rfl | (simp only [List.length_drop, List.length_take]; rfl)) ?_; (with_reducible refine (sieve_places.calls k a1 (wrap64 (8 * (a0.size : Int))) t117 t118 t119 t120 _ A4.out).mono ?_); rintro e w51 ⟨rfl, hb⟩; refine ⟨_, rfl, ?_⟩; have n0_ := Aside0.mk (below_step (by repeat (first | (with_reducible first | exact HB.out | apply below_alloc | apply pw_below_drewN | apply below_drew1) | exact HB.out)) hb); clear HB; have HB := n0_; clear n0_; (try clear hb); (try clear hb2); (try clear hk); (try clear hi)))
                    refine wp_loop_rounds 5 ?_
                    rw [rounds_succ]
                    have hia52 := fun w_ : World => (show (Instr.index 37 (.agg #[.int .u64 t117, .int .u64 t118, .int .u64 t119, .int .u64 t120]) (.int .i64 0)).run Try.prog w_ = .ok (.int .u64 t117) w_ from by first | rfl | kernel_rfl)
                    have p8 : 0 ≤ ((ji5) : Int) := of_decide_eq_true (by first | (with_reducible assumption) | assumption)
                    have q8 : (ji5) < (a0.size : Int) := of_decide_eq_true (by first | (with_reducible assumption) | assumption)
                    have hx8 := bt_at a0 (ji5)
                    replace p8 := eq_true p8
                    replace q8 := eq_true q8
                    go_wp2_with (first | go_step3 | go_in)
                    rw [rounds_succ]
                    have hia53 := fun w_ : World => (show (Instr.index 37 (.agg #[.int .u64 t117, .int .u64 t118, .int .u64 t119, .int .u64 t120]) (.int .i64 1)).run Try.prog w_ = .ok (.int .u64 t118) w_ from by first | rfl | kernel_rfl)
                    have p16 : 0 ≤ ((ji13) : Int) := of_decide_eq_true (by first | (with_reducible assumption) | assumption)
                    have q16 : (ji13) < (a0.size : Int) := of_decide_eq_true (by first | (with_reducible assumption) | assumption)
                    have hx16 := bt_at a0 (ji13)
                    replace p16 := eq_true p16
                    replace q16 := eq_true q16
                    go_wp2_with (first | go_step3 | go_in)
                    ((try rw [Exit.noGoto_ret]); go_ret)
                    exact ⟨by first | rfl | (simp [errW_none, errW_some] <;> rfl) | (simp only [← hji5, ← hji9, ← hji11, ← hji13, ← hji17, ← hji19]; first | rfl | (simp [errW_none, errW_some] <;> rfl)) | (simp [*, errW_none, errW_some] <;> rfl), by repeat (first | (with_reducible first | exact HB.out | apply below_alloc | apply pw_below_drewN | apply below_drew1) | exact HB.out)⟩
                · rw [if_neg c18] at H
                  exact absurd H (by simp)
              · rw [if_neg c15] at H
                exact absurd H (by simp)
            · rw [if_neg c14] at H
              exact absurd H (by simp)
          · rw [if_neg c12] at H
            have c12b0 : ((Go.bits .and .u8 (ji11) 1) == 1) = false := beq_eq_false_iff_ne.mpr c12
            have c12b1 : ((Go.bits .and .u8 (ji11) 1) != 1) = true := bne_iff_ne.mpr c12
            obtain rfl := Option.some.inj H
            go_enter Try.func13, Try.ntmps13
            go_wp2_with (first | go_step3 | ((with_reducible refine gate_callee (f := 15) rfl ?_); refine goesL_ (some 13) rfl rfl Try.func15 (by kernel_rfl) rfl #[.string a1, .int .i64 (wrap64 (8 * (a0.size : Int)))] rfl (by (try simp only [List.map_toArray, List.map_cons, List.map_nil]); first | done | rfl | (simp only [List.length_drop, List.length_take]; rfl)) ?_; (with_reducible refine (sieve_places.calls k a1 (wrap64 (8 * (a0.size : Int))) t117 t118 t119 t120 _ A4.out).mono ?_); rintro e w54 ⟨rfl, hb⟩; refine ⟨_, rfl, ?_⟩; have n0_ := Aside0.mk (below_step (by repeat (first | (with_reducible first | exact HB.out | apply below_alloc | apply pw_below_drewN | apply below_drew1) | exact HB.out)) hb); clear HB; have HB := n0_; clear n0_; (try clear hb); (try clear hb2); (try clear hk); (try clear hi)))
            refine wp_loop_rounds 5 ?_
            rw [rounds_succ]
            have hia55 := fun w_ : World => (show (Instr.index 37 (.agg #[.int .u64 t117, .int .u64 t118, .int .u64 t119, .int .u64 t120]) (.int .i64 0)).run Try.prog w_ = .ok (.int .u64 t117) w_ from by first | rfl | kernel_rfl)
            have p8 : 0 ≤ ((ji5) : Int) := of_decide_eq_true (by first | (with_reducible assumption) | assumption)
            have q8 : (ji5) < (a0.size : Int) := of_decide_eq_true (by first | (with_reducible assumption) | assumption)
            have hx8 := bt_at a0 (ji5)
            replace p8 := eq_true p8
            replace q8 := eq_true q8
            go_wp2_with (first | go_step3 | go_in)
            ((try rw [Exit.noGoto_ret]); go_ret)
            exact ⟨by first | rfl | (simp [errW_none, errW_some] <;> rfl) | (simp only [← hji5, ← hji9, ← hji11]; first | rfl | (simp [errW_none, errW_some] <;> rfl)) | (simp [*, errW_none, errW_some] <;> rfl), by repeat (first | (with_reducible first | exact HB.out | apply below_alloc | apply pw_below_drewN | apply below_drew1) | exact HB.out)⟩
        · rw [if_neg c10] at H
          exact absurd H (by simp)
      · rw [if_neg c7] at H
        exact absurd H (by simp)
    · rw [if_neg c6] at H
      exact absurd H (by simp)

end Go.Proofs.Ytcnlhpakiadipaa.P
