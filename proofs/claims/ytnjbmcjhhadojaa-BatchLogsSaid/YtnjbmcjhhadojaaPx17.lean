-- Printed by a changed copy of the kit's printer (wip/tools/ext.py); labels and more
import Derived.Test.YtnjbmcjhhadojaaM0
import Derived.Test.YtnjbmcjhhadojaaM2
import Derived.Test.YtnjbmcjhhadojaaM4
import Derived.Test.YtnjbmcjhhadojaaM5
import Derived.Test.YtnjbmcjhhadojaaM6
import Derived.Test.YtnjbmcjhhadojaaM7
import Derived.Test.YtnjbmcjhhadojaaM8
namespace Go.Proofs.Ytnjbmcjhhadojaa.P
open Go.RowKit Go.Proofs.YtnjbmcjhhadojaaW.PrintWords Go.Proofs.YtnjbmcjhhadojaaW.PrintLast Go.Proofs.YtnjbmcjhhadojaaW.PrintMore
attribute [local go_sem] max2_int min2_int max_two min_two max_three min_three max_four min_four   -- for this text's walks alone
attribute [local go_sem high] string_leq string_geq string_gtr
set_option linter.unusedVariables false
set_option linter.unusedSimpArgs false

/-! ### ravelinlaw12_BatchLogs: function 4 -/
mutual
def ravelinlaw12_BatchLogs.j0 : Nat → List (List (S49)) → Int → Int → Int → Bool → Option (Bool)
  | 0, _, _, _, _, _ => none
  | k + 1, x0, x1, x2, x3, x37 => if x37 = true then (some true) else (if (wrap64 (2 * (x0.length : Int))) = 0 then (none) else (ravelinlaw12_BatchLogs.l0 k x0 x1 x2 (⟨#[]⟩ : ByteArray) ([] : List Int) ([] : List Int) 0 (Int.tmod (wrap64 (x3)) (wrap64 (2 * (x0.length : Int)))) 0))
def ravelinlaw12_BatchLogs.l0 : Nat → List (List (S49)) → Int → Int → ByteArray → List Int → List Int → Int → Int → Int → Option (Bool)
  | 0, _, _, _, _, _, _, _, _, _ => none
  | k + 1, x0, x1, x2, x9, x10, x11, x12, x13, x14 => if x14 < (x0.length : Int) then (if 0 ≤ x14 then ((ravelinlaw12_few.f k (rd_L6 x0 x14)).bind fun t258 => (if t258 = true then ((batch_Neat.f k (rd_L6 x0 x14)).bind fun t260 => (if x13 > 0 then (ravelinlaw12_BatchLogs.j2 k x0 x1 x2 x9 x10 x11 x12 x13 x14 t260 (wrap64 ((wrap64 ((wrap64 (x1)) + 1)) + x14)) (decide (x14 ≥ x13))) else (ravelinlaw12_BatchLogs.j2 k x0 x1 x2 x9 x10 x11 x12 x13 x14 t260 (wrap64 ((wrap64 ((wrap64 (x1)) + 1)) + x14)) false))) else (some true))) else (none)) else (if x13 > 0 then (ravelinlaw12_BatchLogs.j4 k x1 x2 x9 x10 x11 x13 (x0.length : Int) (decide (x13 < (x0.length : Int)))) else (ravelinlaw12_BatchLogs.j4 k x1 x2 x9 x10 x11 x13 (x0.length : Int) false))
def ravelinlaw12_BatchLogs.j2 : Nat → List (List (S49)) → Int → Int → ByteArray → List Int → List Int → Int → Int → Int → List (S49) → Int → Bool → Option (Bool)
  | 0, _, _, _, _, _, _, _, _, _, _, _, _ => none
  | k + 1, x0, x1, x2, x9, x10, x11, x12, x13, x14, x15, x16, x72 => if x72 = true then (ravelinlaw12_BatchLogs.j3 k x0 x1 x2 x9 x10 x11 x12 x13 x14 x15 (wrap64 (x16 + 1))) else (ravelinlaw12_BatchLogs.j3 k x0 x1 x2 x9 x10 x11 x12 x13 x14 x15 x16)
def ravelinlaw12_BatchLogs.j3 : Nat → List (List (S49)) → Int → Int → ByteArray → List Int → List Int → Int → Int → Int → List (S49) → Int → Option (Bool)
  | 0, _, _, _, _, _, _, _, _, _, _, _ => none
  | k + 1, x0, x1, x2, x9, x10, x11, x12, x13, x14, x15, x16 => (batch_Bytes.f k x16 x15).bind fun bt263 => (if bt263.2 = 0 then (if x9.size + bt263.1.size ≤ 9223372036854775807 then (if x10.length < 17592186044416 then (if x11.length < 17592186044416 then (ravelinlaw12_BatchLogs.l0 k x0 x1 x2 (x9 ++ bt263.1) (x10 ++ [((x9 ++ bt263.1).size : Int)]) (x11 ++ [wrap64 (x12 + (x15.length : Int))]) (wrap64 (x12 + (x15.length : Int))) x13 (wrap64 (x14 + 1))) else (none)) else (none)) else (none)) else ((ravelinref12_Is.f k x15).bind fun t271 => (some (!t271))))
def ravelinlaw12_BatchLogs.j4 : Nat → Int → Int → ByteArray → List Int → List Int → Int → Int → Bool → Option (Bool)
  | 0, _, _, _, _, _, _, _, _ => none
  | k + 1, x1, x2, x9, x10, x11, x13, x19, x111 => if x111 = true then (ravelinlaw12_BatchLogs.j5 k x1 x2 x9 x10 x11 x13) else (ravelinlaw12_BatchLogs.j5 k x1 x2 x9 x10 x11 x19)
def ravelinlaw12_BatchLogs.j5 : Nat → Int → Int → ByteArray → List Int → List Int → Int → Option (Bool)
  | 0, _, _, _, _, _, _ => none
  | k + 1, x1, x2, x9, x10, x11, x19 => (batch_Log.f k x9).bind fun bt272 => (if 0 ≤ (wrap64 (x19 - 1)) then (if (wrap64 (x19 - 1)) < (x11.length : Int) then (if (bt272.1.length : Int) = (rd x11 (wrap64 (x19 - 1))) then (if bt272.2.1 = (wrap64 ((wrap64 (x1)) + x19)) then (if (wrap64 (x19 - 1)) < (x10.length : Int) then (ravelinlaw12_BatchLogs.j6 k x1 x2 x9 x10 x11 x19 (bt272.2.2 != (rd x10 (wrap64 (x19 - 1))))) else (none)) else (ravelinlaw12_BatchLogs.j6 k x1 x2 x9 x10 x11 x19 true)) else (ravelinlaw12_BatchLogs.j6 k x1 x2 x9 x10 x11 x19 true)) else (none)) else (none))
def ravelinlaw12_BatchLogs.j6 : Nat → Int → Int → ByteArray → List Int → List Int → Int → Bool → Option (Bool)
  | 0, _, _, _, _, _, _, _ => none
  | k + 1, x1, x2, x9, x10, x11, x19, x143 => if x143 = true then (some false) else (if (x9.size : Int) = 0 then (none) else (ravelinlaw12_BatchLogs.l1 k x1 x9 x10 x11 x19 (Int.tmod (wrap64 (x2)) (x9.size : Int)) 0))
def ravelinlaw12_BatchLogs.j8 : Nat → Int → ByteArray → List Int → List Int → Int → Int → Option (Bool)
  | 0, _, _, _, _, _, _ => none
  | k + 1, x1, x9, x10, x11, x23, x24 => if 0 ≤ x23 then (if x23 ≤ (x9.size : Int) then ((batch_Log.f k (x9.extract 0 (x23 : Int).toNat)).bind fun bt280 => (if x24 = 0 then (if (bt280.1.length : Int) = 0 then (if bt280.2.1 = 0 then (some (bt280.2.2 == 0)) else (some false)) else (some false)) else (if 0 ≤ (wrap64 (x24 - 1)) then (if (wrap64 (x24 - 1)) < (x11.length : Int) then (if (bt280.1.length : Int) = (rd x11 (wrap64 (x24 - 1))) then (if bt280.2.1 = (wrap64 ((wrap64 (x1)) + x24)) then (if (wrap64 (x24 - 1)) < (x10.length : Int) then (some (bt280.2.2 == (rd x10 (wrap64 (x24 - 1))))) else (none)) else (some false)) else (some false)) else (none)) else (none)))) else (none)) else (none)
def ravelinlaw12_BatchLogs.l1 : Nat → Int → ByteArray → List Int → List Int → Int → Int → Int → Option (Bool)
  | 0, _, _, _, _, _, _, _ => none
  | k + 1, x1, x9, x10, x11, x19, x23, x24 => if x24 < x19 then (if 0 ≤ x24 then (if x24 < (x10.length : Int) then (if (rd x10 x24) ≤ x23 then (ravelinlaw12_BatchLogs.l1 k x1 x9 x10 x11 x19 x23 (wrap64 (x24 + 1))) else (ravelinlaw12_BatchLogs.j8 k x1 x9 x10 x11 x23 x24)) else (none)) else (none)) else (ravelinlaw12_BatchLogs.j8 k x1 x9 x10 x11 x23 x24)
end
def ravelinlaw12_BatchLogs.f (k : Nat) (l0 : List (List (S49))) (a1 : Int) (a2 : Int) (a3 : Int) : Option (Bool) := (ravelinlaw12_known.f k).bind fun t256 => (if t256 = true then (if (l0.length : Int) > 10 then (ravelinlaw12_BatchLogs.j0 k l0 a1 a2 a3 true) else (ravelinlaw12_BatchLogs.j0 k l0 a1 a2 a3 ((l0.length : Int) == 0))) else (some false))
theorem ravelinlaw12_BatchLogs.mono_l : ∀ k, (∀ y0 y1 y2 y3 y4, LeO (ravelinlaw12_BatchLogs.j0 k y0 y1 y2 y3 y4) (ravelinlaw12_BatchLogs.j0 (k + 1) y0 y1 y2 y3 y4)) ∧ (∀ y0 y1 y2 y3 y4 y5 y6 y7 y8, LeO (ravelinlaw12_BatchLogs.l0 k y0 y1 y2 y3 y4 y5 y6 y7 y8) (ravelinlaw12_BatchLogs.l0 (k + 1) y0 y1 y2 y3 y4 y5 y6 y7 y8)) ∧ (∀ y0 y1 y2 y3 y4 y5 y6 y7 y8 y9 y10 y11, LeO (ravelinlaw12_BatchLogs.j2 k y0 y1 y2 y3 y4 y5 y6 y7 y8 y9 y10 y11) (ravelinlaw12_BatchLogs.j2 (k + 1) y0 y1 y2 y3 y4 y5 y6 y7 y8 y9 y10 y11)) ∧ (∀ y0 y1 y2 y3 y4 y5 y6 y7 y8 y9 y10, LeO (ravelinlaw12_BatchLogs.j3 k y0 y1 y2 y3 y4 y5 y6 y7 y8 y9 y10) (ravelinlaw12_BatchLogs.j3 (k + 1) y0 y1 y2 y3 y4 y5 y6 y7 y8 y9 y10)) ∧ (∀ y0 y1 y2 y3 y4 y5 y6 y7, LeO (ravelinlaw12_BatchLogs.j4 k y0 y1 y2 y3 y4 y5 y6 y7) (ravelinlaw12_BatchLogs.j4 (k + 1) y0 y1 y2 y3 y4 y5 y6 y7)) ∧ (∀ y0 y1 y2 y3 y4 y5, LeO (ravelinlaw12_BatchLogs.j5 k y0 y1 y2 y3 y4 y5) (ravelinlaw12_BatchLogs.j5 (k + 1) y0 y1 y2 y3 y4 y5)) ∧ (∀ y0 y1 y2 y3 y4 y5 y6, LeO (ravelinlaw12_BatchLogs.j6 k y0 y1 y2 y3 y4 y5 y6) (ravelinlaw12_BatchLogs.j6 (k + 1) y0 y1 y2 y3 y4 y5 y6)) ∧ (∀ y0 y1 y2 y3 y4 y5, LeO (ravelinlaw12_BatchLogs.j8 k y0 y1 y2 y3 y4 y5) (ravelinlaw12_BatchLogs.j8 (k + 1) y0 y1 y2 y3 y4 y5)) ∧ (∀ y0 y1 y2 y3 y4 y5 y6, LeO (ravelinlaw12_BatchLogs.l1 k y0 y1 y2 y3 y4 y5 y6) (ravelinlaw12_BatchLogs.l1 (k + 1) y0 y1 y2 y3 y4 y5 y6))
  | 0 => ⟨fun _ _ _ _ _ r h => by simp [ravelinlaw12_BatchLogs.j0] at h, fun _ _ _ _ _ _ _ _ _ r h => by simp [ravelinlaw12_BatchLogs.l0] at h, fun _ _ _ _ _ _ _ _ _ _ _ _ r h => by simp [ravelinlaw12_BatchLogs.j2] at h, fun _ _ _ _ _ _ _ _ _ _ _ r h => by simp [ravelinlaw12_BatchLogs.j3] at h, fun _ _ _ _ _ _ _ _ r h => by simp [ravelinlaw12_BatchLogs.j4] at h, fun _ _ _ _ _ _ r h => by simp [ravelinlaw12_BatchLogs.j5] at h, fun _ _ _ _ _ _ _ r h => by simp [ravelinlaw12_BatchLogs.j6] at h, fun _ _ _ _ _ _ r h => by simp [ravelinlaw12_BatchLogs.j8] at h, fun _ _ _ _ _ _ _ r h => by simp [ravelinlaw12_BatchLogs.l1] at h⟩
  | k + 1 => by
    obtain ⟨ih0, ih1, ih2, ih3, ih4, ih5, ih6, ih7, ih8⟩ := ravelinlaw12_BatchLogs.mono_l k
    refine ⟨?_, ?_, ?_, ?_, ?_, ?_, ?_, ?_, ?_⟩
    · intro y0 y1 y2 y3 y4
      unfold ravelinlaw12_BatchLogs.j0
      repeat' first
      | (with_reducible exact ih0 _ _ _ _ _)
      | (with_reducible exact ih1 _ _ _ _ _ _ _ _ _)
      | (with_reducible exact ih2 _ _ _ _ _ _ _ _ _ _ _ _)
      | (with_reducible exact ih3 _ _ _ _ _ _ _ _ _ _ _)
      | (with_reducible exact ih4 _ _ _ _ _ _ _ _)
      | (with_reducible exact ih5 _ _ _ _ _ _)
      | (with_reducible exact ih6 _ _ _ _ _ _ _)
      | (with_reducible exact ih7 _ _ _ _ _ _)
      | (with_reducible exact ih8 _ _ _ _ _ _ _)
      | (with_reducible exact batch_Bytes.mono _ _ _)
      | (with_reducible exact batch_Log.mono _ _)
      | (with_reducible exact batch_Neat.mono _ _)
      | (with_reducible exact ravelinlaw12_few.mono _ _)
      | (with_reducible exact ravelinlaw12_known.mono _)
      | (with_reducible exact ravelinref12_Is.mono _ _)
      | (with_reducible exact LeO.refl _)
      | (with_reducible exact LeO.none _)
      | (with_reducible refine LeO.ite ?_ ?_)
      | (with_reducible refine LeO.bind ?_ (fun _ => ?_))
      | exact ih0 _ _ _ _ _
      | exact ih1 _ _ _ _ _ _ _ _ _
      | exact ih2 _ _ _ _ _ _ _ _ _ _ _ _
      | exact ih3 _ _ _ _ _ _ _ _ _ _ _
      | exact ih4 _ _ _ _ _ _ _ _
      | exact ih5 _ _ _ _ _ _
      | exact ih6 _ _ _ _ _ _ _
      | exact ih7 _ _ _ _ _ _
      | exact ih8 _ _ _ _ _ _ _
      | exact batch_Bytes.mono _ _ _
      | exact batch_Log.mono _ _
      | exact batch_Neat.mono _ _
      | exact ravelinlaw12_few.mono _ _
      | exact ravelinlaw12_known.mono _
      | exact ravelinref12_Is.mono _ _
      | exact LeO.none _
      | refine LeO.ite ?_ ?_
      | refine LeO.bind ?_ (fun _ => ?_)
    · intro y0 y1 y2 y3 y4 y5 y6 y7 y8
      unfold ravelinlaw12_BatchLogs.l0
      repeat' first
      | (with_reducible exact ih0 _ _ _ _ _)
      | (with_reducible exact ih1 _ _ _ _ _ _ _ _ _)
      | (with_reducible exact ih2 _ _ _ _ _ _ _ _ _ _ _ _)
      | (with_reducible exact ih3 _ _ _ _ _ _ _ _ _ _ _)
      | (with_reducible exact ih4 _ _ _ _ _ _ _ _)
      | (with_reducible exact ih5 _ _ _ _ _ _)
      | (with_reducible exact ih6 _ _ _ _ _ _ _)
      | (with_reducible exact ih7 _ _ _ _ _ _)
      | (with_reducible exact ih8 _ _ _ _ _ _ _)
      | (with_reducible exact batch_Bytes.mono _ _ _)
      | (with_reducible exact batch_Log.mono _ _)
      | (with_reducible exact batch_Neat.mono _ _)
      | (with_reducible exact ravelinlaw12_few.mono _ _)
      | (with_reducible exact ravelinlaw12_known.mono _)
      | (with_reducible exact ravelinref12_Is.mono _ _)
      | (with_reducible exact LeO.refl _)
      | (with_reducible exact LeO.none _)
      | (with_reducible refine LeO.ite ?_ ?_)
      | (with_reducible refine LeO.bind ?_ (fun _ => ?_))
      | exact ih0 _ _ _ _ _
      | exact ih1 _ _ _ _ _ _ _ _ _
      | exact ih2 _ _ _ _ _ _ _ _ _ _ _ _
      | exact ih3 _ _ _ _ _ _ _ _ _ _ _
      | exact ih4 _ _ _ _ _ _ _ _
      | exact ih5 _ _ _ _ _ _
      | exact ih6 _ _ _ _ _ _ _
      | exact ih7 _ _ _ _ _ _
      | exact ih8 _ _ _ _ _ _ _
      | exact batch_Bytes.mono _ _ _
      | exact batch_Log.mono _ _
      | exact batch_Neat.mono _ _
      | exact ravelinlaw12_few.mono _ _
      | exact ravelinlaw12_known.mono _
      | exact ravelinref12_Is.mono _ _
      | exact LeO.none _
      | refine LeO.ite ?_ ?_
      | refine LeO.bind ?_ (fun _ => ?_)
    · intro y0 y1 y2 y3 y4 y5 y6 y7 y8 y9 y10 y11
      unfold ravelinlaw12_BatchLogs.j2
      repeat' first
      | (with_reducible exact ih0 _ _ _ _ _)
      | (with_reducible exact ih1 _ _ _ _ _ _ _ _ _)
      | (with_reducible exact ih2 _ _ _ _ _ _ _ _ _ _ _ _)
      | (with_reducible exact ih3 _ _ _ _ _ _ _ _ _ _ _)
      | (with_reducible exact ih4 _ _ _ _ _ _ _ _)
      | (with_reducible exact ih5 _ _ _ _ _ _)
      | (with_reducible exact ih6 _ _ _ _ _ _ _)
      | (with_reducible exact ih7 _ _ _ _ _ _)
      | (with_reducible exact ih8 _ _ _ _ _ _ _)
      | (with_reducible exact batch_Bytes.mono _ _ _)
      | (with_reducible exact batch_Log.mono _ _)
      | (with_reducible exact batch_Neat.mono _ _)
      | (with_reducible exact ravelinlaw12_few.mono _ _)
      | (with_reducible exact ravelinlaw12_known.mono _)
      | (with_reducible exact ravelinref12_Is.mono _ _)
      | (with_reducible exact LeO.refl _)
      | (with_reducible exact LeO.none _)
      | (with_reducible refine LeO.ite ?_ ?_)
      | (with_reducible refine LeO.bind ?_ (fun _ => ?_))
      | exact ih0 _ _ _ _ _
      | exact ih1 _ _ _ _ _ _ _ _ _
      | exact ih2 _ _ _ _ _ _ _ _ _ _ _ _
      | exact ih3 _ _ _ _ _ _ _ _ _ _ _
      | exact ih4 _ _ _ _ _ _ _ _
      | exact ih5 _ _ _ _ _ _
      | exact ih6 _ _ _ _ _ _ _
      | exact ih7 _ _ _ _ _ _
      | exact ih8 _ _ _ _ _ _ _
      | exact batch_Bytes.mono _ _ _
      | exact batch_Log.mono _ _
      | exact batch_Neat.mono _ _
      | exact ravelinlaw12_few.mono _ _
      | exact ravelinlaw12_known.mono _
      | exact ravelinref12_Is.mono _ _
      | exact LeO.none _
      | refine LeO.ite ?_ ?_
      | refine LeO.bind ?_ (fun _ => ?_)
    · intro y0 y1 y2 y3 y4 y5 y6 y7 y8 y9 y10
      unfold ravelinlaw12_BatchLogs.j3
      repeat' first
      | (with_reducible exact ih0 _ _ _ _ _)
      | (with_reducible exact ih1 _ _ _ _ _ _ _ _ _)
      | (with_reducible exact ih2 _ _ _ _ _ _ _ _ _ _ _ _)
      | (with_reducible exact ih3 _ _ _ _ _ _ _ _ _ _ _)
      | (with_reducible exact ih4 _ _ _ _ _ _ _ _)
      | (with_reducible exact ih5 _ _ _ _ _ _)
      | (with_reducible exact ih6 _ _ _ _ _ _ _)
      | (with_reducible exact ih7 _ _ _ _ _ _)
      | (with_reducible exact ih8 _ _ _ _ _ _ _)
      | (with_reducible exact batch_Bytes.mono _ _ _)
      | (with_reducible exact batch_Log.mono _ _)
      | (with_reducible exact batch_Neat.mono _ _)
      | (with_reducible exact ravelinlaw12_few.mono _ _)
      | (with_reducible exact ravelinlaw12_known.mono _)
      | (with_reducible exact ravelinref12_Is.mono _ _)
      | (with_reducible exact LeO.refl _)
      | (with_reducible exact LeO.none _)
      | (with_reducible refine LeO.ite ?_ ?_)
      | (with_reducible refine LeO.bind ?_ (fun _ => ?_))
      | exact ih0 _ _ _ _ _
      | exact ih1 _ _ _ _ _ _ _ _ _
      | exact ih2 _ _ _ _ _ _ _ _ _ _ _ _
      | exact ih3 _ _ _ _ _ _ _ _ _ _ _
      | exact ih4 _ _ _ _ _ _ _ _
      | exact ih5 _ _ _ _ _ _
      | exact ih6 _ _ _ _ _ _ _
      | exact ih7 _ _ _ _ _ _
      | exact ih8 _ _ _ _ _ _ _
      | exact batch_Bytes.mono _ _ _
      | exact batch_Log.mono _ _
      | exact batch_Neat.mono _ _
      | exact ravelinlaw12_few.mono _ _
      | exact ravelinlaw12_known.mono _
      | exact ravelinref12_Is.mono _ _
      | exact LeO.none _
      | refine LeO.ite ?_ ?_
      | refine LeO.bind ?_ (fun _ => ?_)
    · intro y0 y1 y2 y3 y4 y5 y6 y7
      unfold ravelinlaw12_BatchLogs.j4
      repeat' first
      | (with_reducible exact ih0 _ _ _ _ _)
      | (with_reducible exact ih1 _ _ _ _ _ _ _ _ _)
      | (with_reducible exact ih2 _ _ _ _ _ _ _ _ _ _ _ _)
      | (with_reducible exact ih3 _ _ _ _ _ _ _ _ _ _ _)
      | (with_reducible exact ih4 _ _ _ _ _ _ _ _)
      | (with_reducible exact ih5 _ _ _ _ _ _)
      | (with_reducible exact ih6 _ _ _ _ _ _ _)
      | (with_reducible exact ih7 _ _ _ _ _ _)
      | (with_reducible exact ih8 _ _ _ _ _ _ _)
      | (with_reducible exact batch_Bytes.mono _ _ _)
      | (with_reducible exact batch_Log.mono _ _)
      | (with_reducible exact batch_Neat.mono _ _)
      | (with_reducible exact ravelinlaw12_few.mono _ _)
      | (with_reducible exact ravelinlaw12_known.mono _)
      | (with_reducible exact ravelinref12_Is.mono _ _)
      | (with_reducible exact LeO.refl _)
      | (with_reducible exact LeO.none _)
      | (with_reducible refine LeO.ite ?_ ?_)
      | (with_reducible refine LeO.bind ?_ (fun _ => ?_))
      | exact ih0 _ _ _ _ _
      | exact ih1 _ _ _ _ _ _ _ _ _
      | exact ih2 _ _ _ _ _ _ _ _ _ _ _ _
      | exact ih3 _ _ _ _ _ _ _ _ _ _ _
      | exact ih4 _ _ _ _ _ _ _ _
      | exact ih5 _ _ _ _ _ _
      | exact ih6 _ _ _ _ _ _ _
      | exact ih7 _ _ _ _ _ _
      | exact ih8 _ _ _ _ _ _ _
      | exact batch_Bytes.mono _ _ _
      | exact batch_Log.mono _ _
      | exact batch_Neat.mono _ _
      | exact ravelinlaw12_few.mono _ _
      | exact ravelinlaw12_known.mono _
      | exact ravelinref12_Is.mono _ _
      | exact LeO.none _
      | refine LeO.ite ?_ ?_
      | refine LeO.bind ?_ (fun _ => ?_)
    · intro y0 y1 y2 y3 y4 y5
      unfold ravelinlaw12_BatchLogs.j5
      repeat' first
      | (with_reducible exact ih0 _ _ _ _ _)
      | (with_reducible exact ih1 _ _ _ _ _ _ _ _ _)
      | (with_reducible exact ih2 _ _ _ _ _ _ _ _ _ _ _ _)
      | (with_reducible exact ih3 _ _ _ _ _ _ _ _ _ _ _)
      | (with_reducible exact ih4 _ _ _ _ _ _ _ _)
      | (with_reducible exact ih5 _ _ _ _ _ _)
      | (with_reducible exact ih6 _ _ _ _ _ _ _)
      | (with_reducible exact ih7 _ _ _ _ _ _)
      | (with_reducible exact ih8 _ _ _ _ _ _ _)
      | (with_reducible exact batch_Bytes.mono _ _ _)
      | (with_reducible exact batch_Log.mono _ _)
      | (with_reducible exact batch_Neat.mono _ _)
      | (with_reducible exact ravelinlaw12_few.mono _ _)
      | (with_reducible exact ravelinlaw12_known.mono _)
      | (with_reducible exact ravelinref12_Is.mono _ _)
      | (with_reducible exact LeO.refl _)
      | (with_reducible exact LeO.none _)
      | (with_reducible refine LeO.ite ?_ ?_)
      | (with_reducible refine LeO.bind ?_ (fun _ => ?_))
      | exact ih0 _ _ _ _ _
      | exact ih1 _ _ _ _ _ _ _ _ _
      | exact ih2 _ _ _ _ _ _ _ _ _ _ _ _
      | exact ih3 _ _ _ _ _ _ _ _ _ _ _
      | exact ih4 _ _ _ _ _ _ _ _
      | exact ih5 _ _ _ _ _ _
      | exact ih6 _ _ _ _ _ _ _
      | exact ih7 _ _ _ _ _ _
      | exact ih8 _ _ _ _ _ _ _
      | exact batch_Bytes.mono _ _ _
      | exact batch_Log.mono _ _
      | exact batch_Neat.mono _ _
      | exact ravelinlaw12_few.mono _ _
      | exact ravelinlaw12_known.mono _
      | exact ravelinref12_Is.mono _ _
      | exact LeO.none _
      | refine LeO.ite ?_ ?_
      | refine LeO.bind ?_ (fun _ => ?_)
    · intro y0 y1 y2 y3 y4 y5 y6
      unfold ravelinlaw12_BatchLogs.j6
      repeat' first
      | (with_reducible exact ih0 _ _ _ _ _)
      | (with_reducible exact ih1 _ _ _ _ _ _ _ _ _)
      | (with_reducible exact ih2 _ _ _ _ _ _ _ _ _ _ _ _)
      | (with_reducible exact ih3 _ _ _ _ _ _ _ _ _ _ _)
      | (with_reducible exact ih4 _ _ _ _ _ _ _ _)
      | (with_reducible exact ih5 _ _ _ _ _ _)
      | (with_reducible exact ih6 _ _ _ _ _ _ _)
      | (with_reducible exact ih7 _ _ _ _ _ _)
      | (with_reducible exact ih8 _ _ _ _ _ _ _)
      | (with_reducible exact batch_Bytes.mono _ _ _)
      | (with_reducible exact batch_Log.mono _ _)
      | (with_reducible exact batch_Neat.mono _ _)
      | (with_reducible exact ravelinlaw12_few.mono _ _)
      | (with_reducible exact ravelinlaw12_known.mono _)
      | (with_reducible exact ravelinref12_Is.mono _ _)
      | (with_reducible exact LeO.refl _)
      | (with_reducible exact LeO.none _)
      | (with_reducible refine LeO.ite ?_ ?_)
      | (with_reducible refine LeO.bind ?_ (fun _ => ?_))
      | exact ih0 _ _ _ _ _
      | exact ih1 _ _ _ _ _ _ _ _ _
      | exact ih2 _ _ _ _ _ _ _ _ _ _ _ _
      | exact ih3 _ _ _ _ _ _ _ _ _ _ _
      | exact ih4 _ _ _ _ _ _ _ _
      | exact ih5 _ _ _ _ _ _
      | exact ih6 _ _ _ _ _ _ _
      | exact ih7 _ _ _ _ _ _
      | exact ih8 _ _ _ _ _ _ _
      | exact batch_Bytes.mono _ _ _
      | exact batch_Log.mono _ _
      | exact batch_Neat.mono _ _
      | exact ravelinlaw12_few.mono _ _
      | exact ravelinlaw12_known.mono _
      | exact ravelinref12_Is.mono _ _
      | exact LeO.none _
      | refine LeO.ite ?_ ?_
      | refine LeO.bind ?_ (fun _ => ?_)
    · intro y0 y1 y2 y3 y4 y5
      unfold ravelinlaw12_BatchLogs.j8
      repeat' first
      | (with_reducible exact ih0 _ _ _ _ _)
      | (with_reducible exact ih1 _ _ _ _ _ _ _ _ _)
      | (with_reducible exact ih2 _ _ _ _ _ _ _ _ _ _ _ _)
      | (with_reducible exact ih3 _ _ _ _ _ _ _ _ _ _ _)
      | (with_reducible exact ih4 _ _ _ _ _ _ _ _)
      | (with_reducible exact ih5 _ _ _ _ _ _)
      | (with_reducible exact ih6 _ _ _ _ _ _ _)
      | (with_reducible exact ih7 _ _ _ _ _ _)
      | (with_reducible exact ih8 _ _ _ _ _ _ _)
      | (with_reducible exact batch_Bytes.mono _ _ _)
      | (with_reducible exact batch_Log.mono _ _)
      | (with_reducible exact batch_Neat.mono _ _)
      | (with_reducible exact ravelinlaw12_few.mono _ _)
      | (with_reducible exact ravelinlaw12_known.mono _)
      | (with_reducible exact ravelinref12_Is.mono _ _)
      | (with_reducible exact LeO.refl _)
      | (with_reducible exact LeO.none _)
      | (with_reducible refine LeO.ite ?_ ?_)
      | (with_reducible refine LeO.bind ?_ (fun _ => ?_))
      | exact ih0 _ _ _ _ _
      | exact ih1 _ _ _ _ _ _ _ _ _
      | exact ih2 _ _ _ _ _ _ _ _ _ _ _ _
      | exact ih3 _ _ _ _ _ _ _ _ _ _ _
      | exact ih4 _ _ _ _ _ _ _ _
      | exact ih5 _ _ _ _ _ _
      | exact ih6 _ _ _ _ _ _ _
      | exact ih7 _ _ _ _ _ _
      | exact ih8 _ _ _ _ _ _ _
      | exact batch_Bytes.mono _ _ _
      | exact batch_Log.mono _ _
      | exact batch_Neat.mono _ _
      | exact ravelinlaw12_few.mono _ _
      | exact ravelinlaw12_known.mono _
      | exact ravelinref12_Is.mono _ _
      | exact LeO.none _
      | refine LeO.ite ?_ ?_
      | refine LeO.bind ?_ (fun _ => ?_)
    · intro y0 y1 y2 y3 y4 y5 y6
      unfold ravelinlaw12_BatchLogs.l1
      repeat' first
      | (with_reducible exact ih0 _ _ _ _ _)
      | (with_reducible exact ih1 _ _ _ _ _ _ _ _ _)
      | (with_reducible exact ih2 _ _ _ _ _ _ _ _ _ _ _ _)
      | (with_reducible exact ih3 _ _ _ _ _ _ _ _ _ _ _)
      | (with_reducible exact ih4 _ _ _ _ _ _ _ _)
      | (with_reducible exact ih5 _ _ _ _ _ _)
      | (with_reducible exact ih6 _ _ _ _ _ _ _)
      | (with_reducible exact ih7 _ _ _ _ _ _)
      | (with_reducible exact ih8 _ _ _ _ _ _ _)
      | (with_reducible exact batch_Bytes.mono _ _ _)
      | (with_reducible exact batch_Log.mono _ _)
      | (with_reducible exact batch_Neat.mono _ _)
      | (with_reducible exact ravelinlaw12_few.mono _ _)
      | (with_reducible exact ravelinlaw12_known.mono _)
      | (with_reducible exact ravelinref12_Is.mono _ _)
      | (with_reducible exact LeO.refl _)
      | (with_reducible exact LeO.none _)
      | (with_reducible refine LeO.ite ?_ ?_)
      | (with_reducible refine LeO.bind ?_ (fun _ => ?_))
      | exact ih0 _ _ _ _ _
      | exact ih1 _ _ _ _ _ _ _ _ _
      | exact ih2 _ _ _ _ _ _ _ _ _ _ _ _
      | exact ih3 _ _ _ _ _ _ _ _ _ _ _
      | exact ih4 _ _ _ _ _ _ _ _
      | exact ih5 _ _ _ _ _ _
      | exact ih6 _ _ _ _ _ _ _
      | exact ih7 _ _ _ _ _ _
      | exact ih8 _ _ _ _ _ _ _
      | exact batch_Bytes.mono _ _ _
      | exact batch_Log.mono _ _
      | exact batch_Neat.mono _ _
      | exact ravelinlaw12_few.mono _ _
      | exact ravelinlaw12_known.mono _
      | exact ravelinref12_Is.mono _ _
      | exact LeO.none _
      | refine LeO.ite ?_ ?_
      | refine LeO.bind ?_ (fun _ => ?_)
theorem ravelinlaw12_BatchLogs.mono : ∀ a0 a1 a2 a3 k, LeO (ravelinlaw12_BatchLogs.f k a0 a1 a2 a3) (ravelinlaw12_BatchLogs.f (k + 1) a0 a1 a2 a3) := by
  intro a0 a1 a2 a3 k
  obtain ⟨ih0, ih1, ih2, ih3, ih4, ih5, ih6, ih7, ih8⟩ := ravelinlaw12_BatchLogs.mono_l k
  unfold ravelinlaw12_BatchLogs.f
  repeat' first
      | (with_reducible exact ih0 _ _ _ _ _)
      | (with_reducible exact ih1 _ _ _ _ _ _ _ _ _)
      | (with_reducible exact ih2 _ _ _ _ _ _ _ _ _ _ _ _)
      | (with_reducible exact ih3 _ _ _ _ _ _ _ _ _ _ _)
      | (with_reducible exact ih4 _ _ _ _ _ _ _ _)
      | (with_reducible exact ih5 _ _ _ _ _ _)
      | (with_reducible exact ih6 _ _ _ _ _ _ _)
      | (with_reducible exact ih7 _ _ _ _ _ _)
      | (with_reducible exact ih8 _ _ _ _ _ _ _)
      | (with_reducible exact batch_Bytes.mono _ _ _)
      | (with_reducible exact batch_Log.mono _ _)
      | (with_reducible exact batch_Neat.mono _ _)
      | (with_reducible exact ravelinlaw12_few.mono _ _)
      | (with_reducible exact ravelinlaw12_known.mono _)
      | (with_reducible exact ravelinref12_Is.mono _ _)
      | (with_reducible exact LeO.refl _)
      | (with_reducible exact LeO.none _)
      | (with_reducible refine LeO.ite ?_ ?_)
      | (with_reducible refine LeO.bind ?_ (fun _ => ?_))
      | exact ih0 _ _ _ _ _
      | exact ih1 _ _ _ _ _ _ _ _ _
      | exact ih2 _ _ _ _ _ _ _ _ _ _ _ _
      | exact ih3 _ _ _ _ _ _ _ _ _ _ _
      | exact ih4 _ _ _ _ _ _ _ _
      | exact ih5 _ _ _ _ _ _
      | exact ih6 _ _ _ _ _ _ _
      | exact ih7 _ _ _ _ _ _
      | exact ih8 _ _ _ _ _ _ _
      | exact batch_Bytes.mono _ _ _
      | exact batch_Log.mono _ _
      | exact batch_Neat.mono _ _
      | exact ravelinlaw12_few.mono _ _
      | exact ravelinlaw12_known.mono _
      | exact ravelinref12_Is.mono _ _
      | exact LeO.none _
      | refine LeO.ite ?_ ?_
      | refine LeO.bind ?_ (fun _ => ?_)
set_option maxHeartbeats 8000000 in
set_option maxRecDepth 100000 in
theorem ravelinlaw12_BatchLogs.calls (k : Nat) (A0 : Option Addr) (c0 : Nat) (l0 : List (List (S49))) (a1 : Int) (a2 : Int) (a3 : Int) (r : Bool) (w : World) (hr0 : Kd.C (Kd.slice 49 k49) w A0 l0.length l0) (hc0 : l0.length ≤ c0) (h : ravelinlaw12_BatchLogs.f k l0 a1 a2 a3 = some r) (hr_ : r = true) :
    Calls Try.prog 4 #[.slice A0 l0.length c0, .int .u16 a1, .int .u16 a2, .int .u8 a3] w fun e w' => e = .returned (.bool r) ∧ Below w.heap.size w w' := by
  have HR0 := Aside0.mk hr0
  have HC0 := Aside0.mk hc0
  clear hr0 hc0
  have HB := Aside0.mk (Below.refl w.heap.size w)
  have H : ((ravelinlaw12_known.f k).bind fun t256 => (if t256 = true then (if (l0.length : Int) > 10 then (ravelinlaw12_BatchLogs.j0 k l0 a1 a2 a3 true) else (ravelinlaw12_BatchLogs.j0 k l0 a1 a2 a3 ((l0.length : Int) == 0))) else (some false))) = some r := h
  clear h
  have HR_ := Aside0.mk hr_
  clear hr_
  replace H := Option.bind_eq_some_iff.mp H
  obtain ⟨t256, A50, H⟩ := H
  replace H : (if t256 = true then (if (l0.length : Int) > 10 then (ravelinlaw12_BatchLogs.j0 k l0 a1 a2 a3 true) else (ravelinlaw12_BatchLogs.j0 k l0 a1 a2 a3 ((l0.length : Int) == 0))) else (some false)) = some r := H
  have A5 := Aside0.mk A50
  clear A50
  by_cases c6 : t256 = true
  · subst c6
    have H1 : (if (l0.length : Int) > 10 then (ravelinlaw12_BatchLogs.j0 k l0 a1 a2 a3 true) else (ravelinlaw12_BatchLogs.j0 k l0 a1 a2 a3 ((l0.length : Int) == 0))) = some r := by rw [if_pos rfl] at H; exact H
    clear H
    have H := H1
    clear H1
    have HC7 := Aside0.mk H
    clear H
    go_enter Try.func4, Try.ntmps4
    go_upto_region 3 with (first | ((with_reducible refine gate_callee (f := 7) rfl ?_); refine goesL_ (some 28) rfl rfl Try.func7 (by kernel_rfl) rfl #[] rfl (by (try simp only [List.map_toArray, List.map_cons, List.map_nil]); first | done | rfl | (simp only [List.length_drop, List.length_take]; rfl)) ?_; (with_reducible refine (ravelinlaw12_known.calls k  true _ A5.out (by first | rfl | assumption | exact of_decide_eq_true (by assumption))).mono ?_); rintro e w8 ⟨rfl, hb⟩; refine ⟨_, rfl, ?_⟩; have n0_ := Aside0.mk (below_step (by repeat (first | (with_reducible first | exact HB.out | apply below_alloc | apply pw_below_drewN | apply below_drew1) | exact HB.out)) hb); clear HB; have HB := n0_; clear n0_; (try clear hb); (try clear hb2); (try clear hk); (try clear hi)))
    (try simp only [Act.put, List.setIfInBounds_toArray, List.set_cons_zero, List.set_cons_succ])
    go_cut [37] (fun v37 wc => ∃ (kq : Nat) (x37_6 : Bool), v37 = .bool x37_6 ∧ Aside0 (ravelinlaw12_BatchLogs.j0 kq l0 a1 a2 a3 x37_6 = some r) ∧ Aside0 (kq ≤ k) ∧ Aside0 (Below w.heap.size w wc))
    case first => as_aux_lemma =>
      have H := HC7.out
      clear HC7
      by_cases c9 : (l0.length : Int) > 10
      · rw [if_pos c9] at H
        have c9b0 : decide (10 < (l0.length : Int)) = true := decide_eq_true c9
        have c9b1 : decide (10 < l0.length) = true := decide_eq_true (by omega)
        clear c9
        (first | rw [c9b0] | (simp only [i64_w, i32_w]; rw [c9b0]) | skip)
        have H' := Aside0.mk H
        clear H
        go_wp2
        go_meet
        case rel => exact ⟨_, (true), (by first | rfl | (simp; done) | (simp [*]; done)), H', ⟨by first | omega | exact Nat.le_refl _⟩, ⟨by repeat (first | (with_reducible first | exact HB.out | apply below_alloc | apply pw_below_drewN | apply below_drew1) | exact HB.out)⟩⟩
      · rw [if_neg c9] at H
        have c9b0 : decide (10 < (l0.length : Int)) = false := decide_eq_false c9
        have c9b1 : decide (10 < l0.length) = false := decide_eq_false (by omega)
        clear c9
        (first | rw [c9b0] | (simp only [i64_w, i32_w]; rw [c9b0]) | skip)
        have H' := Aside0.mk H
        clear H
        go_wp2
        go_meet
        case rel => exact ⟨_, (((l0.length : Int) == 0)), (by first | rfl | (simp; done) | (simp [*]; done)), H', ⟨by first | omega | exact Nat.le_refl _⟩, ⟨by repeat (first | (with_reducible first | exact HB.out | apply below_alloc | apply pw_below_drewN | apply below_drew1) | exact HB.out)⟩⟩
    case rest => as_aux_lemma =>
      clear HC7
      try clear p2
      try clear c4
      try clear c6
      try clear c7
      try clear c9
      try clear c9b0
      try clear c9b1
      obtain ⟨kq, x37_6, rfl, HA, HJ6, HB⟩ := hcut
      cases kq with
      | zero => exact absurd HA.out (by simp [ravelinlaw12_BatchLogs.j0])
      | succ kj6 =>
        have H := HA.out
        clear HA
        simp only [ravelinlaw12_BatchLogs.j0] at H
        by_cases c10 : x37_6 = true
        · subst c10
          have H1 : (some true) = some r := by rw [if_pos rfl] at H; exact H
          clear H
          have H := H1
          clear H1
          obtain rfl := Option.some.inj H
          go_wp2
          go_ret
          exact ⟨by first | rfl | (simp [errW_none, errW_some] <;> rfl) | (simp [*, errW_none, errW_some] <;> rfl), by repeat (first | (with_reducible first | exact HB.out | apply below_alloc | apply pw_below_drewN | apply below_drew1) | exact HB.out)⟩
        · replace c10 := Bool.eq_false_iff.mpr c10
          subst c10
          have H1 : (if (wrap64 (2 * (l0.length : Int))) = 0 then (none) else (ravelinlaw12_BatchLogs.l0 kj6 l0 a1 a2 (⟨#[]⟩ : ByteArray) ([] : List Int) ([] : List Int) 0 (Int.tmod (wrap64 (a3)) (wrap64 (2 * (l0.length : Int)))) 0)) = some r := by rw [if_neg (show ¬ (false = true) by decide)] at H; exact H
          clear H
          have H := H1
          clear H1
          by_cases c11 : (wrap64 (2 * (l0.length : Int))) = 0
          · rw [if_pos c11] at H
            exact absurd H (by simp)
          · rw [if_neg c11] at H
            have c11b0 : ((wrap64 (2 * (l0.length : Int))) == 0) = false := beq_eq_false_iff_ne.mpr c11
            have c11b1 : ((wrap64 (2 * (l0.length : Int))) != 0) = true := bne_iff_ne.mpr c11
            have H' := Aside0.mk H
            clear H
            go_wp2
            go_loopg [9, 10, 11, 12, 14] kj6 (fun kq v9 v10 v11 v12 v14 w' => ∃ (x9_2 : ByteArray) (x10_2 : List Int) (x11_2 : List Int) (x12_2 : Int) (x14_2 : Int), v9 = .string x9_2 ∧ v12 = .int .i64 x12_2 ∧ v14 = .int .i64 x14_2 ∧ Aside0 (ravelinlaw12_BatchLogs.l0 kq l0 a1 a2 x9_2 x10_2 x11_2 x12_2 (Int.tmod (wrap64 (a3)) (wrap64 (2 * (l0.length : Int)))) x14_2 = some r) ∧ Aside0 (kq ≤ kj6) ∧ Aside0 (Kd.R (Kd.int .i64) 3 w' w.heap.size (fun k_ => some k_ ≠ (v11 : Value).ownBlock) v10 x10_2) ∧ Aside0 (Kd.R (Kd.int .i64) 3 w' w.heap.size (fun k_ => some k_ ≠ (v10 : Value).ownBlock) v11 x11_2) ∧ Aside0 (Below w.heap.size w w'))
            case atStart => exact ⟨((⟨#[]⟩ : ByteArray)), (([] : List Int)), (([] : List Int)), (0), (0), (by first | rfl | (simp; done) | (simp [*]; done)), (by first | rfl | (simp; done) | (simp [*]; done)), (by first | rfl | (simp; done) | (simp [*]; done)), H', ⟨Nat.le_refl _⟩, ⟨by first | exact Kd.R_nil _ _ _ _ _ | exact Kd.N_nil _ _ _ _ _ | exact Kd.V_nil _ _ _ _ _ | exact Kd.Q_nil _ _ _ _ _ | exact Kd.S_nil _ _ _ _ _⟩, ⟨by first | exact Kd.R_nil _ _ _ _ _ | exact Kd.N_nil _ _ _ _ _ | exact Kd.V_nil _ _ _ _ _ | exact Kd.Q_nil _ _ _ _ _ | exact Kd.S_nil _ _ _ _ _⟩, ⟨by repeat (first | (with_reducible first | exact HB.out | apply below_alloc | apply pw_below_drewN | apply below_drew1) | exact HB.out)⟩⟩
            case round => as_aux_lemma =>
              clear H'
              try clear c1
              try clear p2
              try clear c4
              try clear c6
              try clear p6
              try clear c7
              try clear c9
              try clear c9b0
              try clear c9b1
              try clear c10
              try clear c11
              try clear c11b0
              try clear c11b1
              try clear p2
              obtain ⟨x9_2, x10_2, x11_2, x12_2, x14_2, rfl, rfl, rfl, HA, HK2, HO_10, HO_11, HB⟩ := hrel
              cases gk with
              | zero => exact absurd HA.out (by simp [ravelinlaw12_BatchLogs.l0])
              | succ k2 =>
                have H := HA.out
                clear HA
                simp only [ravelinlaw12_BatchLogs.l0] at H
                by_cases c12 : x14_2 < (l0.length : Int)
                · rw [if_pos c12] at H
                  have c12b0 : decide (x14_2 < (l0.length : Int)) = true := decide_eq_true c12
                  clear c12
                  by_cases c13 : 0 ≤ x14_2
                  · rw [if_pos c13] at H
                    have c13b0 : decide (0 ≤ x14_2) = true := decide_eq_true c13
                    clear c13
                    replace H := Option.bind_eq_some_iff.mp H
                    obtain ⟨t258, A140, H⟩ := H
                    replace H : (if t258 = true then ((batch_Neat.f k2 (rd_L6 l0 x14_2)).bind fun t260 => (if (Int.tmod (wrap64 (a3)) (wrap64 (2 * (l0.length : Int)))) > 0 then (ravelinlaw12_BatchLogs.j2 k2 l0 a1 a2 x9_2 x10_2 x11_2 x12_2 (Int.tmod (wrap64 (a3)) (wrap64 (2 * (l0.length : Int)))) x14_2 t260 (wrap64 ((wrap64 ((wrap64 (a1)) + 1)) + x14_2)) (decide (x14_2 ≥ (Int.tmod (wrap64 (a3)) (wrap64 (2 * (l0.length : Int))))))) else (ravelinlaw12_BatchLogs.j2 k2 l0 a1 a2 x9_2 x10_2 x11_2 x12_2 (Int.tmod (wrap64 (a3)) (wrap64 (2 * (l0.length : Int)))) x14_2 t260 (wrap64 ((wrap64 ((wrap64 (a1)) + 1)) + x14_2)) false))) else (some true)) = some r := H
                    have A14 := Aside0.mk A140
                    clear A140
                    by_cases c15 : t258 = true
                    · subst c15
                      have H1 : ((batch_Neat.f k2 (rd_L6 l0 x14_2)).bind fun t260 => (if (Int.tmod (wrap64 (a3)) (wrap64 (2 * (l0.length : Int)))) > 0 then (ravelinlaw12_BatchLogs.j2 k2 l0 a1 a2 x9_2 x10_2 x11_2 x12_2 (Int.tmod (wrap64 (a3)) (wrap64 (2 * (l0.length : Int)))) x14_2 t260 (wrap64 ((wrap64 ((wrap64 (a1)) + 1)) + x14_2)) (decide (x14_2 ≥ (Int.tmod (wrap64 (a3)) (wrap64 (2 * (l0.length : Int))))))) else (ravelinlaw12_BatchLogs.j2 k2 l0 a1 a2 x9_2 x10_2 x11_2 x12_2 (Int.tmod (wrap64 (a3)) (wrap64 (2 * (l0.length : Int)))) x14_2 t260 (wrap64 ((wrap64 ((wrap64 (a1)) + 1)) + x14_2)) false))) = some r := by rw [if_pos rfl] at H; exact H
                      clear H
                      have H := H1
                      clear H1
                      replace H := Option.bind_eq_some_iff.mp H
                      obtain ⟨t260, A160, H⟩ := H
                      replace H : (if (Int.tmod (wrap64 (a3)) (wrap64 (2 * (l0.length : Int)))) > 0 then (ravelinlaw12_BatchLogs.j2 k2 l0 a1 a2 x9_2 x10_2 x11_2 x12_2 (Int.tmod (wrap64 (a3)) (wrap64 (2 * (l0.length : Int)))) x14_2 t260 (wrap64 ((wrap64 ((wrap64 (a1)) + 1)) + x14_2)) (decide (x14_2 ≥ (Int.tmod (wrap64 (a3)) (wrap64 (2 * (l0.length : Int))))))) else (ravelinlaw12_BatchLogs.j2 k2 l0 a1 a2 x9_2 x10_2 x11_2 x12_2 (Int.tmod (wrap64 (a3)) (wrap64 (2 * (l0.length : Int)))) x14_2 t260 (wrap64 ((wrap64 ((wrap64 (a1)) + 1)) + x14_2)) false)) = some r := H
                      have A16 := Aside0.mk A160
                      clear A160
                      have HC17 := Aside0.mk H
                      clear H
                      have p257 : 0 ≤ (x14_2 : Int) := of_decide_eq_true (by first | (with_reducible assumption) | assumption)
                      have q257 : x14_2 < (l0.length : Int) := of_decide_eq_true (by first | (with_reducible assumption) | assumption)
                      obtain ⟨ad257, A257_0, c257_0, e257, hx257_0, hl257_0, hi257_0⟩ := at_L6 HR0.out x14_2 p257 q257
                      cases e257
                      replace hx257_0 := (HB.out.cell (World.block_lt_of_cell? w _ hx257_0)).trans hx257_0
                      have HR257_0 := Aside0.mk hi257_0
                      have HC257_0 := Aside0.mk hl257_0
                      clear hi257_0 hl257_0
                      replace p257 := eq_true p257
                      replace q257 := eq_true q257
                      go_upto_region 16 with (first | ((with_reducible refine gate_callee (f := 8) rfl ?_); refine goesL_ (some 54) rfl rfl Try.func8 (by kernel_rfl) rfl #[.slice A257_0 (rd_L6 l0 x14_2).length c257_0] rfl (by (try simp only [List.map_toArray, List.map_cons, List.map_nil]); first | done | rfl | (simp only [List.length_drop, List.length_take]; rfl)) ?_; (with_reducible refine (ravelinlaw12_few.calls k2 _ _ (rd_L6 l0 x14_2) true _ ?side1 ?side2 A14.out).mono ?_); (case side1 => repeat (first | exact (Kd.C_below HR257_0.out HB.out) | (with_reducible refine Kd.C_alloc ?_ _) | (with_reducible refine Kd.C_drewN ?_ _) | (with_reducible refine Kd.C_drew ?_))); (case side2 => exact HC257_0.out); rintro e w' ⟨rfl, ⟨nd, rfl⟩⟩; refine ⟨_, rfl, ?_⟩; have p259 : 0 ≤ (x14_2 : Int) := of_decide_eq_true (by first | (with_reducible assumption) | assumption); have q259 : x14_2 < (l0.length : Int) := of_decide_eq_true (by first | (with_reducible assumption) | assumption); obtain ⟨ad259, A259_0, c259_0, e259, hx259_0, hl259_0, hi259_0⟩ := at_L6 HR0.out x14_2 p259 q259; obtain rfl : ad257 = ad259 := (by injection e259); replace hx259_0 := (HB.out.cell (World.block_lt_of_cell? w _ hx259_0)).trans hx259_0; have HR259_0 := Aside0.mk hi259_0; have HC259_0 := Aside0.mk hl259_0; clear hi259_0 hl259_0; replace p259 := eq_true p259; replace q259 := eq_true q259; have ea_ := Option.some.inj (hx257_0.symm.trans hx259_0); injection ea_ with ea_ en_ ec_; subst ea_; subst ec_; clear en_) | ((with_reducible refine gate_callee (f := 18) rfl ?_); refine goesL_ (some 60) rfl rfl Try.func18 (by kernel_rfl) rfl #[.slice A257_0 (rd_L6 l0 x14_2).length c257_0] rfl (by (try simp only [List.map_toArray, List.map_cons, List.map_nil]); first | done | rfl | (simp only [List.length_drop, List.length_take]; rfl)) ?_; (with_reducible refine (batch_Neat.calls k2 _ _ (rd_L6 l0 x14_2) t260 _ ?side1 ?side2 A16.out).mono ?_); (case side1 => repeat (first | exact (Kd.C_below HR259_0.out (by repeat (first | (with_reducible first | exact HB.out | apply below_alloc | apply pw_below_drewN | apply below_drew1) | exact HB.out))) | (with_reducible refine Kd.C_alloc ?_ _) | (with_reducible refine Kd.C_drewN ?_ _) | (with_reducible refine Kd.C_drew ?_))); (case side2 => exact HC259_0.out); rintro e w18 ⟨v261, rfl, ho0, hb⟩; refine ⟨_, rfl, ?_⟩; have n0_ := Aside0.mk (Kd.R_below (by (with_reducible repeat (first | apply Kd.R_alloc | apply Kd.R_drewN | apply Kd.R_drew)); exact HO_10.out) hb); have n1_ := Aside0.mk (Kd.R_below (by (with_reducible repeat (first | apply Kd.R_alloc | apply Kd.R_drewN | apply Kd.R_drew)); exact HO_11.out) hb); have n2_ := Aside0.mk (Kd.R_lower ho0 (below_size (by repeat (first | (with_reducible first | exact HB.out | apply below_alloc | apply pw_below_drewN | apply below_drew1) | exact HB.out)))); have n3_ := Aside0.mk (below_step (by repeat (first | (with_reducible first | exact HB.out | apply below_alloc | apply pw_below_drewN | apply below_drew1) | exact HB.out)) hb); clear HO_10; clear HO_11; clear HB; have HO_10 := n0_; have HO_11 := n1_; have HO262 := n2_; have HB := n3_; clear n0_ n1_ n2_ n3_; (try clear hb); (try clear hb2); (try clear hk); (try clear hi); (try clear ho0)))
                      (try simp only [Act.put, List.setIfInBounds_toArray, List.set_cons_zero, List.set_cons_succ])
                      go_cut [72] (fun v72 wc => ∃ (kq : Nat) (x72_16 : Bool), v72 = .bool x72_16 ∧ Aside0 (ravelinlaw12_BatchLogs.j2 kq l0 a1 a2 x9_2 x10_2 x11_2 x12_2 (Int.tmod (wrap64 (a3)) (wrap64 (2 * (l0.length : Int)))) x14_2 t260 (wrap64 ((wrap64 ((wrap64 (a1)) + 1)) + x14_2)) x72_16 = some r) ∧ Aside0 (kq ≤ k2) ∧ Aside0 (Kd.R (Kd.int .i64) 3 wc w.heap.size (fun k_ => some k_ ≠ (u11 : Value).ownBlock) u10 x10_2) ∧ Aside0 (Kd.R (Kd.int .i64) 3 wc w.heap.size (fun k_ => some k_ ≠ (u10 : Value).ownBlock) u11 x11_2) ∧ Aside0 (Kd.R k49 49 wc w.heap.size (fun _ => True) v261 t260) ∧ Aside0 (Below w.heap.size w wc))
                      case first => as_aux_lemma =>
                        have H := HC17.out
                        clear HC17
                        by_cases c19 : (Int.tmod (wrap64 (a3)) (wrap64 (2 * (l0.length : Int)))) > 0
                        · rw [if_pos c19] at H
                          have c19b0 : decide (0 < (Int.tmod (wrap64 (a3)) (wrap64 (2 * (l0.length : Int))))) = true := decide_eq_true c19
                          clear c19
                          (first | rw [c19b0] | (simp only [i64_w, i32_w]; rw [c19b0]) | skip)
                          have H' := Aside0.mk H
                          clear H
                          go_wp2
                          go_meet
                          case rel => exact ⟨_, (decide (x14_2 ≥ (Int.tmod (wrap64 (a3)) (wrap64 (2 * (l0.length : Int)))))), (by first | rfl | (simp; done) | (simp [*]; done)), H', ⟨by first | exact Nat.le_refl _ | (have := HJ6.out; have := HK2.out; omega)⟩, ⟨by (with_reducible repeat (first | apply Kd.R_alloc | apply Kd.R_drewN | apply Kd.R_drew)); exact HO_10.out⟩, ⟨by (with_reducible repeat (first | apply Kd.R_alloc | apply Kd.R_drewN | apply Kd.R_drew)); exact HO_11.out⟩, ⟨by (with_reducible repeat (first | apply Kd.R_alloc | apply Kd.R_drewN | apply Kd.R_drew)); exact HO262.out⟩, ⟨by repeat (first | (with_reducible first | exact HB.out | apply below_alloc | apply pw_below_drewN | apply below_drew1) | exact HB.out)⟩⟩
                        · rw [if_neg c19] at H
                          have c19b0 : decide (0 < (Int.tmod (wrap64 (a3)) (wrap64 (2 * (l0.length : Int))))) = false := decide_eq_false c19
                          clear c19
                          (first | rw [c19b0] | (simp only [i64_w, i32_w]; rw [c19b0]) | skip)
                          have H' := Aside0.mk H
                          clear H
                          go_wp2
                          go_meet
                          case rel => exact ⟨_, (false), (by first | rfl | (simp; done) | (simp [*]; done)), H', ⟨by first | exact Nat.le_refl _ | (have := HJ6.out; have := HK2.out; omega)⟩, ⟨by (with_reducible repeat (first | apply Kd.R_alloc | apply Kd.R_drewN | apply Kd.R_drew)); exact HO_10.out⟩, ⟨by (with_reducible repeat (first | apply Kd.R_alloc | apply Kd.R_drewN | apply Kd.R_drew)); exact HO_11.out⟩, ⟨by (with_reducible repeat (first | apply Kd.R_alloc | apply Kd.R_drewN | apply Kd.R_drew)); exact HO262.out⟩, ⟨by repeat (first | (with_reducible first | exact HB.out | apply below_alloc | apply pw_below_drewN | apply below_drew1) | exact HB.out)⟩⟩
                      case rest => as_aux_lemma =>
                        clear HC17
                        try clear c1
                        try clear c2
                        try clear p2
                        try clear q2
                        try clear hx2
                        try clear c4
                        try clear c6
                        try clear p6
                        try clear c7
                        try clear c8
                        try clear c9
                        try clear c9b0
                        try clear c9b1
                        try clear c10
                        try clear c11
                        try clear c11b0
                        try clear c11b1
                        try clear c12
                        try clear c12b0
                        try clear c13
                        try clear c13b0
                        try clear c15
                        try clear c18
                        try clear c19
                        try clear c19b0
                        try clear hx257_0
                        try clear hx259_0
                        try clear p2
                        try clear p257
                        try clear p259
                        try clear p6
                        try clear q257
                        try clear q259
                        obtain ⟨kq, x72_16, rfl, HA, HJ16, HO_10, HO_11, HO_15, HB⟩ := hcut
                        cases kq with
                        | zero => exact absurd HA.out (by simp [ravelinlaw12_BatchLogs.j2])
                        | succ kj16 =>
                          have H := HA.out
                          clear HA
                          simp only [ravelinlaw12_BatchLogs.j2] at H
                          have HC20 := Aside0.mk H
                          clear H
                          go_upto_if 72 with (fail)
                          go_cut [16] (fun v16 wc => ∃ (kq : Nat) (x16_19 : Int), v16 = .int .i64 x16_19 ∧ Aside0 (ravelinlaw12_BatchLogs.j3 kq l0 a1 a2 x9_2 x10_2 x11_2 x12_2 (Int.tmod (wrap64 (a3)) (wrap64 (2 * (l0.length : Int)))) x14_2 t260 x16_19 = some r) ∧ Aside0 (kq ≤ kj16) ∧ Aside0 (Kd.R (Kd.int .i64) 3 wc w.heap.size (fun k_ => some k_ ≠ (u11 : Value).ownBlock) u10 x10_2) ∧ Aside0 (Kd.R (Kd.int .i64) 3 wc w.heap.size (fun k_ => some k_ ≠ (u10 : Value).ownBlock) u11 x11_2) ∧ Aside0 (Kd.R k49 49 wc w.heap.size (fun _ => True) v261 t260) ∧ Aside0 (Below w.heap.size w wc))
                          case first => as_aux_lemma =>
                            have H := HC20.out
                            clear HC20
                            by_cases c21 : x72_16 = true
                            · subst c21
                              have H1 : (ravelinlaw12_BatchLogs.j3 kj16 l0 a1 a2 x9_2 x10_2 x11_2 x12_2 (Int.tmod (wrap64 (a3)) (wrap64 (2 * (l0.length : Int)))) x14_2 t260 (wrap64 ((wrap64 ((wrap64 ((wrap64 (a1)) + 1)) + x14_2)) + 1))) = some r := by rw [if_pos rfl] at H; exact H
                              clear H
                              have H := H1
                              clear H1
                              have H' := Aside0.mk H
                              clear H
                              go_wp2
                              go_meet
                              case rel => exact ⟨_, (wrap64 ((wrap64 ((wrap64 ((wrap64 (a1)) + 1)) + x14_2)) + 1)), (by first | rfl | (simp; done) | (simp [*]; done)), H', ⟨by have := HJ6.out; have := HK2.out; have := HJ16.out; first | omega | exact Nat.le_refl _⟩, ⟨by (with_reducible repeat (first | apply Kd.R_alloc | apply Kd.R_drewN | apply Kd.R_drew)); exact HO_10.out⟩, ⟨by (with_reducible repeat (first | apply Kd.R_alloc | apply Kd.R_drewN | apply Kd.R_drew)); exact HO_11.out⟩, ⟨by (with_reducible repeat (first | apply Kd.R_alloc | apply Kd.R_drewN | apply Kd.R_drew)); exact HO_15.out⟩, ⟨by repeat (first | (with_reducible first | exact HB.out | apply below_alloc | apply pw_below_drewN | apply below_drew1) | exact HB.out)⟩⟩
                            · replace c21 := Bool.eq_false_iff.mpr c21
                              subst c21
                              have H1 : (ravelinlaw12_BatchLogs.j3 kj16 l0 a1 a2 x9_2 x10_2 x11_2 x12_2 (Int.tmod (wrap64 (a3)) (wrap64 (2 * (l0.length : Int)))) x14_2 t260 (wrap64 ((wrap64 ((wrap64 (a1)) + 1)) + x14_2))) = some r := by rw [if_neg (show ¬ (false = true) by decide)] at H; exact H
                              clear H
                              have H := H1
                              clear H1
                              have H' := Aside0.mk H
                              clear H
                              go_wp2
                              go_meet
                              case rel => exact ⟨_, ((wrap64 ((wrap64 ((wrap64 (a1)) + 1)) + x14_2))), (by first | rfl | (simp; done) | (simp [*]; done)), H', ⟨by have := HJ6.out; have := HK2.out; have := HJ16.out; first | omega | exact Nat.le_refl _⟩, ⟨by (with_reducible repeat (first | apply Kd.R_alloc | apply Kd.R_drewN | apply Kd.R_drew)); exact HO_10.out⟩, ⟨by (with_reducible repeat (first | apply Kd.R_alloc | apply Kd.R_drewN | apply Kd.R_drew)); exact HO_11.out⟩, ⟨by (with_reducible repeat (first | apply Kd.R_alloc | apply Kd.R_drewN | apply Kd.R_drew)); exact HO_15.out⟩, ⟨by repeat (first | (with_reducible first | exact HB.out | apply below_alloc | apply pw_below_drewN | apply below_drew1) | exact HB.out)⟩⟩
                          case rest => as_aux_lemma =>
                            clear HC20
                            try clear c1
                            try clear c2
                            try clear p2
                            try clear q2
                            try clear hx2
                            try clear c4
                            try clear c6
                            try clear p6
                            try clear c7
                            try clear c8
                            try clear c9
                            try clear c9b0
                            try clear c9b1
                            try clear c10
                            try clear c11
                            try clear c11b0
                            try clear c11b1
                            try clear c12
                            try clear c12b0
                            try clear c13
                            try clear c13b0
                            try clear c15
                            try clear c18
                            try clear c19
                            try clear c19b0
                            try clear c21
                            try clear hx257_0
                            try clear hx259_0
                            try clear p2
                            try clear p257
                            try clear p259
                            try clear p6
                            try clear q2
                            try clear q257
                            try clear q259
                            obtain ⟨kq, x16_19, rfl, HA, HJ19, HO_10, HO_11, HO_15, HB⟩ := hcut
                            cases kq with
                            | zero => exact absurd HA.out (by simp [ravelinlaw12_BatchLogs.j3])
                            | succ kj19 =>
                              have H := HA.out
                              clear HA
                              simp only [ravelinlaw12_BatchLogs.j3] at H
                              replace H := Option.bind_eq_some_iff.mp H
                              obtain ⟨⟨t263, t264⟩, A220, H⟩ := H
                              replace H : (if t264 = 0 then (if x9_2.size + t263.size ≤ 9223372036854775807 then (if x10_2.length < 17592186044416 then (if x11_2.length < 17592186044416 then (ravelinlaw12_BatchLogs.l0 kj19 l0 a1 a2 (x9_2 ++ t263) (x10_2 ++ [((x9_2 ++ t263).size : Int)]) (x11_2 ++ [wrap64 (x12_2 + (t260.length : Int))]) (wrap64 (x12_2 + (t260.length : Int))) (Int.tmod (wrap64 (a3)) (wrap64 (2 * (l0.length : Int)))) (wrap64 (x14_2 + 1))) else (none)) else (none)) else (none)) else ((ravelinref12_Is.f kj19 t260).bind fun t271 => (some (!t271)))) = some r := H
                              have A22 := Aside0.mk A220
                              clear A220
                              by_cases c23 : t264 = 0
                              · rw [if_pos c23] at H
                                have c23b0 : (t264 == 0) = true := beq_iff_eq.mpr c23
                                have c23b1 : (t264 != 0) = false := bne_eq_false_iff_eq.mpr c23
                                clear c23
                                by_cases c24 : x9_2.size + t263.size ≤ 9223372036854775807
                                · rw [if_pos c24] at H
                                  have c24b0 := eq_true c24
                                  have c24b1 : decide (x9_2.size + t263.size ≤ 9223372036854775807) = true := decide_eq_true c24
                                  try have c24b2 : (9223372036854775807 < x9_2.size + t263.size) = False := eq_false (Nat.not_lt.2 c24)
                                  by_cases c25 : x10_2.length < 17592186044416
                                  · rw [if_pos c25] at H
                                    have LMc25 := Aside0.mk c25
                                    clear c25
                                    obtain ⟨y265, hy265⟩ : ∃ y_ : List Int, y_ = (x10_2 ++ [((x9_2 ++ t263).size : Int)]) := ⟨_, rfl⟩
                                    replace H : (if x11_2.length < 17592186044416 then (ravelinlaw12_BatchLogs.l0 kj19 l0 a1 a2 (x9_2 ++ t263) y265 (x11_2 ++ [wrap64 (x12_2 + (t260.length : Int))]) (wrap64 (x12_2 + (t260.length : Int))) (Int.tmod (wrap64 (a3)) (wrap64 (2 * (l0.length : Int)))) (wrap64 (x14_2 + 1))) else (none)) = some r := by first | (rw [hy265]; with_reducible exact H) | (have H2_ := (Option.bind_some _ _).symm.trans H; rw [hy265]; with_reducible exact H2_) | (have H2_ := (Option.bind_some _ _).symm.trans H; with_reducible exact H2_) | with_reducible exact H | (rw [hy265]; exact H) | exact H
                                    have Ny265 := Aside0.mk hy265
                                    clear hy265
                                    by_cases c26 : x11_2.length < 17592186044416
                                    · rw [if_pos c26] at H
                                      have LMc26 := Aside0.mk c26
                                      clear c26
                                      obtain ⟨y268, hy268⟩ : ∃ y_ : List Int, y_ = (x11_2 ++ [wrap64 (x12_2 + (t260.length : Int))]) := ⟨_, rfl⟩
                                      replace H : (ravelinlaw12_BatchLogs.l0 kj19 l0 a1 a2 (x9_2 ++ t263) y265 y268 (wrap64 (x12_2 + (t260.length : Int))) (Int.tmod (wrap64 (a3)) (wrap64 (2 * (l0.length : Int)))) (wrap64 (x14_2 + 1))) = some r := by first | (rw [hy268]; with_reducible exact H) | (have H2_ := (Option.bind_some _ _).symm.trans H; rw [hy268]; with_reducible exact H2_) | (have H2_ := (Option.bind_some _ _).symm.trans H; with_reducible exact H2_) | with_reducible exact H | (rw [hy268]; exact H) | exact H
                                      have Ny268 := Aside0.mk hy268
                                      clear hy268
                                      have H' := Aside0.mk H
                                      clear H
                                      obtain ⟨Ao27, co27, eo27⟩ := Kd.R_slice HO_15.out
                                      subst eo27
                                      go_wp2_with (first | ((with_reducible refine gate_callee (f := 9) rfl ?_); refine goesL_ (some 78) rfl rfl Try.func9 (by kernel_rfl) rfl #[.int .i64 x16_19, .slice Ao27 t260.length co27] rfl (by (try simp only [List.map_toArray, List.map_cons, List.map_nil]); first | done | rfl | (simp only [List.length_drop, List.length_take]; rfl)) ?_; (with_reducible refine (batch_Bytes.calls kj19 x16_19 _ _ t260 t263 t264 _ ?side1 ?side2 A22.out).mono ?_); (case side1 => repeat (first | exact (Kd.R_reads' HO_15.out).2.2 | (with_reducible refine Kd.C_alloc ?_ _) | (with_reducible refine Kd.C_drewN ?_ _) | (with_reducible refine Kd.C_drew ?_))); (case side2 => exact (Kd.R_reads' HO_15.out).2.1); rintro e w28 ⟨rfl, hb⟩; refine ⟨_, rfl, ?_⟩; have n0_ := Aside0.mk (Kd.R_below (by (with_reducible repeat (first | apply Kd.R_alloc | apply Kd.R_drewN | apply Kd.R_drew)); exact HO_10.out) hb); have n1_ := Aside0.mk (Kd.R_below (by (with_reducible repeat (first | apply Kd.R_alloc | apply Kd.R_drewN | apply Kd.R_drew)); exact HO_11.out) hb); have n2_ := Aside0.mk (Kd.R_below (by (with_reducible repeat (first | apply Kd.R_alloc | apply Kd.R_drewN | apply Kd.R_drew)); exact HO_15.out) hb); have n3_ := Aside0.mk (below_step (by repeat (first | (with_reducible first | exact HB.out | apply below_alloc | apply pw_below_drewN | apply below_drew1) | exact HB.out)) hb); clear HO_10; clear HO_11; clear HO_15; clear HB; have HO_10 := n0_; have HO_11 := n1_; have HO_15 := n2_; have HB := n3_; clear n0_ n1_ n2_ n3_; (try clear hb); (try clear hb2); (try clear hk); (try clear hi)) | ((with_reducible refine gate_builtin (b := .append) (xs := #[.tmp 93, .tmp 96]) rfl ?_); (try (refine gate_guard (by rfl) ?_; dsimp only)); at_builtin; refine Kd.R_append (Kd.int .i64) (w0 := w) w.heap.size rfl (.tmp 93) (.tmp 96) 44 3 (.int .i64 0) 8 rfl Try.underlying44 info3 rfl (by decide) (by omega) u10 x10_2 ((x9_2.size : Int) + (t263.size : Int)) [.int .i64 ((x9_2.size : Int) + (t263.size : Int))] (fun k_ => some k_ ≠ (u11 : Value).ownBlock) (fun _ => False) rfl rfl ?aP (fun _ hk => hk.elim) ?aF ?aO ?aB ?aS ?aL ?_; (case aP => exact rfl); (case aB => exact (by repeat (first | (with_reducible first | exact HB.out | apply below_alloc | apply pw_below_drewN | apply below_drew1) | exact HB.out))); (case aF => exact (fun k_ hk => Kd.fresh' (Kd.R_lt (by (with_reducible repeat (first | apply Kd.R_alloc | apply Kd.R_drewN | apply Kd.R_drew)); exact HO_11.out)) k_ hk)); (case aO => exact (by (with_reducible repeat (first | apply Kd.R_alloc | apply Kd.R_drewN | apply Kd.R_drew)); exact HO_10.out)); (case aS => exact (below_size (by repeat (first | (with_reducible first | exact HB.out | apply below_alloc | apply pw_below_drewN | apply below_drew1) | exact HB.out)))); (case aL => have := LMc25.out; omega); intro v266 w29 ho hb hg hat; rw [show ((x9_2.size : Int) + (t263.size : Int)) = ((x9_2 ++ t263).size : Int) from by rw [ByteArray.size_append]; exact (Int.natCast_add _ _).symm] at ho; rw [← Ny265.out] at ho; have n0_ := Aside0.mk (Kd.R_after (ok := (fun _ => True)) (by (with_reducible repeat (first | apply Kd.R_alloc | apply Kd.R_drewN | apply Kd.R_drew)); exact Kd.R_mono HO_11.out (fun _ hk => ⟨trivial, hk⟩)) hg hat); have n1_ := Aside0.mk (Kd.R_over' (by (with_reducible repeat (first | apply Kd.R_alloc | apply Kd.R_drewN | apply Kd.R_drew)); exact HO_15.out) (Kd.R_typed (by (with_reducible repeat (first | apply Kd.R_alloc | apply Kd.R_drewN | apply Kd.R_drew)); exact HO_10.out)) (by decide) hg); have n2_ := Aside0.mk (hb); have n3_ := Aside0.mk (ho); clear HO_11; clear HO_15; clear HB; clear HO_10; have HO_11 := n0_; have HO_15 := n1_; have HB := n2_; have HO267 := n3_; clear n0_ n1_ n2_ n3_; clear ho hb hg hat) | ((with_reducible refine gate_builtin (b := .append) (xs := #[.tmp 98, .tmp 100]) rfl ?_); (try (refine gate_guard (by rfl) ?_; dsimp only)); at_builtin; refine Kd.R_append (Kd.int .i64) (w0 := w) w.heap.size rfl (.tmp 98) (.tmp 100) 44 3 (.int .i64 0) 8 rfl Try.underlying44 info3 rfl (by decide) (by omega) u11 x11_2 (wrap64 (x12_2 + (t260.length : Int))) [.int .i64 (wrap64 (x12_2 + (t260.length : Int)))] (fun k_ => some k_ ≠ (v266 : Value).ownBlock) (fun _ => False) rfl rfl ?aP (fun _ hk => hk.elim) ?aF ?aO ?aB ?aS ?aL ?_; (case aP => exact rfl); (case aB => exact (by repeat (first | (with_reducible first | exact HB.out | apply below_alloc | apply pw_below_drewN | apply below_drew1) | exact HB.out))); (case aF => exact (fun k_ hk => Kd.fresh' (Kd.R_lt (by (with_reducible repeat (first | apply Kd.R_alloc | apply Kd.R_drewN | apply Kd.R_drew)); exact HO267.out)) k_ hk)); (case aO => exact (by (with_reducible repeat (first | apply Kd.R_alloc | apply Kd.R_drewN | apply Kd.R_drew)); exact Kd.R_mono HO_11.out (fun _ hk => hk.2))); (case aS => exact (below_size (by repeat (first | (with_reducible first | exact HB.out | apply below_alloc | apply pw_below_drewN | apply below_drew1) | exact HB.out)))); (case aL => have := LMc26.out; omega); intro v269 w30 ho hb hg hat; rw [← Ny268.out] at ho; have n0_ := Aside0.mk (Kd.R_over' (by (with_reducible repeat (first | apply Kd.R_alloc | apply Kd.R_drewN | apply Kd.R_drew)); exact HO_15.out) (Kd.R_typed (by (with_reducible repeat (first | apply Kd.R_alloc | apply Kd.R_drewN | apply Kd.R_drew)); exact HO_11.out)) (by decide) hg); have n1_ := Aside0.mk (Kd.R_after (ok := (fun _ => True)) (by (with_reducible repeat (first | apply Kd.R_alloc | apply Kd.R_drewN | apply Kd.R_drew)); exact Kd.R_mono HO267.out (fun _ hk => ⟨trivial, hk⟩)) hg hat); have n2_ := Aside0.mk (hb); have n3_ := Aside0.mk (ho); clear HO_15; clear HO267; clear HB; clear HO_11; have HO_15 := n0_; have HO267 := n1_; have HB := n2_; have HO270 := n3_; clear n0_ n1_ n2_ n3_; clear ho hb hg hat))
                                      go_roundg kj19
                                      case measure => have := HJ6.out; have := HK2.out; have := HJ16.out; have := HJ19.out; omega
                                      case rel => exact ⟨(x9_2 ++ t263), (y265), (y268), (wrap64 (x12_2 + (t260.length : Int))), (wrap64 (x14_2 + 1)), (by first | rfl | (simp; done) | (simp [*]; done)), (by first | rfl | (simp; done) | (simp [*]; done)), (by first | rfl | (simp; done) | (simp [*]; done)), H', ⟨by have := HJ6.out; have := HK2.out; have := HJ16.out; have := HJ19.out; omega⟩, ⟨by (with_reducible repeat (first | apply Kd.R_alloc | apply Kd.R_drewN | apply Kd.R_drew)); exact Kd.R_mono HO267.out (fun _ hk => hk.2)⟩, ⟨by (with_reducible repeat (first | apply Kd.R_alloc | apply Kd.R_drewN | apply Kd.R_drew)); exact HO270.out⟩, ⟨by repeat (first | (with_reducible first | exact HB.out | apply below_alloc | apply pw_below_drewN | apply below_drew1) | exact HB.out)⟩⟩
                                    · rw [if_neg c26] at H
                                      exact absurd H (by simp)
                                  · rw [if_neg c25] at H
                                    exact absurd H (by simp)
                                · rw [if_neg c24] at H
                                  exact absurd H (by simp)
                              · rw [if_neg c23] at H
                                have c23b0 : (t264 == 0) = false := beq_eq_false_iff_ne.mpr c23
                                have c23b1 : (t264 != 0) = true := bne_iff_ne.mpr c23
                                replace H := Option.bind_eq_some_iff.mp H
                                obtain ⟨t271, A310, H⟩ := H
                                replace H : (some (!t271)) = some r := H
                                have A31 := Aside0.mk A310
                                clear A310
                                obtain rfl := Option.some.inj H
                                obtain ⟨Ao32, co32, eo32⟩ := Kd.R_slice HO_15.out
                                subst eo32
                                go_wp2_with (first | ((with_reducible refine gate_callee (f := 9) rfl ?_); refine goesL_ (some 78) rfl rfl Try.func9 (by kernel_rfl) rfl #[.int .i64 x16_19, .slice Ao32 t260.length co32] rfl (by (try simp only [List.map_toArray, List.map_cons, List.map_nil]); first | done | rfl | (simp only [List.length_drop, List.length_take]; rfl)) ?_; (with_reducible refine (batch_Bytes.calls kj19 x16_19 _ _ t260 t263 t264 _ ?side1 ?side2 A22.out).mono ?_); (case side1 => repeat (first | exact (Kd.R_reads' HO_15.out).2.2 | (with_reducible refine Kd.C_alloc ?_ _) | (with_reducible refine Kd.C_drewN ?_ _) | (with_reducible refine Kd.C_drew ?_))); (case side2 => exact (Kd.R_reads' HO_15.out).2.1); rintro e w33 ⟨rfl, hb⟩; refine ⟨_, rfl, ?_⟩; have n0_ := Aside0.mk (Kd.R_below (by (with_reducible repeat (first | apply Kd.R_alloc | apply Kd.R_drewN | apply Kd.R_drew)); exact HO_10.out) hb); have n1_ := Aside0.mk (Kd.R_below (by (with_reducible repeat (first | apply Kd.R_alloc | apply Kd.R_drewN | apply Kd.R_drew)); exact HO_11.out) hb); have n2_ := Aside0.mk (Kd.R_below (by (with_reducible repeat (first | apply Kd.R_alloc | apply Kd.R_drewN | apply Kd.R_drew)); exact HO_15.out) hb); have n3_ := Aside0.mk (below_step (by repeat (first | (with_reducible first | exact HB.out | apply below_alloc | apply pw_below_drewN | apply below_drew1) | exact HB.out)) hb); clear HO_10; clear HO_11; clear HO_15; clear HB; have HO_10 := n0_; have HO_11 := n1_; have HO_15 := n2_; have HB := n3_; clear n0_ n1_ n2_ n3_; (try clear hb); (try clear hb2); (try clear hk); (try clear hi)) | ((with_reducible refine gate_callee (f := 16) rfl ?_); refine goesL_ (some 84) rfl rfl Try.func16 (by kernel_rfl) rfl #[.slice Ao32 t260.length co32] rfl (by (try simp only [List.map_toArray, List.map_cons, List.map_nil]); first | done | rfl | (simp only [List.length_drop, List.length_take]; rfl)) ?_; (with_reducible refine (ravelinref12_Is.calls kj19 _ _ t260 t271 _ ?side1 ?side2 A31.out).mono ?_); (case side1 => repeat (first | exact (Kd.R_reads' HO_15.out).2.2 | (with_reducible refine Kd.C_alloc ?_ _) | (with_reducible refine Kd.C_drewN ?_ _) | (with_reducible refine Kd.C_drew ?_))); (case side2 => exact (Kd.R_reads' HO_15.out).2.1); rintro e w34 ⟨rfl, hb⟩; refine ⟨_, rfl, ?_⟩; have n0_ := Aside0.mk (Kd.R_below (by (with_reducible repeat (first | apply Kd.R_alloc | apply Kd.R_drewN | apply Kd.R_drew)); exact HO_10.out) hb); have n1_ := Aside0.mk (Kd.R_below (by (with_reducible repeat (first | apply Kd.R_alloc | apply Kd.R_drewN | apply Kd.R_drew)); exact HO_11.out) hb); have n2_ := Aside0.mk (Kd.R_below (by (with_reducible repeat (first | apply Kd.R_alloc | apply Kd.R_drewN | apply Kd.R_drew)); exact HO_15.out) hb); have n3_ := Aside0.mk (below_step (by repeat (first | (with_reducible first | exact HB.out | apply below_alloc | apply pw_below_drewN | apply below_drew1) | exact HB.out)) hb); clear HO_10; clear HO_11; clear HO_15; clear HB; have HO_10 := n0_; have HO_11 := n1_; have HO_15 := n2_; have HB := n3_; clear n0_ n1_ n2_ n3_; (try clear hb); (try clear hb2); (try clear hk); (try clear hi)))
                                go_ret
                                exact ⟨by first | rfl | (simp [errW_none, errW_some] <;> rfl) | (simp [*, errW_none, errW_some] <;> rfl), by repeat (first | (with_reducible first | exact HB.out | apply below_alloc | apply pw_below_drewN | apply below_drew1) | exact HB.out)⟩
                    · replace c15 := Bool.eq_false_iff.mpr c15
                      subst c15
                      have H1 : (some true) = some r := by rw [if_neg (show ¬ (false = true) by decide)] at H; exact H
                      clear H
                      have H := H1
                      clear H1
                      obtain rfl := Option.some.inj H
                      have p257 : 0 ≤ (x14_2 : Int) := of_decide_eq_true (by first | (with_reducible assumption) | assumption)
                      have q257 : x14_2 < (l0.length : Int) := of_decide_eq_true (by first | (with_reducible assumption) | assumption)
                      obtain ⟨ad257, A257_0, c257_0, e257, hx257_0, hl257_0, hi257_0⟩ := at_L6 HR0.out x14_2 p257 q257
                      cases e257
                      replace hx257_0 := (HB.out.cell (World.block_lt_of_cell? w _ hx257_0)).trans hx257_0
                      have HR257_0 := Aside0.mk hi257_0
                      have HC257_0 := Aside0.mk hl257_0
                      clear hi257_0 hl257_0
                      replace p257 := eq_true p257
                      replace q257 := eq_true q257
                      go_wp2_with (first | ((with_reducible refine gate_callee (f := 8) rfl ?_); refine goesL_ (some 54) rfl rfl Try.func8 (by kernel_rfl) rfl #[.slice A257_0 (rd_L6 l0 x14_2).length c257_0] rfl (by (try simp only [List.map_toArray, List.map_cons, List.map_nil]); first | done | rfl | (simp only [List.length_drop, List.length_take]; rfl)) ?_; (with_reducible refine (ravelinlaw12_few.calls k2 _ _ (rd_L6 l0 x14_2) false _ ?side1 ?side2 A14.out).mono ?_); (case side1 => repeat (first | exact (Kd.C_below HR257_0.out HB.out) | (with_reducible refine Kd.C_alloc ?_ _) | (with_reducible refine Kd.C_drewN ?_ _) | (with_reducible refine Kd.C_drew ?_))); (case side2 => exact HC257_0.out); rintro e w' ⟨rfl, ⟨nd, rfl⟩⟩; refine ⟨_, rfl, ?_⟩))
                      go_ret
                      exact ⟨by first | rfl | (simp [errW_none, errW_some] <;> rfl) | (simp [*, errW_none, errW_some] <;> rfl), by repeat (first | (with_reducible first | exact HB.out | apply below_alloc | apply pw_below_drewN | apply below_drew1) | exact HB.out)⟩
                  · rw [if_neg c13] at H
                    exact absurd H (by simp)
                · rw [if_neg c12] at H
                  have c12b0 : decide (x14_2 < (l0.length : Int)) = false := decide_eq_false c12
                  clear c12
                  have HC35 := Aside0.mk H
                  clear H
                  go_upto_region 25 with (fail)
                  go_cut [111] (fun v111 wc => ∃ (kq : Nat) (x111_34 : Bool), v111 = .bool x111_34 ∧ Aside0 (ravelinlaw12_BatchLogs.j4 kq a1 a2 x9_2 x10_2 x11_2 (Int.tmod (wrap64 (a3)) (wrap64 (2 * (l0.length : Int)))) (l0.length : Int) x111_34 = some r) ∧ Aside0 (kq ≤ k2) ∧ Aside0 (Kd.R (Kd.int .i64) 3 wc w.heap.size (fun k_ => some k_ ≠ (u11 : Value).ownBlock) u10 x10_2) ∧ Aside0 (Kd.R (Kd.int .i64) 3 wc w.heap.size (fun k_ => some k_ ≠ (u10 : Value).ownBlock) u11 x11_2) ∧ Aside0 (Below w.heap.size w wc))
                  case first => as_aux_lemma =>
                    have H := HC35.out
                    clear HC35
                    by_cases c36 : (Int.tmod (wrap64 (a3)) (wrap64 (2 * (l0.length : Int)))) > 0
                    · rw [if_pos c36] at H
                      have c36b0 : decide (0 < (Int.tmod (wrap64 (a3)) (wrap64 (2 * (l0.length : Int))))) = true := decide_eq_true c36
                      clear c36
                      (first | rw [c36b0] | (simp only [i64_w, i32_w]; rw [c36b0]) | skip)
                      have H' := Aside0.mk H
                      clear H
                      go_wp2
                      go_meet
                      case rel => exact ⟨_, (decide ((Int.tmod (wrap64 (a3)) (wrap64 (2 * (l0.length : Int)))) < (l0.length : Int))), (by first | rfl | (simp; done) | (simp [*]; done)), H', ⟨by first | exact Nat.le_refl _ | (have := HJ6.out; have := HK2.out; omega)⟩, ⟨by (with_reducible repeat (first | apply Kd.R_alloc | apply Kd.R_drewN | apply Kd.R_drew)); exact HO_10.out⟩, ⟨by (with_reducible repeat (first | apply Kd.R_alloc | apply Kd.R_drewN | apply Kd.R_drew)); exact HO_11.out⟩, ⟨by repeat (first | (with_reducible first | exact HB.out | apply below_alloc | apply pw_below_drewN | apply below_drew1) | exact HB.out)⟩⟩
                    · rw [if_neg c36] at H
                      have c36b0 : decide (0 < (Int.tmod (wrap64 (a3)) (wrap64 (2 * (l0.length : Int))))) = false := decide_eq_false c36
                      clear c36
                      (first | rw [c36b0] | (simp only [i64_w, i32_w]; rw [c36b0]) | skip)
                      have H' := Aside0.mk H
                      clear H
                      go_wp2
                      go_meet
                      case rel => exact ⟨_, (false), (by first | rfl | (simp; done) | (simp [*]; done)), H', ⟨by first | exact Nat.le_refl _ | (have := HJ6.out; have := HK2.out; omega)⟩, ⟨by (with_reducible repeat (first | apply Kd.R_alloc | apply Kd.R_drewN | apply Kd.R_drew)); exact HO_10.out⟩, ⟨by (with_reducible repeat (first | apply Kd.R_alloc | apply Kd.R_drewN | apply Kd.R_drew)); exact HO_11.out⟩, ⟨by repeat (first | (with_reducible first | exact HB.out | apply below_alloc | apply pw_below_drewN | apply below_drew1) | exact HB.out)⟩⟩
                  case rest => as_aux_lemma =>
                    clear HC35
                    try clear c1
                    try clear c2
                    try clear p2
                    try clear q2
                    try clear hx2
                    try clear c3
                    try clear c4
                    try clear c6
                    try clear p6
                    try clear c7
                    try clear c8
                    try clear c9
                    try clear c9b0
                    try clear c9b1
                    try clear c10
                    try clear c11
                    try clear c11b0
                    try clear c11b1
                    try clear c12
                    try clear c12b0
                    try clear c13
                    try clear c13b0
                    try clear c15
                    try clear c16
                    try clear c18
                    try clear c19
                    try clear c19b0
                    try clear c21
                    try clear c23
                    try clear c23b0
                    try clear c23b1
                    try clear c24
                    try clear c24b0
                    try clear c24b1
                    try clear c24b2
                    try clear c25
                    try clear p25
                    try clear q25
                    try clear hx25
                    try clear c26
                    try clear c36
                    try clear c36b0
                    try clear hx257_0
                    try clear hx259_0
                    try clear p2
                    try clear p257
                    try clear p259
                    try clear p6
                    try clear q2
                    try clear q257
                    try clear q259
                    obtain ⟨kq, x111_34, rfl, HA, HJ34, HO_10, HO_11, HB⟩ := hcut
                    cases kq with
                    | zero => exact absurd HA.out (by simp [ravelinlaw12_BatchLogs.j4])
                    | succ kj34 =>
                      have H := HA.out
                      clear HA
                      simp only [ravelinlaw12_BatchLogs.j4] at H
                      have HC37 := Aside0.mk H
                      clear H
                      go_upto_if 111 with (fail)
                      go_cut [19] (fun v19 wc => ∃ (kq : Nat) (x19_36 : Int), v19 = .int .i64 x19_36 ∧ Aside0 (ravelinlaw12_BatchLogs.j5 kq a1 a2 x9_2 x10_2 x11_2 x19_36 = some r) ∧ Aside0 (kq ≤ kj34) ∧ Aside0 (Kd.R (Kd.int .i64) 3 wc w.heap.size (fun k_ => some k_ ≠ (u11 : Value).ownBlock) u10 x10_2) ∧ Aside0 (Kd.R (Kd.int .i64) 3 wc w.heap.size (fun k_ => some k_ ≠ (u10 : Value).ownBlock) u11 x11_2) ∧ Aside0 (Below w.heap.size w wc))
                      case first => as_aux_lemma =>
                        have H := HC37.out
                        clear HC37
                        by_cases c38 : x111_34 = true
                        · subst c38
                          have H1 : (ravelinlaw12_BatchLogs.j5 kj34 a1 a2 x9_2 x10_2 x11_2 (Int.tmod (wrap64 (a3)) (wrap64 (2 * (l0.length : Int))))) = some r := by rw [if_pos rfl] at H; exact H
                          clear H
                          have H := H1
                          clear H1
                          have H' := Aside0.mk H
                          clear H
                          go_wp2
                          go_meet
                          case rel => exact ⟨_, ((Int.tmod (wrap64 (a3)) (wrap64 (2 * (l0.length : Int))))), (by first | rfl | (simp; done) | (simp [*]; done)), H', ⟨by have := HJ6.out; have := HK2.out; have := HJ34.out; first | omega | exact Nat.le_refl _⟩, ⟨by (with_reducible repeat (first | apply Kd.R_alloc | apply Kd.R_drewN | apply Kd.R_drew)); exact HO_10.out⟩, ⟨by (with_reducible repeat (first | apply Kd.R_alloc | apply Kd.R_drewN | apply Kd.R_drew)); exact HO_11.out⟩, ⟨by repeat (first | (with_reducible first | exact HB.out | apply below_alloc | apply pw_below_drewN | apply below_drew1) | exact HB.out)⟩⟩
                        · replace c38 := Bool.eq_false_iff.mpr c38
                          subst c38
                          have H1 : (ravelinlaw12_BatchLogs.j5 kj34 a1 a2 x9_2 x10_2 x11_2 (l0.length : Int)) = some r := by rw [if_neg (show ¬ (false = true) by decide)] at H; exact H
                          clear H
                          have H := H1
                          clear H1
                          have H' := Aside0.mk H
                          clear H
                          go_wp2
                          go_meet
                          case rel => exact ⟨_, ((l0.length : Int)), (by first | rfl | (simp; done) | (simp [*]; done)), H', ⟨by have := HJ6.out; have := HK2.out; have := HJ34.out; first | omega | exact Nat.le_refl _⟩, ⟨by (with_reducible repeat (first | apply Kd.R_alloc | apply Kd.R_drewN | apply Kd.R_drew)); exact HO_10.out⟩, ⟨by (with_reducible repeat (first | apply Kd.R_alloc | apply Kd.R_drewN | apply Kd.R_drew)); exact HO_11.out⟩, ⟨by repeat (first | (with_reducible first | exact HB.out | apply below_alloc | apply pw_below_drewN | apply below_drew1) | exact HB.out)⟩⟩
                      case rest => as_aux_lemma =>
                        clear HC37
                        try clear c1
                        try clear c2
                        try clear p2
                        try clear q2
                        try clear hx2
                        try clear c3
                        try clear c4
                        try clear c6
                        try clear p6
                        try clear c7
                        try clear c8
                        try clear c9
                        try clear c9b0
                        try clear c9b1
                        try clear c10
                        try clear c11
                        try clear c11b0
                        try clear c11b1
                        try clear c12
                        try clear c12b0
                        try clear c13
                        try clear c13b0
                        try clear c15
                        try clear c16
                        try clear c18
                        try clear c19
                        try clear c19b0
                        try clear c21
                        try clear c23
                        try clear c23b0
                        try clear c23b1
                        try clear c24
                        try clear c24b0
                        try clear c24b1
                        try clear c24b2
                        try clear c25
                        try clear p25
                        try clear q25
                        try clear hx25
                        try clear c26
                        try clear c36
                        try clear c36b0
                        try clear c38
                        try clear hx257_0
                        try clear hx259_0
                        try clear p2
                        try clear p25
                        try clear p257
                        try clear p259
                        try clear p6
                        try clear q2
                        try clear q25
                        try clear q257
                        try clear q259
                        obtain ⟨kq, x19_36, rfl, HA, HJ36, HO_10, HO_11, HB⟩ := hcut
                        cases kq with
                        | zero => exact absurd HA.out (by simp [ravelinlaw12_BatchLogs.j5])
                        | succ kj36 =>
                          have H := HA.out
                          clear HA
                          simp only [ravelinlaw12_BatchLogs.j5] at H
                          replace H := Option.bind_eq_some_iff.mp H
                          obtain ⟨⟨t272, t273, t274⟩, A390, H⟩ := H
                          replace H : (if 0 ≤ (wrap64 (x19_36 - 1)) then (if (wrap64 (x19_36 - 1)) < (x11_2.length : Int) then (if (t272.length : Int) = (rd x11_2 (wrap64 (x19_36 - 1))) then (if t273 = (wrap64 ((wrap64 (a1)) + x19_36)) then (if (wrap64 (x19_36 - 1)) < (x10_2.length : Int) then (ravelinlaw12_BatchLogs.j6 kj36 a1 a2 x9_2 x10_2 x11_2 x19_36 (t274 != (rd x10_2 (wrap64 (x19_36 - 1))))) else (none)) else (ravelinlaw12_BatchLogs.j6 kj36 a1 a2 x9_2 x10_2 x11_2 x19_36 true)) else (ravelinlaw12_BatchLogs.j6 kj36 a1 a2 x9_2 x10_2 x11_2 x19_36 true)) else (none)) else (none)) = some r := H
                          have A39 := Aside0.mk A390
                          clear A390
                          have HC40 := Aside0.mk H
                          clear H
                          go_upto_region 28 with (first | ((with_reducible refine gate_callee (f := 13) rfl ?_); refine goesL_ (some 115) rfl rfl Try.func13 (by kernel_rfl) rfl #[.string x9_2] rfl (by (try simp only [List.map_toArray, List.map_cons, List.map_nil]); first | done | rfl | (simp only [List.length_drop, List.length_take]; rfl)) ?_; (with_reducible refine (batch_Log.calls kj36 x9_2 t272 t273 t274 _ A39.out).mono ?_); rintro e w41 ⟨v275, rfl, ho0, hb⟩; refine ⟨_, rfl, ?_⟩; have n0_ := Aside0.mk (Kd.R_below (by (with_reducible repeat (first | apply Kd.R_alloc | apply Kd.R_drewN | apply Kd.R_drew)); exact HO_10.out) hb); have n1_ := Aside0.mk (Kd.R_below (by (with_reducible repeat (first | apply Kd.R_alloc | apply Kd.R_drewN | apply Kd.R_drew)); exact HO_11.out) hb); have n2_ := Aside0.mk (Kd.R_lower ho0 (below_size (by repeat (first | (with_reducible first | exact HB.out | apply below_alloc | apply pw_below_drewN | apply below_drew1) | exact HB.out)))); have n3_ := Aside0.mk (below_step (by repeat (first | (with_reducible first | exact HB.out | apply below_alloc | apply pw_below_drewN | apply below_drew1) | exact HB.out)) hb); clear HO_10; clear HO_11; clear HB; have HO_10 := n0_; have HO_11 := n1_; have HO276 := n2_; have HB := n3_; clear n0_ n1_ n2_ n3_; (try clear hb); (try clear hb2); (try clear hk); (try clear hi); (try clear ho0)))
                          (try simp only [Act.put, List.setIfInBounds_toArray, List.set_cons_zero, List.set_cons_succ])
                          go_cut [143] (fun v143 wc => ∃ (kq : Nat) (x143_39 : Bool), v143 = .bool x143_39 ∧ Aside0 (ravelinlaw12_BatchLogs.j6 kq a1 a2 x9_2 x10_2 x11_2 x19_36 x143_39 = some r) ∧ Aside0 (kq ≤ kj36) ∧ Aside0 (Kd.R (Kd.int .i64) 3 wc w.heap.size (fun k_ => some k_ ≠ (u11 : Value).ownBlock) u10 x10_2) ∧ Aside0 (Kd.R (Kd.int .i64) 3 wc w.heap.size (fun k_ => some k_ ≠ (u10 : Value).ownBlock) u11 x11_2) ∧ Aside0 (Below w.heap.size w wc))
                          case first => as_aux_lemma =>
                            have H := HC40.out
                            clear HC40
                            obtain ⟨ji42, hji42⟩ : ∃ j_ : Int, (wrap64 (x19_36 - 1)) = j_ := ⟨_, rfl⟩
                            replace H : (if 0 ≤ (ji42) then (if (ji42) < (x11_2.length : Int) then (if (t272.length : Int) = (rd x11_2 (ji42)) then (if t273 = (wrap64 ((wrap64 (a1)) + x19_36)) then (if (ji42) < (x10_2.length : Int) then (ravelinlaw12_BatchLogs.j6 kj36 a1 a2 x9_2 x10_2 x11_2 x19_36 (t274 != (rd x10_2 (ji42)))) else (none)) else (ravelinlaw12_BatchLogs.j6 kj36 a1 a2 x9_2 x10_2 x11_2 x19_36 true)) else (ravelinlaw12_BatchLogs.j6 kj36 a1 a2 x9_2 x10_2 x11_2 x19_36 true)) else (none)) else (none)) = some r := by first | (rw [hji42] at H; exact H) | (simp only [hji42] at H ⊢; exact H)
                            have hji42w : (IntKind.i64.wrap (x19_36 - 1)) = ji42 := (i64_w _).trans hji42
                            by_cases c43 : 0 ≤ (ji42)
                            · rw [if_pos c43] at H
                              have c43b0 : decide (0 ≤ (ji42)) = true := decide_eq_true c43
                              clear c43
                              (first | rw [c43b0] | (simp only [i64_w, i32_w]; rw [c43b0]) | skip)
                              by_cases c44 : (ji42) < (x11_2.length : Int)
                              · rw [if_pos c44] at H
                                have c44b0 : decide ((ji42) < (x11_2.length : Int)) = true := decide_eq_true c44
                                clear c44
                                by_cases c45 : (t272.length : Int) = (rd x11_2 (ji42))
                                · rw [if_pos c45] at H
                                  have c45b0 : ((t272.length : Int) == (rd x11_2 (ji42))) = true := beq_iff_eq.mpr c45
                                  have c45b1 : ((t272.length : Int) != (rd x11_2 (ji42))) = false := bne_eq_false_iff_eq.mpr c45
                                  clear c45
                                  by_cases c46 : t273 = (wrap64 ((wrap64 (a1)) + x19_36))
                                  · rw [if_pos c46] at H
                                    have c46b0 : (t273 == (wrap64 ((wrap64 (a1)) + x19_36))) = true := beq_iff_eq.mpr c46
                                    have c46b1 : (t273 != (wrap64 ((wrap64 (a1)) + x19_36))) = false := bne_eq_false_iff_eq.mpr c46
                                    clear c46
                                    by_cases c47 : (ji42) < (x10_2.length : Int)
                                    · rw [if_pos c47] at H
                                      have c47b0 : decide ((ji42) < (x10_2.length : Int)) = true := decide_eq_true c47
                                      clear c47
                                      have H' := Aside0.mk H
                                      clear H
                                      obtain ⟨Ao48, co48, eo48⟩ := Kd.R_slice HO276.out
                                      subst eo48
                                      obtain ⟨Ao49, co49, eo49⟩ := Kd.R_slice HO_11.out
                                      subst eo49
                                      have p277 : 0 ≤ ((ji42) : Int) := of_decide_eq_true (by first | (with_reducible assumption) | assumption)
                                      have q277 : (ji42) < (x11_2.length : Int) := of_decide_eq_true (by first | (with_reducible assumption) | assumption)
                                      obtain ⟨ad277, e277, hx277_0⟩ := Kd.at_int (Kd.R_reads' HO_11.out).2.2 (ji42) p277 q277
                                      cases e277
                                      replace p277 := eq_true p277
                                      replace q277 := eq_true q277
                                      obtain ⟨Ao50, co50, eo50⟩ := Kd.R_slice HO_10.out
                                      subst eo50
                                      have p278 : 0 ≤ ((ji42) : Int) := of_decide_eq_true (by first | (with_reducible assumption) | assumption)
                                      have q278 : (ji42) < (x10_2.length : Int) := of_decide_eq_true (by first | (with_reducible assumption) | assumption)
                                      obtain ⟨ad278, e278, hx278_0⟩ := Kd.at_int (Kd.R_reads' HO_10.out).2.2 (ji42) p278 q278
                                      cases e278
                                      replace p278 := eq_true p278
                                      replace q278 := eq_true q278
                                      go_wp2
                                      go_meet
                                      case rel => exact ⟨_, ((t274 != (rd x10_2 (ji42)))), (by first | rfl | (simp; done) | (simp only [← hji42] <;> (first | rfl | simp)) | (simp [*]; done)), H', ⟨by have := HJ6.out; have := HK2.out; have := HJ34.out; have := HJ36.out; first | omega | exact Nat.le_refl _⟩, ⟨by (with_reducible repeat (first | apply Kd.R_alloc | apply Kd.R_drewN | apply Kd.R_drew)); exact HO_10.out⟩, ⟨by (with_reducible repeat (first | apply Kd.R_alloc | apply Kd.R_drewN | apply Kd.R_drew)); exact HO_11.out⟩, ⟨by repeat (first | (with_reducible first | exact HB.out | apply below_alloc | apply pw_below_drewN | apply below_drew1) | exact HB.out)⟩⟩
                                    · rw [if_neg c47] at H
                                      exact absurd H (by simp)
                                  · rw [if_neg c46] at H
                                    have c46b0 : (t273 == (wrap64 ((wrap64 (a1)) + x19_36))) = false := beq_eq_false_iff_ne.mpr c46
                                    have c46b1 : (t273 != (wrap64 ((wrap64 (a1)) + x19_36))) = true := bne_iff_ne.mpr c46
                                    have H' := Aside0.mk H
                                    clear H
                                    obtain ⟨Ao51, co51, eo51⟩ := Kd.R_slice HO276.out
                                    subst eo51
                                    obtain ⟨Ao52, co52, eo52⟩ := Kd.R_slice HO_11.out
                                    subst eo52
                                    have p277 : 0 ≤ ((ji42) : Int) := of_decide_eq_true (by first | (with_reducible assumption) | assumption)
                                    have q277 : (ji42) < (x11_2.length : Int) := of_decide_eq_true (by first | (with_reducible assumption) | assumption)
                                    obtain ⟨ad277, e277, hx277_0⟩ := Kd.at_int (Kd.R_reads' HO_11.out).2.2 (ji42) p277 q277
                                    cases e277
                                    replace p277 := eq_true p277
                                    replace q277 := eq_true q277
                                    go_wp2
                                    go_meet
                                    case rel => exact ⟨_, (true), (by first | rfl | (simp; done) | (simp [*]; done)), H', ⟨by have := HJ6.out; have := HK2.out; have := HJ34.out; have := HJ36.out; first | omega | exact Nat.le_refl _⟩, ⟨by (with_reducible repeat (first | apply Kd.R_alloc | apply Kd.R_drewN | apply Kd.R_drew)); exact HO_10.out⟩, ⟨by (with_reducible repeat (first | apply Kd.R_alloc | apply Kd.R_drewN | apply Kd.R_drew)); exact HO_11.out⟩, ⟨by repeat (first | (with_reducible first | exact HB.out | apply below_alloc | apply pw_below_drewN | apply below_drew1) | exact HB.out)⟩⟩
                                · rw [if_neg c45] at H
                                  have c45b0 : ((t272.length : Int) == (rd x11_2 (ji42))) = false := beq_eq_false_iff_ne.mpr c45
                                  have c45b1 : ((t272.length : Int) != (rd x11_2 (ji42))) = true := bne_iff_ne.mpr c45
                                  have H' := Aside0.mk H
                                  clear H
                                  obtain ⟨Ao53, co53, eo53⟩ := Kd.R_slice HO276.out
                                  subst eo53
                                  obtain ⟨Ao54, co54, eo54⟩ := Kd.R_slice HO_11.out
                                  subst eo54
                                  have p277 : 0 ≤ ((ji42) : Int) := of_decide_eq_true (by first | (with_reducible assumption) | assumption)
                                  have q277 : (ji42) < (x11_2.length : Int) := of_decide_eq_true (by first | (with_reducible assumption) | assumption)
                                  obtain ⟨ad277, e277, hx277_0⟩ := Kd.at_int (Kd.R_reads' HO_11.out).2.2 (ji42) p277 q277
                                  cases e277
                                  replace p277 := eq_true p277
                                  replace q277 := eq_true q277
                                  go_wp2
                                  go_meet
                                  case rel => exact ⟨_, (true), (by first | rfl | (simp; done) | (simp [*]; done)), H', ⟨by have := HJ6.out; have := HK2.out; have := HJ34.out; have := HJ36.out; first | omega | exact Nat.le_refl _⟩, ⟨by (with_reducible repeat (first | apply Kd.R_alloc | apply Kd.R_drewN | apply Kd.R_drew)); exact HO_10.out⟩, ⟨by (with_reducible repeat (first | apply Kd.R_alloc | apply Kd.R_drewN | apply Kd.R_drew)); exact HO_11.out⟩, ⟨by repeat (first | (with_reducible first | exact HB.out | apply below_alloc | apply pw_below_drewN | apply below_drew1) | exact HB.out)⟩⟩
                              · rw [if_neg c44] at H
                                exact absurd H (by simp)
                            · rw [if_neg c43] at H
                              exact absurd H (by simp)
                          case rest => as_aux_lemma =>
                            clear HC40
                            try clear c1
                            try clear c2
                            try clear p2
                            try clear q2
                            try clear hx2
                            try clear c3
                            try clear c4
                            try clear c6
                            try clear p6
                            try clear c7
                            try clear c8
                            try clear c9
                            try clear c9b0
                            try clear c9b1
                            try clear c10
                            try clear c11
                            try clear c11b0
                            try clear c11b1
                            try clear c12
                            try clear c12b0
                            try clear c13
                            try clear c13b0
                            try clear c15
                            try clear c16
                            try clear c18
                            try clear c19
                            try clear c19b0
                            try clear c21
                            try clear c23
                            try clear c23b0
                            try clear c23b1
                            try clear c24
                            try clear c24b0
                            try clear c24b1
                            try clear c24b2
                            try clear c25
                            try clear p25
                            try clear q25
                            try clear hx25
                            try clear c26
                            try clear p27
                            try clear q27
                            try clear hx27
                            try clear c36
                            try clear c36b0
                            try clear c38
                            try clear c43
                            try clear c43b0
                            try clear c44
                            try clear c44b0
                            try clear c45
                            try clear c45b0
                            try clear c45b1
                            try clear c46
                            try clear c46b0
                            try clear c46b1
                            try clear c47
                            try clear c47b0
                            try clear hx257_0
                            try clear hx259_0
                            try clear hx277_0
                            try clear hx278_0
                            try clear p2
                            try clear p25
                            try clear p257
                            try clear p259
                            try clear p277
                            try clear p278
                            try clear p6
                            try clear q2
                            try clear q25
                            try clear q257
                            try clear q259
                            try clear q277
                            try clear q278
                            obtain ⟨kq, x143_39, rfl, HA, HJ39, HO_10, HO_11, HB⟩ := hcut
                            cases kq with
                            | zero => exact absurd HA.out (by simp [ravelinlaw12_BatchLogs.j6])
                            | succ kj39 =>
                              have H := HA.out
                              clear HA
                              simp only [ravelinlaw12_BatchLogs.j6] at H
                              by_cases c55 : x143_39 = true
                              · subst c55
                                have H1 : (some false) = some r := by rw [if_pos rfl] at H; exact H
                                clear H
                                have H := H1
                                clear H1
                                exact absurd ((Option.some.inj H).trans HR_.out) (by decide)
                              · replace c55 := Bool.eq_false_iff.mpr c55
                                subst c55
                                have H1 : (if (x9_2.size : Int) = 0 then (none) else (ravelinlaw12_BatchLogs.l1 kj39 a1 x9_2 x10_2 x11_2 x19_36 (Int.tmod (wrap64 (a2)) (x9_2.size : Int)) 0)) = some r := by rw [if_neg (show ¬ (false = true) by decide)] at H; exact H
                                clear H
                                have H := H1
                                clear H1
                                by_cases c56 : (x9_2.size : Int) = 0
                                · rw [if_pos c56] at H
                                  exact absurd H (by simp)
                                · rw [if_neg c56] at H
                                  have c56b0 : ((x9_2.size : Int) == 0) = false := beq_eq_false_iff_ne.mpr c56
                                  have c56b1 : ((x9_2.size : Int) != 0) = true := bne_iff_ne.mpr c56
                                  have HC57 := Aside0.mk H
                                  clear H
                                  go_upto_block 2 with (fail)
                                  go_cut [24] (fun v24 wc => ∃ (kq : Nat) (x24_56 : Int), v24 = .int .i64 x24_56 ∧ Aside0 (ravelinlaw12_BatchLogs.j8 kq a1 x9_2 x10_2 x11_2 (Int.tmod (wrap64 (a2)) (x9_2.size : Int)) x24_56 = some r) ∧ Aside0 (kq ≤ kj39) ∧ Aside0 (Kd.R (Kd.int .i64) 3 wc w.heap.size (fun k_ => some k_ ≠ (u11 : Value).ownBlock) u10 x10_2) ∧ Aside0 (Kd.R (Kd.int .i64) 3 wc w.heap.size (fun k_ => some k_ ≠ (u10 : Value).ownBlock) u11 x11_2) ∧ Aside0 (Below w.heap.size w wc))
                                  case first => as_aux_lemma =>
                                    have H := HC57.out
                                    clear HC57
                                    have H' := Aside0.mk H
                                    clear H
                                    go_wp2
                                    go_loopg [24] kj39 (fun kq v24 w' => ∃ (x24_6 : Int), v24 = .int .i64 x24_6 ∧ Aside0 (ravelinlaw12_BatchLogs.l1 kq a1 x9_2 x10_2 x11_2 x19_36 (Int.tmod (wrap64 (a2)) (x9_2.size : Int)) x24_6 = some r) ∧ Aside0 (kq ≤ kj39) ∧ Aside0 (Kd.R (Kd.int .i64) 3 w' w.heap.size (fun k_ => some k_ ≠ (u11 : Value).ownBlock) u10 x10_2) ∧ Aside0 (Kd.R (Kd.int .i64) 3 w' w.heap.size (fun k_ => some k_ ≠ (u10 : Value).ownBlock) u11 x11_2) ∧ Aside0 (Below w.heap.size w w'))
                                    case atStart => exact ⟨(0), (by first | rfl | (simp; done) | (simp [*]; done)), H', ⟨Nat.le_refl _⟩, ⟨by (with_reducible repeat (first | apply Kd.R_alloc | apply Kd.R_drewN | apply Kd.R_drew)); exact HO_10.out⟩, ⟨by (with_reducible repeat (first | apply Kd.R_alloc | apply Kd.R_drewN | apply Kd.R_drew)); exact HO_11.out⟩, ⟨by repeat (first | (with_reducible first | exact HB.out | apply below_alloc | apply pw_below_drewN | apply below_drew1) | exact HB.out)⟩⟩
                                    case round => as_aux_lemma =>
                                      clear H'
                                      try clear c1
                                      try clear c2
                                      try clear p2
                                      try clear q2
                                      try clear hx2
                                      try clear c3
                                      try clear c4
                                      try clear c5
                                      try clear c6
                                      try clear p6
                                      try clear c7
                                      try clear c8
                                      try clear c9
                                      try clear c9b0
                                      try clear c9b1
                                      try clear c10
                                      try clear c11
                                      try clear c11b0
                                      try clear c11b1
                                      try clear c12
                                      try clear c12b0
                                      try clear c13
                                      try clear c13b0
                                      try clear c15
                                      try clear c16
                                      try clear c18
                                      try clear c19
                                      try clear c19b0
                                      try clear c21
                                      try clear c23
                                      try clear c23b0
                                      try clear c23b1
                                      try clear c24
                                      try clear c24b0
                                      try clear c24b1
                                      try clear c24b2
                                      try clear c25
                                      try clear p25
                                      try clear q25
                                      try clear hx25
                                      try clear c26
                                      try clear p27
                                      try clear q27
                                      try clear hx27
                                      try clear c36
                                      try clear c36b0
                                      try clear c38
                                      try clear c43
                                      try clear c43b0
                                      try clear c44
                                      try clear c44b0
                                      try clear c45
                                      try clear c45b0
                                      try clear c45b1
                                      try clear c46
                                      try clear c46b0
                                      try clear c46b1
                                      try clear c47
                                      try clear c47b0
                                      try clear c55
                                      try clear c56
                                      try clear c56b0
                                      try clear c56b1
                                      try clear hx257_0
                                      try clear hx259_0
                                      try clear hx277_0
                                      try clear hx278_0
                                      try clear p2
                                      try clear p25
                                      try clear p257
                                      try clear p259
                                      try clear p27
                                      try clear p277
                                      try clear p278
                                      try clear p6
                                      try clear q2
                                      try clear q25
                                      try clear q257
                                      try clear q259
                                      try clear q27
                                      try clear q277
                                      try clear q278
                                      obtain ⟨x24_6, rfl, HA, HK6, HO_10, HO_11, HB⟩ := hrel
                                      cases gk with
                                      | zero => exact absurd HA.out (by simp [ravelinlaw12_BatchLogs.l1])
                                      | succ k6 =>
                                        have H := HA.out
                                        clear HA
                                        simp only [ravelinlaw12_BatchLogs.l1] at H
                                        by_cases c58 : x24_6 < x19_36
                                        · rw [if_pos c58] at H
                                          have c58b0 : decide (x24_6 < x19_36) = true := decide_eq_true c58
                                          clear c58
                                          (first | rw [c58b0] | (simp only [i64_w, i32_w]; rw [c58b0]) | skip)
                                          by_cases c59 : 0 ≤ x24_6
                                          · rw [if_pos c59] at H
                                            have c59b0 : decide (0 ≤ x24_6) = true := decide_eq_true c59
                                            clear c59
                                            by_cases c60 : x24_6 < (x10_2.length : Int)
                                            · rw [if_pos c60] at H
                                              have c60b0 : decide (x24_6 < (x10_2.length : Int)) = true := decide_eq_true c60
                                              clear c60
                                              by_cases c61 : (rd x10_2 x24_6) ≤ (Int.tmod (wrap64 (a2)) (x9_2.size : Int))
                                              · rw [if_pos c61] at H
                                                have c61b0 : decide ((rd x10_2 x24_6) ≤ (Int.tmod (wrap64 (a2)) (x9_2.size : Int))) = true := decide_eq_true c61
                                                clear c61
                                                have H' := Aside0.mk H
                                                clear H
                                                obtain ⟨Ao62, co62, eo62⟩ := Kd.R_slice HO_10.out
                                                subst eo62
                                                have p279 : 0 ≤ (x24_6 : Int) := of_decide_eq_true (by first | (with_reducible assumption) | assumption)
                                                have q279 : x24_6 < (x10_2.length : Int) := of_decide_eq_true (by first | (with_reducible assumption) | assumption)
                                                obtain ⟨ad279, e279, hx279_0⟩ := Kd.at_int (Kd.R_reads' HO_10.out).2.2 x24_6 p279 q279
                                                cases e279
                                                replace p279 := eq_true p279
                                                replace q279 := eq_true q279
                                                go_wp2
                                                go_roundg k6
                                                case measure => have := HJ6.out; have := HK2.out; have := HJ34.out; have := HJ36.out; have := HJ39.out; have := HK6.out; omega
                                                case rel => exact ⟨(wrap64 (x24_6 + 1)), (by first | rfl | (simp; done) | (simp [*]; done)), H', ⟨by have := HJ6.out; have := HK2.out; have := HJ34.out; have := HJ36.out; have := HJ39.out; have := HK6.out; omega⟩, ⟨by (with_reducible repeat (first | apply Kd.R_alloc | apply Kd.R_drewN | apply Kd.R_drew)); exact HO_10.out⟩, ⟨by (with_reducible repeat (first | apply Kd.R_alloc | apply Kd.R_drewN | apply Kd.R_drew)); exact HO_11.out⟩, ⟨by repeat (first | (with_reducible first | exact HB.out | apply below_alloc | apply pw_below_drewN | apply below_drew1) | exact HB.out)⟩⟩
                                              · rw [if_neg c61] at H
                                                have c61b0 : decide ((rd x10_2 x24_6) ≤ (Int.tmod (wrap64 (a2)) (x9_2.size : Int))) = false := decide_eq_false c61
                                                clear c61
                                                have H' := Aside0.mk H
                                                clear H
                                                obtain ⟨Ao63, co63, eo63⟩ := Kd.R_slice HO_10.out
                                                subst eo63
                                                have p279 : 0 ≤ (x24_6 : Int) := of_decide_eq_true (by first | (with_reducible assumption) | assumption)
                                                have q279 : x24_6 < (x10_2.length : Int) := of_decide_eq_true (by first | (with_reducible assumption) | assumption)
                                                obtain ⟨ad279, e279, hx279_0⟩ := Kd.at_int (Kd.R_reads' HO_10.out).2.2 x24_6 p279 q279
                                                cases e279
                                                replace p279 := eq_true p279
                                                replace q279 := eq_true q279
                                                go_wp2
                                                go_meet
                                                case rel => exact ⟨_, (x24_6), (by first | rfl | (simp; done) | (simp [*]; done)), H', ⟨by have := HJ6.out; have := HK2.out; have := HJ34.out; have := HJ36.out; first | exact Nat.le_refl _ | (have := HJ39.out; have := HK6.out; omega)⟩, ⟨by (with_reducible repeat (first | apply Kd.R_alloc | apply Kd.R_drewN | apply Kd.R_drew)); exact HO_10.out⟩, ⟨by (with_reducible repeat (first | apply Kd.R_alloc | apply Kd.R_drewN | apply Kd.R_drew)); exact HO_11.out⟩, ⟨by repeat (first | (with_reducible first | exact HB.out | apply below_alloc | apply pw_below_drewN | apply below_drew1) | exact HB.out)⟩⟩
                                            · rw [if_neg c60] at H
                                              exact absurd H (by simp)
                                          · rw [if_neg c59] at H
                                            exact absurd H (by simp)
                                        · rw [if_neg c58] at H
                                          have c58b0 : decide (x24_6 < x19_36) = false := decide_eq_false c58
                                          clear c58
                                          (first | rw [c58b0] | (simp only [i64_w, i32_w]; rw [c58b0]) | skip)
                                          have H' := Aside0.mk H
                                          clear H
                                          go_wp2
                                          go_meet
                                          case rel => exact ⟨_, (x24_6), (by first | rfl | (simp; done) | (simp [*]; done)), H', ⟨by have := HJ6.out; have := HK2.out; have := HJ34.out; have := HJ36.out; first | exact Nat.le_refl _ | (have := HJ39.out; have := HK6.out; omega)⟩, ⟨by (with_reducible repeat (first | apply Kd.R_alloc | apply Kd.R_drewN | apply Kd.R_drew)); exact HO_10.out⟩, ⟨by (with_reducible repeat (first | apply Kd.R_alloc | apply Kd.R_drewN | apply Kd.R_drew)); exact HO_11.out⟩, ⟨by repeat (first | (with_reducible first | exact HB.out | apply below_alloc | apply pw_below_drewN | apply below_drew1) | exact HB.out)⟩⟩
                                  case rest => as_aux_lemma =>
                                    clear HC57
                                    try clear c1
                                    try clear c2
                                    try clear p2
                                    try clear q2
                                    try clear hx2
                                    try clear c3
                                    try clear c4
                                    try clear c5
                                    try clear c6
                                    try clear p6
                                    try clear c7
                                    try clear c8
                                    try clear c9
                                    try clear c9b0
                                    try clear c9b1
                                    try clear c10
                                    try clear c11
                                    try clear c11b0
                                    try clear c11b1
                                    try clear c12
                                    try clear c12b0
                                    try clear c13
                                    try clear c13b0
                                    try clear c15
                                    try clear c16
                                    try clear c18
                                    try clear c19
                                    try clear c19b0
                                    try clear c21
                                    try clear c23
                                    try clear c23b0
                                    try clear c23b1
                                    try clear c24
                                    try clear c24b0
                                    try clear c24b1
                                    try clear c24b2
                                    try clear c25
                                    try clear p25
                                    try clear q25
                                    try clear hx25
                                    try clear c26
                                    try clear p27
                                    try clear q27
                                    try clear hx27
                                    try clear c36
                                    try clear c36b0
                                    try clear c38
                                    try clear c43
                                    try clear c43b0
                                    try clear c44
                                    try clear c44b0
                                    try clear c45
                                    try clear c45b0
                                    try clear c45b1
                                    try clear c46
                                    try clear c46b0
                                    try clear c46b1
                                    try clear c47
                                    try clear c47b0
                                    try clear c55
                                    try clear c56
                                    try clear c56b0
                                    try clear c56b1
                                    try clear c58
                                    try clear c58b0
                                    try clear c59
                                    try clear c59b0
                                    try clear c60
                                    try clear c60b0
                                    try clear c61
                                    try clear c61b0
                                    try clear hx257_0
                                    try clear hx259_0
                                    try clear hx277_0
                                    try clear hx278_0
                                    try clear hx279_0
                                    try clear p2
                                    try clear p25
                                    try clear p257
                                    try clear p259
                                    try clear p27
                                    try clear p277
                                    try clear p278
                                    try clear p279
                                    try clear p6
                                    try clear q2
                                    try clear q25
                                    try clear q257
                                    try clear q259
                                    try clear q27
                                    try clear q277
                                    try clear q278
                                    try clear q279
                                    obtain ⟨kq, x24_56, rfl, HA, HJ56, HO_10, HO_11, HB⟩ := hcut
                                    cases kq with
                                    | zero => exact absurd HA.out (by simp [ravelinlaw12_BatchLogs.j8])
                                    | succ kj56 =>
                                      have H := HA.out
                                      clear HA
                                      simp only [ravelinlaw12_BatchLogs.j8] at H
                                      obtain ⟨ji64, hji64⟩ : ∃ j_ : Int, (Int.tmod (wrap64 (a2)) (x9_2.size : Int)) = j_ := ⟨_, rfl⟩
                                      replace H : (if 0 ≤ (ji64) then (if (ji64) ≤ (x9_2.size : Int) then ((batch_Log.f kj56 (x9_2.extract 0 ((ji64) : Int).toNat)).bind fun bt280 => (if x24_56 = 0 then (if (bt280.1.length : Int) = 0 then (if bt280.2.1 = 0 then (some (bt280.2.2 == 0)) else (some false)) else (some false)) else (if 0 ≤ (wrap64 (x24_56 - 1)) then (if (wrap64 (x24_56 - 1)) < (x11_2.length : Int) then (if (bt280.1.length : Int) = (rd x11_2 (wrap64 (x24_56 - 1))) then (if bt280.2.1 = (wrap64 ((wrap64 (a1)) + x24_56)) then (if (wrap64 (x24_56 - 1)) < (x10_2.length : Int) then (some (bt280.2.2 == (rd x10_2 (wrap64 (x24_56 - 1))))) else (none)) else (some false)) else (some false)) else (none)) else (none)))) else (none)) else (none)) = some r := by first | (rw [hji64] at H; exact H) | (simp only [hji64] at H ⊢; exact H)
                                      (try (have c61b0ji64 := c61b0; rw [hji64] at c61b0ji64))
                                      (try (have c61b0ji64 := c61b0; rw [hji64] at c61b0ji64))
                                      by_cases c65 : 0 ≤ (ji64)
                                      · rw [if_pos c65] at H
                                        have c65b0 := eq_true c65
                                        have c65b1 : decide (0 ≤ (ji64)) = true := decide_eq_true c65
                                        clear c65
                                        by_cases c66 : (ji64) ≤ (x9_2.size : Int)
                                        · rw [if_pos c66] at H
                                          have c66b0 := eq_true c66
                                          have c66b1 : decide ((ji64) ≤ (x9_2.size : Int)) = true := decide_eq_true c66
                                          clear c66
                                          replace H := Option.bind_eq_some_iff.mp H
                                          obtain ⟨⟨t280, t281, t282⟩, A670, H⟩ := H
                                          replace H : (if x24_56 = 0 then (if (t280.length : Int) = 0 then (if t281 = 0 then (some (t282 == 0)) else (some false)) else (some false)) else (if 0 ≤ (wrap64 (x24_56 - 1)) then (if (wrap64 (x24_56 - 1)) < (x11_2.length : Int) then (if (t280.length : Int) = (rd x11_2 (wrap64 (x24_56 - 1))) then (if t281 = (wrap64 ((wrap64 (a1)) + x24_56)) then (if (wrap64 (x24_56 - 1)) < (x10_2.length : Int) then (some (t282 == (rd x10_2 (wrap64 (x24_56 - 1))))) else (none)) else (some false)) else (some false)) else (none)) else (none))) = some r := H
                                          have A67 := Aside0.mk A670
                                          clear A670
                                          by_cases c68 : x24_56 = 0
                                          · rw [if_pos c68] at H
                                            have c68b0 : (x24_56 == 0) = true := beq_iff_eq.mpr c68
                                            have c68b1 : (x24_56 != 0) = false := bne_eq_false_iff_eq.mpr c68
                                            clear c68
                                            by_cases c69 : (t280.length : Int) = 0
                                            · rw [if_pos c69] at H
                                              have c69b0 : ((t280.length : Int) == 0) = true := beq_iff_eq.mpr c69
                                              have c69b1 : ((t280.length : Int) != 0) = false := bne_eq_false_iff_eq.mpr c69
                                              clear c69
                                              by_cases c70 : t281 = 0
                                              · rw [if_pos c70] at H
                                                have c70b0 : (t281 == 0) = true := beq_iff_eq.mpr c70
                                                have c70b1 : (t281 != 0) = false := bne_eq_false_iff_eq.mpr c70
                                                clear c70
                                                obtain rfl := Option.some.inj H
                                                go_wp2_with (first | ((with_reducible refine gate_callee (f := 13) rfl ?_); refine goesL_ (some 166) rfl rfl Try.func13 (by kernel_rfl) rfl #[.string (x9_2.extract 0 ((ji64) : Int).toNat)] rfl (by (try simp only [List.map_toArray, List.map_cons, List.map_nil]); first | done | (simp only [hji64]; rfl) | rfl | (simp only [List.length_drop, List.length_take]; rfl)) ?_; (with_reducible refine (batch_Log.calls kj56 (x9_2.extract 0 ((ji64) : Int).toNat) t280 t281 t282 _ A67.out).mono ?_); rintro e w71 ⟨v283, rfl, ho0, hb⟩; refine ⟨_, rfl, ?_⟩; have n0_ := Aside0.mk (Kd.R_below (by (with_reducible repeat (first | apply Kd.R_alloc | apply Kd.R_drewN | apply Kd.R_drew)); exact HO_10.out) hb); have n1_ := Aside0.mk (Kd.R_below (by (with_reducible repeat (first | apply Kd.R_alloc | apply Kd.R_drewN | apply Kd.R_drew)); exact HO_11.out) hb); have n2_ := Aside0.mk (Kd.R_lower ho0 (below_size (by repeat (first | (with_reducible first | exact HB.out | apply below_alloc | apply pw_below_drewN | apply below_drew1) | exact HB.out)))); have n3_ := Aside0.mk (below_step (by repeat (first | (with_reducible first | exact HB.out | apply below_alloc | apply pw_below_drewN | apply below_drew1) | exact HB.out)) hb); clear HO_10; clear HO_11; clear HB; have HO_10 := n0_; have HO_11 := n1_; have HO284 := n2_; have HB := n3_; clear n0_ n1_ n2_ n3_; (try clear hb); (try clear hb2); (try clear hk); (try clear hi); (try clear ho0); obtain ⟨Ao72, co72, eo72⟩ := Kd.R_slice HO284.out; subst eo72))
                                                go_ret
                                                exact ⟨by first | rfl | (simp [errW_none, errW_some] <;> rfl) | (simp only [← hji64]; first | rfl | (simp [errW_none, errW_some] <;> rfl)) | (simp [*, errW_none, errW_some] <;> rfl), by repeat (first | (with_reducible first | exact HB.out | apply below_alloc | apply pw_below_drewN | apply below_drew1) | exact HB.out)⟩
                                              · rw [if_neg c70] at H
                                                have c70b0 : (t281 == 0) = false := beq_eq_false_iff_ne.mpr c70
                                                have c70b1 : (t281 != 0) = true := bne_iff_ne.mpr c70
                                                exact absurd ((Option.some.inj H).trans HR_.out) (by decide)
                                            · rw [if_neg c69] at H
                                              have c69b0 : ((t280.length : Int) == 0) = false := beq_eq_false_iff_ne.mpr c69
                                              have c69b1 : ((t280.length : Int) != 0) = true := bne_iff_ne.mpr c69
                                              have c69b2 : ¬ (t280 = []) := fun h_ => c69 (by rw [h_]; rfl)
                                              exact absurd ((Option.some.inj H).trans HR_.out) (by decide)
                                          · rw [if_neg c68] at H
                                            have c68b0 : (x24_56 == 0) = false := beq_eq_false_iff_ne.mpr c68
                                            have c68b1 : (x24_56 != 0) = true := bne_iff_ne.mpr c68
                                            obtain ⟨ji73, hji73⟩ : ∃ j_ : Int, (wrap64 (x24_56 - 1)) = j_ := ⟨_, rfl⟩
                                            replace H : (if 0 ≤ (ji73) then (if (ji73) < (x11_2.length : Int) then (if (t280.length : Int) = (rd x11_2 (ji73)) then (if t281 = (wrap64 ((wrap64 (a1)) + x24_56)) then (if (ji73) < (x10_2.length : Int) then (some (t282 == (rd x10_2 (ji73)))) else (none)) else (some false)) else (some false)) else (none)) else (none)) = some r := by first | (rw [hji73] at H; exact H) | (simp only [hji73] at H ⊢; exact H)
                                            (try rw [hji73] at A67)
                                            have hji73w : (IntKind.i64.wrap (x24_56 - 1)) = ji73 := (i64_w _).trans hji73
                                            by_cases c74 : 0 ≤ (ji73)
                                            · rw [if_pos c74] at H
                                              have c74b0 : decide (0 ≤ (ji73)) = true := decide_eq_true c74
                                              clear c74
                                              by_cases c75 : (ji73) < (x11_2.length : Int)
                                              · rw [if_pos c75] at H
                                                have c75b0 : decide ((ji73) < (x11_2.length : Int)) = true := decide_eq_true c75
                                                clear c75
                                                by_cases c76 : (t280.length : Int) = (rd x11_2 (ji73))
                                                · rw [if_pos c76] at H
                                                  have c76b0 : ((t280.length : Int) == (rd x11_2 (ji73))) = true := beq_iff_eq.mpr c76
                                                  have c76b1 : ((t280.length : Int) != (rd x11_2 (ji73))) = false := bne_eq_false_iff_eq.mpr c76
                                                  clear c76
                                                  by_cases c77 : t281 = (wrap64 ((wrap64 (a1)) + x24_56))
                                                  · rw [if_pos c77] at H
                                                    have c77b0 : (t281 == (wrap64 ((wrap64 (a1)) + x24_56))) = true := beq_iff_eq.mpr c77
                                                    have c77b1 : (t281 != (wrap64 ((wrap64 (a1)) + x24_56))) = false := bne_eq_false_iff_eq.mpr c77
                                                    clear c77
                                                    by_cases c78 : (ji73) < (x10_2.length : Int)
                                                    · rw [if_pos c78] at H
                                                      have c78b0 : decide ((ji73) < (x10_2.length : Int)) = true := decide_eq_true c78
                                                      clear c78
                                                      obtain rfl := Option.some.inj H
                                                      go_wp2_with (first | ((with_reducible refine gate_callee (f := 13) rfl ?_); refine goesL_ (some 166) rfl rfl Try.func13 (by kernel_rfl) rfl #[.string (x9_2.extract 0 ((ji64) : Int).toNat)] rfl (by (try simp only [List.map_toArray, List.map_cons, List.map_nil]); first | done | (simp only [hji64]; rfl) | rfl | (simp only [List.length_drop, List.length_take]; rfl)) ?_; (with_reducible refine (batch_Log.calls kj56 (x9_2.extract 0 ((ji64) : Int).toNat) t280 t281 t282 _ A67.out).mono ?_); rintro e w79 ⟨v283, rfl, ho0, hb⟩; refine ⟨_, rfl, ?_⟩; have n0_ := Aside0.mk (Kd.R_below (by (with_reducible repeat (first | apply Kd.R_alloc | apply Kd.R_drewN | apply Kd.R_drew)); exact HO_10.out) hb); have n1_ := Aside0.mk (Kd.R_below (by (with_reducible repeat (first | apply Kd.R_alloc | apply Kd.R_drewN | apply Kd.R_drew)); exact HO_11.out) hb); have n2_ := Aside0.mk (Kd.R_lower ho0 (below_size (by repeat (first | (with_reducible first | exact HB.out | apply below_alloc | apply pw_below_drewN | apply below_drew1) | exact HB.out)))); have n3_ := Aside0.mk (below_step (by repeat (first | (with_reducible first | exact HB.out | apply below_alloc | apply pw_below_drewN | apply below_drew1) | exact HB.out)) hb); clear HO_10; clear HO_11; clear HB; have HO_10 := n0_; have HO_11 := n1_; have HO284 := n2_; have HB := n3_; clear n0_ n1_ n2_ n3_; (try clear hb); (try clear hb2); (try clear hk); (try clear hi); (try clear ho0); obtain ⟨Ao80, co80, eo80⟩ := Kd.R_slice HO284.out; subst eo80; obtain ⟨Ao81, co81, eo81⟩ := Kd.R_slice HO_11.out; subst eo81; have p285 : 0 ≤ ((ji73) : Int) := of_decide_eq_true (by first | (with_reducible assumption) | assumption); have q285 : (ji73) < (x11_2.length : Int) := of_decide_eq_true (by first | (with_reducible assumption) | assumption); obtain ⟨ad285, e285, hx285_0⟩ := Kd.at_int (Kd.R_reads' HO_11.out).2.2 (ji73) p285 q285; cases e285; replace p285 := eq_true p285; replace q285 := eq_true q285; obtain ⟨Ao82, co82, eo82⟩ := Kd.R_slice HO_10.out; subst eo82; have p286 : 0 ≤ ((ji73) : Int) := of_decide_eq_true (by first | (with_reducible assumption) | assumption); have q286 : (ji73) < (x10_2.length : Int) := of_decide_eq_true (by first | (with_reducible assumption) | assumption); obtain ⟨ad286, e286, hx286_0⟩ := Kd.at_int (Kd.R_reads' HO_10.out).2.2 (ji73) p286 q286; cases e286; replace p286 := eq_true p286; replace q286 := eq_true q286))
                                                      go_ret
                                                      exact ⟨by first | rfl | (simp [errW_none, errW_some] <;> rfl) | (simp only [← hji64, ← hji73]; first | rfl | (simp [errW_none, errW_some] <;> rfl)) | (simp [*, errW_none, errW_some] <;> rfl), by repeat (first | (with_reducible first | exact HB.out | apply below_alloc | apply pw_below_drewN | apply below_drew1) | exact HB.out)⟩
                                                    · rw [if_neg c78] at H
                                                      exact absurd H (by simp)
                                                  · rw [if_neg c77] at H
                                                    have c77b0 : (t281 == (wrap64 ((wrap64 (a1)) + x24_56))) = false := beq_eq_false_iff_ne.mpr c77
                                                    have c77b1 : (t281 != (wrap64 ((wrap64 (a1)) + x24_56))) = true := bne_iff_ne.mpr c77
                                                    exact absurd ((Option.some.inj H).trans HR_.out) (by decide)
                                                · rw [if_neg c76] at H
                                                  have c76b0 : ((t280.length : Int) == (rd x11_2 (ji73))) = false := beq_eq_false_iff_ne.mpr c76
                                                  have c76b1 : ((t280.length : Int) != (rd x11_2 (ji73))) = true := bne_iff_ne.mpr c76
                                                  exact absurd ((Option.some.inj H).trans HR_.out) (by decide)
                                              · rw [if_neg c75] at H
                                                exact absurd H (by simp)
                                            · rw [if_neg c74] at H
                                              exact absurd H (by simp)
                                        · rw [if_neg c66] at H
                                          exact absurd H (by simp)
                                      · rw [if_neg c65] at H
                                        exact absurd H (by simp)
  · replace c6 := Bool.eq_false_iff.mpr c6
    subst c6
    have H1 : (some false) = some r := by rw [if_neg (show ¬ (false = true) by decide)] at H; exact H
    clear H
    have H := H1
    clear H1
    exact absurd ((Option.some.inj H).trans HR_.out) (by decide)
def ravelinlaw12_BatchLogs.Pure : Prop := ∀ (l0 : List (List (S49))) (a1 : Int) (a2 : Int) (a3 : Int), l0.length ≤ 9223372036854775807 → (∀ y_ ∈ l0, (y_.length ≤ 9223372036854775807 ∧ ∀ yy_ ∈ y_, (yy_.f0.size ≤ 9223372036854775807 ∧ True ∧ yy_.f2.size ≤ 9223372036854775807))) → (Lit.int .u16 a1).wf = true → (Lit.int .u16 a2).wf = true → (Lit.int .u8 a3).wf = true → ∃ k, ravelinlaw12_BatchLogs.f k l0 a1 a2 a3 = some true

end Go.Proofs.Ytnjbmcjhhadojaa.P
-- FIXED12c
