-- Printed by a changed copy of the kit's printer (wip/tools/ext.py); labels and more
import Derived.Test.YtggmgenofmfdpaaM0
import Derived.Test.YtggmgenofmfdpaaM2
import Derived.Test.YtggmgenofmfdpaaM3
import Derived.Test.YtggmgenofmfdpaaM4
import Derived.Test.YtggmgenofmfdpaaM5
import Derived.Test.YtggmgenofmfdpaaM6
import Derived.Test.YtggmgenofmfdpaaM8
import Derived.Test.YtggmgenofmfdpaaM9
namespace Go.Proofs.Ytggmgenofmfdpaa.P
open Go.RowKit Go.Proofs.YtggmgenofmfdpaaW.PrintWords Go.Proofs.YtggmgenofmfdpaaW.PrintLast Go.Proofs.YtggmgenofmfdpaaW.PrintMore
attribute [local go_sem] max2_int min2_int max_two min_two max_three min_three max_four min_four   -- for this text's walks alone
set_option linter.unusedVariables false
set_option linter.unusedSimpArgs false

attribute [local go_sem high] eqA23
/-! ### ravelinlaw6_EntryTells: function 3 -/
def ravelinlaw6_EntryTells.j0 : Nat → List (S23) → ByteArray → Int → ByteArray → Bool → ByteArray → Int → Bool → ByteArray → ByteArray → Int → Bool → ByteArray → ByteArray → Bool → ByteArray → Option (Bool)
  | 0, _, _, _, _, _, _, _, _, _, _, _, _, _, _, _, _ => none
  | k + 1, x2, x3, x4, x5, x58, x269000, x269001, x269002, x269003, x270000, x270001, x270002, x270003, x271000, x271001, x271002 => if x58 = true then (some true) else ((entry_Read.f k x5).bind fun bt277 => ((ravelinref6_Read.f k x5).bind fun bt284 => ((entry_Newest.f k x2 x3 x4).bind fun bt291 => ((ravelinref6_Newest.f k x2 x3 x4).bind fun bt297 => ((entry_Is.f x269000 x269001 x269002 x269003).bind fun t303 => ((ravelinref6_Is.f x269000 x269001 x269002 x269003).bind fun t304 => (if (t303 == t304) = true then ((entry_Less.f k x269000 x269001 x269002 x269003 x270000 x270001 x270002 x270003).bind fun t305 => ((ravelinref6_Less.f x269000 x269001 x269002 x269003 x270000 x270001 x270002 x270003).bind fun t306 => (if (t305 == t306) = true then ((entry_Bytes.f k x269000 x269001 x269002 x269003).bind fun t307 => ((ravelinref6_Bytes.f k x269000 x269001 x269002 x269003).bind fun t308 => (if t307.toList = t308.toList then ((entry_Sorted.f k x2).bind fun t309 => ((ravelinref6_Sorted.f k x2).bind fun t310 => (if (t309 == t310) = true then (if (bt277.1.toList == bt284.1.toList && (bt277.2.1 == bt284.2.1 && (bt277.2.2.1 == bt284.2.2.1 && (bt277.2.2.2.1.toList == bt284.2.2.2.1.toList)))) = true then (if bt277.2.2.2.2.1 = bt284.2.2.2.2.1 then (if bt277.2.2.2.2.2 = bt284.2.2.2.2.2 then (if (bt291.1.toList == bt297.1.toList && (bt291.2.1 == bt297.2.1 && (bt291.2.2.1 == bt297.2.2.1 && (bt291.2.2.2.1.toList == bt297.2.2.2.1.toList)))) = true then (if (bt291.2.2.2.2 == bt297.2.2.2.2) = true then ((entry_IsWrite.f x271000 x271001 x271002).bind fun t311 => ((ravelinref6_IsWrite.f x271000 x271001 x271002).bind fun t312 => (some (t311 == t312)))) else (some false)) else (some false)) else (some false)) else (some false)) else (some false)) else (some false)))) else (some false)))) else (some false)))) else (some false))))))))
def ravelinlaw6_EntryTells.f (k : Nat) (a0_0 : ByteArray) (a0_1 : Int) (a0_2 : Bool) (a0_3 : ByteArray) (a1_0 : ByteArray) (a1_1 : Int) (a1_2 : Bool) (a1_3 : ByteArray) (l2 : List (S23)) (a3 : ByteArray) (a4 : Int) (a5 : ByteArray) (a6_0 : ByteArray) (a6_1 : Bool) (a6_2 : ByteArray) : Option (Bool) := (ravelinlaw6_known.f k).bind fun t271 => (if t271 = true then ((ravelinlaw6_few.f k l2).bind fun t272 => (if t272 = true then ((ravelinlaw6_few.f k (([(⟨a0_0, a0_1, a0_2, a0_3⟩ : S23), (⟨a1_0, a1_1, a1_2, a1_3⟩ : S23)] : List (S23)))).bind fun t276 => (if t276 = true then (if (a3.size : Int) > 20 then (ravelinlaw6_EntryTells.j0 k l2 a3 a4 a5 true a0_0 a0_1 a0_2 a0_3 a1_0 a1_1 a1_2 a1_3 a6_0 a6_1 a6_2) else (if (a5.size : Int) > 200 then (ravelinlaw6_EntryTells.j0 k l2 a3 a4 a5 true a0_0 a0_1 a0_2 a0_3 a1_0 a1_1 a1_2 a1_3 a6_0 a6_1 a6_2) else (if (a6_0.size : Int) > 20 then (ravelinlaw6_EntryTells.j0 k l2 a3 a4 a5 true a0_0 a0_1 a0_2 a0_3 a1_0 a1_1 a1_2 a1_3 a6_0 a6_1 a6_2) else (ravelinlaw6_EntryTells.j0 k l2 a3 a4 a5 (decide ((a6_2.size : Int) > 40)) a0_0 a0_1 a0_2 a0_3 a1_0 a1_1 a1_2 a1_3 a6_0 a6_1 a6_2)))) else (ravelinlaw6_EntryTells.j0 k l2 a3 a4 a5 true a0_0 a0_1 a0_2 a0_3 a1_0 a1_1 a1_2 a1_3 a6_0 a6_1 a6_2))) else (ravelinlaw6_EntryTells.j0 k l2 a3 a4 a5 true a0_0 a0_1 a0_2 a0_3 a1_0 a1_1 a1_2 a1_3 a6_0 a6_1 a6_2))) else (some false))
theorem ravelinlaw6_EntryTells.mono_l : ∀ k, (∀ y0 y1 y2 y3 y4 y5 y6 y7 y8 y9 y10 y11 y12 y13 y14 y15, LeO (ravelinlaw6_EntryTells.j0 k y0 y1 y2 y3 y4 y5 y6 y7 y8 y9 y10 y11 y12 y13 y14 y15) (ravelinlaw6_EntryTells.j0 (k + 1) y0 y1 y2 y3 y4 y5 y6 y7 y8 y9 y10 y11 y12 y13 y14 y15))
  | 0 => fun _ _ _ _ _ _ _ _ _ _ _ _ _ _ _ _ r h => by simp [ravelinlaw6_EntryTells.j0] at h
  | k + 1 => by
    have ih0 := ravelinlaw6_EntryTells.mono_l k
    · intro y0 y1 y2 y3 y4 y5 y6 y7 y8 y9 y10 y11 y12 y13 y14 y15
      unfold ravelinlaw6_EntryTells.j0
      repeat' first
      | (with_reducible exact ih0 _ _ _ _ _ _ _ _ _ _ _ _ _ _ _ _)
      | (with_reducible exact entry_Bytes.mono _ _ _ _ _)
      | (with_reducible exact entry_Less.mono _ _ _ _ _ _ _ _ _)
      | (with_reducible exact entry_Newest.mono _ _ _ _)
      | (with_reducible exact entry_Read.mono _ _)
      | (with_reducible exact entry_Sorted.mono _ _)
      | (with_reducible exact ravelinlaw6_few.mono _ _)
      | (with_reducible exact ravelinlaw6_known.mono _)
      | (with_reducible exact ravelinref6_Bytes.mono _ _ _ _ _)
      | (with_reducible exact ravelinref6_Newest.mono _ _ _ _)
      | (with_reducible exact ravelinref6_Read.mono _ _)
      | (with_reducible exact ravelinref6_Sorted.mono _ _)
      | (with_reducible exact LeO.refl _)
      | (with_reducible exact LeO.none _)
      | (with_reducible refine LeO.ite ?_ ?_)
      | (with_reducible refine LeO.bind ?_ (fun _ => ?_))
      | exact ih0 _ _ _ _ _ _ _ _ _ _ _ _ _ _ _ _
      | exact entry_Bytes.mono _ _ _ _ _
      | exact entry_Less.mono _ _ _ _ _ _ _ _ _
      | exact entry_Newest.mono _ _ _ _
      | exact entry_Read.mono _ _
      | exact entry_Sorted.mono _ _
      | exact ravelinlaw6_few.mono _ _
      | exact ravelinlaw6_known.mono _
      | exact ravelinref6_Bytes.mono _ _ _ _ _
      | exact ravelinref6_Newest.mono _ _ _ _
      | exact ravelinref6_Read.mono _ _
      | exact ravelinref6_Sorted.mono _ _
      | exact LeO.none _
      | refine LeO.ite ?_ ?_
      | refine LeO.bind ?_ (fun _ => ?_)
theorem ravelinlaw6_EntryTells.mono : ∀ a0 a1 a2 a3 a4 a5 a6 a7 a8 a9 a10 a11 a12 a13 a14 k, LeO (ravelinlaw6_EntryTells.f k a0 a1 a2 a3 a4 a5 a6 a7 a8 a9 a10 a11 a12 a13 a14) (ravelinlaw6_EntryTells.f (k + 1) a0 a1 a2 a3 a4 a5 a6 a7 a8 a9 a10 a11 a12 a13 a14) := by
  intro a0 a1 a2 a3 a4 a5 a6 a7 a8 a9 a10 a11 a12 a13 a14 k
  have ih0 := ravelinlaw6_EntryTells.mono_l k
  unfold ravelinlaw6_EntryTells.f
  repeat' first
      | (with_reducible exact ih0 _ _ _ _ _ _ _ _ _ _ _ _ _ _ _ _)
      | (with_reducible exact entry_Bytes.mono _ _ _ _ _)
      | (with_reducible exact entry_Less.mono _ _ _ _ _ _ _ _ _)
      | (with_reducible exact entry_Newest.mono _ _ _ _)
      | (with_reducible exact entry_Read.mono _ _)
      | (with_reducible exact entry_Sorted.mono _ _)
      | (with_reducible exact ravelinlaw6_few.mono _ _)
      | (with_reducible exact ravelinlaw6_known.mono _)
      | (with_reducible exact ravelinref6_Bytes.mono _ _ _ _ _)
      | (with_reducible exact ravelinref6_Newest.mono _ _ _ _)
      | (with_reducible exact ravelinref6_Read.mono _ _)
      | (with_reducible exact ravelinref6_Sorted.mono _ _)
      | (with_reducible exact LeO.refl _)
      | (with_reducible exact LeO.none _)
      | (with_reducible refine LeO.ite ?_ ?_)
      | (with_reducible refine LeO.bind ?_ (fun _ => ?_))
      | exact ih0 _ _ _ _ _ _ _ _ _ _ _ _ _ _ _ _
      | exact entry_Bytes.mono _ _ _ _ _
      | exact entry_Less.mono _ _ _ _ _ _ _ _ _
      | exact entry_Newest.mono _ _ _ _
      | exact entry_Read.mono _ _
      | exact entry_Sorted.mono _ _
      | exact ravelinlaw6_few.mono _ _
      | exact ravelinlaw6_known.mono _
      | exact ravelinref6_Bytes.mono _ _ _ _ _
      | exact ravelinref6_Newest.mono _ _ _ _
      | exact ravelinref6_Read.mono _ _
      | exact ravelinref6_Sorted.mono _ _
      | exact LeO.none _
      | refine LeO.ite ?_ ?_
      | refine LeO.bind ?_ (fun _ => ?_)
def ravelinlaw6_EntryTells.T9 : Bool × List (List Nat × List Nat) := (true, [([], []), ([0], [0]), ([], []), ([2, 1], [2]), ([1, 3], [1, 3]), ([4, 3], [4]), ([5], [5]), ([5], [5]), ([6, 7, 5, 5], [5, 6, 7]), ([5], [5]), ([5], [5]), ([9, 10, 8, 5], [5, 9, 10]), ([8, 11, 5], [5, 8, 11]), ([5, 12], [5, 12]), ([13, 11], [13]), ([14], [14]), ([15, 14, 14], [14, 15]), ([14], [14]), ([17, 16, 14], [14, 17]), ([16, 18, 14], [14, 16, 18]), ([14, 19], [14, 19]), ([20, 18], [20]), ([21], [21]), ([22, 21, 21], [21, 22]), ([21], [21]), ([24, 23, 21], [21, 24]), ([23, 25, 21], [21, 23, 25]), ([21, 26], [21, 26]), ([27, 25], [27]), ([28], [28]), ([28], [28]), ([29, 30, 28], [28, 29, 30]), ([28, 31], [28, 31]), ([32, 28], [32]), ([33], [33]), ([33], [33]), ([34, 35, 33], [33, 34, 35]), ([33, 36], [33, 36]), ([37, 33], [37]), ([38], [38]), ([38], [38]), ([39, 40, 38], [38, 39, 40]), ([38, 41], [38, 41]), ([42, 38], [42]), ([43], [43]), ([43], [43]), ([44, 45, 43], [43, 44, 45]), ([43, 46], [43, 46]), ([47, 43], [47]), ([48], [48]), ([48], [48]), ([49, 50, 48], [48, 49, 50]), ([48, 51], [48, 51]), ([52, 48], [52]), ([53], [53]), ([54, 53, 53], [53, 54]), ([53], [53]), ([56, 55, 53], [53, 56]), ([55, 57, 53], [53, 55, 57]), ([53, 58], [53, 58]), ([59, 57, 0, 1, 2, 3, 4, 5, 6, 7, 8, 9, 10, 11, 12, 13, 14, 15, 16, 17, 18, 19, 20, 21, 22, 23, 24, 25, 26, 27, 28, 29, 30, 31, 32, 33, 34, 35, 36, 37, 38, 39, 40, 41, 42, 43, 44, 45, 46, 47, 48, 49, 50, 51, 52, 53, 54, 55, 56, 57, 58, 59], [59])])
def ravelinlaw6_EntryTells.B9 : List Nat := [0, 1, 0, 7, 15, 31, 63, 63, 255, 63, 63, 2047, 4095, 8191, 16383, 32767, 65535, 32767, 262143, 524287, 1048575, 2097151, 4194303, 8388607, 4194303, 33554431, 67108863, 134217727, 268435455, 536870911, 536870911, 2147483647, 4294967295, 8589934591, 17179869183, 17179869183, 68719476735, 137438953471, 274877906943, 549755813887, 549755813887, 2199023255551, 4398046511103, 8796093022207, 17592186044415, 17592186044415, 70368744177663, 140737488355327, 281474976710655, 562949953421311, 562949953421311, 2251799813685247, 4503599627370495, 9007199254740991, 18014398509481983, 36028797018963967, 18014398509481983, 144115188075855871, 288230376151711743, 576460752303423487, 1152921504606846975]
theorem ravelinlaw6_EntryTells.tab9 : rtab .any (opsOf Try.f3 9) = ravelinlaw6_EntryTells.T9 := by kernel_rfl
theorem ravelinlaw6_EntryTells.bits9 : waitsOk ravelinlaw6_EntryTells.T9.2 ravelinlaw6_EntryTells.B9 = true := by kernel_rfl
set_option maxHeartbeats 8000000 in
set_option maxRecDepth 100000 in
theorem ravelinlaw6_EntryTells.calls (k : Nat) (a0_0 : ByteArray) (a0_1 : Int) (a0_2 : Bool) (a0_3 : ByteArray) (a1_0 : ByteArray) (a1_1 : Int) (a1_2 : Bool) (a1_3 : ByteArray) (A2 : Option Addr) (c2 : Nat) (l2 : List (S23)) (a3 : ByteArray) (a4 : Int) (a5 : ByteArray) (a6_0 : ByteArray) (a6_1 : Bool) (a6_2 : ByteArray) (r : Bool) (w : World) (hr2 : Kd.C k23 w A2 l2.length l2) (hc2 : l2.length ≤ c2) (h : ravelinlaw6_EntryTells.f k a0_0 a0_1 a0_2 a0_3 a1_0 a1_1 a1_2 a1_3 l2 a3 a4 a5 a6_0 a6_1 a6_2 = some r) (hr_ : r = true) :
    Calls Try.prog 3 #[.agg #[.string a0_0, .int .i64 a0_1, .bool a0_2, .string a0_3], .agg #[.string a1_0, .int .i64 a1_1, .bool a1_2, .string a1_3], .slice A2 l2.length c2, .string a3, .int .i64 a4, .string a5, .agg #[.string a6_0, .bool a6_1, .string a6_2]] w fun e w' => e = .returned (.bool r) ∧ Below w.heap.size w w' := by
  have hu23 := Try.underlying23
  have hu26 := Try.underlying26
  have HR2 := Aside0.mk hr2
  have HC2 := Aside0.mk hc2
  clear hr2 hc2
  have HB := Aside0.mk (Below.refl w.heap.size w)
  have H : ((ravelinlaw6_known.f k).bind fun t271 => (if t271 = true then ((ravelinlaw6_few.f k l2).bind fun t272 => (if t272 = true then ((ravelinlaw6_few.f k (([(⟨a0_0, a0_1, a0_2, a0_3⟩ : S23), (⟨a1_0, a1_1, a1_2, a1_3⟩ : S23)] : List (S23)))).bind fun t276 => (if t276 = true then (if (a3.size : Int) > 20 then (ravelinlaw6_EntryTells.j0 k l2 a3 a4 a5 true a0_0 a0_1 a0_2 a0_3 a1_0 a1_1 a1_2 a1_3 a6_0 a6_1 a6_2) else (if (a5.size : Int) > 200 then (ravelinlaw6_EntryTells.j0 k l2 a3 a4 a5 true a0_0 a0_1 a0_2 a0_3 a1_0 a1_1 a1_2 a1_3 a6_0 a6_1 a6_2) else (if (a6_0.size : Int) > 20 then (ravelinlaw6_EntryTells.j0 k l2 a3 a4 a5 true a0_0 a0_1 a0_2 a0_3 a1_0 a1_1 a1_2 a1_3 a6_0 a6_1 a6_2) else (ravelinlaw6_EntryTells.j0 k l2 a3 a4 a5 (decide ((a6_2.size : Int) > 40)) a0_0 a0_1 a0_2 a0_3 a1_0 a1_1 a1_2 a1_3 a6_0 a6_1 a6_2)))) else (ravelinlaw6_EntryTells.j0 k l2 a3 a4 a5 true a0_0 a0_1 a0_2 a0_3 a1_0 a1_1 a1_2 a1_3 a6_0 a6_1 a6_2))) else (ravelinlaw6_EntryTells.j0 k l2 a3 a4 a5 true a0_0 a0_1 a0_2 a0_3 a1_0 a1_1 a1_2 a1_3 a6_0 a6_1 a6_2))) else (some false))) = some r := h
  clear h
  have HR_ := Aside0.mk hr_
  clear hr_
  replace H := Option.bind_eq_some_iff.mp H
  obtain ⟨t271, A80, H⟩ := H
  replace H : (if t271 = true then ((ravelinlaw6_few.f k l2).bind fun t272 => (if t272 = true then ((ravelinlaw6_few.f k (([(⟨a0_0, a0_1, a0_2, a0_3⟩ : S23), (⟨a1_0, a1_1, a1_2, a1_3⟩ : S23)] : List (S23)))).bind fun t276 => (if t276 = true then (if (a3.size : Int) > 20 then (ravelinlaw6_EntryTells.j0 k l2 a3 a4 a5 true a0_0 a0_1 a0_2 a0_3 a1_0 a1_1 a1_2 a1_3 a6_0 a6_1 a6_2) else (if (a5.size : Int) > 200 then (ravelinlaw6_EntryTells.j0 k l2 a3 a4 a5 true a0_0 a0_1 a0_2 a0_3 a1_0 a1_1 a1_2 a1_3 a6_0 a6_1 a6_2) else (if (a6_0.size : Int) > 20 then (ravelinlaw6_EntryTells.j0 k l2 a3 a4 a5 true a0_0 a0_1 a0_2 a0_3 a1_0 a1_1 a1_2 a1_3 a6_0 a6_1 a6_2) else (ravelinlaw6_EntryTells.j0 k l2 a3 a4 a5 (decide ((a6_2.size : Int) > 40)) a0_0 a0_1 a0_2 a0_3 a1_0 a1_1 a1_2 a1_3 a6_0 a6_1 a6_2)))) else (ravelinlaw6_EntryTells.j0 k l2 a3 a4 a5 true a0_0 a0_1 a0_2 a0_3 a1_0 a1_1 a1_2 a1_3 a6_0 a6_1 a6_2))) else (ravelinlaw6_EntryTells.j0 k l2 a3 a4 a5 true a0_0 a0_1 a0_2 a0_3 a1_0 a1_1 a1_2 a1_3 a6_0 a6_1 a6_2))) else (some false)) = some r := H
  have A8 := Aside0.mk A80
  clear A80
  by_cases c9 : t271 = true
  · subst c9
    have H1 : ((ravelinlaw6_few.f k l2).bind fun t272 => (if t272 = true then ((ravelinlaw6_few.f k (([(⟨a0_0, a0_1, a0_2, a0_3⟩ : S23), (⟨a1_0, a1_1, a1_2, a1_3⟩ : S23)] : List (S23)))).bind fun t276 => (if t276 = true then (if (a3.size : Int) > 20 then (ravelinlaw6_EntryTells.j0 k l2 a3 a4 a5 true a0_0 a0_1 a0_2 a0_3 a1_0 a1_1 a1_2 a1_3 a6_0 a6_1 a6_2) else (if (a5.size : Int) > 200 then (ravelinlaw6_EntryTells.j0 k l2 a3 a4 a5 true a0_0 a0_1 a0_2 a0_3 a1_0 a1_1 a1_2 a1_3 a6_0 a6_1 a6_2) else (if (a6_0.size : Int) > 20 then (ravelinlaw6_EntryTells.j0 k l2 a3 a4 a5 true a0_0 a0_1 a0_2 a0_3 a1_0 a1_1 a1_2 a1_3 a6_0 a6_1 a6_2) else (ravelinlaw6_EntryTells.j0 k l2 a3 a4 a5 (decide ((a6_2.size : Int) > 40)) a0_0 a0_1 a0_2 a0_3 a1_0 a1_1 a1_2 a1_3 a6_0 a6_1 a6_2)))) else (ravelinlaw6_EntryTells.j0 k l2 a3 a4 a5 true a0_0 a0_1 a0_2 a0_3 a1_0 a1_1 a1_2 a1_3 a6_0 a6_1 a6_2))) else (ravelinlaw6_EntryTells.j0 k l2 a3 a4 a5 true a0_0 a0_1 a0_2 a0_3 a1_0 a1_1 a1_2 a1_3 a6_0 a6_1 a6_2))) = some r := by rw [if_pos rfl] at H; exact H
    clear H
    have H := H1
    clear H1
    have HC10 := Aside0.mk H
    clear H
    go_enter Try.func3, Try.ntmps3
    go_upto_region 3 with (first | ((with_reducible refine gate_dst (N := 7) rfl ?_); (try (refine gate_guard (by rfl) ?_; dsimp only)); refine box_event ?hg (N := 7) ?hd (cs := #[.string a0_0, .int .i64 a0_1, .bool a0_2, .string a0_3]) (t := 23) ?hr ?_; (case hd => rfl); (case hg => rfl); (case hr => first | (go_simp; done) | (go_simp; rfl)); intro gb268 hg w11 hbox hb; have n0_ := Aside0.mk (below_step (by repeat (first | (with_reducible first | exact HB.out | apply below_alloc | apply pw_below_drewN | apply below_drew1) | exact HB.out)) hb); have n1_ := Aside0.mk (hbox); have n2_ := Aside0.mk ((by rw [hg]; exact (below_size (by repeat (first | (with_reducible first | exact HB.out | apply below_alloc | apply pw_below_drewN | apply below_drew1) | exact HB.out))) : w.heap.size ≤ gb268)); have n3_ := Aside0.mk ((by rw [hg]; exact (below_size (by repeat (first | (with_reducible first | exact HB.out | apply below_alloc | apply pw_below_drewN | apply below_drew1) | exact HB.out))) : w.heap.size ≤ gb268)); clear HB; have HB := n0_; have BK268 := n1_; have GW268 := n2_; have GE268 := n3_; clear n0_ n1_ n2_ n3_; clear hb hbox hg) | ((with_reducible refine gate_dst (N := 8) rfl ?_); (try (refine gate_guard (by rfl) ?_; dsimp only)); refine box_event ?hg (N := 8) ?hd (cs := #[.string a1_0, .int .i64 a1_1, .bool a1_2, .string a1_3]) (t := 23) ?hr ?_; (case hd => rfl); (case hg => rfl); (case hr => first | (go_simp; done) | (go_simp; rfl)); intro gb269 hg w12 hbox hb; have n0_ := Aside0.mk (blk_below (g := gb268) (o := .cells #[.string a0_0, .int .i64 a0_1, .bool a0_2, .string a0_3] 23 (0, 0)) (by (with_reducible repeat (first | refine blk_drewN ?_ _ | refine blk_drew ?_ | refine blk_alloc ?_ _)); exact BK268.out) hb); have n1_ := Aside0.mk (below_step (by repeat (first | (with_reducible first | exact HB.out | apply below_alloc | apply pw_below_drewN | apply below_drew1 | refine below_set ?_ GE268.out) | exact HB.out)) hb); have n2_ := Aside0.mk (hbox); have n3_ := Aside0.mk ((by rw [hg]; exact (below_size (by repeat (first | (with_reducible first | exact HB.out | apply below_alloc | apply pw_below_drewN | apply below_drew1 | refine below_set ?_ GE268.out) | exact HB.out))) : w.heap.size ≤ gb269)); have n4_ := Aside0.mk ((by rw [hg]; exact (below_size (by repeat (first | (with_reducible first | exact HB.out | apply below_alloc | apply pw_below_drewN | apply below_drew1 | refine below_set ?_ GE268.out) | exact HB.out))) : w.heap.size ≤ gb269)); have n5_ := Aside0.mk ((by rw [hg]; exact Nat.ne_of_lt (blk_lt (g := gb268) (o := .cells #[.string a0_0, .int .i64 a0_1, .bool a0_2, .string a0_3] 23 (0, 0)) (by (with_reducible repeat (first | refine blk_drewN ?_ _ | refine blk_drew ?_ | refine blk_alloc ?_ _)); exact BK268.out)) : gb268 ≠ gb269)); have n6_ := Aside0.mk ((by rw [hg]; exact Nat.ne_of_gt (blk_lt (g := gb268) (o := .cells #[.string a0_0, .int .i64 a0_1, .bool a0_2, .string a0_3] 23 (0, 0)) (by (with_reducible repeat (first | refine blk_drewN ?_ _ | refine blk_drew ?_ | refine blk_alloc ?_ _)); exact BK268.out)) : gb269 ≠ gb268)); clear BK268; clear HB; have BK268 := n0_; have HB := n1_; have BK269 := n2_; have GW269 := n3_; have GE269 := n4_; have NB268_269 := n5_; have NB269_268 := n6_; clear n0_ n1_ n2_ n3_ n4_ n5_ n6_; clear hb hbox hg) | ((with_reducible refine gate_dst (N := 13) rfl ?_); (try (refine gate_guard (by rfl) ?_; dsimp only)); refine box_event ?hg (N := 13) ?hd (cs := #[.string a6_0, .bool a6_1, .string a6_2]) (t := 26) ?hr ?_; (case hd => rfl); (case hg => rfl); (case hr => first | (go_simp; done) | (go_simp; rfl)); intro gb270 hg w13 hbox hb; have n0_ := Aside0.mk (blk_below (g := gb268) (o := .cells #[.string a0_0, .int .i64 a0_1, .bool a0_2, .string a0_3] 23 (0, 0)) (by (with_reducible repeat (first | refine blk_drewN ?_ _ | refine blk_drew ?_ | refine blk_alloc ?_ _)); exact BK268.out) hb); have n1_ := Aside0.mk (blk_below (g := gb269) (o := .cells #[.string a1_0, .int .i64 a1_1, .bool a1_2, .string a1_3] 23 (0, 0)) (by (with_reducible repeat (first | refine blk_drewN ?_ _ | refine blk_drew ?_ | refine blk_alloc ?_ _)); exact BK269.out) hb); have n2_ := Aside0.mk (below_step (by repeat (first | (with_reducible first | exact HB.out | apply below_alloc | apply pw_below_drewN | apply below_drew1 | refine below_set ?_ GE268.out | refine below_set ?_ GE269.out) | exact HB.out)) hb); have n3_ := Aside0.mk (hbox); have n4_ := Aside0.mk ((by rw [hg]; exact (below_size (by repeat (first | (with_reducible first | exact HB.out | apply below_alloc | apply pw_below_drewN | apply below_drew1 | refine below_set ?_ GE268.out | refine below_set ?_ GE269.out) | exact HB.out))) : w.heap.size ≤ gb270)); have n5_ := Aside0.mk ((by rw [hg]; exact (below_size (by repeat (first | (with_reducible first | exact HB.out | apply below_alloc | apply pw_below_drewN | apply below_drew1 | refine below_set ?_ GE268.out | refine below_set ?_ GE269.out) | exact HB.out))) : w.heap.size ≤ gb270)); have n6_ := Aside0.mk ((by rw [hg]; exact Nat.ne_of_lt (blk_lt (g := gb268) (o := .cells #[.string a0_0, .int .i64 a0_1, .bool a0_2, .string a0_3] 23 (0, 0)) (by (with_reducible repeat (first | refine blk_drewN ?_ _ | refine blk_drew ?_ | refine blk_alloc ?_ _)); exact BK268.out)) : gb268 ≠ gb270)); have n7_ := Aside0.mk ((by rw [hg]; exact Nat.ne_of_gt (blk_lt (g := gb268) (o := .cells #[.string a0_0, .int .i64 a0_1, .bool a0_2, .string a0_3] 23 (0, 0)) (by (with_reducible repeat (first | refine blk_drewN ?_ _ | refine blk_drew ?_ | refine blk_alloc ?_ _)); exact BK268.out)) : gb270 ≠ gb268)); have n8_ := Aside0.mk ((by rw [hg]; exact Nat.ne_of_lt (blk_lt (g := gb269) (o := .cells #[.string a1_0, .int .i64 a1_1, .bool a1_2, .string a1_3] 23 (0, 0)) (by (with_reducible repeat (first | refine blk_drewN ?_ _ | refine blk_drew ?_ | refine blk_alloc ?_ _)); exact BK269.out)) : gb269 ≠ gb270)); have n9_ := Aside0.mk ((by rw [hg]; exact Nat.ne_of_gt (blk_lt (g := gb269) (o := .cells #[.string a1_0, .int .i64 a1_1, .bool a1_2, .string a1_3] 23 (0, 0)) (by (with_reducible repeat (first | refine blk_drewN ?_ _ | refine blk_drew ?_ | refine blk_alloc ?_ _)); exact BK269.out)) : gb270 ≠ gb269)); clear BK268; clear BK269; clear HB; have BK268 := n0_; have BK269 := n1_; have HB := n2_; have BK270 := n3_; have GW270 := n4_; have GE270 := n5_; have NB268_270 := n6_; have NB270_268 := n7_; have NB269_270 := n8_; have NB270_269 := n9_; clear n0_ n1_ n2_ n3_ n4_ n5_ n6_ n7_ n8_ n9_; clear hb hbox hg) | ((with_reducible refine gate_callee (f := 9) rfl ?_); refine goesL_ (some 25) rfl rfl Try.func9 (by kernel_rfl) rfl #[] rfl (by (try simp only [List.map_toArray, List.map_cons, List.map_nil]); first | done | rfl | (simp only [List.length_drop, List.length_take]; rfl)) ?_; (with_reducible refine (ravelinlaw6_known.calls k  true _ A8.out (by first | rfl | assumption | exact of_decide_eq_true (by assumption))).mono ?_); rintro e w14 ⟨rfl, hb⟩; refine ⟨_, rfl, ?_⟩; have n0_ := Aside0.mk (blk_below (g := gb268) (o := .cells #[.string a0_0, .int .i64 a0_1, .bool a0_2, .string a0_3] 23 (0, 0)) (by (with_reducible repeat (first | refine blk_drewN ?_ _ | refine blk_drew ?_ | refine blk_alloc ?_ _)); exact BK268.out) hb); have n1_ := Aside0.mk (blk_below (g := gb269) (o := .cells #[.string a1_0, .int .i64 a1_1, .bool a1_2, .string a1_3] 23 (0, 0)) (by (with_reducible repeat (first | refine blk_drewN ?_ _ | refine blk_drew ?_ | refine blk_alloc ?_ _)); exact BK269.out) hb); have n2_ := Aside0.mk (blk_below (g := gb270) (o := .cells #[.string a6_0, .bool a6_1, .string a6_2] 26 (0, 0)) (by (with_reducible repeat (first | refine blk_drewN ?_ _ | refine blk_drew ?_ | refine blk_alloc ?_ _)); exact BK270.out) hb); have n3_ := Aside0.mk (below_step (by repeat (first | (with_reducible first | exact HB.out | apply below_alloc | apply pw_below_drewN | apply below_drew1 | refine below_set ?_ GE268.out | refine below_set ?_ GE269.out | refine below_set ?_ GE270.out) | exact HB.out)) hb); clear BK268; clear BK269; clear BK270; clear HB; have BK268 := n0_; have BK269 := n1_; have BK270 := n2_; have HB := n3_; clear n0_ n1_ n2_ n3_; (try clear hb); (try clear hb2); (try clear hk); (try clear hi)))
    (try simp only [Act.put, List.setIfInBounds_toArray, List.set_cons_zero, List.set_cons_succ])
    go_cut [58] (fun v58 wc => ∃ (kq : Nat) (x58_9 : Bool), v58 = .bool x58_9 ∧ Aside0 (ravelinlaw6_EntryTells.j0 kq l2 a3 a4 a5 x58_9 a0_0 a0_1 a0_2 a0_3 a1_0 a1_1 a1_2 a1_3 a6_0 a6_1 a6_2 = some r) ∧ Aside0 (kq ≤ k) ∧ Aside0 (wc.heap[gb268]? = some (.cells #[.string a0_0, .int .i64 a0_1, .bool a0_2, .string a0_3] 23 (0, 0))) ∧ Aside0 (wc.heap[gb269]? = some (.cells #[.string a1_0, .int .i64 a1_1, .bool a1_2, .string a1_3] 23 (0, 0))) ∧ Aside0 (wc.heap[gb270]? = some (.cells #[.string a6_0, .bool a6_1, .string a6_2] 26 (0, 0))) ∧ Aside0 (Below w.heap.size w wc))
    case first =>
      have H := HC10.out
      clear HC10
      replace H := Option.bind_eq_some_iff.mp H
      obtain ⟨t272, A150, H⟩ := H
      replace H : (if t272 = true then ((ravelinlaw6_few.f k (([(⟨a0_0, a0_1, a0_2, a0_3⟩ : S23), (⟨a1_0, a1_1, a1_2, a1_3⟩ : S23)] : List (S23)))).bind fun t276 => (if t276 = true then (if (a3.size : Int) > 20 then (ravelinlaw6_EntryTells.j0 k l2 a3 a4 a5 true a0_0 a0_1 a0_2 a0_3 a1_0 a1_1 a1_2 a1_3 a6_0 a6_1 a6_2) else (if (a5.size : Int) > 200 then (ravelinlaw6_EntryTells.j0 k l2 a3 a4 a5 true a0_0 a0_1 a0_2 a0_3 a1_0 a1_1 a1_2 a1_3 a6_0 a6_1 a6_2) else (if (a6_0.size : Int) > 20 then (ravelinlaw6_EntryTells.j0 k l2 a3 a4 a5 true a0_0 a0_1 a0_2 a0_3 a1_0 a1_1 a1_2 a1_3 a6_0 a6_1 a6_2) else (ravelinlaw6_EntryTells.j0 k l2 a3 a4 a5 (decide ((a6_2.size : Int) > 40)) a0_0 a0_1 a0_2 a0_3 a1_0 a1_1 a1_2 a1_3 a6_0 a6_1 a6_2)))) else (ravelinlaw6_EntryTells.j0 k l2 a3 a4 a5 true a0_0 a0_1 a0_2 a0_3 a1_0 a1_1 a1_2 a1_3 a6_0 a6_1 a6_2))) else (ravelinlaw6_EntryTells.j0 k l2 a3 a4 a5 true a0_0 a0_1 a0_2 a0_3 a1_0 a1_1 a1_2 a1_3 a6_0 a6_1 a6_2)) = some r := H
      have A15 := Aside0.mk A150
      clear A150
      by_cases c16 : t272 = true
      · subst c16
        have H1 : ((ravelinlaw6_few.f k (([(⟨a0_0, a0_1, a0_2, a0_3⟩ : S23), (⟨a1_0, a1_1, a1_2, a1_3⟩ : S23)] : List (S23)))).bind fun t276 => (if t276 = true then (if (a3.size : Int) > 20 then (ravelinlaw6_EntryTells.j0 k l2 a3 a4 a5 true a0_0 a0_1 a0_2 a0_3 a1_0 a1_1 a1_2 a1_3 a6_0 a6_1 a6_2) else (if (a5.size : Int) > 200 then (ravelinlaw6_EntryTells.j0 k l2 a3 a4 a5 true a0_0 a0_1 a0_2 a0_3 a1_0 a1_1 a1_2 a1_3 a6_0 a6_1 a6_2) else (if (a6_0.size : Int) > 20 then (ravelinlaw6_EntryTells.j0 k l2 a3 a4 a5 true a0_0 a0_1 a0_2 a0_3 a1_0 a1_1 a1_2 a1_3 a6_0 a6_1 a6_2) else (ravelinlaw6_EntryTells.j0 k l2 a3 a4 a5 (decide ((a6_2.size : Int) > 40)) a0_0 a0_1 a0_2 a0_3 a1_0 a1_1 a1_2 a1_3 a6_0 a6_1 a6_2)))) else (ravelinlaw6_EntryTells.j0 k l2 a3 a4 a5 true a0_0 a0_1 a0_2 a0_3 a1_0 a1_1 a1_2 a1_3 a6_0 a6_1 a6_2))) = some r := by rw [if_pos rfl] at H; exact H
        clear H
        have H := H1
        clear H1
        obtain ⟨y273, hy273⟩ : ∃ y_ : List (S23), y_ = (([(⟨a0_0, a0_1, a0_2, a0_3⟩ : S23), (⟨a1_0, a1_1, a1_2, a1_3⟩ : S23)] : List (S23))) := ⟨_, rfl⟩
        replace H : ((ravelinlaw6_few.f k y273).bind fun t276 => (if t276 = true then (if (a3.size : Int) > 20 then (ravelinlaw6_EntryTells.j0 k l2 a3 a4 a5 true a0_0 a0_1 a0_2 a0_3 a1_0 a1_1 a1_2 a1_3 a6_0 a6_1 a6_2) else (if (a5.size : Int) > 200 then (ravelinlaw6_EntryTells.j0 k l2 a3 a4 a5 true a0_0 a0_1 a0_2 a0_3 a1_0 a1_1 a1_2 a1_3 a6_0 a6_1 a6_2) else (if (a6_0.size : Int) > 20 then (ravelinlaw6_EntryTells.j0 k l2 a3 a4 a5 true a0_0 a0_1 a0_2 a0_3 a1_0 a1_1 a1_2 a1_3 a6_0 a6_1 a6_2) else (ravelinlaw6_EntryTells.j0 k l2 a3 a4 a5 (decide ((a6_2.size : Int) > 40)) a0_0 a0_1 a0_2 a0_3 a1_0 a1_1 a1_2 a1_3 a6_0 a6_1 a6_2)))) else (ravelinlaw6_EntryTells.j0 k l2 a3 a4 a5 true a0_0 a0_1 a0_2 a0_3 a1_0 a1_1 a1_2 a1_3 a6_0 a6_1 a6_2))) = some r := by first | (rw [hy273]; with_reducible exact H) | (have H2_ := (Option.bind_some _ _).symm.trans H; rw [hy273]; with_reducible exact H2_) | (have H2_ := (Option.bind_some _ _).symm.trans H; with_reducible exact H2_) | with_reducible exact H | (rw [hy273]; exact H) | exact H
        have Ny273 := Aside0.mk hy273
        clear hy273
        replace H := Option.bind_eq_some_iff.mp H
        obtain ⟨t276, A170, H⟩ := H
        replace H : (if t276 = true then (if (a3.size : Int) > 20 then (ravelinlaw6_EntryTells.j0 k l2 a3 a4 a5 true a0_0 a0_1 a0_2 a0_3 a1_0 a1_1 a1_2 a1_3 a6_0 a6_1 a6_2) else (if (a5.size : Int) > 200 then (ravelinlaw6_EntryTells.j0 k l2 a3 a4 a5 true a0_0 a0_1 a0_2 a0_3 a1_0 a1_1 a1_2 a1_3 a6_0 a6_1 a6_2) else (if (a6_0.size : Int) > 20 then (ravelinlaw6_EntryTells.j0 k l2 a3 a4 a5 true a0_0 a0_1 a0_2 a0_3 a1_0 a1_1 a1_2 a1_3 a6_0 a6_1 a6_2) else (ravelinlaw6_EntryTells.j0 k l2 a3 a4 a5 (decide ((a6_2.size : Int) > 40)) a0_0 a0_1 a0_2 a0_3 a1_0 a1_1 a1_2 a1_3 a6_0 a6_1 a6_2)))) else (ravelinlaw6_EntryTells.j0 k l2 a3 a4 a5 true a0_0 a0_1 a0_2 a0_3 a1_0 a1_1 a1_2 a1_3 a6_0 a6_1 a6_2)) = some r := H
        have A17 := Aside0.mk A170
        clear A170
        by_cases c18 : t276 = true
        · subst c18
          have H1 : (if (a3.size : Int) > 20 then (ravelinlaw6_EntryTells.j0 k l2 a3 a4 a5 true a0_0 a0_1 a0_2 a0_3 a1_0 a1_1 a1_2 a1_3 a6_0 a6_1 a6_2) else (if (a5.size : Int) > 200 then (ravelinlaw6_EntryTells.j0 k l2 a3 a4 a5 true a0_0 a0_1 a0_2 a0_3 a1_0 a1_1 a1_2 a1_3 a6_0 a6_1 a6_2) else (if (a6_0.size : Int) > 20 then (ravelinlaw6_EntryTells.j0 k l2 a3 a4 a5 true a0_0 a0_1 a0_2 a0_3 a1_0 a1_1 a1_2 a1_3 a6_0 a6_1 a6_2) else (ravelinlaw6_EntryTells.j0 k l2 a3 a4 a5 (decide ((a6_2.size : Int) > 40)) a0_0 a0_1 a0_2 a0_3 a1_0 a1_1 a1_2 a1_3 a6_0 a6_1 a6_2)))) = some r := by rw [if_pos rfl] at H; exact H
          clear H
          have H := H1
          clear H1
          by_cases c19 : (a3.size : Int) > 20
          · rw [if_pos c19] at H
            have c19b0 : decide (20 < (a3.size : Int)) = true := decide_eq_true c19
            have c19b1 : decide (20 < a3.size) = true := decide_eq_true (by omega)
            clear c19
            (first | rw [c19b0] | (simp only [i64_w, i32_w]; rw [c19b0]) | skip)
            have H' := Aside0.mk H
            clear H
            go_wp2_with (first | ((with_reducible refine gate_callee (f := 10) rfl ?_); refine goesL_ (some 28) rfl rfl Try.func10 (by kernel_rfl) rfl #[.slice A2 l2.length c2] rfl (by (try simp only [List.map_toArray, List.map_cons, List.map_nil]); first | done | rfl | (simp only [List.length_drop, List.length_take]; rfl)) ?_; (with_reducible refine (ravelinlaw6_few.calls k _ _ l2 true _ ?side1 ?side2 A15.out).mono ?_); (case side1 => repeat (first | exact (Kd.C_below HR2.out HB.out) | (with_reducible refine Kd.C_alloc ?_ _) | (with_reducible refine Kd.C_drewN ?_ _) | (with_reducible refine Kd.C_drew ?_))); (case side2 => exact HC2.out); rintro e w' ⟨rfl, ⟨nd, rfl⟩⟩; refine ⟨_, rfl, ?_⟩; have hnb20 := NB268_269.out; have hnc20 := NB269_268.out; have hnb21 := NB268_270.out; have hnc21 := NB270_268.out; have hcz22_0 : w14.cell? ⟨gb268, 0, none⟩ = some (.string a0_0) := (blk_cell BK268.out 0).trans rfl; have hcz22_1 : w14.cell? ⟨gb268, 1, none⟩ = some (.int .i64 a0_1) := (blk_cell BK268.out 1).trans rfl; have hcz22_2 : w14.cell? ⟨gb268, 2, none⟩ = some (.bool a0_2) := (blk_cell BK268.out 2).trans rfl; have hcz22_3 : w14.cell? ⟨gb268, 3, none⟩ = some (.string a0_3) := (blk_cell BK268.out 3).trans rfl; have hfz22_0 := blk_frozen BK268.out 0; have hfz22_1 := blk_frozen BK268.out 1; have hfz22_2 := blk_frozen BK268.out 2; have hfz22_3 := blk_frozen BK268.out 3; have hnb23 := NB269_270.out; have hnc23 := NB270_269.out; have hcz24_0 : w14.cell? ⟨gb269, 0, none⟩ = some (.string a1_0) := (blk_cell BK269.out 0).trans rfl; have hcz24_1 : w14.cell? ⟨gb269, 1, none⟩ = some (.int .i64 a1_1) := (blk_cell BK269.out 1).trans rfl; have hcz24_2 : w14.cell? ⟨gb269, 2, none⟩ = some (.bool a1_2) := (blk_cell BK269.out 2).trans rfl; have hcz24_3 : w14.cell? ⟨gb269, 3, none⟩ = some (.string a1_3) := (blk_cell BK269.out 3).trans rfl; have hfz24_0 := blk_frozen BK269.out 0; have hfz24_1 := blk_frozen BK269.out 1; have hfz24_2 := blk_frozen BK269.out 2; have hfz24_3 := blk_frozen BK269.out 3) | ((with_reducible refine gate_dst (N := 33) rfl ?_); (try (refine gate_guard (by rfl) ?_; dsimp only)); refine Kd.R_lit k23 _ 23 ?hg (N := 33) ?hd (xs := ([(⟨a0_0, a0_1, a0_2, a0_3⟩ : S23), (⟨a1_0, a1_1, a1_2, a1_3⟩ : S23)] : List (S23))) (inner := [.string a0_0, .int .i64 a0_1, .bool a0_2, .string a0_3, .string a1_0, .int .i64 a1_1, .bool a1_2, .string a1_3]) (ok := fun _ => True) (okp := fun _ => True) ?hr ?hp (fun _ hk => hk) trivial (Below.refl _ _) (Nat.le_refl _) (by simp) ?_; (case hd => rfl); (case hg => rfl); (case hr => first | (go_simp; done) | (go_simp; rfl)); (case hp => exact (Reps.c4 (show Kd.M k23 _ _ _ (⟨a0_0, a0_1, a0_2, a0_3⟩ : S23) [.string a0_0, .int .i64 a0_1, .bool a0_2, .string a0_3] from (k23_mkM _ _ _ (⟨a0_0, a0_1, a0_2, a0_3⟩ : S23) )) (Reps.c4 (show Kd.M k23 _ _ _ (⟨a1_0, a1_1, a1_2, a1_3⟩ : S23) [.string a1_0, .int .i64 a1_1, .bool a1_2, .string a1_3] from (k23_mkM _ _ _ (⟨a1_0, a1_1, a1_2, a1_3⟩ : S23) )) (Reps.none _ _)))); intro v274 w25 ho26 hb hg_ hnew_; clear hg_ hnew_; (first | rw [← Ny273.out] at ho26 | (simp only [Int.reduceToNat] at ho26; rw [← Ny273.out] at ho26)); have n0_ := Aside0.mk (Kd.R_lower (Kd.R_newB (Kd.R_newB ho26 (g := gb268) (o := .cells #[.string a0_0, .int .i64 a0_1, .bool a0_2, .string a0_3] 23 (0, 0)) (by (with_reducible repeat (first | refine blk_drewN ?_ _ | refine blk_drew ?_ | refine blk_alloc ?_ _)); exact BK268.out)) (g := gb269) (o := .cells #[.string a1_0, .int .i64 a1_1, .bool a1_2, .string a1_3] 23 (0, 0)) (by (with_reducible repeat (first | refine blk_drewN ?_ _ | refine blk_drew ?_ | refine blk_alloc ?_ _)); exact BK269.out)) (below_size (by repeat (first | (with_reducible first | exact HB.out | apply below_alloc | apply pw_below_drewN | apply below_drew1 | refine below_set ?_ GE268.out | refine below_set ?_ GE269.out | refine below_set ?_ GE270.out) | exact HB.out)))); have n1_ := Aside0.mk (blk_below (g := gb268) (o := .cells #[.string a0_0, .int .i64 a0_1, .bool a0_2, .string a0_3] 23 (0, 0)) (by (with_reducible repeat (first | refine blk_drewN ?_ _ | refine blk_drew ?_ | refine blk_alloc ?_ _)); exact BK268.out) hb); have n2_ := Aside0.mk (blk_below (g := gb269) (o := .cells #[.string a1_0, .int .i64 a1_1, .bool a1_2, .string a1_3] 23 (0, 0)) (by (with_reducible repeat (first | refine blk_drewN ?_ _ | refine blk_drew ?_ | refine blk_alloc ?_ _)); exact BK269.out) hb); have n3_ := Aside0.mk (blk_below (g := gb270) (o := .cells #[.string a6_0, .bool a6_1, .string a6_2] 26 (0, 0)) (by (with_reducible repeat (first | refine blk_drewN ?_ _ | refine blk_drew ?_ | refine blk_alloc ?_ _)); exact BK270.out) hb); have n4_ := Aside0.mk (below_step (by repeat (first | (with_reducible first | exact HB.out | apply below_alloc | apply pw_below_drewN | apply below_drew1 | refine below_set ?_ GE268.out | refine below_set ?_ GE269.out | refine below_set ?_ GE270.out) | exact HB.out)) hb); clear BK268; clear BK269; clear BK270; clear HB; have HO275 := n0_; have BK268 := n1_; have BK269 := n2_; have BK270 := n3_; have HB := n4_; clear n0_ n1_ n2_ n3_ n4_; clear hb ho26; obtain ⟨Ao27, co27, eo27⟩ := Kd.R_slice HO275.out; subst eo27) | (go_at_call 10; (with_reducible refine (ravelinlaw6_few.calls k _ _ y273 true _ ?side1 ?side2 A17.out).mono ?_); (case side1 => repeat (first | exact (Kd.R_reads' HO275.out).2.2 | (with_reducible refine Kd.C_alloc ?_ _) | (with_reducible refine Kd.C_drewN ?_ _) | (with_reducible refine Kd.C_drew ?_))); (case side2 => exact (Kd.R_reads' HO275.out).2.1); rintro e w' ⟨rfl, ⟨nd, rfl⟩⟩))
            go_meet
            case rel => exact ⟨_, (true), (by first | rfl | (simp; done) | (simp [*]; done)), H', ⟨by first | omega | exact Nat.le_refl _⟩, ⟨by (with_reducible repeat (first | refine blk_drewN ?_ _ | refine blk_drew ?_ | refine blk_alloc ?_ _)); exact BK268.out⟩, ⟨by (with_reducible repeat (first | refine blk_drewN ?_ _ | refine blk_drew ?_ | refine blk_alloc ?_ _)); exact BK269.out⟩, ⟨by (with_reducible repeat (first | refine blk_drewN ?_ _ | refine blk_drew ?_ | refine blk_alloc ?_ _)); exact BK270.out⟩, ⟨by repeat (first | (with_reducible first | exact HB.out | apply below_alloc | apply pw_below_drewN | apply below_drew1 | refine below_set ?_ GE268.out | refine below_set ?_ GE269.out | refine below_set ?_ GE270.out) | exact HB.out)⟩⟩
          · rw [if_neg c19] at H
            have c19b0 : decide (20 < (a3.size : Int)) = false := decide_eq_false c19
            have c19b1 : decide (20 < a3.size) = false := decide_eq_false (by omega)
            clear c19
            (first | rw [c19b0] | (simp only [i64_w, i32_w]; rw [c19b0]) | skip)
            by_cases c28 : (a5.size : Int) > 200
            · rw [if_pos c28] at H
              have c28b0 : decide (200 < (a5.size : Int)) = true := decide_eq_true c28
              have c28b1 : decide (200 < a5.size) = true := decide_eq_true (by omega)
              clear c28
              have H' := Aside0.mk H
              clear H
              go_wp2_with (first | ((with_reducible refine gate_callee (f := 10) rfl ?_); refine goesL_ (some 28) rfl rfl Try.func10 (by kernel_rfl) rfl #[.slice A2 l2.length c2] rfl (by (try simp only [List.map_toArray, List.map_cons, List.map_nil]); first | done | rfl | (simp only [List.length_drop, List.length_take]; rfl)) ?_; (with_reducible refine (ravelinlaw6_few.calls k _ _ l2 true _ ?side1 ?side2 A15.out).mono ?_); (case side1 => repeat (first | exact (Kd.C_below HR2.out HB.out) | (with_reducible refine Kd.C_alloc ?_ _) | (with_reducible refine Kd.C_drewN ?_ _) | (with_reducible refine Kd.C_drew ?_))); (case side2 => exact HC2.out); rintro e w' ⟨rfl, ⟨nd, rfl⟩⟩; refine ⟨_, rfl, ?_⟩; have hnb29 := NB268_269.out; have hnc29 := NB269_268.out; have hnb30 := NB268_270.out; have hnc30 := NB270_268.out; have hcz31_0 : w14.cell? ⟨gb268, 0, none⟩ = some (.string a0_0) := (blk_cell BK268.out 0).trans rfl; have hcz31_1 : w14.cell? ⟨gb268, 1, none⟩ = some (.int .i64 a0_1) := (blk_cell BK268.out 1).trans rfl; have hcz31_2 : w14.cell? ⟨gb268, 2, none⟩ = some (.bool a0_2) := (blk_cell BK268.out 2).trans rfl; have hcz31_3 : w14.cell? ⟨gb268, 3, none⟩ = some (.string a0_3) := (blk_cell BK268.out 3).trans rfl; have hfz31_0 := blk_frozen BK268.out 0; have hfz31_1 := blk_frozen BK268.out 1; have hfz31_2 := blk_frozen BK268.out 2; have hfz31_3 := blk_frozen BK268.out 3; have hnb32 := NB269_270.out; have hnc32 := NB270_269.out; have hcz33_0 : w14.cell? ⟨gb269, 0, none⟩ = some (.string a1_0) := (blk_cell BK269.out 0).trans rfl; have hcz33_1 : w14.cell? ⟨gb269, 1, none⟩ = some (.int .i64 a1_1) := (blk_cell BK269.out 1).trans rfl; have hcz33_2 : w14.cell? ⟨gb269, 2, none⟩ = some (.bool a1_2) := (blk_cell BK269.out 2).trans rfl; have hcz33_3 : w14.cell? ⟨gb269, 3, none⟩ = some (.string a1_3) := (blk_cell BK269.out 3).trans rfl; have hfz33_0 := blk_frozen BK269.out 0; have hfz33_1 := blk_frozen BK269.out 1; have hfz33_2 := blk_frozen BK269.out 2; have hfz33_3 := blk_frozen BK269.out 3) | ((with_reducible refine gate_dst (N := 33) rfl ?_); (try (refine gate_guard (by rfl) ?_; dsimp only)); refine Kd.R_lit k23 _ 23 ?hg (N := 33) ?hd (xs := ([(⟨a0_0, a0_1, a0_2, a0_3⟩ : S23), (⟨a1_0, a1_1, a1_2, a1_3⟩ : S23)] : List (S23))) (inner := [.string a0_0, .int .i64 a0_1, .bool a0_2, .string a0_3, .string a1_0, .int .i64 a1_1, .bool a1_2, .string a1_3]) (ok := fun _ => True) (okp := fun _ => True) ?hr ?hp (fun _ hk => hk) trivial (Below.refl _ _) (Nat.le_refl _) (by simp) ?_; (case hd => rfl); (case hg => rfl); (case hr => first | (go_simp; done) | (go_simp; rfl)); (case hp => exact (Reps.c4 (show Kd.M k23 _ _ _ (⟨a0_0, a0_1, a0_2, a0_3⟩ : S23) [.string a0_0, .int .i64 a0_1, .bool a0_2, .string a0_3] from (k23_mkM _ _ _ (⟨a0_0, a0_1, a0_2, a0_3⟩ : S23) )) (Reps.c4 (show Kd.M k23 _ _ _ (⟨a1_0, a1_1, a1_2, a1_3⟩ : S23) [.string a1_0, .int .i64 a1_1, .bool a1_2, .string a1_3] from (k23_mkM _ _ _ (⟨a1_0, a1_1, a1_2, a1_3⟩ : S23) )) (Reps.none _ _)))); intro v274 w34 ho35 hb hg_ hnew_; clear hg_ hnew_; (first | rw [← Ny273.out] at ho35 | (simp only [Int.reduceToNat] at ho35; rw [← Ny273.out] at ho35)); have n0_ := Aside0.mk (Kd.R_lower (Kd.R_newB (Kd.R_newB ho35 (g := gb268) (o := .cells #[.string a0_0, .int .i64 a0_1, .bool a0_2, .string a0_3] 23 (0, 0)) (by (with_reducible repeat (first | refine blk_drewN ?_ _ | refine blk_drew ?_ | refine blk_alloc ?_ _)); exact BK268.out)) (g := gb269) (o := .cells #[.string a1_0, .int .i64 a1_1, .bool a1_2, .string a1_3] 23 (0, 0)) (by (with_reducible repeat (first | refine blk_drewN ?_ _ | refine blk_drew ?_ | refine blk_alloc ?_ _)); exact BK269.out)) (below_size (by repeat (first | (with_reducible first | exact HB.out | apply below_alloc | apply pw_below_drewN | apply below_drew1 | refine below_set ?_ GE268.out | refine below_set ?_ GE269.out | refine below_set ?_ GE270.out) | exact HB.out)))); have n1_ := Aside0.mk (blk_below (g := gb268) (o := .cells #[.string a0_0, .int .i64 a0_1, .bool a0_2, .string a0_3] 23 (0, 0)) (by (with_reducible repeat (first | refine blk_drewN ?_ _ | refine blk_drew ?_ | refine blk_alloc ?_ _)); exact BK268.out) hb); have n2_ := Aside0.mk (blk_below (g := gb269) (o := .cells #[.string a1_0, .int .i64 a1_1, .bool a1_2, .string a1_3] 23 (0, 0)) (by (with_reducible repeat (first | refine blk_drewN ?_ _ | refine blk_drew ?_ | refine blk_alloc ?_ _)); exact BK269.out) hb); have n3_ := Aside0.mk (blk_below (g := gb270) (o := .cells #[.string a6_0, .bool a6_1, .string a6_2] 26 (0, 0)) (by (with_reducible repeat (first | refine blk_drewN ?_ _ | refine blk_drew ?_ | refine blk_alloc ?_ _)); exact BK270.out) hb); have n4_ := Aside0.mk (below_step (by repeat (first | (with_reducible first | exact HB.out | apply below_alloc | apply pw_below_drewN | apply below_drew1 | refine below_set ?_ GE268.out | refine below_set ?_ GE269.out | refine below_set ?_ GE270.out) | exact HB.out)) hb); clear BK268; clear BK269; clear BK270; clear HB; have HO275 := n0_; have BK268 := n1_; have BK269 := n2_; have BK270 := n3_; have HB := n4_; clear n0_ n1_ n2_ n3_ n4_; clear hb ho35; obtain ⟨Ao36, co36, eo36⟩ := Kd.R_slice HO275.out; subst eo36) | (go_at_call 10; (with_reducible refine (ravelinlaw6_few.calls k _ _ y273 true _ ?side1 ?side2 A17.out).mono ?_); (case side1 => repeat (first | exact (Kd.R_reads' HO275.out).2.2 | (with_reducible refine Kd.C_alloc ?_ _) | (with_reducible refine Kd.C_drewN ?_ _) | (with_reducible refine Kd.C_drew ?_))); (case side2 => exact (Kd.R_reads' HO275.out).2.1); rintro e w' ⟨rfl, ⟨nd, rfl⟩⟩))
              go_meet
              case rel => exact ⟨_, (true), (by first | rfl | (simp; done) | (simp [*]; done)), H', ⟨by first | omega | exact Nat.le_refl _⟩, ⟨by (with_reducible repeat (first | refine blk_drewN ?_ _ | refine blk_drew ?_ | refine blk_alloc ?_ _)); exact BK268.out⟩, ⟨by (with_reducible repeat (first | refine blk_drewN ?_ _ | refine blk_drew ?_ | refine blk_alloc ?_ _)); exact BK269.out⟩, ⟨by (with_reducible repeat (first | refine blk_drewN ?_ _ | refine blk_drew ?_ | refine blk_alloc ?_ _)); exact BK270.out⟩, ⟨by repeat (first | (with_reducible first | exact HB.out | apply below_alloc | apply pw_below_drewN | apply below_drew1 | refine below_set ?_ GE268.out | refine below_set ?_ GE269.out | refine below_set ?_ GE270.out) | exact HB.out)⟩⟩
            · rw [if_neg c28] at H
              have c28b0 : decide (200 < (a5.size : Int)) = false := decide_eq_false c28
              have c28b1 : decide (200 < a5.size) = false := decide_eq_false (by omega)
              clear c28
              by_cases c37 : (a6_0.size : Int) > 20
              · rw [if_pos c37] at H
                have c37b0 : decide (20 < (a6_0.size : Int)) = true := decide_eq_true c37
                have c37b1 : decide (20 < a6_0.size) = true := decide_eq_true (by omega)
                clear c37
                have H' := Aside0.mk H
                clear H
                go_wp2_with (first | ((with_reducible refine gate_callee (f := 10) rfl ?_); refine goesL_ (some 28) rfl rfl Try.func10 (by kernel_rfl) rfl #[.slice A2 l2.length c2] rfl (by (try simp only [List.map_toArray, List.map_cons, List.map_nil]); first | done | rfl | (simp only [List.length_drop, List.length_take]; rfl)) ?_; (with_reducible refine (ravelinlaw6_few.calls k _ _ l2 true _ ?side1 ?side2 A15.out).mono ?_); (case side1 => repeat (first | exact (Kd.C_below HR2.out HB.out) | (with_reducible refine Kd.C_alloc ?_ _) | (with_reducible refine Kd.C_drewN ?_ _) | (with_reducible refine Kd.C_drew ?_))); (case side2 => exact HC2.out); rintro e w' ⟨rfl, ⟨nd, rfl⟩⟩; refine ⟨_, rfl, ?_⟩; have hnb38 := NB268_269.out; have hnc38 := NB269_268.out; have hnb39 := NB268_270.out; have hnc39 := NB270_268.out; have hcz40_0 : w14.cell? ⟨gb268, 0, none⟩ = some (.string a0_0) := (blk_cell BK268.out 0).trans rfl; have hcz40_1 : w14.cell? ⟨gb268, 1, none⟩ = some (.int .i64 a0_1) := (blk_cell BK268.out 1).trans rfl; have hcz40_2 : w14.cell? ⟨gb268, 2, none⟩ = some (.bool a0_2) := (blk_cell BK268.out 2).trans rfl; have hcz40_3 : w14.cell? ⟨gb268, 3, none⟩ = some (.string a0_3) := (blk_cell BK268.out 3).trans rfl; have hfz40_0 := blk_frozen BK268.out 0; have hfz40_1 := blk_frozen BK268.out 1; have hfz40_2 := blk_frozen BK268.out 2; have hfz40_3 := blk_frozen BK268.out 3; have hnb41 := NB269_270.out; have hnc41 := NB270_269.out; have hcz42_0 : w14.cell? ⟨gb269, 0, none⟩ = some (.string a1_0) := (blk_cell BK269.out 0).trans rfl; have hcz42_1 : w14.cell? ⟨gb269, 1, none⟩ = some (.int .i64 a1_1) := (blk_cell BK269.out 1).trans rfl; have hcz42_2 : w14.cell? ⟨gb269, 2, none⟩ = some (.bool a1_2) := (blk_cell BK269.out 2).trans rfl; have hcz42_3 : w14.cell? ⟨gb269, 3, none⟩ = some (.string a1_3) := (blk_cell BK269.out 3).trans rfl; have hfz42_0 := blk_frozen BK269.out 0; have hfz42_1 := blk_frozen BK269.out 1; have hfz42_2 := blk_frozen BK269.out 2; have hfz42_3 := blk_frozen BK269.out 3) | ((with_reducible refine gate_dst (N := 33) rfl ?_); (try (refine gate_guard (by rfl) ?_; dsimp only)); refine Kd.R_lit k23 _ 23 ?hg (N := 33) ?hd (xs := ([(⟨a0_0, a0_1, a0_2, a0_3⟩ : S23), (⟨a1_0, a1_1, a1_2, a1_3⟩ : S23)] : List (S23))) (inner := [.string a0_0, .int .i64 a0_1, .bool a0_2, .string a0_3, .string a1_0, .int .i64 a1_1, .bool a1_2, .string a1_3]) (ok := fun _ => True) (okp := fun _ => True) ?hr ?hp (fun _ hk => hk) trivial (Below.refl _ _) (Nat.le_refl _) (by simp) ?_; (case hd => rfl); (case hg => rfl); (case hr => first | (go_simp; done) | (go_simp; rfl)); (case hp => exact (Reps.c4 (show Kd.M k23 _ _ _ (⟨a0_0, a0_1, a0_2, a0_3⟩ : S23) [.string a0_0, .int .i64 a0_1, .bool a0_2, .string a0_3] from (k23_mkM _ _ _ (⟨a0_0, a0_1, a0_2, a0_3⟩ : S23) )) (Reps.c4 (show Kd.M k23 _ _ _ (⟨a1_0, a1_1, a1_2, a1_3⟩ : S23) [.string a1_0, .int .i64 a1_1, .bool a1_2, .string a1_3] from (k23_mkM _ _ _ (⟨a1_0, a1_1, a1_2, a1_3⟩ : S23) )) (Reps.none _ _)))); intro v274 w43 ho44 hb hg_ hnew_; clear hg_ hnew_; (first | rw [← Ny273.out] at ho44 | (simp only [Int.reduceToNat] at ho44; rw [← Ny273.out] at ho44)); have n0_ := Aside0.mk (Kd.R_lower (Kd.R_newB (Kd.R_newB ho44 (g := gb268) (o := .cells #[.string a0_0, .int .i64 a0_1, .bool a0_2, .string a0_3] 23 (0, 0)) (by (with_reducible repeat (first | refine blk_drewN ?_ _ | refine blk_drew ?_ | refine blk_alloc ?_ _)); exact BK268.out)) (g := gb269) (o := .cells #[.string a1_0, .int .i64 a1_1, .bool a1_2, .string a1_3] 23 (0, 0)) (by (with_reducible repeat (first | refine blk_drewN ?_ _ | refine blk_drew ?_ | refine blk_alloc ?_ _)); exact BK269.out)) (below_size (by repeat (first | (with_reducible first | exact HB.out | apply below_alloc | apply pw_below_drewN | apply below_drew1 | refine below_set ?_ GE268.out | refine below_set ?_ GE269.out | refine below_set ?_ GE270.out) | exact HB.out)))); have n1_ := Aside0.mk (blk_below (g := gb268) (o := .cells #[.string a0_0, .int .i64 a0_1, .bool a0_2, .string a0_3] 23 (0, 0)) (by (with_reducible repeat (first | refine blk_drewN ?_ _ | refine blk_drew ?_ | refine blk_alloc ?_ _)); exact BK268.out) hb); have n2_ := Aside0.mk (blk_below (g := gb269) (o := .cells #[.string a1_0, .int .i64 a1_1, .bool a1_2, .string a1_3] 23 (0, 0)) (by (with_reducible repeat (first | refine blk_drewN ?_ _ | refine blk_drew ?_ | refine blk_alloc ?_ _)); exact BK269.out) hb); have n3_ := Aside0.mk (blk_below (g := gb270) (o := .cells #[.string a6_0, .bool a6_1, .string a6_2] 26 (0, 0)) (by (with_reducible repeat (first | refine blk_drewN ?_ _ | refine blk_drew ?_ | refine blk_alloc ?_ _)); exact BK270.out) hb); have n4_ := Aside0.mk (below_step (by repeat (first | (with_reducible first | exact HB.out | apply below_alloc | apply pw_below_drewN | apply below_drew1 | refine below_set ?_ GE268.out | refine below_set ?_ GE269.out | refine below_set ?_ GE270.out) | exact HB.out)) hb); clear BK268; clear BK269; clear BK270; clear HB; have HO275 := n0_; have BK268 := n1_; have BK269 := n2_; have BK270 := n3_; have HB := n4_; clear n0_ n1_ n2_ n3_ n4_; clear hb ho44; obtain ⟨Ao45, co45, eo45⟩ := Kd.R_slice HO275.out; subst eo45) | (go_at_call 10; (with_reducible refine (ravelinlaw6_few.calls k _ _ y273 true _ ?side1 ?side2 A17.out).mono ?_); (case side1 => repeat (first | exact (Kd.R_reads' HO275.out).2.2 | (with_reducible refine Kd.C_alloc ?_ _) | (with_reducible refine Kd.C_drewN ?_ _) | (with_reducible refine Kd.C_drew ?_))); (case side2 => exact (Kd.R_reads' HO275.out).2.1); rintro e w' ⟨rfl, ⟨nd, rfl⟩⟩; have hcz46_0 : w43.cell? ⟨gb270, 0, none⟩ = some (.string a6_0) := (blk_cell BK270.out 0).trans rfl; have hcz46_1 : w43.cell? ⟨gb270, 1, none⟩ = some (.bool a6_1) := (blk_cell BK270.out 1).trans rfl; have hcz46_2 : w43.cell? ⟨gb270, 2, none⟩ = some (.string a6_2) := (blk_cell BK270.out 2).trans rfl; have hfz46_0 := blk_frozen BK270.out 0; have hfz46_1 := blk_frozen BK270.out 1; have hfz46_2 := blk_frozen BK270.out 2))
                go_meet
                case rel => exact ⟨_, (true), (by first | rfl | (simp; done) | (simp [*]; done)), H', ⟨by first | omega | exact Nat.le_refl _⟩, ⟨by (with_reducible repeat (first | refine blk_drewN ?_ _ | refine blk_drew ?_ | refine blk_alloc ?_ _)); exact BK268.out⟩, ⟨by (with_reducible repeat (first | refine blk_drewN ?_ _ | refine blk_drew ?_ | refine blk_alloc ?_ _)); exact BK269.out⟩, ⟨by (with_reducible repeat (first | refine blk_drewN ?_ _ | refine blk_drew ?_ | refine blk_alloc ?_ _)); exact BK270.out⟩, ⟨by repeat (first | (with_reducible first | exact HB.out | apply below_alloc | apply pw_below_drewN | apply below_drew1 | refine below_set ?_ GE268.out | refine below_set ?_ GE269.out | refine below_set ?_ GE270.out) | exact HB.out)⟩⟩
              · rw [if_neg c37] at H
                have c37b0 : decide (20 < (a6_0.size : Int)) = false := decide_eq_false c37
                have c37b1 : decide (20 < a6_0.size) = false := decide_eq_false (by omega)
                clear c37
                have H' := Aside0.mk H
                clear H
                go_wp2_with (first | ((with_reducible refine gate_callee (f := 10) rfl ?_); refine goesL_ (some 28) rfl rfl Try.func10 (by kernel_rfl) rfl #[.slice A2 l2.length c2] rfl (by (try simp only [List.map_toArray, List.map_cons, List.map_nil]); first | done | rfl | (simp only [List.length_drop, List.length_take]; rfl)) ?_; (with_reducible refine (ravelinlaw6_few.calls k _ _ l2 true _ ?side1 ?side2 A15.out).mono ?_); (case side1 => repeat (first | exact (Kd.C_below HR2.out HB.out) | (with_reducible refine Kd.C_alloc ?_ _) | (with_reducible refine Kd.C_drewN ?_ _) | (with_reducible refine Kd.C_drew ?_))); (case side2 => exact HC2.out); rintro e w' ⟨rfl, ⟨nd, rfl⟩⟩; refine ⟨_, rfl, ?_⟩; have hnb47 := NB268_269.out; have hnc47 := NB269_268.out; have hnb48 := NB268_270.out; have hnc48 := NB270_268.out; have hcz49_0 : w14.cell? ⟨gb268, 0, none⟩ = some (.string a0_0) := (blk_cell BK268.out 0).trans rfl; have hcz49_1 : w14.cell? ⟨gb268, 1, none⟩ = some (.int .i64 a0_1) := (blk_cell BK268.out 1).trans rfl; have hcz49_2 : w14.cell? ⟨gb268, 2, none⟩ = some (.bool a0_2) := (blk_cell BK268.out 2).trans rfl; have hcz49_3 : w14.cell? ⟨gb268, 3, none⟩ = some (.string a0_3) := (blk_cell BK268.out 3).trans rfl; have hfz49_0 := blk_frozen BK268.out 0; have hfz49_1 := blk_frozen BK268.out 1; have hfz49_2 := blk_frozen BK268.out 2; have hfz49_3 := blk_frozen BK268.out 3; have hnb50 := NB269_270.out; have hnc50 := NB270_269.out; have hcz51_0 : w14.cell? ⟨gb269, 0, none⟩ = some (.string a1_0) := (blk_cell BK269.out 0).trans rfl; have hcz51_1 : w14.cell? ⟨gb269, 1, none⟩ = some (.int .i64 a1_1) := (blk_cell BK269.out 1).trans rfl; have hcz51_2 : w14.cell? ⟨gb269, 2, none⟩ = some (.bool a1_2) := (blk_cell BK269.out 2).trans rfl; have hcz51_3 : w14.cell? ⟨gb269, 3, none⟩ = some (.string a1_3) := (blk_cell BK269.out 3).trans rfl; have hfz51_0 := blk_frozen BK269.out 0; have hfz51_1 := blk_frozen BK269.out 1; have hfz51_2 := blk_frozen BK269.out 2; have hfz51_3 := blk_frozen BK269.out 3) | ((with_reducible refine gate_dst (N := 33) rfl ?_); (try (refine gate_guard (by rfl) ?_; dsimp only)); refine Kd.R_lit k23 _ 23 ?hg (N := 33) ?hd (xs := ([(⟨a0_0, a0_1, a0_2, a0_3⟩ : S23), (⟨a1_0, a1_1, a1_2, a1_3⟩ : S23)] : List (S23))) (inner := [.string a0_0, .int .i64 a0_1, .bool a0_2, .string a0_3, .string a1_0, .int .i64 a1_1, .bool a1_2, .string a1_3]) (ok := fun _ => True) (okp := fun _ => True) ?hr ?hp (fun _ hk => hk) trivial (Below.refl _ _) (Nat.le_refl _) (by simp) ?_; (case hd => rfl); (case hg => rfl); (case hr => first | (go_simp; done) | (go_simp; rfl)); (case hp => exact (Reps.c4 (show Kd.M k23 _ _ _ (⟨a0_0, a0_1, a0_2, a0_3⟩ : S23) [.string a0_0, .int .i64 a0_1, .bool a0_2, .string a0_3] from (k23_mkM _ _ _ (⟨a0_0, a0_1, a0_2, a0_3⟩ : S23) )) (Reps.c4 (show Kd.M k23 _ _ _ (⟨a1_0, a1_1, a1_2, a1_3⟩ : S23) [.string a1_0, .int .i64 a1_1, .bool a1_2, .string a1_3] from (k23_mkM _ _ _ (⟨a1_0, a1_1, a1_2, a1_3⟩ : S23) )) (Reps.none _ _)))); intro v274 w52 ho53 hb hg_ hnew_; clear hg_ hnew_; (first | rw [← Ny273.out] at ho53 | (simp only [Int.reduceToNat] at ho53; rw [← Ny273.out] at ho53)); have n0_ := Aside0.mk (Kd.R_lower (Kd.R_newB (Kd.R_newB ho53 (g := gb268) (o := .cells #[.string a0_0, .int .i64 a0_1, .bool a0_2, .string a0_3] 23 (0, 0)) (by (with_reducible repeat (first | refine blk_drewN ?_ _ | refine blk_drew ?_ | refine blk_alloc ?_ _)); exact BK268.out)) (g := gb269) (o := .cells #[.string a1_0, .int .i64 a1_1, .bool a1_2, .string a1_3] 23 (0, 0)) (by (with_reducible repeat (first | refine blk_drewN ?_ _ | refine blk_drew ?_ | refine blk_alloc ?_ _)); exact BK269.out)) (below_size (by repeat (first | (with_reducible first | exact HB.out | apply below_alloc | apply pw_below_drewN | apply below_drew1 | refine below_set ?_ GE268.out | refine below_set ?_ GE269.out | refine below_set ?_ GE270.out) | exact HB.out)))); have n1_ := Aside0.mk (blk_below (g := gb268) (o := .cells #[.string a0_0, .int .i64 a0_1, .bool a0_2, .string a0_3] 23 (0, 0)) (by (with_reducible repeat (first | refine blk_drewN ?_ _ | refine blk_drew ?_ | refine blk_alloc ?_ _)); exact BK268.out) hb); have n2_ := Aside0.mk (blk_below (g := gb269) (o := .cells #[.string a1_0, .int .i64 a1_1, .bool a1_2, .string a1_3] 23 (0, 0)) (by (with_reducible repeat (first | refine blk_drewN ?_ _ | refine blk_drew ?_ | refine blk_alloc ?_ _)); exact BK269.out) hb); have n3_ := Aside0.mk (blk_below (g := gb270) (o := .cells #[.string a6_0, .bool a6_1, .string a6_2] 26 (0, 0)) (by (with_reducible repeat (first | refine blk_drewN ?_ _ | refine blk_drew ?_ | refine blk_alloc ?_ _)); exact BK270.out) hb); have n4_ := Aside0.mk (below_step (by repeat (first | (with_reducible first | exact HB.out | apply below_alloc | apply pw_below_drewN | apply below_drew1 | refine below_set ?_ GE268.out | refine below_set ?_ GE269.out | refine below_set ?_ GE270.out) | exact HB.out)) hb); clear BK268; clear BK269; clear BK270; clear HB; have HO275 := n0_; have BK268 := n1_; have BK269 := n2_; have BK270 := n3_; have HB := n4_; clear n0_ n1_ n2_ n3_ n4_; clear hb ho53; obtain ⟨Ao54, co54, eo54⟩ := Kd.R_slice HO275.out; subst eo54) | (go_at_call 10; (with_reducible refine (ravelinlaw6_few.calls k _ _ y273 true _ ?side1 ?side2 A17.out).mono ?_); (case side1 => repeat (first | exact (Kd.R_reads' HO275.out).2.2 | (with_reducible refine Kd.C_alloc ?_ _) | (with_reducible refine Kd.C_drewN ?_ _) | (with_reducible refine Kd.C_drew ?_))); (case side2 => exact (Kd.R_reads' HO275.out).2.1); rintro e w' ⟨rfl, ⟨nd, rfl⟩⟩; have hcz55_0 : w52.cell? ⟨gb270, 0, none⟩ = some (.string a6_0) := (blk_cell BK270.out 0).trans rfl; have hcz55_1 : w52.cell? ⟨gb270, 1, none⟩ = some (.bool a6_1) := (blk_cell BK270.out 1).trans rfl; have hcz55_2 : w52.cell? ⟨gb270, 2, none⟩ = some (.string a6_2) := (blk_cell BK270.out 2).trans rfl; have hfz55_0 := blk_frozen BK270.out 0; have hfz55_1 := blk_frozen BK270.out 1; have hfz55_2 := blk_frozen BK270.out 2))
                go_meet
                case rel => exact ⟨_, (decide ((a6_2.size : Int) > 40)), (by first | rfl | (simp; done) | (simp [*]; done)), H', ⟨by first | omega | exact Nat.le_refl _⟩, ⟨by (with_reducible repeat (first | refine blk_drewN ?_ _ | refine blk_drew ?_ | refine blk_alloc ?_ _)); exact BK268.out⟩, ⟨by (with_reducible repeat (first | refine blk_drewN ?_ _ | refine blk_drew ?_ | refine blk_alloc ?_ _)); exact BK269.out⟩, ⟨by (with_reducible repeat (first | refine blk_drewN ?_ _ | refine blk_drew ?_ | refine blk_alloc ?_ _)); exact BK270.out⟩, ⟨by repeat (first | (with_reducible first | exact HB.out | apply below_alloc | apply pw_below_drewN | apply below_drew1 | refine below_set ?_ GE268.out | refine below_set ?_ GE269.out | refine below_set ?_ GE270.out) | exact HB.out)⟩⟩
        · replace c18 := Bool.eq_false_iff.mpr c18
          subst c18
          have H1 : (ravelinlaw6_EntryTells.j0 k l2 a3 a4 a5 true a0_0 a0_1 a0_2 a0_3 a1_0 a1_1 a1_2 a1_3 a6_0 a6_1 a6_2) = some r := by rw [if_neg (show ¬ (false = true) by decide)] at H; exact H
          clear H
          have H := H1
          clear H1
          have H' := Aside0.mk H
          clear H
          go_wp2_with (first | ((with_reducible refine gate_callee (f := 10) rfl ?_); refine goesL_ (some 28) rfl rfl Try.func10 (by kernel_rfl) rfl #[.slice A2 l2.length c2] rfl (by (try simp only [List.map_toArray, List.map_cons, List.map_nil]); first | done | rfl | (simp only [List.length_drop, List.length_take]; rfl)) ?_; (with_reducible refine (ravelinlaw6_few.calls k _ _ l2 true _ ?side1 ?side2 A15.out).mono ?_); (case side1 => repeat (first | exact (Kd.C_below HR2.out HB.out) | (with_reducible refine Kd.C_alloc ?_ _) | (with_reducible refine Kd.C_drewN ?_ _) | (with_reducible refine Kd.C_drew ?_))); (case side2 => exact HC2.out); rintro e w' ⟨rfl, ⟨nd, rfl⟩⟩; refine ⟨_, rfl, ?_⟩; have hnb56 := NB268_269.out; have hnc56 := NB269_268.out; have hnb57 := NB268_270.out; have hnc57 := NB270_268.out; have hcz58_0 : w14.cell? ⟨gb268, 0, none⟩ = some (.string a0_0) := (blk_cell BK268.out 0).trans rfl; have hcz58_1 : w14.cell? ⟨gb268, 1, none⟩ = some (.int .i64 a0_1) := (blk_cell BK268.out 1).trans rfl; have hcz58_2 : w14.cell? ⟨gb268, 2, none⟩ = some (.bool a0_2) := (blk_cell BK268.out 2).trans rfl; have hcz58_3 : w14.cell? ⟨gb268, 3, none⟩ = some (.string a0_3) := (blk_cell BK268.out 3).trans rfl; have hfz58_0 := blk_frozen BK268.out 0; have hfz58_1 := blk_frozen BK268.out 1; have hfz58_2 := blk_frozen BK268.out 2; have hfz58_3 := blk_frozen BK268.out 3; have hnb59 := NB269_270.out; have hnc59 := NB270_269.out; have hcz60_0 : w14.cell? ⟨gb269, 0, none⟩ = some (.string a1_0) := (blk_cell BK269.out 0).trans rfl; have hcz60_1 : w14.cell? ⟨gb269, 1, none⟩ = some (.int .i64 a1_1) := (blk_cell BK269.out 1).trans rfl; have hcz60_2 : w14.cell? ⟨gb269, 2, none⟩ = some (.bool a1_2) := (blk_cell BK269.out 2).trans rfl; have hcz60_3 : w14.cell? ⟨gb269, 3, none⟩ = some (.string a1_3) := (blk_cell BK269.out 3).trans rfl; have hfz60_0 := blk_frozen BK269.out 0; have hfz60_1 := blk_frozen BK269.out 1; have hfz60_2 := blk_frozen BK269.out 2; have hfz60_3 := blk_frozen BK269.out 3) | ((with_reducible refine gate_dst (N := 33) rfl ?_); (try (refine gate_guard (by rfl) ?_; dsimp only)); refine Kd.R_lit k23 _ 23 ?hg (N := 33) ?hd (xs := ([(⟨a0_0, a0_1, a0_2, a0_3⟩ : S23), (⟨a1_0, a1_1, a1_2, a1_3⟩ : S23)] : List (S23))) (inner := [.string a0_0, .int .i64 a0_1, .bool a0_2, .string a0_3, .string a1_0, .int .i64 a1_1, .bool a1_2, .string a1_3]) (ok := fun _ => True) (okp := fun _ => True) ?hr ?hp (fun _ hk => hk) trivial (Below.refl _ _) (Nat.le_refl _) (by simp) ?_; (case hd => rfl); (case hg => rfl); (case hr => first | (go_simp; done) | (go_simp; rfl)); (case hp => exact (Reps.c4 (show Kd.M k23 _ _ _ (⟨a0_0, a0_1, a0_2, a0_3⟩ : S23) [.string a0_0, .int .i64 a0_1, .bool a0_2, .string a0_3] from (k23_mkM _ _ _ (⟨a0_0, a0_1, a0_2, a0_3⟩ : S23) )) (Reps.c4 (show Kd.M k23 _ _ _ (⟨a1_0, a1_1, a1_2, a1_3⟩ : S23) [.string a1_0, .int .i64 a1_1, .bool a1_2, .string a1_3] from (k23_mkM _ _ _ (⟨a1_0, a1_1, a1_2, a1_3⟩ : S23) )) (Reps.none _ _)))); intro v274 w61 ho62 hb hg_ hnew_; clear hg_ hnew_; (first | rw [← Ny273.out] at ho62 | (simp only [Int.reduceToNat] at ho62; rw [← Ny273.out] at ho62)); have n0_ := Aside0.mk (Kd.R_lower (Kd.R_newB (Kd.R_newB ho62 (g := gb268) (o := .cells #[.string a0_0, .int .i64 a0_1, .bool a0_2, .string a0_3] 23 (0, 0)) (by (with_reducible repeat (first | refine blk_drewN ?_ _ | refine blk_drew ?_ | refine blk_alloc ?_ _)); exact BK268.out)) (g := gb269) (o := .cells #[.string a1_0, .int .i64 a1_1, .bool a1_2, .string a1_3] 23 (0, 0)) (by (with_reducible repeat (first | refine blk_drewN ?_ _ | refine blk_drew ?_ | refine blk_alloc ?_ _)); exact BK269.out)) (below_size (by repeat (first | (with_reducible first | exact HB.out | apply below_alloc | apply pw_below_drewN | apply below_drew1 | refine below_set ?_ GE268.out | refine below_set ?_ GE269.out | refine below_set ?_ GE270.out) | exact HB.out)))); have n1_ := Aside0.mk (blk_below (g := gb268) (o := .cells #[.string a0_0, .int .i64 a0_1, .bool a0_2, .string a0_3] 23 (0, 0)) (by (with_reducible repeat (first | refine blk_drewN ?_ _ | refine blk_drew ?_ | refine blk_alloc ?_ _)); exact BK268.out) hb); have n2_ := Aside0.mk (blk_below (g := gb269) (o := .cells #[.string a1_0, .int .i64 a1_1, .bool a1_2, .string a1_3] 23 (0, 0)) (by (with_reducible repeat (first | refine blk_drewN ?_ _ | refine blk_drew ?_ | refine blk_alloc ?_ _)); exact BK269.out) hb); have n3_ := Aside0.mk (blk_below (g := gb270) (o := .cells #[.string a6_0, .bool a6_1, .string a6_2] 26 (0, 0)) (by (with_reducible repeat (first | refine blk_drewN ?_ _ | refine blk_drew ?_ | refine blk_alloc ?_ _)); exact BK270.out) hb); have n4_ := Aside0.mk (below_step (by repeat (first | (with_reducible first | exact HB.out | apply below_alloc | apply pw_below_drewN | apply below_drew1 | refine below_set ?_ GE268.out | refine below_set ?_ GE269.out | refine below_set ?_ GE270.out) | exact HB.out)) hb); clear BK268; clear BK269; clear BK270; clear HB; have HO275 := n0_; have BK268 := n1_; have BK269 := n2_; have BK270 := n3_; have HB := n4_; clear n0_ n1_ n2_ n3_ n4_; clear hb ho62; obtain ⟨Ao63, co63, eo63⟩ := Kd.R_slice HO275.out; subst eo63) | (go_at_call 10; (with_reducible refine (ravelinlaw6_few.calls k _ _ y273 false _ ?side1 ?side2 A17.out).mono ?_); (case side1 => repeat (first | exact (Kd.R_reads' HO275.out).2.2 | (with_reducible refine Kd.C_alloc ?_ _) | (with_reducible refine Kd.C_drewN ?_ _) | (with_reducible refine Kd.C_drew ?_))); (case side2 => exact (Kd.R_reads' HO275.out).2.1); rintro e w' ⟨rfl, ⟨nd, rfl⟩⟩))
          go_meet
          case rel => exact ⟨_, (true), (by first | rfl | (simp; done) | (simp [*]; done)), H', ⟨by first | omega | exact Nat.le_refl _⟩, ⟨by (with_reducible repeat (first | refine blk_drewN ?_ _ | refine blk_drew ?_ | refine blk_alloc ?_ _)); exact BK268.out⟩, ⟨by (with_reducible repeat (first | refine blk_drewN ?_ _ | refine blk_drew ?_ | refine blk_alloc ?_ _)); exact BK269.out⟩, ⟨by (with_reducible repeat (first | refine blk_drewN ?_ _ | refine blk_drew ?_ | refine blk_alloc ?_ _)); exact BK270.out⟩, ⟨by repeat (first | (with_reducible first | exact HB.out | apply below_alloc | apply pw_below_drewN | apply below_drew1 | refine below_set ?_ GE268.out | refine below_set ?_ GE269.out | refine below_set ?_ GE270.out) | exact HB.out)⟩⟩
      · replace c16 := Bool.eq_false_iff.mpr c16
        subst c16
        have H1 : (ravelinlaw6_EntryTells.j0 k l2 a3 a4 a5 true a0_0 a0_1 a0_2 a0_3 a1_0 a1_1 a1_2 a1_3 a6_0 a6_1 a6_2) = some r := by rw [if_neg (show ¬ (false = true) by decide)] at H; exact H
        clear H
        have H := H1
        clear H1
        have H' := Aside0.mk H
        clear H
        go_wp2_with (first | ((with_reducible refine gate_callee (f := 10) rfl ?_); refine goesL_ (some 28) rfl rfl Try.func10 (by kernel_rfl) rfl #[.slice A2 l2.length c2] rfl (by (try simp only [List.map_toArray, List.map_cons, List.map_nil]); first | done | rfl | (simp only [List.length_drop, List.length_take]; rfl)) ?_; (with_reducible refine (ravelinlaw6_few.calls k _ _ l2 false _ ?side1 ?side2 A15.out).mono ?_); (case side1 => repeat (first | exact (Kd.C_below HR2.out HB.out) | (with_reducible refine Kd.C_alloc ?_ _) | (with_reducible refine Kd.C_drewN ?_ _) | (with_reducible refine Kd.C_drew ?_))); (case side2 => exact HC2.out); rintro e w' ⟨rfl, ⟨nd, rfl⟩⟩; refine ⟨_, rfl, ?_⟩))
        go_meet
        case rel => exact ⟨_, (true), (by first | rfl | (simp; done) | (simp [*]; done)), H', ⟨by first | omega | exact Nat.le_refl _⟩, ⟨by (with_reducible repeat (first | refine blk_drewN ?_ _ | refine blk_drew ?_ | refine blk_alloc ?_ _)); exact BK268.out⟩, ⟨by (with_reducible repeat (first | refine blk_drewN ?_ _ | refine blk_drew ?_ | refine blk_alloc ?_ _)); exact BK269.out⟩, ⟨by (with_reducible repeat (first | refine blk_drewN ?_ _ | refine blk_drew ?_ | refine blk_alloc ?_ _)); exact BK270.out⟩, ⟨by repeat (first | (with_reducible first | exact HB.out | apply below_alloc | apply pw_below_drewN | apply below_drew1 | refine below_set ?_ GE268.out | refine below_set ?_ GE269.out | refine below_set ?_ GE270.out) | exact HB.out)⟩⟩
    case rest =>
      clear HC10
      try clear c1
      try clear c2
      try clear p2
      try clear c3
      try clear c4
      try clear c5
      try clear c9
      try clear c10
      try clear c16
      try clear c18
      try clear c19
      try clear c19b0
      try clear c19b1
      try clear c20
      try clear c21
      try clear c23
      try clear c28
      try clear c28b0
      try clear c28b1
      try clear c29
      try clear c30
      try clear c32
      try clear c37
      try clear c37b0
      try clear c37b1
      try clear c38
      try clear c39
      try clear c41
      try clear c47
      try clear c48
      try clear c50
      try clear c56
      try clear c57
      try clear c59
      try clear hcz22_0
      try clear hcz22_1
      try clear hcz22_2
      try clear hcz22_3
      try clear hcz24_0
      try clear hcz24_1
      try clear hcz24_2
      try clear hcz24_3
      try clear hcz31_0
      try clear hcz31_1
      try clear hcz31_2
      try clear hcz31_3
      try clear hcz33_0
      try clear hcz33_1
      try clear hcz33_2
      try clear hcz33_3
      try clear hcz40_0
      try clear hcz40_1
      try clear hcz40_2
      try clear hcz40_3
      try clear hcz42_0
      try clear hcz42_1
      try clear hcz42_2
      try clear hcz42_3
      try clear hcz46_0
      try clear hcz46_1
      try clear hcz46_2
      try clear hcz49_0
      try clear hcz49_1
      try clear hcz49_2
      try clear hcz49_3
      try clear hcz51_0
      try clear hcz51_1
      try clear hcz51_2
      try clear hcz51_3
      try clear hcz55_0
      try clear hcz55_1
      try clear hcz55_2
      try clear hcz58_0
      try clear hcz58_1
      try clear hcz58_2
      try clear hcz58_3
      try clear hcz60_0
      try clear hcz60_1
      try clear hcz60_2
      try clear hcz60_3
      try clear hfz22_0
      try clear hfz22_1
      try clear hfz22_2
      try clear hfz22_3
      try clear hfz24_0
      try clear hfz24_1
      try clear hfz24_2
      try clear hfz24_3
      try clear hfz31_0
      try clear hfz31_1
      try clear hfz31_2
      try clear hfz31_3
      try clear hfz33_0
      try clear hfz33_1
      try clear hfz33_2
      try clear hfz33_3
      try clear hfz40_0
      try clear hfz40_1
      try clear hfz40_2
      try clear hfz40_3
      try clear hfz42_0
      try clear hfz42_1
      try clear hfz42_2
      try clear hfz42_3
      try clear hfz46_0
      try clear hfz46_1
      try clear hfz46_2
      try clear hfz49_0
      try clear hfz49_1
      try clear hfz49_2
      try clear hfz49_3
      try clear hfz51_0
      try clear hfz51_1
      try clear hfz51_2
      try clear hfz51_3
      try clear hfz55_0
      try clear hfz55_1
      try clear hfz55_2
      try clear hfz58_0
      try clear hfz58_1
      try clear hfz58_2
      try clear hfz58_3
      try clear hfz60_0
      try clear hfz60_1
      try clear hfz60_2
      try clear hfz60_3
      obtain ⟨kq, x58_9, rfl, HA, HJ9, BK268, BK269, BK270, HB⟩ := hcut
      cases kq with
      | zero => exact absurd HA.out (by simp [ravelinlaw6_EntryTells.j0])
      | succ kj9 =>
        have H := HA.out
        clear HA
        simp only [ravelinlaw6_EntryTells.j0] at H
        by_cases c64 : x58_9 = true
        · subst c64
          have H1 : (some true) = some r := by rw [if_pos rfl] at H; exact H
          clear H
          have H := H1
          clear H1
          obtain rfl := Option.some.inj H
          go_wp2
          go_ret
          exact ⟨by first | rfl | (simp [errW_none, errW_some] <;> rfl) | (simp [*, errW_none, errW_some] <;> rfl), by repeat (first | (with_reducible first | exact HB.out | apply below_alloc | apply pw_below_drewN | apply below_drew1 | refine below_set ?_ GE268.out | refine below_set ?_ GE269.out | refine below_set ?_ GE270.out) | exact HB.out)⟩
        · replace c64 := Bool.eq_false_iff.mpr c64
          subst c64
          have H1 : ((entry_Read.f kj9 a5).bind fun bt277 => ((ravelinref6_Read.f kj9 a5).bind fun bt284 => ((entry_Newest.f kj9 l2 a3 a4).bind fun bt291 => ((ravelinref6_Newest.f kj9 l2 a3 a4).bind fun bt297 => ((entry_Is.f a0_0 a0_1 a0_2 a0_3).bind fun t303 => ((ravelinref6_Is.f a0_0 a0_1 a0_2 a0_3).bind fun t304 => (if (t303 == t304) = true then ((entry_Less.f kj9 a0_0 a0_1 a0_2 a0_3 a1_0 a1_1 a1_2 a1_3).bind fun t305 => ((ravelinref6_Less.f a0_0 a0_1 a0_2 a0_3 a1_0 a1_1 a1_2 a1_3).bind fun t306 => (if (t305 == t306) = true then ((entry_Bytes.f kj9 a0_0 a0_1 a0_2 a0_3).bind fun t307 => ((ravelinref6_Bytes.f kj9 a0_0 a0_1 a0_2 a0_3).bind fun t308 => (if t307.toList = t308.toList then ((entry_Sorted.f kj9 l2).bind fun t309 => ((ravelinref6_Sorted.f kj9 l2).bind fun t310 => (if (t309 == t310) = true then (if (bt277.1.toList == bt284.1.toList && (bt277.2.1 == bt284.2.1 && (bt277.2.2.1 == bt284.2.2.1 && (bt277.2.2.2.1.toList == bt284.2.2.2.1.toList)))) = true then (if bt277.2.2.2.2.1 = bt284.2.2.2.2.1 then (if bt277.2.2.2.2.2 = bt284.2.2.2.2.2 then (if (bt291.1.toList == bt297.1.toList && (bt291.2.1 == bt297.2.1 && (bt291.2.2.1 == bt297.2.2.1 && (bt291.2.2.2.1.toList == bt297.2.2.2.1.toList)))) = true then (if (bt291.2.2.2.2 == bt297.2.2.2.2) = true then ((entry_IsWrite.f a6_0 a6_1 a6_2).bind fun t311 => ((ravelinref6_IsWrite.f a6_0 a6_1 a6_2).bind fun t312 => (some (t311 == t312)))) else (some false)) else (some false)) else (some false)) else (some false)) else (some false)) else (some false)))) else (some false)))) else (some false)))) else (some false)))))))) = some r := by rw [if_neg (show ¬ (false = true) by decide)] at H; exact H
          clear H
          have H := H1
          clear H1
          replace H := Option.bind_eq_some_iff.mp H
          obtain ⟨⟨t277, t278, t279, t280, t281, t282⟩, A650, H⟩ := H
          replace H : ((ravelinref6_Read.f kj9 a5).bind fun bt284 => ((entry_Newest.f kj9 l2 a3 a4).bind fun bt291 => ((ravelinref6_Newest.f kj9 l2 a3 a4).bind fun bt297 => ((entry_Is.f a0_0 a0_1 a0_2 a0_3).bind fun t303 => ((ravelinref6_Is.f a0_0 a0_1 a0_2 a0_3).bind fun t304 => (if (t303 == t304) = true then ((entry_Less.f kj9 a0_0 a0_1 a0_2 a0_3 a1_0 a1_1 a1_2 a1_3).bind fun t305 => ((ravelinref6_Less.f a0_0 a0_1 a0_2 a0_3 a1_0 a1_1 a1_2 a1_3).bind fun t306 => (if (t305 == t306) = true then ((entry_Bytes.f kj9 a0_0 a0_1 a0_2 a0_3).bind fun t307 => ((ravelinref6_Bytes.f kj9 a0_0 a0_1 a0_2 a0_3).bind fun t308 => (if t307.toList = t308.toList then ((entry_Sorted.f kj9 l2).bind fun t309 => ((ravelinref6_Sorted.f kj9 l2).bind fun t310 => (if (t309 == t310) = true then (if (t277.toList == bt284.1.toList && (t278 == bt284.2.1 && (t279 == bt284.2.2.1 && (t280.toList == bt284.2.2.2.1.toList)))) = true then (if t281 = bt284.2.2.2.2.1 then (if t282 = bt284.2.2.2.2.2 then (if (bt291.1.toList == bt297.1.toList && (bt291.2.1 == bt297.2.1 && (bt291.2.2.1 == bt297.2.2.1 && (bt291.2.2.2.1.toList == bt297.2.2.2.1.toList)))) = true then (if (bt291.2.2.2.2 == bt297.2.2.2.2) = true then ((entry_IsWrite.f a6_0 a6_1 a6_2).bind fun t311 => ((ravelinref6_IsWrite.f a6_0 a6_1 a6_2).bind fun t312 => (some (t311 == t312)))) else (some false)) else (some false)) else (some false)) else (some false)) else (some false)) else (some false)))) else (some false)))) else (some false)))) else (some false))))))) = some r := H
          have A65 := Aside0.mk A650
          clear A650
          replace H := Option.bind_eq_some_iff.mp H
          obtain ⟨⟨t284, t285, t286, t287, t288, t289⟩, A660, H⟩ := H
          replace H : ((entry_Newest.f kj9 l2 a3 a4).bind fun bt291 => ((ravelinref6_Newest.f kj9 l2 a3 a4).bind fun bt297 => ((entry_Is.f a0_0 a0_1 a0_2 a0_3).bind fun t303 => ((ravelinref6_Is.f a0_0 a0_1 a0_2 a0_3).bind fun t304 => (if (t303 == t304) = true then ((entry_Less.f kj9 a0_0 a0_1 a0_2 a0_3 a1_0 a1_1 a1_2 a1_3).bind fun t305 => ((ravelinref6_Less.f a0_0 a0_1 a0_2 a0_3 a1_0 a1_1 a1_2 a1_3).bind fun t306 => (if (t305 == t306) = true then ((entry_Bytes.f kj9 a0_0 a0_1 a0_2 a0_3).bind fun t307 => ((ravelinref6_Bytes.f kj9 a0_0 a0_1 a0_2 a0_3).bind fun t308 => (if t307.toList = t308.toList then ((entry_Sorted.f kj9 l2).bind fun t309 => ((ravelinref6_Sorted.f kj9 l2).bind fun t310 => (if (t309 == t310) = true then (if (t277.toList == t284.toList && (t278 == t285 && (t279 == t286 && (t280.toList == t287.toList)))) = true then (if t281 = t288 then (if t282 = t289 then (if (bt291.1.toList == bt297.1.toList && (bt291.2.1 == bt297.2.1 && (bt291.2.2.1 == bt297.2.2.1 && (bt291.2.2.2.1.toList == bt297.2.2.2.1.toList)))) = true then (if (bt291.2.2.2.2 == bt297.2.2.2.2) = true then ((entry_IsWrite.f a6_0 a6_1 a6_2).bind fun t311 => ((ravelinref6_IsWrite.f a6_0 a6_1 a6_2).bind fun t312 => (some (t311 == t312)))) else (some false)) else (some false)) else (some false)) else (some false)) else (some false)) else (some false)))) else (some false)))) else (some false)))) else (some false)))))) = some r := H
          have A66 := Aside0.mk A660
          clear A660
          replace H := Option.bind_eq_some_iff.mp H
          obtain ⟨⟨t291, t292, t293, t294, t295⟩, A670, H⟩ := H
          replace H : ((ravelinref6_Newest.f kj9 l2 a3 a4).bind fun bt297 => ((entry_Is.f a0_0 a0_1 a0_2 a0_3).bind fun t303 => ((ravelinref6_Is.f a0_0 a0_1 a0_2 a0_3).bind fun t304 => (if (t303 == t304) = true then ((entry_Less.f kj9 a0_0 a0_1 a0_2 a0_3 a1_0 a1_1 a1_2 a1_3).bind fun t305 => ((ravelinref6_Less.f a0_0 a0_1 a0_2 a0_3 a1_0 a1_1 a1_2 a1_3).bind fun t306 => (if (t305 == t306) = true then ((entry_Bytes.f kj9 a0_0 a0_1 a0_2 a0_3).bind fun t307 => ((ravelinref6_Bytes.f kj9 a0_0 a0_1 a0_2 a0_3).bind fun t308 => (if t307.toList = t308.toList then ((entry_Sorted.f kj9 l2).bind fun t309 => ((ravelinref6_Sorted.f kj9 l2).bind fun t310 => (if (t309 == t310) = true then (if (t277.toList == t284.toList && (t278 == t285 && (t279 == t286 && (t280.toList == t287.toList)))) = true then (if t281 = t288 then (if t282 = t289 then (if (t291.toList == bt297.1.toList && (t292 == bt297.2.1 && (t293 == bt297.2.2.1 && (t294.toList == bt297.2.2.2.1.toList)))) = true then (if (t295 == bt297.2.2.2.2) = true then ((entry_IsWrite.f a6_0 a6_1 a6_2).bind fun t311 => ((ravelinref6_IsWrite.f a6_0 a6_1 a6_2).bind fun t312 => (some (t311 == t312)))) else (some false)) else (some false)) else (some false)) else (some false)) else (some false)) else (some false)))) else (some false)))) else (some false)))) else (some false))))) = some r := H
          have A67 := Aside0.mk A670
          clear A670
          replace H := Option.bind_eq_some_iff.mp H
          obtain ⟨⟨t297, t298, t299, t300, t301⟩, A680, H⟩ := H
          replace H : ((entry_Is.f a0_0 a0_1 a0_2 a0_3).bind fun t303 => ((ravelinref6_Is.f a0_0 a0_1 a0_2 a0_3).bind fun t304 => (if (t303 == t304) = true then ((entry_Less.f kj9 a0_0 a0_1 a0_2 a0_3 a1_0 a1_1 a1_2 a1_3).bind fun t305 => ((ravelinref6_Less.f a0_0 a0_1 a0_2 a0_3 a1_0 a1_1 a1_2 a1_3).bind fun t306 => (if (t305 == t306) = true then ((entry_Bytes.f kj9 a0_0 a0_1 a0_2 a0_3).bind fun t307 => ((ravelinref6_Bytes.f kj9 a0_0 a0_1 a0_2 a0_3).bind fun t308 => (if t307.toList = t308.toList then ((entry_Sorted.f kj9 l2).bind fun t309 => ((ravelinref6_Sorted.f kj9 l2).bind fun t310 => (if (t309 == t310) = true then (if (t277.toList == t284.toList && (t278 == t285 && (t279 == t286 && (t280.toList == t287.toList)))) = true then (if t281 = t288 then (if t282 = t289 then (if (t291.toList == t297.toList && (t292 == t298 && (t293 == t299 && (t294.toList == t300.toList)))) = true then (if (t295 == t301) = true then ((entry_IsWrite.f a6_0 a6_1 a6_2).bind fun t311 => ((ravelinref6_IsWrite.f a6_0 a6_1 a6_2).bind fun t312 => (some (t311 == t312)))) else (some false)) else (some false)) else (some false)) else (some false)) else (some false)) else (some false)))) else (some false)))) else (some false)))) else (some false)))) = some r := H
          have A68 := Aside0.mk A680
          clear A680
          replace H := Option.bind_eq_some_iff.mp H
          obtain ⟨t303, A690, H⟩ := H
          replace H : ((ravelinref6_Is.f a0_0 a0_1 a0_2 a0_3).bind fun t304 => (if (t303 == t304) = true then ((entry_Less.f kj9 a0_0 a0_1 a0_2 a0_3 a1_0 a1_1 a1_2 a1_3).bind fun t305 => ((ravelinref6_Less.f a0_0 a0_1 a0_2 a0_3 a1_0 a1_1 a1_2 a1_3).bind fun t306 => (if (t305 == t306) = true then ((entry_Bytes.f kj9 a0_0 a0_1 a0_2 a0_3).bind fun t307 => ((ravelinref6_Bytes.f kj9 a0_0 a0_1 a0_2 a0_3).bind fun t308 => (if t307.toList = t308.toList then ((entry_Sorted.f kj9 l2).bind fun t309 => ((ravelinref6_Sorted.f kj9 l2).bind fun t310 => (if (t309 == t310) = true then (if (t277.toList == t284.toList && (t278 == t285 && (t279 == t286 && (t280.toList == t287.toList)))) = true then (if t281 = t288 then (if t282 = t289 then (if (t291.toList == t297.toList && (t292 == t298 && (t293 == t299 && (t294.toList == t300.toList)))) = true then (if (t295 == t301) = true then ((entry_IsWrite.f a6_0 a6_1 a6_2).bind fun t311 => ((ravelinref6_IsWrite.f a6_0 a6_1 a6_2).bind fun t312 => (some (t311 == t312)))) else (some false)) else (some false)) else (some false)) else (some false)) else (some false)) else (some false)))) else (some false)))) else (some false)))) else (some false))) = some r := H
          have A69 := Aside0.mk A690
          clear A690
          replace H := Option.bind_eq_some_iff.mp H
          obtain ⟨t304, A700, H⟩ := H
          replace H : (if (t303 == t304) = true then ((entry_Less.f kj9 a0_0 a0_1 a0_2 a0_3 a1_0 a1_1 a1_2 a1_3).bind fun t305 => ((ravelinref6_Less.f a0_0 a0_1 a0_2 a0_3 a1_0 a1_1 a1_2 a1_3).bind fun t306 => (if (t305 == t306) = true then ((entry_Bytes.f kj9 a0_0 a0_1 a0_2 a0_3).bind fun t307 => ((ravelinref6_Bytes.f kj9 a0_0 a0_1 a0_2 a0_3).bind fun t308 => (if t307.toList = t308.toList then ((entry_Sorted.f kj9 l2).bind fun t309 => ((ravelinref6_Sorted.f kj9 l2).bind fun t310 => (if (t309 == t310) = true then (if (t277.toList == t284.toList && (t278 == t285 && (t279 == t286 && (t280.toList == t287.toList)))) = true then (if t281 = t288 then (if t282 = t289 then (if (t291.toList == t297.toList && (t292 == t298 && (t293 == t299 && (t294.toList == t300.toList)))) = true then (if (t295 == t301) = true then ((entry_IsWrite.f a6_0 a6_1 a6_2).bind fun t311 => ((ravelinref6_IsWrite.f a6_0 a6_1 a6_2).bind fun t312 => (some (t311 == t312)))) else (some false)) else (some false)) else (some false)) else (some false)) else (some false)) else (some false)))) else (some false)))) else (some false)))) else (some false)) = some r := H
          have A70 := Aside0.mk A700
          clear A700
          by_cases c71 : (t303 == t304) = true
          · rw [if_pos c71] at H
            have c71b0 : (t303 == t304) = true := c71
            (try (have c71b1 : decide (t303 = t304) = true := by simpa using c71))
            (try (have c71b2 : (t303 == t304) = true := by simpa using c71))
            clear c71
            replace H := Option.bind_eq_some_iff.mp H
            obtain ⟨t305, A720, H⟩ := H
            replace H : ((ravelinref6_Less.f a0_0 a0_1 a0_2 a0_3 a1_0 a1_1 a1_2 a1_3).bind fun t306 => (if (t305 == t306) = true then ((entry_Bytes.f kj9 a0_0 a0_1 a0_2 a0_3).bind fun t307 => ((ravelinref6_Bytes.f kj9 a0_0 a0_1 a0_2 a0_3).bind fun t308 => (if t307.toList = t308.toList then ((entry_Sorted.f kj9 l2).bind fun t309 => ((ravelinref6_Sorted.f kj9 l2).bind fun t310 => (if (t309 == t310) = true then (if (t277.toList == t284.toList && (t278 == t285 && (t279 == t286 && (t280.toList == t287.toList)))) = true then (if t281 = t288 then (if t282 = t289 then (if (t291.toList == t297.toList && (t292 == t298 && (t293 == t299 && (t294.toList == t300.toList)))) = true then (if (t295 == t301) = true then ((entry_IsWrite.f a6_0 a6_1 a6_2).bind fun t311 => ((ravelinref6_IsWrite.f a6_0 a6_1 a6_2).bind fun t312 => (some (t311 == t312)))) else (some false)) else (some false)) else (some false)) else (some false)) else (some false)) else (some false)))) else (some false)))) else (some false))) = some r := H
            have A72 := Aside0.mk A720
            clear A720
            replace H := Option.bind_eq_some_iff.mp H
            obtain ⟨t306, A730, H⟩ := H
            replace H : (if (t305 == t306) = true then ((entry_Bytes.f kj9 a0_0 a0_1 a0_2 a0_3).bind fun t307 => ((ravelinref6_Bytes.f kj9 a0_0 a0_1 a0_2 a0_3).bind fun t308 => (if t307.toList = t308.toList then ((entry_Sorted.f kj9 l2).bind fun t309 => ((ravelinref6_Sorted.f kj9 l2).bind fun t310 => (if (t309 == t310) = true then (if (t277.toList == t284.toList && (t278 == t285 && (t279 == t286 && (t280.toList == t287.toList)))) = true then (if t281 = t288 then (if t282 = t289 then (if (t291.toList == t297.toList && (t292 == t298 && (t293 == t299 && (t294.toList == t300.toList)))) = true then (if (t295 == t301) = true then ((entry_IsWrite.f a6_0 a6_1 a6_2).bind fun t311 => ((ravelinref6_IsWrite.f a6_0 a6_1 a6_2).bind fun t312 => (some (t311 == t312)))) else (some false)) else (some false)) else (some false)) else (some false)) else (some false)) else (some false)))) else (some false)))) else (some false)) = some r := H
            have A73 := Aside0.mk A730
            clear A730
            by_cases c74 : (t305 == t306) = true
            · rw [if_pos c74] at H
              have c74b0 : (t305 == t306) = true := c74
              (try (have c74b1 : decide (t305 = t306) = true := by simpa using c74))
              (try (have c74b2 : (t305 == t306) = true := by simpa using c74))
              clear c74
              replace H := Option.bind_eq_some_iff.mp H
              obtain ⟨t307, A750, H⟩ := H
              replace H : ((ravelinref6_Bytes.f kj9 a0_0 a0_1 a0_2 a0_3).bind fun t308 => (if t307.toList = t308.toList then ((entry_Sorted.f kj9 l2).bind fun t309 => ((ravelinref6_Sorted.f kj9 l2).bind fun t310 => (if (t309 == t310) = true then (if (t277.toList == t284.toList && (t278 == t285 && (t279 == t286 && (t280.toList == t287.toList)))) = true then (if t281 = t288 then (if t282 = t289 then (if (t291.toList == t297.toList && (t292 == t298 && (t293 == t299 && (t294.toList == t300.toList)))) = true then (if (t295 == t301) = true then ((entry_IsWrite.f a6_0 a6_1 a6_2).bind fun t311 => ((ravelinref6_IsWrite.f a6_0 a6_1 a6_2).bind fun t312 => (some (t311 == t312)))) else (some false)) else (some false)) else (some false)) else (some false)) else (some false)) else (some false)))) else (some false))) = some r := H
              have A75 := Aside0.mk A750
              clear A750
              replace H := Option.bind_eq_some_iff.mp H
              obtain ⟨t308, A760, H⟩ := H
              replace H : (if t307.toList = t308.toList then ((entry_Sorted.f kj9 l2).bind fun t309 => ((ravelinref6_Sorted.f kj9 l2).bind fun t310 => (if (t309 == t310) = true then (if (t277.toList == t284.toList && (t278 == t285 && (t279 == t286 && (t280.toList == t287.toList)))) = true then (if t281 = t288 then (if t282 = t289 then (if (t291.toList == t297.toList && (t292 == t298 && (t293 == t299 && (t294.toList == t300.toList)))) = true then (if (t295 == t301) = true then ((entry_IsWrite.f a6_0 a6_1 a6_2).bind fun t311 => ((ravelinref6_IsWrite.f a6_0 a6_1 a6_2).bind fun t312 => (some (t311 == t312)))) else (some false)) else (some false)) else (some false)) else (some false)) else (some false)) else (some false)))) else (some false)) = some r := H
              have A76 := Aside0.mk A760
              clear A760
              by_cases c77 : t307.toList = t308.toList
              · rw [if_pos c77] at H
                have c77b0 : (t307.toList == t308.toList) = true := beq_iff_eq.mpr c77
                have c77b1 : (t307.toList != t308.toList) = false := bne_eq_false_iff_eq.mpr c77
                clear c77
                replace H := Option.bind_eq_some_iff.mp H
                obtain ⟨t309, A780, H⟩ := H
                replace H : ((ravelinref6_Sorted.f kj9 l2).bind fun t310 => (if (t309 == t310) = true then (if (t277.toList == t284.toList && (t278 == t285 && (t279 == t286 && (t280.toList == t287.toList)))) = true then (if t281 = t288 then (if t282 = t289 then (if (t291.toList == t297.toList && (t292 == t298 && (t293 == t299 && (t294.toList == t300.toList)))) = true then (if (t295 == t301) = true then ((entry_IsWrite.f a6_0 a6_1 a6_2).bind fun t311 => ((ravelinref6_IsWrite.f a6_0 a6_1 a6_2).bind fun t312 => (some (t311 == t312)))) else (some false)) else (some false)) else (some false)) else (some false)) else (some false)) else (some false))) = some r := H
                have A78 := Aside0.mk A780
                clear A780
                replace H := Option.bind_eq_some_iff.mp H
                obtain ⟨t310, A790, H⟩ := H
                replace H : (if (t309 == t310) = true then (if (t277.toList == t284.toList && (t278 == t285 && (t279 == t286 && (t280.toList == t287.toList)))) = true then (if t281 = t288 then (if t282 = t289 then (if (t291.toList == t297.toList && (t292 == t298 && (t293 == t299 && (t294.toList == t300.toList)))) = true then (if (t295 == t301) = true then ((entry_IsWrite.f a6_0 a6_1 a6_2).bind fun t311 => ((ravelinref6_IsWrite.f a6_0 a6_1 a6_2).bind fun t312 => (some (t311 == t312)))) else (some false)) else (some false)) else (some false)) else (some false)) else (some false)) else (some false)) = some r := H
                have A79 := Aside0.mk A790
                clear A790
                by_cases c80 : (t309 == t310) = true
                · rw [if_pos c80] at H
                  have c80b0 : (t309 == t310) = true := c80
                  (try (have c80b1 : decide (t309 = t310) = true := by simpa using c80))
                  (try (have c80b2 : (t309 == t310) = true := by simpa using c80))
                  clear c80
                  by_cases c81 : (t277.toList == t284.toList && (t278 == t285 && (t279 == t286 && (t280.toList == t287.toList)))) = true
                  · rw [if_pos c81] at H
                    have c81b0 : (t277.toList == t284.toList && (t278 == t285 && (t279 == t286 && (t280.toList == t287.toList)))) = true := c81
                    (try (have c81p := c81b0; simp only [Bool.and_eq_true, beq_iff_eq, Bool.not_eq_true'] at c81p; replace c81p := eq_true c81p))
                    (try (have c81b1 : decide (t277.toList = t284.toList && (t278 == t285 && (t279 == t286 && (t280.toList == t287.toList)))) = true := by simpa using c81))
                    (try (have c81b2 : (t277.toList == t284.toList && (t278 == t285 && (t279 == t286 && (t280.toList == t287.toList)))) = true := by simpa using c81))
                    clear c81
                    by_cases c82 : t281 = t288
                    · rw [if_pos c82] at H
                      have c82b0 : (t281 == t288) = true := beq_iff_eq.mpr c82
                      have c82b1 : (t281 != t288) = false := bne_eq_false_iff_eq.mpr c82
                      clear c82
                      by_cases c83 : t282 = t289
                      · rw [if_pos c83] at H
                        have c83b0 : (t282 == t289) = true := beq_iff_eq.mpr c83
                        have c83b1 : (t282 != t289) = false := bne_eq_false_iff_eq.mpr c83
                        clear c83
                        by_cases c84 : (t291.toList == t297.toList && (t292 == t298 && (t293 == t299 && (t294.toList == t300.toList)))) = true
                        · rw [if_pos c84] at H
                          have c84b0 : (t291.toList == t297.toList && (t292 == t298 && (t293 == t299 && (t294.toList == t300.toList)))) = true := c84
                          (try (have c84p := c84b0; simp only [Bool.and_eq_true, beq_iff_eq, Bool.not_eq_true'] at c84p; replace c84p := eq_true c84p))
                          (try (have c84b1 : decide (t291.toList = t297.toList && (t292 == t298 && (t293 == t299 && (t294.toList == t300.toList)))) = true := by simpa using c84))
                          (try (have c84b2 : (t291.toList == t297.toList && (t292 == t298 && (t293 == t299 && (t294.toList == t300.toList)))) = true := by simpa using c84))
                          clear c84
                          by_cases c85 : (t295 == t301) = true
                          · rw [if_pos c85] at H
                            have c85b0 : (t295 == t301) = true := c85
                            (try (have c85b1 : decide (t295 = t301) = true := by simpa using c85))
                            (try (have c85b2 : (t295 == t301) = true := by simpa using c85))
                            clear c85
                            replace H := Option.bind_eq_some_iff.mp H
                            obtain ⟨t311, A860, H⟩ := H
                            replace H : ((ravelinref6_IsWrite.f a6_0 a6_1 a6_2).bind fun t312 => (some (t311 == t312))) = some r := H
                            have A86 := Aside0.mk A860
                            clear A860
                            replace H := Option.bind_eq_some_iff.mp H
                            obtain ⟨t312, A870, H⟩ := H
                            replace H : (some (t311 == t312)) = some r := H
                            have A87 := Aside0.mk A870
                            clear A870
                            obtain rfl := Option.some.inj H
                            try go_wp2_with (first | ((with_reducible refine gate_callee (f := 11) rfl ?_); refine goesL_ (some 61) rfl rfl Try.func11 (by kernel_rfl) rfl #[.string a5] rfl (by (try simp only [List.map_toArray, List.map_cons, List.map_nil]); first | done | rfl | (simp only [List.length_drop, List.length_take]; rfl)) ?_; (with_reducible refine (entry_Read.calls kj9 a5 t277 t278 t279 t280 t281 t282 _ A65.out).mono ?_); rintro e w88 ⟨rfl, hb⟩; refine ⟨_, rfl, ?_⟩; have n0_ := Aside0.mk (blk_below (g := gb268) (o := .cells #[.string a0_0, .int .i64 a0_1, .bool a0_2, .string a0_3] 23 (0, 0)) (by (with_reducible repeat (first | refine blk_drewN ?_ _ | refine blk_drew ?_ | refine blk_alloc ?_ _)); exact BK268.out) hb); have n1_ := Aside0.mk (blk_below (g := gb269) (o := .cells #[.string a1_0, .int .i64 a1_1, .bool a1_2, .string a1_3] 23 (0, 0)) (by (with_reducible repeat (first | refine blk_drewN ?_ _ | refine blk_drew ?_ | refine blk_alloc ?_ _)); exact BK269.out) hb); have n2_ := Aside0.mk (blk_below (g := gb270) (o := .cells #[.string a6_0, .bool a6_1, .string a6_2] 26 (0, 0)) (by (with_reducible repeat (first | refine blk_drewN ?_ _ | refine blk_drew ?_ | refine blk_alloc ?_ _)); exact BK270.out) hb); have n3_ := Aside0.mk (below_step (by repeat (first | (with_reducible first | exact HB.out | apply below_alloc | apply pw_below_drewN | apply below_drew1 | refine below_set ?_ GE268.out | refine below_set ?_ GE269.out | refine below_set ?_ GE270.out) | exact HB.out)) hb); clear BK268; clear BK269; clear BK270; clear HB; have BK268 := n0_; have BK269 := n1_; have BK270 := n2_; have HB := n3_; clear n0_ n1_ n2_ n3_; (try clear hb); (try clear hb2); (try clear hk); (try clear hi)) | ((with_reducible refine gate_dst (N := 15) rfl ?_); (try (refine gate_guard (by rfl) ?_; dsimp only)); refine box_event ?hg (N := 15) ?hd (cs := #[.string (⟨#[]⟩ : ByteArray), .int .i64 0, .bool false, .string (⟨#[]⟩ : ByteArray)]) (t := 23) ?hr ?_; (case hd => rfl); (case hg => rfl); (case hr => first | (go_simp; done) | (go_simp; rfl)); intro gb283 hg w89 hbox hb; have n0_ := Aside0.mk (blk_below (g := gb268) (o := .cells #[.string a0_0, .int .i64 a0_1, .bool a0_2, .string a0_3] 23 (0, 0)) (by (with_reducible repeat (first | refine blk_drewN ?_ _ | refine blk_drew ?_ | refine blk_alloc ?_ _)); exact BK268.out) hb); have n1_ := Aside0.mk (blk_below (g := gb269) (o := .cells #[.string a1_0, .int .i64 a1_1, .bool a1_2, .string a1_3] 23 (0, 0)) (by (with_reducible repeat (first | refine blk_drewN ?_ _ | refine blk_drew ?_ | refine blk_alloc ?_ _)); exact BK269.out) hb); have n2_ := Aside0.mk (blk_below (g := gb270) (o := .cells #[.string a6_0, .bool a6_1, .string a6_2] 26 (0, 0)) (by (with_reducible repeat (first | refine blk_drewN ?_ _ | refine blk_drew ?_ | refine blk_alloc ?_ _)); exact BK270.out) hb); have n3_ := Aside0.mk (below_step (by repeat (first | (with_reducible first | exact HB.out | apply below_alloc | apply pw_below_drewN | apply below_drew1 | refine below_set ?_ GE268.out | refine below_set ?_ GE269.out | refine below_set ?_ GE270.out) | exact HB.out)) hb); have n4_ := Aside0.mk (hbox); have n5_ := Aside0.mk ((by rw [hg]; exact (below_size (by repeat (first | (with_reducible first | exact HB.out | apply below_alloc | apply pw_below_drewN | apply below_drew1 | refine below_set ?_ GE268.out | refine below_set ?_ GE269.out | refine below_set ?_ GE270.out) | exact HB.out))) : w.heap.size ≤ gb283)); have n6_ := Aside0.mk ((by rw [hg]; exact (below_size (by repeat (first | (with_reducible first | exact HB.out | apply below_alloc | apply pw_below_drewN | apply below_drew1 | refine below_set ?_ GE268.out | refine below_set ?_ GE269.out | refine below_set ?_ GE270.out) | exact HB.out))) : w.heap.size ≤ gb283)); have n7_ := Aside0.mk ((by rw [hg]; exact Nat.ne_of_lt (blk_lt (g := gb268) (o := .cells #[.string a0_0, .int .i64 a0_1, .bool a0_2, .string a0_3] 23 (0, 0)) (by (with_reducible repeat (first | refine blk_drewN ?_ _ | refine blk_drew ?_ | refine blk_alloc ?_ _)); exact BK268.out)) : gb268 ≠ gb283)); have n8_ := Aside0.mk ((by rw [hg]; exact Nat.ne_of_gt (blk_lt (g := gb268) (o := .cells #[.string a0_0, .int .i64 a0_1, .bool a0_2, .string a0_3] 23 (0, 0)) (by (with_reducible repeat (first | refine blk_drewN ?_ _ | refine blk_drew ?_ | refine blk_alloc ?_ _)); exact BK268.out)) : gb283 ≠ gb268)); have n9_ := Aside0.mk ((by rw [hg]; exact Nat.ne_of_lt (blk_lt (g := gb269) (o := .cells #[.string a1_0, .int .i64 a1_1, .bool a1_2, .string a1_3] 23 (0, 0)) (by (with_reducible repeat (first | refine blk_drewN ?_ _ | refine blk_drew ?_ | refine blk_alloc ?_ _)); exact BK269.out)) : gb269 ≠ gb283)); have n10_ := Aside0.mk ((by rw [hg]; exact Nat.ne_of_gt (blk_lt (g := gb269) (o := .cells #[.string a1_0, .int .i64 a1_1, .bool a1_2, .string a1_3] 23 (0, 0)) (by (with_reducible repeat (first | refine blk_drewN ?_ _ | refine blk_drew ?_ | refine blk_alloc ?_ _)); exact BK269.out)) : gb283 ≠ gb269)); have n11_ := Aside0.mk ((by rw [hg]; exact Nat.ne_of_lt (blk_lt (g := gb270) (o := .cells #[.string a6_0, .bool a6_1, .string a6_2] 26 (0, 0)) (by (with_reducible repeat (first | refine blk_drewN ?_ _ | refine blk_drew ?_ | refine blk_alloc ?_ _)); exact BK270.out)) : gb270 ≠ gb283)); have n12_ := Aside0.mk ((by rw [hg]; exact Nat.ne_of_gt (blk_lt (g := gb270) (o := .cells #[.string a6_0, .bool a6_1, .string a6_2] 26 (0, 0)) (by (with_reducible repeat (first | refine blk_drewN ?_ _ | refine blk_drew ?_ | refine blk_alloc ?_ _)); exact BK270.out)) : gb283 ≠ gb270)); clear BK268; clear BK269; clear BK270; clear HB; have BK268 := n0_; have BK269 := n1_; have BK270 := n2_; have HB := n3_; have BK283 := n4_; have GW283 := n5_; have GE283 := n6_; have NB268_283 := n7_; have NB283_268 := n8_; have NB269_283 := n9_; have NB283_269 := n10_; have NB270_283 := n11_; have NB283_270 := n12_; clear n0_ n1_ n2_ n3_ n4_ n5_ n6_ n7_ n8_ n9_ n10_ n11_ n12_; clear hb hbox hg; have hnb90 := NB283_268.out; have hnc90 := NB268_283.out; have hnb91 := NB283_269.out; have hnc91 := NB269_283.out; have hnb92 := NB283_270.out; have hnc92 := NB270_283.out; have hcz93_0 : w89.cell? ⟨gb283, 0, none⟩ = some (.string (⟨#[]⟩ : ByteArray)) := (blk_cell BK283.out 0).trans rfl; have hcz93_1 : w89.cell? ⟨gb283, 1, none⟩ = some (.int .i64 0) := (blk_cell BK283.out 1).trans rfl; have hcz93_2 : w89.cell? ⟨gb283, 2, none⟩ = some (.bool false) := (blk_cell BK283.out 2).trans rfl; have hcz93_3 : w89.cell? ⟨gb283, 3, none⟩ = some (.string (⟨#[]⟩ : ByteArray)) := (blk_cell BK283.out 3).trans rfl; have hfz93_0 := blk_frozen BK283.out 0; have hfz93_1 := blk_frozen BK283.out 1; have hfz93_2 := blk_frozen BK283.out 2; have hfz93_3 := blk_frozen BK283.out 3) | ((with_reducible refine gate_callee (f := 12) rfl ?_); refine goesL_ (some 67) rfl rfl Try.func12 (by kernel_rfl) rfl #[.string a5] rfl (by (try simp only [List.map_toArray, List.map_cons, List.map_nil]); first | done | rfl | (simp only [List.length_drop, List.length_take]; rfl)) ?_; (with_reducible refine (ravelinref6_Read.calls kj9 a5 t284 t285 t286 t287 t288 t289 _ A66.out).mono ?_); rintro e w94 ⟨rfl, hb⟩; refine ⟨_, rfl, ?_⟩; have n0_ := Aside0.mk (blk_below (g := gb268) (o := .cells #[.string a0_0, .int .i64 a0_1, .bool a0_2, .string a0_3] 23 (0, 0)) (by (with_reducible repeat (first | refine blk_drewN ?_ _ | refine blk_drew ?_ | refine blk_alloc ?_ _)); refine blk_far ?_ NB268_283.out _; (with_reducible repeat (first | refine blk_drewN ?_ _ | refine blk_drew ?_ | refine blk_alloc ?_ _)); refine blk_far ?_ NB268_283.out _; (with_reducible repeat (first | refine blk_drewN ?_ _ | refine blk_drew ?_ | refine blk_alloc ?_ _)); refine blk_far ?_ NB268_283.out _; (with_reducible repeat (first | refine blk_drewN ?_ _ | refine blk_drew ?_ | refine blk_alloc ?_ _)); refine blk_far ?_ NB268_283.out _; (with_reducible repeat (first | refine blk_drewN ?_ _ | refine blk_drew ?_ | refine blk_alloc ?_ _)); exact BK268.out) hb); have n1_ := Aside0.mk (blk_below (g := gb269) (o := .cells #[.string a1_0, .int .i64 a1_1, .bool a1_2, .string a1_3] 23 (0, 0)) (by (with_reducible repeat (first | refine blk_drewN ?_ _ | refine blk_drew ?_ | refine blk_alloc ?_ _)); refine blk_far ?_ NB269_283.out _; (with_reducible repeat (first | refine blk_drewN ?_ _ | refine blk_drew ?_ | refine blk_alloc ?_ _)); refine blk_far ?_ NB269_283.out _; (with_reducible repeat (first | refine blk_drewN ?_ _ | refine blk_drew ?_ | refine blk_alloc ?_ _)); refine blk_far ?_ NB269_283.out _; (with_reducible repeat (first | refine blk_drewN ?_ _ | refine blk_drew ?_ | refine blk_alloc ?_ _)); refine blk_far ?_ NB269_283.out _; (with_reducible repeat (first | refine blk_drewN ?_ _ | refine blk_drew ?_ | refine blk_alloc ?_ _)); exact BK269.out) hb); have n2_ := Aside0.mk (blk_below (g := gb270) (o := .cells #[.string a6_0, .bool a6_1, .string a6_2] 26 (0, 0)) (by (with_reducible repeat (first | refine blk_drewN ?_ _ | refine blk_drew ?_ | refine blk_alloc ?_ _)); refine blk_far ?_ NB270_283.out _; (with_reducible repeat (first | refine blk_drewN ?_ _ | refine blk_drew ?_ | refine blk_alloc ?_ _)); refine blk_far ?_ NB270_283.out _; (with_reducible repeat (first | refine blk_drewN ?_ _ | refine blk_drew ?_ | refine blk_alloc ?_ _)); refine blk_far ?_ NB270_283.out _; (with_reducible repeat (first | refine blk_drewN ?_ _ | refine blk_drew ?_ | refine blk_alloc ?_ _)); refine blk_far ?_ NB270_283.out _; (with_reducible repeat (first | refine blk_drewN ?_ _ | refine blk_drew ?_ | refine blk_alloc ?_ _)); exact BK270.out) hb); have n3_ := Aside0.mk (blk_below (g := gb283) (o := .cells #[.string t277, .int .i64 t278, .bool t279, .string t280] 23 (0, 0)) (by (with_reducible repeat (first | refine blk_drewN ?_ _ | refine blk_drew ?_ | refine blk_alloc ?_ _)); refine blk_put (cs := #[.string t277, .int .i64 t278, .bool t279, .string (⟨#[]⟩ : ByteArray)]) ?_ 3 _ rfl; (with_reducible repeat (first | refine blk_drewN ?_ _ | refine blk_drew ?_ | refine blk_alloc ?_ _)); refine blk_put (cs := #[.string t277, .int .i64 t278, .bool false, .string (⟨#[]⟩ : ByteArray)]) ?_ 2 _ rfl; (with_reducible repeat (first | refine blk_drewN ?_ _ | refine blk_drew ?_ | refine blk_alloc ?_ _)); refine blk_put (cs := #[.string t277, .int .i64 0, .bool false, .string (⟨#[]⟩ : ByteArray)]) ?_ 1 _ rfl; (with_reducible repeat (first | refine blk_drewN ?_ _ | refine blk_drew ?_ | refine blk_alloc ?_ _)); refine blk_put (cs := #[.string (⟨#[]⟩ : ByteArray), .int .i64 0, .bool false, .string (⟨#[]⟩ : ByteArray)]) ?_ 0 _ rfl; (with_reducible repeat (first | refine blk_drewN ?_ _ | refine blk_drew ?_ | refine blk_alloc ?_ _)); exact BK283.out) hb); have n4_ := Aside0.mk (below_step (by repeat (first | (with_reducible first | exact HB.out | apply below_alloc | apply pw_below_drewN | apply below_drew1 | refine below_set ?_ GE268.out | refine below_set ?_ GE269.out | refine below_set ?_ GE270.out | refine below_set ?_ GE283.out) | exact HB.out)) hb); clear BK268; clear BK269; clear BK270; clear BK283; clear HB; have BK268 := n0_; have BK269 := n1_; have BK270 := n2_; have BK283 := n3_; have HB := n4_; clear n0_ n1_ n2_ n3_ n4_; (try clear hb); (try clear hb2); (try clear hk); (try clear hi)) | ((with_reducible refine gate_dst (N := 18) rfl ?_); (try (refine gate_guard (by rfl) ?_; dsimp only)); refine box_event ?hg (N := 18) ?hd (cs := #[.string (⟨#[]⟩ : ByteArray), .int .i64 0, .bool false, .string (⟨#[]⟩ : ByteArray)]) (t := 23) ?hr ?_; (case hd => rfl); (case hg => rfl); (case hr => first | (go_simp; done) | (go_simp; rfl)); intro gb290 hg w95 hbox hb; have n0_ := Aside0.mk (blk_below (g := gb268) (o := .cells #[.string a0_0, .int .i64 a0_1, .bool a0_2, .string a0_3] 23 (0, 0)) (by (with_reducible repeat (first | refine blk_drewN ?_ _ | refine blk_drew ?_ | refine blk_alloc ?_ _)); exact BK268.out) hb); have n1_ := Aside0.mk (blk_below (g := gb269) (o := .cells #[.string a1_0, .int .i64 a1_1, .bool a1_2, .string a1_3] 23 (0, 0)) (by (with_reducible repeat (first | refine blk_drewN ?_ _ | refine blk_drew ?_ | refine blk_alloc ?_ _)); exact BK269.out) hb); have n2_ := Aside0.mk (blk_below (g := gb270) (o := .cells #[.string a6_0, .bool a6_1, .string a6_2] 26 (0, 0)) (by (with_reducible repeat (first | refine blk_drewN ?_ _ | refine blk_drew ?_ | refine blk_alloc ?_ _)); exact BK270.out) hb); have n3_ := Aside0.mk (blk_below (g := gb283) (o := .cells #[.string t277, .int .i64 t278, .bool t279, .string t280] 23 (0, 0)) (by (with_reducible repeat (first | refine blk_drewN ?_ _ | refine blk_drew ?_ | refine blk_alloc ?_ _)); exact BK283.out) hb); have n4_ := Aside0.mk (below_step (by repeat (first | (with_reducible first | exact HB.out | apply below_alloc | apply pw_below_drewN | apply below_drew1 | refine below_set ?_ GE268.out | refine below_set ?_ GE269.out | refine below_set ?_ GE270.out | refine below_set ?_ GE283.out) | exact HB.out)) hb); have n5_ := Aside0.mk (hbox); have n6_ := Aside0.mk ((by rw [hg]; exact (below_size (by repeat (first | (with_reducible first | exact HB.out | apply below_alloc | apply pw_below_drewN | apply below_drew1 | refine below_set ?_ GE268.out | refine below_set ?_ GE269.out | refine below_set ?_ GE270.out | refine below_set ?_ GE283.out) | exact HB.out))) : w.heap.size ≤ gb290)); have n7_ := Aside0.mk ((by rw [hg]; exact (below_size (by repeat (first | (with_reducible first | exact HB.out | apply below_alloc | apply pw_below_drewN | apply below_drew1 | refine below_set ?_ GE268.out | refine below_set ?_ GE269.out | refine below_set ?_ GE270.out | refine below_set ?_ GE283.out) | exact HB.out))) : w.heap.size ≤ gb290)); have n8_ := Aside0.mk ((by rw [hg]; exact Nat.ne_of_lt (blk_lt (g := gb268) (o := .cells #[.string a0_0, .int .i64 a0_1, .bool a0_2, .string a0_3] 23 (0, 0)) (by (with_reducible repeat (first | refine blk_drewN ?_ _ | refine blk_drew ?_ | refine blk_alloc ?_ _)); exact BK268.out)) : gb268 ≠ gb290)); have n9_ := Aside0.mk ((by rw [hg]; exact Nat.ne_of_gt (blk_lt (g := gb268) (o := .cells #[.string a0_0, .int .i64 a0_1, .bool a0_2, .string a0_3] 23 (0, 0)) (by (with_reducible repeat (first | refine blk_drewN ?_ _ | refine blk_drew ?_ | refine blk_alloc ?_ _)); exact BK268.out)) : gb290 ≠ gb268)); have n10_ := Aside0.mk ((by rw [hg]; exact Nat.ne_of_lt (blk_lt (g := gb269) (o := .cells #[.string a1_0, .int .i64 a1_1, .bool a1_2, .string a1_3] 23 (0, 0)) (by (with_reducible repeat (first | refine blk_drewN ?_ _ | refine blk_drew ?_ | refine blk_alloc ?_ _)); exact BK269.out)) : gb269 ≠ gb290)); have n11_ := Aside0.mk ((by rw [hg]; exact Nat.ne_of_gt (blk_lt (g := gb269) (o := .cells #[.string a1_0, .int .i64 a1_1, .bool a1_2, .string a1_3] 23 (0, 0)) (by (with_reducible repeat (first | refine blk_drewN ?_ _ | refine blk_drew ?_ | refine blk_alloc ?_ _)); exact BK269.out)) : gb290 ≠ gb269)); have n12_ := Aside0.mk ((by rw [hg]; exact Nat.ne_of_lt (blk_lt (g := gb270) (o := .cells #[.string a6_0, .bool a6_1, .string a6_2] 26 (0, 0)) (by (with_reducible repeat (first | refine blk_drewN ?_ _ | refine blk_drew ?_ | refine blk_alloc ?_ _)); exact BK270.out)) : gb270 ≠ gb290)); have n13_ := Aside0.mk ((by rw [hg]; exact Nat.ne_of_gt (blk_lt (g := gb270) (o := .cells #[.string a6_0, .bool a6_1, .string a6_2] 26 (0, 0)) (by (with_reducible repeat (first | refine blk_drewN ?_ _ | refine blk_drew ?_ | refine blk_alloc ?_ _)); exact BK270.out)) : gb290 ≠ gb270)); have n14_ := Aside0.mk ((by rw [hg]; exact Nat.ne_of_lt (blk_lt (g := gb283) (o := .cells #[.string t277, .int .i64 t278, .bool t279, .string t280] 23 (0, 0)) (by (with_reducible repeat (first | refine blk_drewN ?_ _ | refine blk_drew ?_ | refine blk_alloc ?_ _)); exact BK283.out)) : gb283 ≠ gb290)); have n15_ := Aside0.mk ((by rw [hg]; exact Nat.ne_of_gt (blk_lt (g := gb283) (o := .cells #[.string t277, .int .i64 t278, .bool t279, .string t280] 23 (0, 0)) (by (with_reducible repeat (first | refine blk_drewN ?_ _ | refine blk_drew ?_ | refine blk_alloc ?_ _)); exact BK283.out)) : gb290 ≠ gb283)); clear BK268; clear BK269; clear BK270; clear BK283; clear HB; have BK268 := n0_; have BK269 := n1_; have BK270 := n2_; have BK283 := n3_; have HB := n4_; have BK290 := n5_; have GW290 := n6_; have GE290 := n7_; have NB268_290 := n8_; have NB290_268 := n9_; have NB269_290 := n10_; have NB290_269 := n11_; have NB270_290 := n12_; have NB290_270 := n13_; have NB283_290 := n14_; have NB290_283 := n15_; clear n0_ n1_ n2_ n3_ n4_ n5_ n6_ n7_ n8_ n9_ n10_ n11_ n12_ n13_ n14_ n15_; clear hb hbox hg; have hnb96 := NB290_268.out; have hnc96 := NB268_290.out; have hnb97 := NB290_269.out; have hnc97 := NB269_290.out; have hnb98 := NB290_270.out; have hnc98 := NB270_290.out; have hnb99 := NB290_283.out; have hnc99 := NB283_290.out; have hcz100_0 : w95.cell? ⟨gb290, 0, none⟩ = some (.string (⟨#[]⟩ : ByteArray)) := (blk_cell BK290.out 0).trans rfl; have hcz100_1 : w95.cell? ⟨gb290, 1, none⟩ = some (.int .i64 0) := (blk_cell BK290.out 1).trans rfl; have hcz100_2 : w95.cell? ⟨gb290, 2, none⟩ = some (.bool false) := (blk_cell BK290.out 2).trans rfl; have hcz100_3 : w95.cell? ⟨gb290, 3, none⟩ = some (.string (⟨#[]⟩ : ByteArray)) := (blk_cell BK290.out 3).trans rfl; have hfz100_0 := blk_frozen BK290.out 0; have hfz100_1 := blk_frozen BK290.out 1; have hfz100_2 := blk_frozen BK290.out 2; have hfz100_3 := blk_frozen BK290.out 3) | ((with_reducible refine gate_callee (f := 13) rfl ?_); refine goesL_ (some 75) rfl rfl Try.func13 (by kernel_rfl) rfl #[.slice A2 l2.length c2, .string a3, .int .i64 a4] rfl (by (try simp only [List.map_toArray, List.map_cons, List.map_nil]); first | done | rfl | (simp only [List.length_drop, List.length_take]; rfl)) ?_; (with_reducible refine (entry_Newest.calls kj9 _ _ l2 a3 a4 t291 t292 t293 t294 t295 _ ?side1 ?side2 A67.out).mono ?_); (case side1 => exact Kd.C_below HR2.out (by repeat (first | (with_reducible first | exact HB.out | apply below_alloc | apply pw_below_drewN | apply below_drew1 | refine below_set ?_ GE268.out | refine below_set ?_ GE269.out | refine below_set ?_ GE270.out | refine below_set ?_ GE283.out | refine below_set ?_ GE290.out) | exact HB.out))); (case side2 => exact HC2.out); rintro e w101 ⟨rfl, hb⟩; refine ⟨_, rfl, ?_⟩; have n0_ := Aside0.mk (blk_below (g := gb268) (o := .cells #[.string a0_0, .int .i64 a0_1, .bool a0_2, .string a0_3] 23 (0, 0)) (by (with_reducible repeat (first | refine blk_drewN ?_ _ | refine blk_drew ?_ | refine blk_alloc ?_ _)); refine blk_far ?_ NB268_290.out _; (with_reducible repeat (first | refine blk_drewN ?_ _ | refine blk_drew ?_ | refine blk_alloc ?_ _)); refine blk_far ?_ NB268_290.out _; (with_reducible repeat (first | refine blk_drewN ?_ _ | refine blk_drew ?_ | refine blk_alloc ?_ _)); refine blk_far ?_ NB268_290.out _; (with_reducible repeat (first | refine blk_drewN ?_ _ | refine blk_drew ?_ | refine blk_alloc ?_ _)); refine blk_far ?_ NB268_290.out _; (with_reducible repeat (first | refine blk_drewN ?_ _ | refine blk_drew ?_ | refine blk_alloc ?_ _)); exact BK268.out) hb); have n1_ := Aside0.mk (blk_below (g := gb269) (o := .cells #[.string a1_0, .int .i64 a1_1, .bool a1_2, .string a1_3] 23 (0, 0)) (by (with_reducible repeat (first | refine blk_drewN ?_ _ | refine blk_drew ?_ | refine blk_alloc ?_ _)); refine blk_far ?_ NB269_290.out _; (with_reducible repeat (first | refine blk_drewN ?_ _ | refine blk_drew ?_ | refine blk_alloc ?_ _)); refine blk_far ?_ NB269_290.out _; (with_reducible repeat (first | refine blk_drewN ?_ _ | refine blk_drew ?_ | refine blk_alloc ?_ _)); refine blk_far ?_ NB269_290.out _; (with_reducible repeat (first | refine blk_drewN ?_ _ | refine blk_drew ?_ | refine blk_alloc ?_ _)); refine blk_far ?_ NB269_290.out _; (with_reducible repeat (first | refine blk_drewN ?_ _ | refine blk_drew ?_ | refine blk_alloc ?_ _)); exact BK269.out) hb); have n2_ := Aside0.mk (blk_below (g := gb270) (o := .cells #[.string a6_0, .bool a6_1, .string a6_2] 26 (0, 0)) (by (with_reducible repeat (first | refine blk_drewN ?_ _ | refine blk_drew ?_ | refine blk_alloc ?_ _)); refine blk_far ?_ NB270_290.out _; (with_reducible repeat (first | refine blk_drewN ?_ _ | refine blk_drew ?_ | refine blk_alloc ?_ _)); refine blk_far ?_ NB270_290.out _; (with_reducible repeat (first | refine blk_drewN ?_ _ | refine blk_drew ?_ | refine blk_alloc ?_ _)); refine blk_far ?_ NB270_290.out _; (with_reducible repeat (first | refine blk_drewN ?_ _ | refine blk_drew ?_ | refine blk_alloc ?_ _)); refine blk_far ?_ NB270_290.out _; (with_reducible repeat (first | refine blk_drewN ?_ _ | refine blk_drew ?_ | refine blk_alloc ?_ _)); exact BK270.out) hb); have n3_ := Aside0.mk (blk_below (g := gb283) (o := .cells #[.string t277, .int .i64 t278, .bool t279, .string t280] 23 (0, 0)) (by (with_reducible repeat (first | refine blk_drewN ?_ _ | refine blk_drew ?_ | refine blk_alloc ?_ _)); refine blk_far ?_ NB283_290.out _; (with_reducible repeat (first | refine blk_drewN ?_ _ | refine blk_drew ?_ | refine blk_alloc ?_ _)); refine blk_far ?_ NB283_290.out _; (with_reducible repeat (first | refine blk_drewN ?_ _ | refine blk_drew ?_ | refine blk_alloc ?_ _)); refine blk_far ?_ NB283_290.out _; (with_reducible repeat (first | refine blk_drewN ?_ _ | refine blk_drew ?_ | refine blk_alloc ?_ _)); refine blk_far ?_ NB283_290.out _; (with_reducible repeat (first | refine blk_drewN ?_ _ | refine blk_drew ?_ | refine blk_alloc ?_ _)); exact BK283.out) hb); have n4_ := Aside0.mk (blk_below (g := gb290) (o := .cells #[.string t284, .int .i64 t285, .bool t286, .string t287] 23 (0, 0)) (by (with_reducible repeat (first | refine blk_drewN ?_ _ | refine blk_drew ?_ | refine blk_alloc ?_ _)); refine blk_put (cs := #[.string t284, .int .i64 t285, .bool t286, .string (⟨#[]⟩ : ByteArray)]) ?_ 3 _ rfl; (with_reducible repeat (first | refine blk_drewN ?_ _ | refine blk_drew ?_ | refine blk_alloc ?_ _)); refine blk_put (cs := #[.string t284, .int .i64 t285, .bool false, .string (⟨#[]⟩ : ByteArray)]) ?_ 2 _ rfl; (with_reducible repeat (first | refine blk_drewN ?_ _ | refine blk_drew ?_ | refine blk_alloc ?_ _)); refine blk_put (cs := #[.string t284, .int .i64 0, .bool false, .string (⟨#[]⟩ : ByteArray)]) ?_ 1 _ rfl; (with_reducible repeat (first | refine blk_drewN ?_ _ | refine blk_drew ?_ | refine blk_alloc ?_ _)); refine blk_put (cs := #[.string (⟨#[]⟩ : ByteArray), .int .i64 0, .bool false, .string (⟨#[]⟩ : ByteArray)]) ?_ 0 _ rfl; (with_reducible repeat (first | refine blk_drewN ?_ _ | refine blk_drew ?_ | refine blk_alloc ?_ _)); exact BK290.out) hb); have n5_ := Aside0.mk (below_step (by repeat (first | (with_reducible first | exact HB.out | apply below_alloc | apply pw_below_drewN | apply below_drew1 | refine below_set ?_ GE268.out | refine below_set ?_ GE269.out | refine below_set ?_ GE270.out | refine below_set ?_ GE283.out | refine below_set ?_ GE290.out) | exact HB.out)) hb); clear BK268; clear BK269; clear BK270; clear BK283; clear BK290; clear HB; have BK268 := n0_; have BK269 := n1_; have BK270 := n2_; have BK283 := n3_; have BK290 := n4_; have HB := n5_; clear n0_ n1_ n2_ n3_ n4_ n5_; (try clear hb); (try clear hb2); (try clear hk); (try clear hi)) | ((with_reducible refine gate_dst (N := 21) rfl ?_); (try (refine gate_guard (by rfl) ?_; dsimp only)); refine box_event ?hg (N := 21) ?hd (cs := #[.string (⟨#[]⟩ : ByteArray), .int .i64 0, .bool false, .string (⟨#[]⟩ : ByteArray)]) (t := 23) ?hr ?_; (case hd => rfl); (case hg => rfl); (case hr => first | (go_simp; done) | (go_simp; rfl)); intro gb296 hg w102 hbox hb; have n0_ := Aside0.mk (blk_below (g := gb268) (o := .cells #[.string a0_0, .int .i64 a0_1, .bool a0_2, .string a0_3] 23 (0, 0)) (by (with_reducible repeat (first | refine blk_drewN ?_ _ | refine blk_drew ?_ | refine blk_alloc ?_ _)); exact BK268.out) hb); have n1_ := Aside0.mk (blk_below (g := gb269) (o := .cells #[.string a1_0, .int .i64 a1_1, .bool a1_2, .string a1_3] 23 (0, 0)) (by (with_reducible repeat (first | refine blk_drewN ?_ _ | refine blk_drew ?_ | refine blk_alloc ?_ _)); exact BK269.out) hb); have n2_ := Aside0.mk (blk_below (g := gb270) (o := .cells #[.string a6_0, .bool a6_1, .string a6_2] 26 (0, 0)) (by (with_reducible repeat (first | refine blk_drewN ?_ _ | refine blk_drew ?_ | refine blk_alloc ?_ _)); exact BK270.out) hb); have n3_ := Aside0.mk (blk_below (g := gb283) (o := .cells #[.string t277, .int .i64 t278, .bool t279, .string t280] 23 (0, 0)) (by (with_reducible repeat (first | refine blk_drewN ?_ _ | refine blk_drew ?_ | refine blk_alloc ?_ _)); exact BK283.out) hb); have n4_ := Aside0.mk (blk_below (g := gb290) (o := .cells #[.string t284, .int .i64 t285, .bool t286, .string t287] 23 (0, 0)) (by (with_reducible repeat (first | refine blk_drewN ?_ _ | refine blk_drew ?_ | refine blk_alloc ?_ _)); exact BK290.out) hb); have n5_ := Aside0.mk (below_step (by repeat (first | (with_reducible first | exact HB.out | apply below_alloc | apply pw_below_drewN | apply below_drew1 | refine below_set ?_ GE268.out | refine below_set ?_ GE269.out | refine below_set ?_ GE270.out | refine below_set ?_ GE283.out | refine below_set ?_ GE290.out) | exact HB.out)) hb); have n6_ := Aside0.mk (hbox); have n7_ := Aside0.mk ((by rw [hg]; exact (below_size (by repeat (first | (with_reducible first | exact HB.out | apply below_alloc | apply pw_below_drewN | apply below_drew1 | refine below_set ?_ GE268.out | refine below_set ?_ GE269.out | refine below_set ?_ GE270.out | refine below_set ?_ GE283.out | refine below_set ?_ GE290.out) | exact HB.out))) : w.heap.size ≤ gb296)); have n8_ := Aside0.mk ((by rw [hg]; exact (below_size (by repeat (first | (with_reducible first | exact HB.out | apply below_alloc | apply pw_below_drewN | apply below_drew1 | refine below_set ?_ GE268.out | refine below_set ?_ GE269.out | refine below_set ?_ GE270.out | refine below_set ?_ GE283.out | refine below_set ?_ GE290.out) | exact HB.out))) : w.heap.size ≤ gb296)); have n9_ := Aside0.mk ((by rw [hg]; exact Nat.ne_of_lt (blk_lt (g := gb268) (o := .cells #[.string a0_0, .int .i64 a0_1, .bool a0_2, .string a0_3] 23 (0, 0)) (by (with_reducible repeat (first | refine blk_drewN ?_ _ | refine blk_drew ?_ | refine blk_alloc ?_ _)); exact BK268.out)) : gb268 ≠ gb296)); have n10_ := Aside0.mk ((by rw [hg]; exact Nat.ne_of_gt (blk_lt (g := gb268) (o := .cells #[.string a0_0, .int .i64 a0_1, .bool a0_2, .string a0_3] 23 (0, 0)) (by (with_reducible repeat (first | refine blk_drewN ?_ _ | refine blk_drew ?_ | refine blk_alloc ?_ _)); exact BK268.out)) : gb296 ≠ gb268)); have n11_ := Aside0.mk ((by rw [hg]; exact Nat.ne_of_lt (blk_lt (g := gb269) (o := .cells #[.string a1_0, .int .i64 a1_1, .bool a1_2, .string a1_3] 23 (0, 0)) (by (with_reducible repeat (first | refine blk_drewN ?_ _ | refine blk_drew ?_ | refine blk_alloc ?_ _)); exact BK269.out)) : gb269 ≠ gb296)); have n12_ := Aside0.mk ((by rw [hg]; exact Nat.ne_of_gt (blk_lt (g := gb269) (o := .cells #[.string a1_0, .int .i64 a1_1, .bool a1_2, .string a1_3] 23 (0, 0)) (by (with_reducible repeat (first | refine blk_drewN ?_ _ | refine blk_drew ?_ | refine blk_alloc ?_ _)); exact BK269.out)) : gb296 ≠ gb269)); have n13_ := Aside0.mk ((by rw [hg]; exact Nat.ne_of_lt (blk_lt (g := gb270) (o := .cells #[.string a6_0, .bool a6_1, .string a6_2] 26 (0, 0)) (by (with_reducible repeat (first | refine blk_drewN ?_ _ | refine blk_drew ?_ | refine blk_alloc ?_ _)); exact BK270.out)) : gb270 ≠ gb296)); have n14_ := Aside0.mk ((by rw [hg]; exact Nat.ne_of_gt (blk_lt (g := gb270) (o := .cells #[.string a6_0, .bool a6_1, .string a6_2] 26 (0, 0)) (by (with_reducible repeat (first | refine blk_drewN ?_ _ | refine blk_drew ?_ | refine blk_alloc ?_ _)); exact BK270.out)) : gb296 ≠ gb270)); have n15_ := Aside0.mk ((by rw [hg]; exact Nat.ne_of_lt (blk_lt (g := gb283) (o := .cells #[.string t277, .int .i64 t278, .bool t279, .string t280] 23 (0, 0)) (by (with_reducible repeat (first | refine blk_drewN ?_ _ | refine blk_drew ?_ | refine blk_alloc ?_ _)); exact BK283.out)) : gb283 ≠ gb296)); have n16_ := Aside0.mk ((by rw [hg]; exact Nat.ne_of_gt (blk_lt (g := gb283) (o := .cells #[.string t277, .int .i64 t278, .bool t279, .string t280] 23 (0, 0)) (by (with_reducible repeat (first | refine blk_drewN ?_ _ | refine blk_drew ?_ | refine blk_alloc ?_ _)); exact BK283.out)) : gb296 ≠ gb283)); have n17_ := Aside0.mk ((by rw [hg]; exact Nat.ne_of_lt (blk_lt (g := gb290) (o := .cells #[.string t284, .int .i64 t285, .bool t286, .string t287] 23 (0, 0)) (by (with_reducible repeat (first | refine blk_drewN ?_ _ | refine blk_drew ?_ | refine blk_alloc ?_ _)); exact BK290.out)) : gb290 ≠ gb296)); have n18_ := Aside0.mk ((by rw [hg]; exact Nat.ne_of_gt (blk_lt (g := gb290) (o := .cells #[.string t284, .int .i64 t285, .bool t286, .string t287] 23 (0, 0)) (by (with_reducible repeat (first | refine blk_drewN ?_ _ | refine blk_drew ?_ | refine blk_alloc ?_ _)); exact BK290.out)) : gb296 ≠ gb290)); clear BK268; clear BK269; clear BK270; clear BK283; clear BK290; clear HB; have BK268 := n0_; have BK269 := n1_; have BK270 := n2_; have BK283 := n3_; have BK290 := n4_; have HB := n5_; have BK296 := n6_; have GW296 := n7_; have GE296 := n8_; have NB268_296 := n9_; have NB296_268 := n10_; have NB269_296 := n11_; have NB296_269 := n12_; have NB270_296 := n13_; have NB296_270 := n14_; have NB283_296 := n15_; have NB296_283 := n16_; have NB290_296 := n17_; have NB296_290 := n18_; clear n0_ n1_ n2_ n3_ n4_ n5_ n6_ n7_ n8_ n9_ n10_ n11_ n12_ n13_ n14_ n15_ n16_ n17_ n18_; clear hb hbox hg; have hnb103 := NB296_268.out; have hnc103 := NB268_296.out; have hnb104 := NB296_269.out; have hnc104 := NB269_296.out; have hnb105 := NB296_270.out; have hnc105 := NB270_296.out; have hnb106 := NB296_283.out; have hnc106 := NB283_296.out; have hnb107 := NB296_290.out; have hnc107 := NB290_296.out; have hcz108_0 : w102.cell? ⟨gb296, 0, none⟩ = some (.string (⟨#[]⟩ : ByteArray)) := (blk_cell BK296.out 0).trans rfl; have hcz108_1 : w102.cell? ⟨gb296, 1, none⟩ = some (.int .i64 0) := (blk_cell BK296.out 1).trans rfl; have hcz108_2 : w102.cell? ⟨gb296, 2, none⟩ = some (.bool false) := (blk_cell BK296.out 2).trans rfl; have hcz108_3 : w102.cell? ⟨gb296, 3, none⟩ = some (.string (⟨#[]⟩ : ByteArray)) := (blk_cell BK296.out 3).trans rfl; have hfz108_0 := blk_frozen BK296.out 0; have hfz108_1 := blk_frozen BK296.out 1; have hfz108_2 := blk_frozen BK296.out 2; have hfz108_3 := blk_frozen BK296.out 3) | ((with_reducible refine gate_callee (f := 14) rfl ?_); refine goesL_ (some 82) rfl rfl Try.func14 (by kernel_rfl) rfl #[.slice A2 l2.length c2, .string a3, .int .i64 a4] rfl (by (try simp only [List.map_toArray, List.map_cons, List.map_nil]); first | done | rfl | (simp only [List.length_drop, List.length_take]; rfl)) ?_; (with_reducible refine (ravelinref6_Newest.calls kj9 _ _ l2 a3 a4 t297 t298 t299 t300 t301 _ ?side1 ?side2 A68.out).mono ?_); (case side1 => exact Kd.C_below HR2.out (by repeat (first | (with_reducible first | exact HB.out | apply below_alloc | apply pw_below_drewN | apply below_drew1 | refine below_set ?_ GE268.out | refine below_set ?_ GE269.out | refine below_set ?_ GE270.out | refine below_set ?_ GE283.out | refine below_set ?_ GE290.out | refine below_set ?_ GE296.out) | exact HB.out))); (case side2 => exact HC2.out); rintro e w109 ⟨rfl, hb⟩; refine ⟨_, rfl, ?_⟩; have n0_ := Aside0.mk (blk_below (g := gb268) (o := .cells #[.string a0_0, .int .i64 a0_1, .bool a0_2, .string a0_3] 23 (0, 0)) (by (with_reducible repeat (first | refine blk_drewN ?_ _ | refine blk_drew ?_ | refine blk_alloc ?_ _)); refine blk_far ?_ NB268_296.out _; (with_reducible repeat (first | refine blk_drewN ?_ _ | refine blk_drew ?_ | refine blk_alloc ?_ _)); refine blk_far ?_ NB268_296.out _; (with_reducible repeat (first | refine blk_drewN ?_ _ | refine blk_drew ?_ | refine blk_alloc ?_ _)); refine blk_far ?_ NB268_296.out _; (with_reducible repeat (first | refine blk_drewN ?_ _ | refine blk_drew ?_ | refine blk_alloc ?_ _)); refine blk_far ?_ NB268_296.out _; (with_reducible repeat (first | refine blk_drewN ?_ _ | refine blk_drew ?_ | refine blk_alloc ?_ _)); exact BK268.out) hb); have n1_ := Aside0.mk (blk_below (g := gb269) (o := .cells #[.string a1_0, .int .i64 a1_1, .bool a1_2, .string a1_3] 23 (0, 0)) (by (with_reducible repeat (first | refine blk_drewN ?_ _ | refine blk_drew ?_ | refine blk_alloc ?_ _)); refine blk_far ?_ NB269_296.out _; (with_reducible repeat (first | refine blk_drewN ?_ _ | refine blk_drew ?_ | refine blk_alloc ?_ _)); refine blk_far ?_ NB269_296.out _; (with_reducible repeat (first | refine blk_drewN ?_ _ | refine blk_drew ?_ | refine blk_alloc ?_ _)); refine blk_far ?_ NB269_296.out _; (with_reducible repeat (first | refine blk_drewN ?_ _ | refine blk_drew ?_ | refine blk_alloc ?_ _)); refine blk_far ?_ NB269_296.out _; (with_reducible repeat (first | refine blk_drewN ?_ _ | refine blk_drew ?_ | refine blk_alloc ?_ _)); exact BK269.out) hb); have n2_ := Aside0.mk (blk_below (g := gb270) (o := .cells #[.string a6_0, .bool a6_1, .string a6_2] 26 (0, 0)) (by (with_reducible repeat (first | refine blk_drewN ?_ _ | refine blk_drew ?_ | refine blk_alloc ?_ _)); refine blk_far ?_ NB270_296.out _; (with_reducible repeat (first | refine blk_drewN ?_ _ | refine blk_drew ?_ | refine blk_alloc ?_ _)); refine blk_far ?_ NB270_296.out _; (with_reducible repeat (first | refine blk_drewN ?_ _ | refine blk_drew ?_ | refine blk_alloc ?_ _)); refine blk_far ?_ NB270_296.out _; (with_reducible repeat (first | refine blk_drewN ?_ _ | refine blk_drew ?_ | refine blk_alloc ?_ _)); refine blk_far ?_ NB270_296.out _; (with_reducible repeat (first | refine blk_drewN ?_ _ | refine blk_drew ?_ | refine blk_alloc ?_ _)); exact BK270.out) hb); have n3_ := Aside0.mk (blk_below (g := gb283) (o := .cells #[.string t277, .int .i64 t278, .bool t279, .string t280] 23 (0, 0)) (by (with_reducible repeat (first | refine blk_drewN ?_ _ | refine blk_drew ?_ | refine blk_alloc ?_ _)); refine blk_far ?_ NB283_296.out _; (with_reducible repeat (first | refine blk_drewN ?_ _ | refine blk_drew ?_ | refine blk_alloc ?_ _)); refine blk_far ?_ NB283_296.out _; (with_reducible repeat (first | refine blk_drewN ?_ _ | refine blk_drew ?_ | refine blk_alloc ?_ _)); refine blk_far ?_ NB283_296.out _; (with_reducible repeat (first | refine blk_drewN ?_ _ | refine blk_drew ?_ | refine blk_alloc ?_ _)); refine blk_far ?_ NB283_296.out _; (with_reducible repeat (first | refine blk_drewN ?_ _ | refine blk_drew ?_ | refine blk_alloc ?_ _)); exact BK283.out) hb); have n4_ := Aside0.mk (blk_below (g := gb290) (o := .cells #[.string t284, .int .i64 t285, .bool t286, .string t287] 23 (0, 0)) (by (with_reducible repeat (first | refine blk_drewN ?_ _ | refine blk_drew ?_ | refine blk_alloc ?_ _)); refine blk_far ?_ NB290_296.out _; (with_reducible repeat (first | refine blk_drewN ?_ _ | refine blk_drew ?_ | refine blk_alloc ?_ _)); refine blk_far ?_ NB290_296.out _; (with_reducible repeat (first | refine blk_drewN ?_ _ | refine blk_drew ?_ | refine blk_alloc ?_ _)); refine blk_far ?_ NB290_296.out _; (with_reducible repeat (first | refine blk_drewN ?_ _ | refine blk_drew ?_ | refine blk_alloc ?_ _)); refine blk_far ?_ NB290_296.out _; (with_reducible repeat (first | refine blk_drewN ?_ _ | refine blk_drew ?_ | refine blk_alloc ?_ _)); exact BK290.out) hb); have n5_ := Aside0.mk (blk_below (g := gb296) (o := .cells #[.string t291, .int .i64 t292, .bool t293, .string t294] 23 (0, 0)) (by (with_reducible repeat (first | refine blk_drewN ?_ _ | refine blk_drew ?_ | refine blk_alloc ?_ _)); refine blk_put (cs := #[.string t291, .int .i64 t292, .bool t293, .string (⟨#[]⟩ : ByteArray)]) ?_ 3 _ rfl; (with_reducible repeat (first | refine blk_drewN ?_ _ | refine blk_drew ?_ | refine blk_alloc ?_ _)); refine blk_put (cs := #[.string t291, .int .i64 t292, .bool false, .string (⟨#[]⟩ : ByteArray)]) ?_ 2 _ rfl; (with_reducible repeat (first | refine blk_drewN ?_ _ | refine blk_drew ?_ | refine blk_alloc ?_ _)); refine blk_put (cs := #[.string t291, .int .i64 0, .bool false, .string (⟨#[]⟩ : ByteArray)]) ?_ 1 _ rfl; (with_reducible repeat (first | refine blk_drewN ?_ _ | refine blk_drew ?_ | refine blk_alloc ?_ _)); refine blk_put (cs := #[.string (⟨#[]⟩ : ByteArray), .int .i64 0, .bool false, .string (⟨#[]⟩ : ByteArray)]) ?_ 0 _ rfl; (with_reducible repeat (first | refine blk_drewN ?_ _ | refine blk_drew ?_ | refine blk_alloc ?_ _)); exact BK296.out) hb); have n6_ := Aside0.mk (below_step (by repeat (first | (with_reducible first | exact HB.out | apply below_alloc | apply pw_below_drewN | apply below_drew1 | refine below_set ?_ GE268.out | refine below_set ?_ GE269.out | refine below_set ?_ GE270.out | refine below_set ?_ GE283.out | refine below_set ?_ GE290.out | refine below_set ?_ GE296.out) | exact HB.out)) hb); clear BK268; clear BK269; clear BK270; clear BK283; clear BK290; clear BK296; clear HB; have BK268 := n0_; have BK269 := n1_; have BK270 := n2_; have BK283 := n3_; have BK290 := n4_; have BK296 := n5_; have HB := n6_; clear n0_ n1_ n2_ n3_ n4_ n5_ n6_; (try clear hb); (try clear hb2); (try clear hk); (try clear hi)) | ((with_reducible refine gate_dst (N := 23) rfl ?_); (try (refine gate_guard (by rfl) ?_; dsimp only)); refine box_event ?hg (N := 23) ?hd (cs := #[.string (⟨#[]⟩ : ByteArray), .int .i64 0, .bool false, .string (⟨#[]⟩ : ByteArray)]) (t := 23) ?hr ?_; (case hd => rfl); (case hg => rfl); (case hr => first | (go_simp; done) | (go_simp; rfl)); intro gb302 hg w110 hbox hb; have n0_ := Aside0.mk (blk_below (g := gb268) (o := .cells #[.string a0_0, .int .i64 a0_1, .bool a0_2, .string a0_3] 23 (0, 0)) (by (with_reducible repeat (first | refine blk_drewN ?_ _ | refine blk_drew ?_ | refine blk_alloc ?_ _)); exact BK268.out) hb); have n1_ := Aside0.mk (blk_below (g := gb269) (o := .cells #[.string a1_0, .int .i64 a1_1, .bool a1_2, .string a1_3] 23 (0, 0)) (by (with_reducible repeat (first | refine blk_drewN ?_ _ | refine blk_drew ?_ | refine blk_alloc ?_ _)); exact BK269.out) hb); have n2_ := Aside0.mk (blk_below (g := gb270) (o := .cells #[.string a6_0, .bool a6_1, .string a6_2] 26 (0, 0)) (by (with_reducible repeat (first | refine blk_drewN ?_ _ | refine blk_drew ?_ | refine blk_alloc ?_ _)); exact BK270.out) hb); have n3_ := Aside0.mk (blk_below (g := gb283) (o := .cells #[.string t277, .int .i64 t278, .bool t279, .string t280] 23 (0, 0)) (by (with_reducible repeat (first | refine blk_drewN ?_ _ | refine blk_drew ?_ | refine blk_alloc ?_ _)); exact BK283.out) hb); have n4_ := Aside0.mk (blk_below (g := gb290) (o := .cells #[.string t284, .int .i64 t285, .bool t286, .string t287] 23 (0, 0)) (by (with_reducible repeat (first | refine blk_drewN ?_ _ | refine blk_drew ?_ | refine blk_alloc ?_ _)); exact BK290.out) hb); have n5_ := Aside0.mk (blk_below (g := gb296) (o := .cells #[.string t291, .int .i64 t292, .bool t293, .string t294] 23 (0, 0)) (by (with_reducible repeat (first | refine blk_drewN ?_ _ | refine blk_drew ?_ | refine blk_alloc ?_ _)); exact BK296.out) hb); have n6_ := Aside0.mk (below_step (by repeat (first | (with_reducible first | exact HB.out | apply below_alloc | apply pw_below_drewN | apply below_drew1 | refine below_set ?_ GE268.out | refine below_set ?_ GE269.out | refine below_set ?_ GE270.out | refine below_set ?_ GE283.out | refine below_set ?_ GE290.out | refine below_set ?_ GE296.out) | exact HB.out)) hb); have n7_ := Aside0.mk (hbox); have n8_ := Aside0.mk ((by rw [hg]; exact (below_size (by repeat (first | (with_reducible first | exact HB.out | apply below_alloc | apply pw_below_drewN | apply below_drew1 | refine below_set ?_ GE268.out | refine below_set ?_ GE269.out | refine below_set ?_ GE270.out | refine below_set ?_ GE283.out | refine below_set ?_ GE290.out | refine below_set ?_ GE296.out) | exact HB.out))) : w.heap.size ≤ gb302)); have n9_ := Aside0.mk ((by rw [hg]; exact (below_size (by repeat (first | (with_reducible first | exact HB.out | apply below_alloc | apply pw_below_drewN | apply below_drew1 | refine below_set ?_ GE268.out | refine below_set ?_ GE269.out | refine below_set ?_ GE270.out | refine below_set ?_ GE283.out | refine below_set ?_ GE290.out | refine below_set ?_ GE296.out) | exact HB.out))) : w.heap.size ≤ gb302)); have n10_ := Aside0.mk ((by rw [hg]; exact Nat.ne_of_lt (blk_lt (g := gb268) (o := .cells #[.string a0_0, .int .i64 a0_1, .bool a0_2, .string a0_3] 23 (0, 0)) (by (with_reducible repeat (first | refine blk_drewN ?_ _ | refine blk_drew ?_ | refine blk_alloc ?_ _)); exact BK268.out)) : gb268 ≠ gb302)); have n11_ := Aside0.mk ((by rw [hg]; exact Nat.ne_of_gt (blk_lt (g := gb268) (o := .cells #[.string a0_0, .int .i64 a0_1, .bool a0_2, .string a0_3] 23 (0, 0)) (by (with_reducible repeat (first | refine blk_drewN ?_ _ | refine blk_drew ?_ | refine blk_alloc ?_ _)); exact BK268.out)) : gb302 ≠ gb268)); have n12_ := Aside0.mk ((by rw [hg]; exact Nat.ne_of_lt (blk_lt (g := gb269) (o := .cells #[.string a1_0, .int .i64 a1_1, .bool a1_2, .string a1_3] 23 (0, 0)) (by (with_reducible repeat (first | refine blk_drewN ?_ _ | refine blk_drew ?_ | refine blk_alloc ?_ _)); exact BK269.out)) : gb269 ≠ gb302)); have n13_ := Aside0.mk ((by rw [hg]; exact Nat.ne_of_gt (blk_lt (g := gb269) (o := .cells #[.string a1_0, .int .i64 a1_1, .bool a1_2, .string a1_3] 23 (0, 0)) (by (with_reducible repeat (first | refine blk_drewN ?_ _ | refine blk_drew ?_ | refine blk_alloc ?_ _)); exact BK269.out)) : gb302 ≠ gb269)); have n14_ := Aside0.mk ((by rw [hg]; exact Nat.ne_of_lt (blk_lt (g := gb270) (o := .cells #[.string a6_0, .bool a6_1, .string a6_2] 26 (0, 0)) (by (with_reducible repeat (first | refine blk_drewN ?_ _ | refine blk_drew ?_ | refine blk_alloc ?_ _)); exact BK270.out)) : gb270 ≠ gb302)); have n15_ := Aside0.mk ((by rw [hg]; exact Nat.ne_of_gt (blk_lt (g := gb270) (o := .cells #[.string a6_0, .bool a6_1, .string a6_2] 26 (0, 0)) (by (with_reducible repeat (first | refine blk_drewN ?_ _ | refine blk_drew ?_ | refine blk_alloc ?_ _)); exact BK270.out)) : gb302 ≠ gb270)); have n16_ := Aside0.mk ((by rw [hg]; exact Nat.ne_of_lt (blk_lt (g := gb283) (o := .cells #[.string t277, .int .i64 t278, .bool t279, .string t280] 23 (0, 0)) (by (with_reducible repeat (first | refine blk_drewN ?_ _ | refine blk_drew ?_ | refine blk_alloc ?_ _)); exact BK283.out)) : gb283 ≠ gb302)); have n17_ := Aside0.mk ((by rw [hg]; exact Nat.ne_of_gt (blk_lt (g := gb283) (o := .cells #[.string t277, .int .i64 t278, .bool t279, .string t280] 23 (0, 0)) (by (with_reducible repeat (first | refine blk_drewN ?_ _ | refine blk_drew ?_ | refine blk_alloc ?_ _)); exact BK283.out)) : gb302 ≠ gb283)); have n18_ := Aside0.mk ((by rw [hg]; exact Nat.ne_of_lt (blk_lt (g := gb290) (o := .cells #[.string t284, .int .i64 t285, .bool t286, .string t287] 23 (0, 0)) (by (with_reducible repeat (first | refine blk_drewN ?_ _ | refine blk_drew ?_ | refine blk_alloc ?_ _)); exact BK290.out)) : gb290 ≠ gb302)); have n19_ := Aside0.mk ((by rw [hg]; exact Nat.ne_of_gt (blk_lt (g := gb290) (o := .cells #[.string t284, .int .i64 t285, .bool t286, .string t287] 23 (0, 0)) (by (with_reducible repeat (first | refine blk_drewN ?_ _ | refine blk_drew ?_ | refine blk_alloc ?_ _)); exact BK290.out)) : gb302 ≠ gb290)); have n20_ := Aside0.mk ((by rw [hg]; exact Nat.ne_of_lt (blk_lt (g := gb296) (o := .cells #[.string t291, .int .i64 t292, .bool t293, .string t294] 23 (0, 0)) (by (with_reducible repeat (first | refine blk_drewN ?_ _ | refine blk_drew ?_ | refine blk_alloc ?_ _)); exact BK296.out)) : gb296 ≠ gb302)); have n21_ := Aside0.mk ((by rw [hg]; exact Nat.ne_of_gt (blk_lt (g := gb296) (o := .cells #[.string t291, .int .i64 t292, .bool t293, .string t294] 23 (0, 0)) (by (with_reducible repeat (first | refine blk_drewN ?_ _ | refine blk_drew ?_ | refine blk_alloc ?_ _)); exact BK296.out)) : gb302 ≠ gb296)); clear BK268; clear BK269; clear BK270; clear BK283; clear BK290; clear BK296; clear HB; have BK268 := n0_; have BK269 := n1_; have BK270 := n2_; have BK283 := n3_; have BK290 := n4_; have BK296 := n5_; have HB := n6_; have BK302 := n7_; have GW302 := n8_; have GE302 := n9_; have NB268_302 := n10_; have NB302_268 := n11_; have NB269_302 := n12_; have NB302_269 := n13_; have NB270_302 := n14_; have NB302_270 := n15_; have NB283_302 := n16_; have NB302_283 := n17_; have NB290_302 := n18_; have NB302_290 := n19_; have NB296_302 := n20_; have NB302_296 := n21_; clear n0_ n1_ n2_ n3_ n4_ n5_ n6_ n7_ n8_ n9_ n10_ n11_ n12_ n13_ n14_ n15_ n16_ n17_ n18_ n19_ n20_ n21_; clear hb hbox hg; have hnb111 := NB302_268.out; have hnc111 := NB268_302.out; have hnb112 := NB302_269.out; have hnc112 := NB269_302.out; have hnb113 := NB302_270.out; have hnc113 := NB270_302.out; have hnb114 := NB302_283.out; have hnc114 := NB283_302.out; have hnb115 := NB302_290.out; have hnc115 := NB290_302.out; have hnb116 := NB302_296.out; have hnc116 := NB296_302.out; have hcz117_0 : w110.cell? ⟨gb302, 0, none⟩ = some (.string (⟨#[]⟩ : ByteArray)) := (blk_cell BK302.out 0).trans rfl; have hcz117_1 : w110.cell? ⟨gb302, 1, none⟩ = some (.int .i64 0) := (blk_cell BK302.out 1).trans rfl; have hcz117_2 : w110.cell? ⟨gb302, 2, none⟩ = some (.bool false) := (blk_cell BK302.out 2).trans rfl; have hcz117_3 : w110.cell? ⟨gb302, 3, none⟩ = some (.string (⟨#[]⟩ : ByteArray)) := (blk_cell BK302.out 3).trans rfl; have hfz117_0 := blk_frozen BK302.out 0; have hfz117_1 := blk_frozen BK302.out 1; have hfz117_2 := blk_frozen BK302.out 2; have hfz117_3 := blk_frozen BK302.out 3))
                            have n0_ : Aside0 (((((w110.setCell ⟨gb302, 0, none⟩ (.string t297)).setCell ⟨gb302, 1, none⟩ (.int .i64 t298)).setCell ⟨gb302, 2, none⟩ (.bool t299)).setCell ⟨gb302, 3, none⟩ (.string t300)).heap[gb268]? = some (.cells #[.string a0_0, .int .i64 a0_1, .bool a0_2, .string a0_3] 23 (0, 0))) := ⟨by (with_reducible repeat (first | refine blk_drewN ?_ _ | refine blk_drew ?_ | refine blk_alloc ?_ _)); refine blk_far ?_ NB268_302.out _; (with_reducible repeat (first | refine blk_drewN ?_ _ | refine blk_drew ?_ | refine blk_alloc ?_ _)); refine blk_far ?_ NB268_302.out _; (with_reducible repeat (first | refine blk_drewN ?_ _ | refine blk_drew ?_ | refine blk_alloc ?_ _)); refine blk_far ?_ NB268_302.out _; (with_reducible repeat (first | refine blk_drewN ?_ _ | refine blk_drew ?_ | refine blk_alloc ?_ _)); refine blk_far ?_ NB268_302.out _; (with_reducible repeat (first | refine blk_drewN ?_ _ | refine blk_drew ?_ | refine blk_alloc ?_ _)); exact BK268.out⟩
                            have n1_ : Aside0 (((((w110.setCell ⟨gb302, 0, none⟩ (.string t297)).setCell ⟨gb302, 1, none⟩ (.int .i64 t298)).setCell ⟨gb302, 2, none⟩ (.bool t299)).setCell ⟨gb302, 3, none⟩ (.string t300)).heap[gb269]? = some (.cells #[.string a1_0, .int .i64 a1_1, .bool a1_2, .string a1_3] 23 (0, 0))) := ⟨by (with_reducible repeat (first | refine blk_drewN ?_ _ | refine blk_drew ?_ | refine blk_alloc ?_ _)); refine blk_far ?_ NB269_302.out _; (with_reducible repeat (first | refine blk_drewN ?_ _ | refine blk_drew ?_ | refine blk_alloc ?_ _)); refine blk_far ?_ NB269_302.out _; (with_reducible repeat (first | refine blk_drewN ?_ _ | refine blk_drew ?_ | refine blk_alloc ?_ _)); refine blk_far ?_ NB269_302.out _; (with_reducible repeat (first | refine blk_drewN ?_ _ | refine blk_drew ?_ | refine blk_alloc ?_ _)); refine blk_far ?_ NB269_302.out _; (with_reducible repeat (first | refine blk_drewN ?_ _ | refine blk_drew ?_ | refine blk_alloc ?_ _)); exact BK269.out⟩
                            have n2_ : Aside0 (((((w110.setCell ⟨gb302, 0, none⟩ (.string t297)).setCell ⟨gb302, 1, none⟩ (.int .i64 t298)).setCell ⟨gb302, 2, none⟩ (.bool t299)).setCell ⟨gb302, 3, none⟩ (.string t300)).heap[gb270]? = some (.cells #[.string a6_0, .bool a6_1, .string a6_2] 26 (0, 0))) := ⟨by (with_reducible repeat (first | refine blk_drewN ?_ _ | refine blk_drew ?_ | refine blk_alloc ?_ _)); refine blk_far ?_ NB270_302.out _; (with_reducible repeat (first | refine blk_drewN ?_ _ | refine blk_drew ?_ | refine blk_alloc ?_ _)); refine blk_far ?_ NB270_302.out _; (with_reducible repeat (first | refine blk_drewN ?_ _ | refine blk_drew ?_ | refine blk_alloc ?_ _)); refine blk_far ?_ NB270_302.out _; (with_reducible repeat (first | refine blk_drewN ?_ _ | refine blk_drew ?_ | refine blk_alloc ?_ _)); refine blk_far ?_ NB270_302.out _; (with_reducible repeat (first | refine blk_drewN ?_ _ | refine blk_drew ?_ | refine blk_alloc ?_ _)); exact BK270.out⟩
                            have n3_ : Aside0 (((((w110.setCell ⟨gb302, 0, none⟩ (.string t297)).setCell ⟨gb302, 1, none⟩ (.int .i64 t298)).setCell ⟨gb302, 2, none⟩ (.bool t299)).setCell ⟨gb302, 3, none⟩ (.string t300)).heap[gb283]? = some (.cells #[.string t277, .int .i64 t278, .bool t279, .string t280] 23 (0, 0))) := ⟨by (with_reducible repeat (first | refine blk_drewN ?_ _ | refine blk_drew ?_ | refine blk_alloc ?_ _)); refine blk_far ?_ NB283_302.out _; (with_reducible repeat (first | refine blk_drewN ?_ _ | refine blk_drew ?_ | refine blk_alloc ?_ _)); refine blk_far ?_ NB283_302.out _; (with_reducible repeat (first | refine blk_drewN ?_ _ | refine blk_drew ?_ | refine blk_alloc ?_ _)); refine blk_far ?_ NB283_302.out _; (with_reducible repeat (first | refine blk_drewN ?_ _ | refine blk_drew ?_ | refine blk_alloc ?_ _)); refine blk_far ?_ NB283_302.out _; (with_reducible repeat (first | refine blk_drewN ?_ _ | refine blk_drew ?_ | refine blk_alloc ?_ _)); exact BK283.out⟩
                            have n4_ : Aside0 (((((w110.setCell ⟨gb302, 0, none⟩ (.string t297)).setCell ⟨gb302, 1, none⟩ (.int .i64 t298)).setCell ⟨gb302, 2, none⟩ (.bool t299)).setCell ⟨gb302, 3, none⟩ (.string t300)).heap[gb290]? = some (.cells #[.string t284, .int .i64 t285, .bool t286, .string t287] 23 (0, 0))) := ⟨by (with_reducible repeat (first | refine blk_drewN ?_ _ | refine blk_drew ?_ | refine blk_alloc ?_ _)); refine blk_far ?_ NB290_302.out _; (with_reducible repeat (first | refine blk_drewN ?_ _ | refine blk_drew ?_ | refine blk_alloc ?_ _)); refine blk_far ?_ NB290_302.out _; (with_reducible repeat (first | refine blk_drewN ?_ _ | refine blk_drew ?_ | refine blk_alloc ?_ _)); refine blk_far ?_ NB290_302.out _; (with_reducible repeat (first | refine blk_drewN ?_ _ | refine blk_drew ?_ | refine blk_alloc ?_ _)); refine blk_far ?_ NB290_302.out _; (with_reducible repeat (first | refine blk_drewN ?_ _ | refine blk_drew ?_ | refine blk_alloc ?_ _)); exact BK290.out⟩
                            have n5_ : Aside0 (((((w110.setCell ⟨gb302, 0, none⟩ (.string t297)).setCell ⟨gb302, 1, none⟩ (.int .i64 t298)).setCell ⟨gb302, 2, none⟩ (.bool t299)).setCell ⟨gb302, 3, none⟩ (.string t300)).heap[gb296]? = some (.cells #[.string t291, .int .i64 t292, .bool t293, .string t294] 23 (0, 0))) := ⟨by (with_reducible repeat (first | refine blk_drewN ?_ _ | refine blk_drew ?_ | refine blk_alloc ?_ _)); refine blk_far ?_ NB296_302.out _; (with_reducible repeat (first | refine blk_drewN ?_ _ | refine blk_drew ?_ | refine blk_alloc ?_ _)); refine blk_far ?_ NB296_302.out _; (with_reducible repeat (first | refine blk_drewN ?_ _ | refine blk_drew ?_ | refine blk_alloc ?_ _)); refine blk_far ?_ NB296_302.out _; (with_reducible repeat (first | refine blk_drewN ?_ _ | refine blk_drew ?_ | refine blk_alloc ?_ _)); refine blk_far ?_ NB296_302.out _; (with_reducible repeat (first | refine blk_drewN ?_ _ | refine blk_drew ?_ | refine blk_alloc ?_ _)); exact BK296.out⟩
                            have n6_ : Aside0 (((((w110.setCell ⟨gb302, 0, none⟩ (.string t297)).setCell ⟨gb302, 1, none⟩ (.int .i64 t298)).setCell ⟨gb302, 2, none⟩ (.bool t299)).setCell ⟨gb302, 3, none⟩ (.string t300)).heap[gb302]? = some (.cells #[.string t297, .int .i64 t298, .bool t299, .string t300] 23 (0, 0))) := ⟨by (with_reducible repeat (first | refine blk_drewN ?_ _ | refine blk_drew ?_ | refine blk_alloc ?_ _)); refine blk_put (cs := #[.string t297, .int .i64 t298, .bool t299, .string (⟨#[]⟩ : ByteArray)]) ?_ 3 _ rfl; (with_reducible repeat (first | refine blk_drewN ?_ _ | refine blk_drew ?_ | refine blk_alloc ?_ _)); refine blk_put (cs := #[.string t297, .int .i64 t298, .bool false, .string (⟨#[]⟩ : ByteArray)]) ?_ 2 _ rfl; (with_reducible repeat (first | refine blk_drewN ?_ _ | refine blk_drew ?_ | refine blk_alloc ?_ _)); refine blk_put (cs := #[.string t297, .int .i64 0, .bool false, .string (⟨#[]⟩ : ByteArray)]) ?_ 1 _ rfl; (with_reducible repeat (first | refine blk_drewN ?_ _ | refine blk_drew ?_ | refine blk_alloc ?_ _)); refine blk_put (cs := #[.string (⟨#[]⟩ : ByteArray), .int .i64 0, .bool false, .string (⟨#[]⟩ : ByteArray)]) ?_ 0 _ rfl; (with_reducible repeat (first | refine blk_drewN ?_ _ | refine blk_drew ?_ | refine blk_alloc ?_ _)); exact BK302.out⟩
                            have n7_ : Aside0 (Below w.heap.size w ((((w110.setCell ⟨gb302, 0, none⟩ (.string t297)).setCell ⟨gb302, 1, none⟩ (.int .i64 t298)).setCell ⟨gb302, 2, none⟩ (.bool t299)).setCell ⟨gb302, 3, none⟩ (.string t300))) := ⟨by repeat (first | (with_reducible first | exact HB.out | apply below_alloc | apply pw_below_drewN | apply below_drew1 | refine below_set ?_ GE268.out | refine below_set ?_ GE269.out | refine below_set ?_ GE270.out | refine below_set ?_ GE283.out | refine below_set ?_ GE290.out | refine below_set ?_ GE296.out | refine below_set ?_ GE302.out) | exact HB.out)⟩
                            (try clear BK268)
                            (try clear BK269)
                            (try clear BK270)
                            (try clear BK283)
                            (try clear BK290)
                            (try clear BK296)
                            (try clear BK302)
                            (try clear HB)
                            generalize ((((w110.setCell ⟨gb302, 0, none⟩ (.string t297)).setCell ⟨gb302, 1, none⟩ (.int .i64 t298)).setCell ⟨gb302, 2, none⟩ (.bool t299)).setCell ⟨gb302, 3, none⟩ (.string t300)) = w118 at n0_ n1_ n2_ n3_ n4_ n5_ n6_ n7_ ⊢
                            have BK268 := n0_
                            have BK269 := n1_
                            have BK270 := n2_
                            have BK283 := n3_
                            have BK290 := n4_
                            have BK296 := n5_
                            have BK302 := n6_
                            have HB := n7_
                            clear n0_ n1_ n2_ n3_ n4_ n5_ n6_ n7_
                            have n0_ := Aside0.mk (blk_drew BK268.out)
                            have n1_ := Aside0.mk (blk_drew BK269.out)
                            have n2_ := Aside0.mk (blk_drew BK270.out)
                            have n3_ := Aside0.mk (blk_drew BK283.out)
                            have n4_ := Aside0.mk (blk_drew BK290.out)
                            have n5_ := Aside0.mk (blk_drew BK296.out)
                            have n6_ := Aside0.mk (blk_drew BK302.out)
                            have n7_ := Aside0.mk (below_drew1 HB.out)
                            clear BK268
                            clear BK269
                            clear BK270
                            clear BK283
                            clear BK290
                            clear BK296
                            clear BK302
                            clear HB
                            have BK268 := n0_
                            have BK269 := n1_
                            have BK270 := n2_
                            have BK283 := n3_
                            have BK290 := n4_
                            have BK296 := n5_
                            have BK302 := n6_
                            have HB := n7_
                            clear n0_ n1_ n2_ n3_ n4_ n5_ n6_ n7_
                            refine start_ (n := 61) (S := fun w' => w'.cell? ⟨gb268, 0, none⟩ = some (.string a0_0) ∧ w'.cell? ⟨gb268, 1, none⟩ = some (.int .i64 a0_1) ∧ w'.cell? ⟨gb268, 2, none⟩ = some (.bool a0_2) ∧ w'.cell? ⟨gb268, 3, none⟩ = some (.string a0_3) ∧ w'.cell? ⟨gb269, 0, none⟩ = some (.string a1_0) ∧ w'.cell? ⟨gb269, 1, none⟩ = some (.int .i64 a1_1) ∧ w'.cell? ⟨gb269, 2, none⟩ = some (.bool a1_2) ∧ w'.cell? ⟨gb269, 3, none⟩ = some (.string a1_3) ∧ w'.cell? ⟨gb283, 0, none⟩ = some (.string t277) ∧ w'.cell? ⟨gb283, 1, none⟩ = some (.int .i64 t278) ∧ w'.cell? ⟨gb283, 2, none⟩ = some (.bool t279) ∧ w'.cell? ⟨gb283, 3, none⟩ = some (.string t280) ∧ w'.cell? ⟨gb290, 0, none⟩ = some (.string t284) ∧ w'.cell? ⟨gb290, 1, none⟩ = some (.int .i64 t285) ∧ w'.cell? ⟨gb290, 2, none⟩ = some (.bool t286) ∧ w'.cell? ⟨gb290, 3, none⟩ = some (.string t287) ∧ w'.cell? ⟨gb296, 0, none⟩ = some (.string t291) ∧ w'.cell? ⟨gb296, 1, none⟩ = some (.int .i64 t292) ∧ w'.cell? ⟨gb296, 2, none⟩ = some (.bool t293) ∧ w'.cell? ⟨gb296, 3, none⟩ = some (.string t294) ∧ w'.cell? ⟨gb302, 0, none⟩ = some (.string t297) ∧ w'.cell? ⟨gb302, 1, none⟩ = some (.int .i64 t298) ∧ w'.cell? ⟨gb302, 2, none⟩ = some (.bool t299) ∧ w'.cell? ⟨gb302, 3, none⟩ = some (.string t300) ∧ w'.cell? ⟨gb270, 0, none⟩ = some (.string a6_0) ∧ w'.cell? ⟨gb270, 1, none⟩ = some (.bool a6_1) ∧ w'.cell? ⟨gb270, 2, none⟩ = some (.string a6_2)) (ds := []) #[false, false, false, false, false, false, false, false, false, false, false, false, false, false, false, false, false, false, false, false, false, false, false, false, false, false, false, false, false, false, false, false, false, false, false, false, false, false, false, false, false, false, false, false, false, false, false, false, false, false, false, false, false, false, false, false, false, false, false, false, false] (by kernel_rfl) rfl rfl ⟨(blk_cell BK268.out 0).trans rfl, (blk_cell BK268.out 1).trans rfl, (blk_cell BK268.out 2).trans rfl, (blk_cell BK268.out 3).trans rfl, (blk_cell BK269.out 0).trans rfl, (blk_cell BK269.out 1).trans rfl, (blk_cell BK269.out 2).trans rfl, (blk_cell BK269.out 3).trans rfl, (blk_cell BK283.out 0).trans rfl, (blk_cell BK283.out 1).trans rfl, (blk_cell BK283.out 2).trans rfl, (blk_cell BK283.out 3).trans rfl, (blk_cell BK290.out 0).trans rfl, (blk_cell BK290.out 1).trans rfl, (blk_cell BK290.out 2).trans rfl, (blk_cell BK290.out 3).trans rfl, (blk_cell BK296.out 0).trans rfl, (blk_cell BK296.out 1).trans rfl, (blk_cell BK296.out 2).trans rfl, (blk_cell BK296.out 3).trans rfl, (blk_cell BK302.out 0).trans rfl, (blk_cell BK302.out 1).trans rfl, (blk_cell BK302.out 2).trans rfl, (blk_cell BK302.out 3).trans rfl, (blk_cell BK270.out 0).trans rfl, (blk_cell BK270.out 1).trans rfl, (blk_cell BK270.out 2).trans rfl⟩ (fun hHeld => ?_); refine with_tabW ravelinlaw6_EntryTells.tab9 ravelinlaw6_EntryTells.bits9 (fun HT_ HW_ => ?_)
                            generalize w118.drew = w119 at BK268 BK269 BK270 BK283 BK290 BK296 BK302 HB hHeld ⊢
                            refine take_ (i := 0) (N := some 85) (v := ?_) (a' := ?_) #[true, false, false, false, false, false, false, false, false, false, false, false, false, false, false, false, false, false, false, false, false, false, false, false, false, false, false, false, false, false, false, false, false, false, false, false, false, false, false, false, false, false, false, false, false, false, false, false, false, false, false, false, false, false, false, false, false, false, false, false, false] rfl rfl (take_ofW HT_.out HW_.out (by kernel_rfl)) (fun _ _ _ h => h) (Or.inl ⟨by rfl, ?_⟩) hHeld ?_ ?_
                            rotate_left
                            · rintro w' ⟨s0, s1, s2, s3, s4, s5, s6, s7, s8, s9, s10, s11, s12, s13, s14, s15, s16, s17, s18, s19, s20, s21, s22, s23, s24, s25, s26⟩
                              go_simp
                              with_reducible rfl
                            rotate_left
                            · simp only [Act.put, List.setIfInBounds_toArray, List.set_cons_zero, List.set_cons_succ, i64_w, i32_w]
                              rfl
                            refine take_ (i := 2) (N := some 87) (v := ?_) (a' := ?_) #[true, false, true, false, false, false, false, false, false, false, false, false, false, false, false, false, false, false, false, false, false, false, false, false, false, false, false, false, false, false, false, false, false, false, false, false, false, false, false, false, false, false, false, false, false, false, false, false, false, false, false, false, false, false, false, false, false, false, false, false, false] rfl rfl (take_ofW HT_.out HW_.out (by kernel_rfl)) (fun _ _ _ h => h) (Or.inl ⟨by rfl, ?_⟩) hHeld ?_ ?_
                            rotate_left
                            · rintro w' ⟨s0, s1, s2, s3, s4, s5, s6, s7, s8, s9, s10, s11, s12, s13, s14, s15, s16, s17, s18, s19, s20, s21, s22, s23, s24, s25, s26⟩
                              go_simp
                              with_reducible rfl
                            rotate_left
                            · simp only [Act.put, List.setIfInBounds_toArray, List.set_cons_zero, List.set_cons_succ, i64_w, i32_w]
                              rfl
                            refine one_ (i := 1) (N := some 86) #[true, true, true, false, false, false, false, false, false, false, false, false, false, false, false, false, false, false, false, false, false, false, false, false, false, false, false, false, false, false, false, false, false, false, false, false, false, false, false, false, false, false, false, false, false, false, false, false, false, false, false, false, false, false, false, false, false, false, false, false, false] rfl rfl (one_of HT_.out (by kernel_rfl)) (by decide) (fun K hK => ?_)
                            refine goes_ Try.func15 (by kernel_rfl) rfl #[.agg #[.string a0_0, .int .i64 a0_1, .bool a0_2, .string a0_3]] (by rfl) rfl rfl (by (try simp only [List.map_toArray, List.map_cons, List.map_nil]); first | done | rfl | (simp only [List.length_drop, List.length_take]; rfl)) ?_
                            with_reducible refine (entry_Is.calls a0_0 a0_1 a0_2 a0_3 t303 _ A69.out).mono ?_
                            rintro e w120 ⟨rfl, hb⟩
                            refine ⟨_, rfl, ?_⟩
                            have n0_ := Aside0.mk (blk_below (g := gb268) (o := .cells #[.string a0_0, .int .i64 a0_1, .bool a0_2, .string a0_3] 23 (0, 0)) (by (with_reducible repeat (first | refine blk_drewN ?_ _ | refine blk_drew ?_ | refine blk_alloc ?_ _)); exact BK268.out) hb)
                            have n1_ := Aside0.mk (blk_below (g := gb269) (o := .cells #[.string a1_0, .int .i64 a1_1, .bool a1_2, .string a1_3] 23 (0, 0)) (by (with_reducible repeat (first | refine blk_drewN ?_ _ | refine blk_drew ?_ | refine blk_alloc ?_ _)); exact BK269.out) hb)
                            have n2_ := Aside0.mk (blk_below (g := gb270) (o := .cells #[.string a6_0, .bool a6_1, .string a6_2] 26 (0, 0)) (by (with_reducible repeat (first | refine blk_drewN ?_ _ | refine blk_drew ?_ | refine blk_alloc ?_ _)); exact BK270.out) hb)
                            have n3_ := Aside0.mk (blk_below (g := gb283) (o := .cells #[.string t277, .int .i64 t278, .bool t279, .string t280] 23 (0, 0)) (by (with_reducible repeat (first | refine blk_drewN ?_ _ | refine blk_drew ?_ | refine blk_alloc ?_ _)); exact BK283.out) hb)
                            have n4_ := Aside0.mk (blk_below (g := gb290) (o := .cells #[.string t284, .int .i64 t285, .bool t286, .string t287] 23 (0, 0)) (by (with_reducible repeat (first | refine blk_drewN ?_ _ | refine blk_drew ?_ | refine blk_alloc ?_ _)); exact BK290.out) hb)
                            have n5_ := Aside0.mk (blk_below (g := gb296) (o := .cells #[.string t291, .int .i64 t292, .bool t293, .string t294] 23 (0, 0)) (by (with_reducible repeat (first | refine blk_drewN ?_ _ | refine blk_drew ?_ | refine blk_alloc ?_ _)); exact BK296.out) hb)
                            have n6_ := Aside0.mk (blk_below (g := gb302) (o := .cells #[.string t297, .int .i64 t298, .bool t299, .string t300] 23 (0, 0)) (by (with_reducible repeat (first | refine blk_drewN ?_ _ | refine blk_drew ?_ | refine blk_alloc ?_ _)); exact BK302.out) hb)
                            have n7_ := Aside0.mk (below_step (by repeat (first | (with_reducible first | exact HB.out | apply below_alloc | apply pw_below_drewN | apply below_drew1 | refine below_set ?_ GE268.out | refine below_set ?_ GE269.out | refine below_set ?_ GE270.out | refine below_set ?_ GE283.out | refine below_set ?_ GE290.out | refine below_set ?_ GE296.out | refine below_set ?_ GE302.out) | exact HB.out)) hb)
                            clear BK268
                            clear BK269
                            clear BK270
                            clear BK283
                            clear BK290
                            clear BK296
                            clear BK302
                            clear HB
                            have BK268 := n0_
                            have BK269 := n1_
                            have BK270 := n2_
                            have BK283 := n3_
                            have BK290 := n4_
                            have BK296 := n5_
                            have BK302 := n6_
                            have HB := n7_
                            clear n0_ n1_ n2_ n3_ n4_ n5_ n6_ n7_
                            (try clear hb)
                            (try clear hb2)
                            (try clear hk)
                            (try clear hi)
                            refine hK.out _ _ ⟨(blk_cell BK268.out 0).trans rfl, (blk_cell BK268.out 1).trans rfl, (blk_cell BK268.out 2).trans rfl, (blk_cell BK268.out 3).trans rfl, (blk_cell BK269.out 0).trans rfl, (blk_cell BK269.out 1).trans rfl, (blk_cell BK269.out 2).trans rfl, (blk_cell BK269.out 3).trans rfl, (blk_cell BK283.out 0).trans rfl, (blk_cell BK283.out 1).trans rfl, (blk_cell BK283.out 2).trans rfl, (blk_cell BK283.out 3).trans rfl, (blk_cell BK290.out 0).trans rfl, (blk_cell BK290.out 1).trans rfl, (blk_cell BK290.out 2).trans rfl, (blk_cell BK290.out 3).trans rfl, (blk_cell BK296.out 0).trans rfl, (blk_cell BK296.out 1).trans rfl, (blk_cell BK296.out 2).trans rfl, (blk_cell BK296.out 3).trans rfl, (blk_cell BK302.out 0).trans rfl, (blk_cell BK302.out 1).trans rfl, (blk_cell BK302.out 2).trans rfl, (blk_cell BK302.out 3).trans rfl, (blk_cell BK270.out 0).trans rfl, (blk_cell BK270.out 1).trans rfl, (blk_cell BK270.out 2).trans rfl⟩ (fun hHeld => ?_)
                            clear hK K
                            refine norm_ (a' := ?_) ?_ ?_
                            rotate_left
                            · show Act.put _ (some 86) _ = _
                              simp only [Act.put, List.setIfInBounds_toArray, List.set_cons_zero, List.set_cons_succ, i64_w, i32_w]
                              rfl
                            refine one_ (i := 3) (N := some 88) #[true, true, true, true, false, false, false, false, false, false, false, false, false, false, false, false, false, false, false, false, false, false, false, false, false, false, false, false, false, false, false, false, false, false, false, false, false, false, false, false, false, false, false, false, false, false, false, false, false, false, false, false, false, false, false, false, false, false, false, false, false] rfl rfl (one_of HT_.out (by kernel_rfl)) (by decide) (fun K hK => ?_)
                            refine goes_ Try.func16 (by kernel_rfl) rfl #[.agg #[.string a0_0, .int .i64 a0_1, .bool a0_2, .string a0_3]] (by rfl) rfl rfl (by (try simp only [List.map_toArray, List.map_cons, List.map_nil]); first | done | rfl | (simp only [List.length_drop, List.length_take]; rfl)) ?_
                            with_reducible refine (ravelinref6_Is.calls a0_0 a0_1 a0_2 a0_3 t304 _ A70.out).mono ?_
                            rintro e w121 ⟨rfl, hb⟩
                            refine ⟨_, rfl, ?_⟩
                            have n0_ := Aside0.mk (blk_below (g := gb268) (o := .cells #[.string a0_0, .int .i64 a0_1, .bool a0_2, .string a0_3] 23 (0, 0)) (by (with_reducible repeat (first | refine blk_drewN ?_ _ | refine blk_drew ?_ | refine blk_alloc ?_ _)); exact BK268.out) hb)
                            have n1_ := Aside0.mk (blk_below (g := gb269) (o := .cells #[.string a1_0, .int .i64 a1_1, .bool a1_2, .string a1_3] 23 (0, 0)) (by (with_reducible repeat (first | refine blk_drewN ?_ _ | refine blk_drew ?_ | refine blk_alloc ?_ _)); exact BK269.out) hb)
                            have n2_ := Aside0.mk (blk_below (g := gb270) (o := .cells #[.string a6_0, .bool a6_1, .string a6_2] 26 (0, 0)) (by (with_reducible repeat (first | refine blk_drewN ?_ _ | refine blk_drew ?_ | refine blk_alloc ?_ _)); exact BK270.out) hb)
                            have n3_ := Aside0.mk (blk_below (g := gb283) (o := .cells #[.string t277, .int .i64 t278, .bool t279, .string t280] 23 (0, 0)) (by (with_reducible repeat (first | refine blk_drewN ?_ _ | refine blk_drew ?_ | refine blk_alloc ?_ _)); exact BK283.out) hb)
                            have n4_ := Aside0.mk (blk_below (g := gb290) (o := .cells #[.string t284, .int .i64 t285, .bool t286, .string t287] 23 (0, 0)) (by (with_reducible repeat (first | refine blk_drewN ?_ _ | refine blk_drew ?_ | refine blk_alloc ?_ _)); exact BK290.out) hb)
                            have n5_ := Aside0.mk (blk_below (g := gb296) (o := .cells #[.string t291, .int .i64 t292, .bool t293, .string t294] 23 (0, 0)) (by (with_reducible repeat (first | refine blk_drewN ?_ _ | refine blk_drew ?_ | refine blk_alloc ?_ _)); exact BK296.out) hb)
                            have n6_ := Aside0.mk (blk_below (g := gb302) (o := .cells #[.string t297, .int .i64 t298, .bool t299, .string t300] 23 (0, 0)) (by (with_reducible repeat (first | refine blk_drewN ?_ _ | refine blk_drew ?_ | refine blk_alloc ?_ _)); exact BK302.out) hb)
                            have n7_ := Aside0.mk (below_step (by repeat (first | (with_reducible first | exact HB.out | apply below_alloc | apply pw_below_drewN | apply below_drew1 | refine below_set ?_ GE268.out | refine below_set ?_ GE269.out | refine below_set ?_ GE270.out | refine below_set ?_ GE283.out | refine below_set ?_ GE290.out | refine below_set ?_ GE296.out | refine below_set ?_ GE302.out) | exact HB.out)) hb)
                            clear BK268
                            clear BK269
                            clear BK270
                            clear BK283
                            clear BK290
                            clear BK296
                            clear BK302
                            clear HB
                            have BK268 := n0_
                            have BK269 := n1_
                            have BK270 := n2_
                            have BK283 := n3_
                            have BK290 := n4_
                            have BK296 := n5_
                            have BK302 := n6_
                            have HB := n7_
                            clear n0_ n1_ n2_ n3_ n4_ n5_ n6_ n7_
                            (try clear hb)
                            (try clear hb2)
                            (try clear hk)
                            (try clear hi)
                            refine hK.out _ _ ⟨(blk_cell BK268.out 0).trans rfl, (blk_cell BK268.out 1).trans rfl, (blk_cell BK268.out 2).trans rfl, (blk_cell BK268.out 3).trans rfl, (blk_cell BK269.out 0).trans rfl, (blk_cell BK269.out 1).trans rfl, (blk_cell BK269.out 2).trans rfl, (blk_cell BK269.out 3).trans rfl, (blk_cell BK283.out 0).trans rfl, (blk_cell BK283.out 1).trans rfl, (blk_cell BK283.out 2).trans rfl, (blk_cell BK283.out 3).trans rfl, (blk_cell BK290.out 0).trans rfl, (blk_cell BK290.out 1).trans rfl, (blk_cell BK290.out 2).trans rfl, (blk_cell BK290.out 3).trans rfl, (blk_cell BK296.out 0).trans rfl, (blk_cell BK296.out 1).trans rfl, (blk_cell BK296.out 2).trans rfl, (blk_cell BK296.out 3).trans rfl, (blk_cell BK302.out 0).trans rfl, (blk_cell BK302.out 1).trans rfl, (blk_cell BK302.out 2).trans rfl, (blk_cell BK302.out 3).trans rfl, (blk_cell BK270.out 0).trans rfl, (blk_cell BK270.out 1).trans rfl, (blk_cell BK270.out 2).trans rfl⟩ (fun hHeld => ?_)
                            clear hK K
                            refine norm_ (a' := ?_) ?_ ?_
                            rotate_left
                            · show Act.put _ (some 88) _ = _
                              simp only [Act.put, List.setIfInBounds_toArray, List.set_cons_zero, List.set_cons_succ, i64_w, i32_w]
                              rfl
                            refine pure_ (i := 4) (N := some 89) (v := ?_) (a' := ?_) #[true, true, true, true, true, false, false, false, false, false, false, false, false, false, false, false, false, false, false, false, false, false, false, false, false, false, false, false, false, false, false, false, false, false, false, false, false, false, false, false, false, false, false, false, false, false, false, false, false, false, false, false, false, false, false, false, false, false, false, false, false] rfl rfl (any_of HT_.out (by kernel_rfl)) (fun _ _ _ h => h) (Or.inl ⟨by rfl, ?_⟩) ?_ ?_
                            rotate_left
                            · intro w'
                              go_simp
                              with_reducible rfl
                            rotate_left
                            · simp only [Act.put, List.setIfInBounds_toArray, List.set_cons_zero, List.set_cons_succ, i64_w, i32_w]
                              rfl
                            refine pure_ (i := 5) (N := some 90) (v := ?_) (a' := ?_) #[true, true, true, true, true, true, false, false, false, false, false, false, false, false, false, false, false, false, false, false, false, false, false, false, false, false, false, false, false, false, false, false, false, false, false, false, false, false, false, false, false, false, false, false, false, false, false, false, false, false, false, false, false, false, false, false, false, false, false, false, false] rfl rfl (any_of HT_.out (by kernel_rfl)) (fun _ _ _ h => h) (Or.inl ⟨by rfl, ?_⟩) ?_ ?_
                            rotate_left
                            · intro w'
                              go_simp
                              with_reducible rfl
                            rotate_left
                            · simp only [Act.put, List.setIfInBounds_toArray, List.set_cons_zero, List.set_cons_succ, i64_w, i32_w]
                              rfl
                            refine take_ (i := 6) (N := some 91) (v := ?_) (a' := ?_) #[true, true, true, true, true, true, true, false, false, false, false, false, false, false, false, false, false, false, false, false, false, false, false, false, false, false, false, false, false, false, false, false, false, false, false, false, false, false, false, false, false, false, false, false, false, false, false, false, false, false, false, false, false, false, false, false, false, false, false, false, false] rfl rfl (take_ofW HT_.out HW_.out (by kernel_rfl)) (fun _ _ _ h => h) (Or.inl ⟨by rfl, ?_⟩) hHeld ?_ ?_
                            rotate_left
                            · rintro w' ⟨s0, s1, s2, s3, s4, s5, s6, s7, s8, s9, s10, s11, s12, s13, s14, s15, s16, s17, s18, s19, s20, s21, s22, s23, s24, s25, s26⟩
                              go_simp
                              with_reducible rfl
                            rotate_left
                            · simp only [Act.put, List.setIfInBounds_toArray, List.set_cons_zero, List.set_cons_succ, i64_w, i32_w]
                              rfl
                            refine take_ (i := 7) (N := some 92) (v := ?_) (a' := ?_) #[true, true, true, true, true, true, true, true, false, false, false, false, false, false, false, false, false, false, false, false, false, false, false, false, false, false, false, false, false, false, false, false, false, false, false, false, false, false, false, false, false, false, false, false, false, false, false, false, false, false, false, false, false, false, false, false, false, false, false, false, false] rfl rfl (take_ofW HT_.out HW_.out (by kernel_rfl)) (fun _ _ _ h => h) (Or.inl ⟨by rfl, ?_⟩) hHeld ?_ ?_
                            rotate_left
                            · rintro w' ⟨s0, s1, s2, s3, s4, s5, s6, s7, s8, s9, s10, s11, s12, s13, s14, s15, s16, s17, s18, s19, s20, s21, s22, s23, s24, s25, s26⟩
                              go_simp
                              with_reducible rfl
                            rotate_left
                            · simp only [Act.put, List.setIfInBounds_toArray, List.set_cons_zero, List.set_cons_succ, i64_w, i32_w]
                              rfl
                            refine take_ (i := 9) (N := some 94) (v := ?_) (a' := ?_) #[true, true, true, true, true, true, true, true, false, true, false, false, false, false, false, false, false, false, false, false, false, false, false, false, false, false, false, false, false, false, false, false, false, false, false, false, false, false, false, false, false, false, false, false, false, false, false, false, false, false, false, false, false, false, false, false, false, false, false, false, false] rfl rfl (take_ofW HT_.out HW_.out (by kernel_rfl)) (fun _ _ _ h => h) (Or.inl ⟨by rfl, ?_⟩) hHeld ?_ ?_
                            rotate_left
                            · rintro w' ⟨s0, s1, s2, s3, s4, s5, s6, s7, s8, s9, s10, s11, s12, s13, s14, s15, s16, s17, s18, s19, s20, s21, s22, s23, s24, s25, s26⟩
                              go_simp
                              with_reducible rfl
                            rotate_left
                            · simp only [Act.put, List.setIfInBounds_toArray, List.set_cons_zero, List.set_cons_succ, i64_w, i32_w]
                              rfl
                            refine take_ (i := 10) (N := some 95) (v := ?_) (a' := ?_) #[true, true, true, true, true, true, true, true, false, true, true, false, false, false, false, false, false, false, false, false, false, false, false, false, false, false, false, false, false, false, false, false, false, false, false, false, false, false, false, false, false, false, false, false, false, false, false, false, false, false, false, false, false, false, false, false, false, false, false, false, false] rfl rfl (take_ofW HT_.out HW_.out (by kernel_rfl)) (fun _ _ _ h => h) (Or.inl ⟨by rfl, ?_⟩) hHeld ?_ ?_
                            rotate_left
                            · rintro w' ⟨s0, s1, s2, s3, s4, s5, s6, s7, s8, s9, s10, s11, s12, s13, s14, s15, s16, s17, s18, s19, s20, s21, s22, s23, s24, s25, s26⟩
                              go_simp
                              with_reducible rfl
                            rotate_left
                            · simp only [Act.put, List.setIfInBounds_toArray, List.set_cons_zero, List.set_cons_succ, i64_w, i32_w]
                              rfl
                            refine one_ (i := 8) (N := some 93) #[true, true, true, true, true, true, true, true, true, true, true, false, false, false, false, false, false, false, false, false, false, false, false, false, false, false, false, false, false, false, false, false, false, false, false, false, false, false, false, false, false, false, false, false, false, false, false, false, false, false, false, false, false, false, false, false, false, false, false, false, false] rfl rfl (one_of HT_.out (by kernel_rfl)) (by decide) (fun K hK => ?_)
                            refine goes_ Try.func17 (by kernel_rfl) rfl #[.agg #[.string a0_0, .int .i64 a0_1, .bool a0_2, .string a0_3], .agg #[.string a1_0, .int .i64 a1_1, .bool a1_2, .string a1_3]] (by rfl) rfl rfl (by (try simp only [List.map_toArray, List.map_cons, List.map_nil]); first | done | rfl | (simp only [List.length_drop, List.length_take]; rfl)) ?_
                            with_reducible refine (entry_Less.calls kj9 a0_0 a0_1 a0_2 a0_3 a1_0 a1_1 a1_2 a1_3 t305 _ A72.out).mono ?_
                            rintro e w122 ⟨rfl, hb⟩
                            refine ⟨_, rfl, ?_⟩
                            have n0_ := Aside0.mk (blk_below (g := gb268) (o := .cells #[.string a0_0, .int .i64 a0_1, .bool a0_2, .string a0_3] 23 (0, 0)) (by (with_reducible repeat (first | refine blk_drewN ?_ _ | refine blk_drew ?_ | refine blk_alloc ?_ _)); exact BK268.out) hb)
                            have n1_ := Aside0.mk (blk_below (g := gb269) (o := .cells #[.string a1_0, .int .i64 a1_1, .bool a1_2, .string a1_3] 23 (0, 0)) (by (with_reducible repeat (first | refine blk_drewN ?_ _ | refine blk_drew ?_ | refine blk_alloc ?_ _)); exact BK269.out) hb)
                            have n2_ := Aside0.mk (blk_below (g := gb270) (o := .cells #[.string a6_0, .bool a6_1, .string a6_2] 26 (0, 0)) (by (with_reducible repeat (first | refine blk_drewN ?_ _ | refine blk_drew ?_ | refine blk_alloc ?_ _)); exact BK270.out) hb)
                            have n3_ := Aside0.mk (blk_below (g := gb283) (o := .cells #[.string t277, .int .i64 t278, .bool t279, .string t280] 23 (0, 0)) (by (with_reducible repeat (first | refine blk_drewN ?_ _ | refine blk_drew ?_ | refine blk_alloc ?_ _)); exact BK283.out) hb)
                            have n4_ := Aside0.mk (blk_below (g := gb290) (o := .cells #[.string t284, .int .i64 t285, .bool t286, .string t287] 23 (0, 0)) (by (with_reducible repeat (first | refine blk_drewN ?_ _ | refine blk_drew ?_ | refine blk_alloc ?_ _)); exact BK290.out) hb)
                            have n5_ := Aside0.mk (blk_below (g := gb296) (o := .cells #[.string t291, .int .i64 t292, .bool t293, .string t294] 23 (0, 0)) (by (with_reducible repeat (first | refine blk_drewN ?_ _ | refine blk_drew ?_ | refine blk_alloc ?_ _)); exact BK296.out) hb)
                            have n6_ := Aside0.mk (blk_below (g := gb302) (o := .cells #[.string t297, .int .i64 t298, .bool t299, .string t300] 23 (0, 0)) (by (with_reducible repeat (first | refine blk_drewN ?_ _ | refine blk_drew ?_ | refine blk_alloc ?_ _)); exact BK302.out) hb)
                            have n7_ := Aside0.mk (below_step (by repeat (first | (with_reducible first | exact HB.out | apply below_alloc | apply pw_below_drewN | apply below_drew1 | refine below_set ?_ GE268.out | refine below_set ?_ GE269.out | refine below_set ?_ GE270.out | refine below_set ?_ GE283.out | refine below_set ?_ GE290.out | refine below_set ?_ GE296.out | refine below_set ?_ GE302.out) | exact HB.out)) hb)
                            clear BK268
                            clear BK269
                            clear BK270
                            clear BK283
                            clear BK290
                            clear BK296
                            clear BK302
                            clear HB
                            have BK268 := n0_
                            have BK269 := n1_
                            have BK270 := n2_
                            have BK283 := n3_
                            have BK290 := n4_
                            have BK296 := n5_
                            have BK302 := n6_
                            have HB := n7_
                            clear n0_ n1_ n2_ n3_ n4_ n5_ n6_ n7_
                            (try clear hb)
                            (try clear hb2)
                            (try clear hk)
                            (try clear hi)
                            refine hK.out _ _ ⟨(blk_cell BK268.out 0).trans rfl, (blk_cell BK268.out 1).trans rfl, (blk_cell BK268.out 2).trans rfl, (blk_cell BK268.out 3).trans rfl, (blk_cell BK269.out 0).trans rfl, (blk_cell BK269.out 1).trans rfl, (blk_cell BK269.out 2).trans rfl, (blk_cell BK269.out 3).trans rfl, (blk_cell BK283.out 0).trans rfl, (blk_cell BK283.out 1).trans rfl, (blk_cell BK283.out 2).trans rfl, (blk_cell BK283.out 3).trans rfl, (blk_cell BK290.out 0).trans rfl, (blk_cell BK290.out 1).trans rfl, (blk_cell BK290.out 2).trans rfl, (blk_cell BK290.out 3).trans rfl, (blk_cell BK296.out 0).trans rfl, (blk_cell BK296.out 1).trans rfl, (blk_cell BK296.out 2).trans rfl, (blk_cell BK296.out 3).trans rfl, (blk_cell BK302.out 0).trans rfl, (blk_cell BK302.out 1).trans rfl, (blk_cell BK302.out 2).trans rfl, (blk_cell BK302.out 3).trans rfl, (blk_cell BK270.out 0).trans rfl, (blk_cell BK270.out 1).trans rfl, (blk_cell BK270.out 2).trans rfl⟩ (fun hHeld => ?_)
                            clear hK K
                            refine norm_ (a' := ?_) ?_ ?_
                            rotate_left
                            · show Act.put _ (some 93) _ = _
                              simp only [Act.put, List.setIfInBounds_toArray, List.set_cons_zero, List.set_cons_succ, i64_w, i32_w]
                              rfl
                            refine one_ (i := 11) (N := some 96) #[true, true, true, true, true, true, true, true, true, true, true, true, false, false, false, false, false, false, false, false, false, false, false, false, false, false, false, false, false, false, false, false, false, false, false, false, false, false, false, false, false, false, false, false, false, false, false, false, false, false, false, false, false, false, false, false, false, false, false, false, false] rfl rfl (one_of HT_.out (by kernel_rfl)) (by decide) (fun K hK => ?_)
                            refine goes_ Try.func18 (by kernel_rfl) rfl #[.agg #[.string a0_0, .int .i64 a0_1, .bool a0_2, .string a0_3], .agg #[.string a1_0, .int .i64 a1_1, .bool a1_2, .string a1_3]] (by rfl) rfl rfl (by (try simp only [List.map_toArray, List.map_cons, List.map_nil]); first | done | rfl | (simp only [List.length_drop, List.length_take]; rfl)) ?_
                            with_reducible refine (ravelinref6_Less.calls a0_0 a0_1 a0_2 a0_3 a1_0 a1_1 a1_2 a1_3 t306 _ A73.out).mono ?_
                            rintro e w123 ⟨rfl, hb⟩
                            refine ⟨_, rfl, ?_⟩
                            have n0_ := Aside0.mk (blk_below (g := gb268) (o := .cells #[.string a0_0, .int .i64 a0_1, .bool a0_2, .string a0_3] 23 (0, 0)) (by (with_reducible repeat (first | refine blk_drewN ?_ _ | refine blk_drew ?_ | refine blk_alloc ?_ _)); exact BK268.out) hb)
                            have n1_ := Aside0.mk (blk_below (g := gb269) (o := .cells #[.string a1_0, .int .i64 a1_1, .bool a1_2, .string a1_3] 23 (0, 0)) (by (with_reducible repeat (first | refine blk_drewN ?_ _ | refine blk_drew ?_ | refine blk_alloc ?_ _)); exact BK269.out) hb)
                            have n2_ := Aside0.mk (blk_below (g := gb270) (o := .cells #[.string a6_0, .bool a6_1, .string a6_2] 26 (0, 0)) (by (with_reducible repeat (first | refine blk_drewN ?_ _ | refine blk_drew ?_ | refine blk_alloc ?_ _)); exact BK270.out) hb)
                            have n3_ := Aside0.mk (blk_below (g := gb283) (o := .cells #[.string t277, .int .i64 t278, .bool t279, .string t280] 23 (0, 0)) (by (with_reducible repeat (first | refine blk_drewN ?_ _ | refine blk_drew ?_ | refine blk_alloc ?_ _)); exact BK283.out) hb)
                            have n4_ := Aside0.mk (blk_below (g := gb290) (o := .cells #[.string t284, .int .i64 t285, .bool t286, .string t287] 23 (0, 0)) (by (with_reducible repeat (first | refine blk_drewN ?_ _ | refine blk_drew ?_ | refine blk_alloc ?_ _)); exact BK290.out) hb)
                            have n5_ := Aside0.mk (blk_below (g := gb296) (o := .cells #[.string t291, .int .i64 t292, .bool t293, .string t294] 23 (0, 0)) (by (with_reducible repeat (first | refine blk_drewN ?_ _ | refine blk_drew ?_ | refine blk_alloc ?_ _)); exact BK296.out) hb)
                            have n6_ := Aside0.mk (blk_below (g := gb302) (o := .cells #[.string t297, .int .i64 t298, .bool t299, .string t300] 23 (0, 0)) (by (with_reducible repeat (first | refine blk_drewN ?_ _ | refine blk_drew ?_ | refine blk_alloc ?_ _)); exact BK302.out) hb)
                            have n7_ := Aside0.mk (below_step (by repeat (first | (with_reducible first | exact HB.out | apply below_alloc | apply pw_below_drewN | apply below_drew1 | refine below_set ?_ GE268.out | refine below_set ?_ GE269.out | refine below_set ?_ GE270.out | refine below_set ?_ GE283.out | refine below_set ?_ GE290.out | refine below_set ?_ GE296.out | refine below_set ?_ GE302.out) | exact HB.out)) hb)
                            clear BK268
                            clear BK269
                            clear BK270
                            clear BK283
                            clear BK290
                            clear BK296
                            clear BK302
                            clear HB
                            have BK268 := n0_
                            have BK269 := n1_
                            have BK270 := n2_
                            have BK283 := n3_
                            have BK290 := n4_
                            have BK296 := n5_
                            have BK302 := n6_
                            have HB := n7_
                            clear n0_ n1_ n2_ n3_ n4_ n5_ n6_ n7_
                            (try clear hb)
                            (try clear hb2)
                            (try clear hk)
                            (try clear hi)
                            refine hK.out _ _ ⟨(blk_cell BK268.out 0).trans rfl, (blk_cell BK268.out 1).trans rfl, (blk_cell BK268.out 2).trans rfl, (blk_cell BK268.out 3).trans rfl, (blk_cell BK269.out 0).trans rfl, (blk_cell BK269.out 1).trans rfl, (blk_cell BK269.out 2).trans rfl, (blk_cell BK269.out 3).trans rfl, (blk_cell BK283.out 0).trans rfl, (blk_cell BK283.out 1).trans rfl, (blk_cell BK283.out 2).trans rfl, (blk_cell BK283.out 3).trans rfl, (blk_cell BK290.out 0).trans rfl, (blk_cell BK290.out 1).trans rfl, (blk_cell BK290.out 2).trans rfl, (blk_cell BK290.out 3).trans rfl, (blk_cell BK296.out 0).trans rfl, (blk_cell BK296.out 1).trans rfl, (blk_cell BK296.out 2).trans rfl, (blk_cell BK296.out 3).trans rfl, (blk_cell BK302.out 0).trans rfl, (blk_cell BK302.out 1).trans rfl, (blk_cell BK302.out 2).trans rfl, (blk_cell BK302.out 3).trans rfl, (blk_cell BK270.out 0).trans rfl, (blk_cell BK270.out 1).trans rfl, (blk_cell BK270.out 2).trans rfl⟩ (fun hHeld => ?_)
                            clear hK K
                            refine norm_ (a' := ?_) ?_ ?_
                            rotate_left
                            · show Act.put _ (some 96) _ = _
                              simp only [Act.put, List.setIfInBounds_toArray, List.set_cons_zero, List.set_cons_succ, i64_w, i32_w]
                              rfl
                            refine pure_ (i := 12) (N := some 97) (v := ?_) (a' := ?_) #[true, true, true, true, true, true, true, true, true, true, true, true, true, false, false, false, false, false, false, false, false, false, false, false, false, false, false, false, false, false, false, false, false, false, false, false, false, false, false, false, false, false, false, false, false, false, false, false, false, false, false, false, false, false, false, false, false, false, false, false, false] rfl rfl (any_of HT_.out (by kernel_rfl)) (fun _ _ _ h => h) (Or.inl ⟨by rfl, ?_⟩) ?_ ?_
                            rotate_left
                            · intro w'
                              go_simp
                              with_reducible rfl
                            rotate_left
                            · simp only [Act.put, List.setIfInBounds_toArray, List.set_cons_zero, List.set_cons_succ, i64_w, i32_w]
                              rfl
                            refine pure_ (i := 13) (N := some 98) (v := ?_) (a' := ?_) #[true, true, true, true, true, true, true, true, true, true, true, true, true, true, false, false, false, false, false, false, false, false, false, false, false, false, false, false, false, false, false, false, false, false, false, false, false, false, false, false, false, false, false, false, false, false, false, false, false, false, false, false, false, false, false, false, false, false, false, false, false] rfl rfl (any_of HT_.out (by kernel_rfl)) (fun _ _ _ h => h) (Or.inl ⟨by rfl, ?_⟩) ?_ ?_
                            rotate_left
                            · intro w'
                              go_simp
                              with_reducible rfl
                            rotate_left
                            · simp only [Act.put, List.setIfInBounds_toArray, List.set_cons_zero, List.set_cons_succ, i64_w, i32_w]
                              rfl
                            refine pure_ (i := 14) (N := some 99) (v := ?_) (a' := ?_) #[true, true, true, true, true, true, true, true, true, true, true, true, true, true, true, false, false, false, false, false, false, false, false, false, false, false, false, false, false, false, false, false, false, false, false, false, false, false, false, false, false, false, false, false, false, false, false, false, false, false, false, false, false, false, false, false, false, false, false, false, false] rfl rfl (any_of HT_.out (by kernel_rfl)) (fun _ _ _ h => h) (Or.inl ⟨by rfl, ?_⟩) ?_ ?_
                            rotate_left
                            · intro w'
                              go_simp
                              with_reducible rfl
                            rotate_left
                            · simp only [Act.put, List.setIfInBounds_toArray, List.set_cons_zero, List.set_cons_succ, i64_w, i32_w]
                              rfl
                            refine take_ (i := 15) (N := some 100) (v := ?_) (a' := ?_) #[true, true, true, true, true, true, true, true, true, true, true, true, true, true, true, true, false, false, false, false, false, false, false, false, false, false, false, false, false, false, false, false, false, false, false, false, false, false, false, false, false, false, false, false, false, false, false, false, false, false, false, false, false, false, false, false, false, false, false, false, false] rfl rfl (take_ofW HT_.out HW_.out (by kernel_rfl)) (fun _ _ _ h => h) (Or.inl ⟨by rfl, ?_⟩) hHeld ?_ ?_
                            rotate_left
                            · rintro w' ⟨s0, s1, s2, s3, s4, s5, s6, s7, s8, s9, s10, s11, s12, s13, s14, s15, s16, s17, s18, s19, s20, s21, s22, s23, s24, s25, s26⟩
                              go_simp
                              with_reducible rfl
                            rotate_left
                            · simp only [Act.put, List.setIfInBounds_toArray, List.set_cons_zero, List.set_cons_succ, i64_w, i32_w]
                              rfl
                            refine take_ (i := 17) (N := some 102) (v := ?_) (a' := ?_) #[true, true, true, true, true, true, true, true, true, true, true, true, true, true, true, true, false, true, false, false, false, false, false, false, false, false, false, false, false, false, false, false, false, false, false, false, false, false, false, false, false, false, false, false, false, false, false, false, false, false, false, false, false, false, false, false, false, false, false, false, false] rfl rfl (take_ofW HT_.out HW_.out (by kernel_rfl)) (fun _ _ _ h => h) (Or.inl ⟨by rfl, ?_⟩) hHeld ?_ ?_
                            rotate_left
                            · rintro w' ⟨s0, s1, s2, s3, s4, s5, s6, s7, s8, s9, s10, s11, s12, s13, s14, s15, s16, s17, s18, s19, s20, s21, s22, s23, s24, s25, s26⟩
                              go_simp
                              with_reducible rfl
                            rotate_left
                            · simp only [Act.put, List.setIfInBounds_toArray, List.set_cons_zero, List.set_cons_succ, i64_w, i32_w]
                              rfl
                            refine one_ (i := 16) (N := some 101) #[true, true, true, true, true, true, true, true, true, true, true, true, true, true, true, true, true, true, false, false, false, false, false, false, false, false, false, false, false, false, false, false, false, false, false, false, false, false, false, false, false, false, false, false, false, false, false, false, false, false, false, false, false, false, false, false, false, false, false, false, false] rfl rfl (one_of HT_.out (by kernel_rfl)) (by decide) (fun K hK => ?_)
                            refine goes_ Try.func19 (by kernel_rfl) rfl #[.agg #[.string a0_0, .int .i64 a0_1, .bool a0_2, .string a0_3]] (by rfl) rfl rfl (by (try simp only [List.map_toArray, List.map_cons, List.map_nil]); first | done | rfl | (simp only [List.length_drop, List.length_take]; rfl)) ?_
                            with_reducible refine (entry_Bytes.calls kj9 a0_0 a0_1 a0_2 a0_3 t307 _ A75.out).mono ?_
                            rintro e w124 ⟨rfl, hb⟩
                            refine ⟨_, rfl, ?_⟩
                            have n0_ := Aside0.mk (blk_below (g := gb268) (o := .cells #[.string a0_0, .int .i64 a0_1, .bool a0_2, .string a0_3] 23 (0, 0)) (by (with_reducible repeat (first | refine blk_drewN ?_ _ | refine blk_drew ?_ | refine blk_alloc ?_ _)); exact BK268.out) hb)
                            have n1_ := Aside0.mk (blk_below (g := gb269) (o := .cells #[.string a1_0, .int .i64 a1_1, .bool a1_2, .string a1_3] 23 (0, 0)) (by (with_reducible repeat (first | refine blk_drewN ?_ _ | refine blk_drew ?_ | refine blk_alloc ?_ _)); exact BK269.out) hb)
                            have n2_ := Aside0.mk (blk_below (g := gb270) (o := .cells #[.string a6_0, .bool a6_1, .string a6_2] 26 (0, 0)) (by (with_reducible repeat (first | refine blk_drewN ?_ _ | refine blk_drew ?_ | refine blk_alloc ?_ _)); exact BK270.out) hb)
                            have n3_ := Aside0.mk (blk_below (g := gb283) (o := .cells #[.string t277, .int .i64 t278, .bool t279, .string t280] 23 (0, 0)) (by (with_reducible repeat (first | refine blk_drewN ?_ _ | refine blk_drew ?_ | refine blk_alloc ?_ _)); exact BK283.out) hb)
                            have n4_ := Aside0.mk (blk_below (g := gb290) (o := .cells #[.string t284, .int .i64 t285, .bool t286, .string t287] 23 (0, 0)) (by (with_reducible repeat (first | refine blk_drewN ?_ _ | refine blk_drew ?_ | refine blk_alloc ?_ _)); exact BK290.out) hb)
                            have n5_ := Aside0.mk (blk_below (g := gb296) (o := .cells #[.string t291, .int .i64 t292, .bool t293, .string t294] 23 (0, 0)) (by (with_reducible repeat (first | refine blk_drewN ?_ _ | refine blk_drew ?_ | refine blk_alloc ?_ _)); exact BK296.out) hb)
                            have n6_ := Aside0.mk (blk_below (g := gb302) (o := .cells #[.string t297, .int .i64 t298, .bool t299, .string t300] 23 (0, 0)) (by (with_reducible repeat (first | refine blk_drewN ?_ _ | refine blk_drew ?_ | refine blk_alloc ?_ _)); exact BK302.out) hb)
                            have n7_ := Aside0.mk (below_step (by repeat (first | (with_reducible first | exact HB.out | apply below_alloc | apply pw_below_drewN | apply below_drew1 | refine below_set ?_ GE268.out | refine below_set ?_ GE269.out | refine below_set ?_ GE270.out | refine below_set ?_ GE283.out | refine below_set ?_ GE290.out | refine below_set ?_ GE296.out | refine below_set ?_ GE302.out) | exact HB.out)) hb)
                            clear BK268
                            clear BK269
                            clear BK270
                            clear BK283
                            clear BK290
                            clear BK296
                            clear BK302
                            clear HB
                            have BK268 := n0_
                            have BK269 := n1_
                            have BK270 := n2_
                            have BK283 := n3_
                            have BK290 := n4_
                            have BK296 := n5_
                            have BK302 := n6_
                            have HB := n7_
                            clear n0_ n1_ n2_ n3_ n4_ n5_ n6_ n7_
                            (try clear hb)
                            (try clear hb2)
                            (try clear hk)
                            (try clear hi)
                            refine hK.out _ _ ⟨(blk_cell BK268.out 0).trans rfl, (blk_cell BK268.out 1).trans rfl, (blk_cell BK268.out 2).trans rfl, (blk_cell BK268.out 3).trans rfl, (blk_cell BK269.out 0).trans rfl, (blk_cell BK269.out 1).trans rfl, (blk_cell BK269.out 2).trans rfl, (blk_cell BK269.out 3).trans rfl, (blk_cell BK283.out 0).trans rfl, (blk_cell BK283.out 1).trans rfl, (blk_cell BK283.out 2).trans rfl, (blk_cell BK283.out 3).trans rfl, (blk_cell BK290.out 0).trans rfl, (blk_cell BK290.out 1).trans rfl, (blk_cell BK290.out 2).trans rfl, (blk_cell BK290.out 3).trans rfl, (blk_cell BK296.out 0).trans rfl, (blk_cell BK296.out 1).trans rfl, (blk_cell BK296.out 2).trans rfl, (blk_cell BK296.out 3).trans rfl, (blk_cell BK302.out 0).trans rfl, (blk_cell BK302.out 1).trans rfl, (blk_cell BK302.out 2).trans rfl, (blk_cell BK302.out 3).trans rfl, (blk_cell BK270.out 0).trans rfl, (blk_cell BK270.out 1).trans rfl, (blk_cell BK270.out 2).trans rfl⟩ (fun hHeld => ?_)
                            clear hK K
                            refine norm_ (a' := ?_) ?_ ?_
                            rotate_left
                            · show Act.put _ (some 101) _ = _
                              simp only [Act.put, List.setIfInBounds_toArray, List.set_cons_zero, List.set_cons_succ, i64_w, i32_w]
                              rfl
                            refine one_ (i := 18) (N := some 103) #[true, true, true, true, true, true, true, true, true, true, true, true, true, true, true, true, true, true, true, false, false, false, false, false, false, false, false, false, false, false, false, false, false, false, false, false, false, false, false, false, false, false, false, false, false, false, false, false, false, false, false, false, false, false, false, false, false, false, false, false, false] rfl rfl (one_of HT_.out (by kernel_rfl)) (by decide) (fun K hK => ?_)
                            refine goes_ Try.func20 (by kernel_rfl) rfl #[.agg #[.string a0_0, .int .i64 a0_1, .bool a0_2, .string a0_3]] (by rfl) rfl rfl (by (try simp only [List.map_toArray, List.map_cons, List.map_nil]); first | done | rfl | (simp only [List.length_drop, List.length_take]; rfl)) ?_
                            with_reducible refine (ravelinref6_Bytes.calls kj9 a0_0 a0_1 a0_2 a0_3 t308 _ A76.out).mono ?_
                            rintro e w125 ⟨rfl, hb⟩
                            refine ⟨_, rfl, ?_⟩
                            have n0_ := Aside0.mk (blk_below (g := gb268) (o := .cells #[.string a0_0, .int .i64 a0_1, .bool a0_2, .string a0_3] 23 (0, 0)) (by (with_reducible repeat (first | refine blk_drewN ?_ _ | refine blk_drew ?_ | refine blk_alloc ?_ _)); exact BK268.out) hb)
                            have n1_ := Aside0.mk (blk_below (g := gb269) (o := .cells #[.string a1_0, .int .i64 a1_1, .bool a1_2, .string a1_3] 23 (0, 0)) (by (with_reducible repeat (first | refine blk_drewN ?_ _ | refine blk_drew ?_ | refine blk_alloc ?_ _)); exact BK269.out) hb)
                            have n2_ := Aside0.mk (blk_below (g := gb270) (o := .cells #[.string a6_0, .bool a6_1, .string a6_2] 26 (0, 0)) (by (with_reducible repeat (first | refine blk_drewN ?_ _ | refine blk_drew ?_ | refine blk_alloc ?_ _)); exact BK270.out) hb)
                            have n3_ := Aside0.mk (blk_below (g := gb283) (o := .cells #[.string t277, .int .i64 t278, .bool t279, .string t280] 23 (0, 0)) (by (with_reducible repeat (first | refine blk_drewN ?_ _ | refine blk_drew ?_ | refine blk_alloc ?_ _)); exact BK283.out) hb)
                            have n4_ := Aside0.mk (blk_below (g := gb290) (o := .cells #[.string t284, .int .i64 t285, .bool t286, .string t287] 23 (0, 0)) (by (with_reducible repeat (first | refine blk_drewN ?_ _ | refine blk_drew ?_ | refine blk_alloc ?_ _)); exact BK290.out) hb)
                            have n5_ := Aside0.mk (blk_below (g := gb296) (o := .cells #[.string t291, .int .i64 t292, .bool t293, .string t294] 23 (0, 0)) (by (with_reducible repeat (first | refine blk_drewN ?_ _ | refine blk_drew ?_ | refine blk_alloc ?_ _)); exact BK296.out) hb)
                            have n6_ := Aside0.mk (blk_below (g := gb302) (o := .cells #[.string t297, .int .i64 t298, .bool t299, .string t300] 23 (0, 0)) (by (with_reducible repeat (first | refine blk_drewN ?_ _ | refine blk_drew ?_ | refine blk_alloc ?_ _)); exact BK302.out) hb)
                            have n7_ := Aside0.mk (below_step (by repeat (first | (with_reducible first | exact HB.out | apply below_alloc | apply pw_below_drewN | apply below_drew1 | refine below_set ?_ GE268.out | refine below_set ?_ GE269.out | refine below_set ?_ GE270.out | refine below_set ?_ GE283.out | refine below_set ?_ GE290.out | refine below_set ?_ GE296.out | refine below_set ?_ GE302.out) | exact HB.out)) hb)
                            clear BK268
                            clear BK269
                            clear BK270
                            clear BK283
                            clear BK290
                            clear BK296
                            clear BK302
                            clear HB
                            have BK268 := n0_
                            have BK269 := n1_
                            have BK270 := n2_
                            have BK283 := n3_
                            have BK290 := n4_
                            have BK296 := n5_
                            have BK302 := n6_
                            have HB := n7_
                            clear n0_ n1_ n2_ n3_ n4_ n5_ n6_ n7_
                            (try clear hb)
                            (try clear hb2)
                            (try clear hk)
                            (try clear hi)
                            refine hK.out _ _ ⟨(blk_cell BK268.out 0).trans rfl, (blk_cell BK268.out 1).trans rfl, (blk_cell BK268.out 2).trans rfl, (blk_cell BK268.out 3).trans rfl, (blk_cell BK269.out 0).trans rfl, (blk_cell BK269.out 1).trans rfl, (blk_cell BK269.out 2).trans rfl, (blk_cell BK269.out 3).trans rfl, (blk_cell BK283.out 0).trans rfl, (blk_cell BK283.out 1).trans rfl, (blk_cell BK283.out 2).trans rfl, (blk_cell BK283.out 3).trans rfl, (blk_cell BK290.out 0).trans rfl, (blk_cell BK290.out 1).trans rfl, (blk_cell BK290.out 2).trans rfl, (blk_cell BK290.out 3).trans rfl, (blk_cell BK296.out 0).trans rfl, (blk_cell BK296.out 1).trans rfl, (blk_cell BK296.out 2).trans rfl, (blk_cell BK296.out 3).trans rfl, (blk_cell BK302.out 0).trans rfl, (blk_cell BK302.out 1).trans rfl, (blk_cell BK302.out 2).trans rfl, (blk_cell BK302.out 3).trans rfl, (blk_cell BK270.out 0).trans rfl, (blk_cell BK270.out 1).trans rfl, (blk_cell BK270.out 2).trans rfl⟩ (fun hHeld => ?_)
                            clear hK K
                            refine norm_ (a' := ?_) ?_ ?_
                            rotate_left
                            · show Act.put _ (some 103) _ = _
                              simp only [Act.put, List.setIfInBounds_toArray, List.set_cons_zero, List.set_cons_succ, i64_w, i32_w]
                              rfl
                            refine pure_ (i := 19) (N := some 104) (v := ?_) (a' := ?_) #[true, true, true, true, true, true, true, true, true, true, true, true, true, true, true, true, true, true, true, true, false, false, false, false, false, false, false, false, false, false, false, false, false, false, false, false, false, false, false, false, false, false, false, false, false, false, false, false, false, false, false, false, false, false, false, false, false, false, false, false, false] rfl rfl (any_of HT_.out (by kernel_rfl)) (fun _ _ _ h => h) (Or.inl ⟨by rfl, ?_⟩) ?_ ?_
                            rotate_left
                            · intro w'
                              go_simp
                              with_reducible rfl
                            rotate_left
                            · simp only [Act.put, List.setIfInBounds_toArray, List.set_cons_zero, List.set_cons_succ, i64_w, i32_w]
                              rfl
                            refine pure_ (i := 20) (N := some 105) (v := ?_) (a' := ?_) #[true, true, true, true, true, true, true, true, true, true, true, true, true, true, true, true, true, true, true, true, true, false, false, false, false, false, false, false, false, false, false, false, false, false, false, false, false, false, false, false, false, false, false, false, false, false, false, false, false, false, false, false, false, false, false, false, false, false, false, false, false] rfl rfl (any_of HT_.out (by kernel_rfl)) (fun _ _ _ h => h) (Or.inl ⟨by rfl, ?_⟩) ?_ ?_
                            rotate_left
                            · intro w'
                              go_simp
                              with_reducible rfl
                            rotate_left
                            · simp only [Act.put, List.setIfInBounds_toArray, List.set_cons_zero, List.set_cons_succ, i64_w, i32_w]
                              rfl
                            refine pure_ (i := 21) (N := some 106) (v := ?_) (a' := ?_) #[true, true, true, true, true, true, true, true, true, true, true, true, true, true, true, true, true, true, true, true, true, true, false, false, false, false, false, false, false, false, false, false, false, false, false, false, false, false, false, false, false, false, false, false, false, false, false, false, false, false, false, false, false, false, false, false, false, false, false, false, false] rfl rfl (any_of HT_.out (by kernel_rfl)) (fun _ _ _ h => h) (Or.inl ⟨by rfl, ?_⟩) ?_ ?_
                            rotate_left
                            · intro w'
                              go_simp
                              with_reducible rfl
                            rotate_left
                            · simp only [Act.put, List.setIfInBounds_toArray, List.set_cons_zero, List.set_cons_succ, i64_w, i32_w]
                              rfl
                            refine pure_ (i := 22) (N := some 107) (v := ?_) (a' := ?_) #[true, true, true, true, true, true, true, true, true, true, true, true, true, true, true, true, true, true, true, true, true, true, true, false, false, false, false, false, false, false, false, false, false, false, false, false, false, false, false, false, false, false, false, false, false, false, false, false, false, false, false, false, false, false, false, false, false, false, false, false, false] rfl rfl (any_of HT_.out (by kernel_rfl)) (fun _ _ _ h => h) (Or.inl ⟨by rfl, ?_⟩) ?_ ?_
                            rotate_left
                            · intro w'
                              go_simp
                              with_reducible rfl
                            rotate_left
                            · simp only [Act.put, List.setIfInBounds_toArray, List.set_cons_zero, List.set_cons_succ, i64_w, i32_w]
                              rfl
                            refine pure_ (i := 24) (N := some 109) (v := ?_) (a' := ?_) #[true, true, true, true, true, true, true, true, true, true, true, true, true, true, true, true, true, true, true, true, true, true, true, false, true, false, false, false, false, false, false, false, false, false, false, false, false, false, false, false, false, false, false, false, false, false, false, false, false, false, false, false, false, false, false, false, false, false, false, false, false] rfl rfl (any_of HT_.out (by kernel_rfl)) (fun _ _ _ h => h) (Or.inl ⟨by rfl, ?_⟩) ?_ ?_
                            rotate_left
                            · intro w'
                              go_simp
                              with_reducible rfl
                            rotate_left
                            · simp only [Act.put, List.setIfInBounds_toArray, List.set_cons_zero, List.set_cons_succ, i64_w, i32_w]
                              rfl
                            refine one_ (i := 23) (N := some 108) #[true, true, true, true, true, true, true, true, true, true, true, true, true, true, true, true, true, true, true, true, true, true, true, true, true, false, false, false, false, false, false, false, false, false, false, false, false, false, false, false, false, false, false, false, false, false, false, false, false, false, false, false, false, false, false, false, false, false, false, false, false] rfl rfl (one_of HT_.out (by kernel_rfl)) (by decide) (fun K hK => ?_)
                            refine goes_ Try.func21 (by kernel_rfl) rfl #[.slice A2 l2.length c2] (by rfl) rfl rfl (by (try simp only [List.map_toArray, List.map_cons, List.map_nil]); first | done | rfl | (simp only [List.length_drop, List.length_take]; rfl)) ?_
                            with_reducible refine (entry_Sorted.calls kj9 _ _ l2 t309 _ ?side1 ?side2 A78.out).mono ?_
                            (case side1 => repeat (first | exact (Kd.C_below HR2.out HB.out) | (with_reducible refine Kd.C_alloc ?_ _) | (with_reducible refine Kd.C_drewN ?_ _) | (with_reducible refine Kd.C_drew ?_)))
                            (case side2 => exact HC2.out)
                            rintro e w126 ⟨rfl, hb⟩
                            refine ⟨_, rfl, ?_⟩
                            have n0_ := Aside0.mk (blk_below (g := gb268) (o := .cells #[.string a0_0, .int .i64 a0_1, .bool a0_2, .string a0_3] 23 (0, 0)) (by (with_reducible repeat (first | refine blk_drewN ?_ _ | refine blk_drew ?_ | refine blk_alloc ?_ _)); exact BK268.out) hb)
                            have n1_ := Aside0.mk (blk_below (g := gb269) (o := .cells #[.string a1_0, .int .i64 a1_1, .bool a1_2, .string a1_3] 23 (0, 0)) (by (with_reducible repeat (first | refine blk_drewN ?_ _ | refine blk_drew ?_ | refine blk_alloc ?_ _)); exact BK269.out) hb)
                            have n2_ := Aside0.mk (blk_below (g := gb270) (o := .cells #[.string a6_0, .bool a6_1, .string a6_2] 26 (0, 0)) (by (with_reducible repeat (first | refine blk_drewN ?_ _ | refine blk_drew ?_ | refine blk_alloc ?_ _)); exact BK270.out) hb)
                            have n3_ := Aside0.mk (blk_below (g := gb283) (o := .cells #[.string t277, .int .i64 t278, .bool t279, .string t280] 23 (0, 0)) (by (with_reducible repeat (first | refine blk_drewN ?_ _ | refine blk_drew ?_ | refine blk_alloc ?_ _)); exact BK283.out) hb)
                            have n4_ := Aside0.mk (blk_below (g := gb290) (o := .cells #[.string t284, .int .i64 t285, .bool t286, .string t287] 23 (0, 0)) (by (with_reducible repeat (first | refine blk_drewN ?_ _ | refine blk_drew ?_ | refine blk_alloc ?_ _)); exact BK290.out) hb)
                            have n5_ := Aside0.mk (blk_below (g := gb296) (o := .cells #[.string t291, .int .i64 t292, .bool t293, .string t294] 23 (0, 0)) (by (with_reducible repeat (first | refine blk_drewN ?_ _ | refine blk_drew ?_ | refine blk_alloc ?_ _)); exact BK296.out) hb)
                            have n6_ := Aside0.mk (blk_below (g := gb302) (o := .cells #[.string t297, .int .i64 t298, .bool t299, .string t300] 23 (0, 0)) (by (with_reducible repeat (first | refine blk_drewN ?_ _ | refine blk_drew ?_ | refine blk_alloc ?_ _)); exact BK302.out) hb)
                            have n7_ := Aside0.mk (below_step (by repeat (first | (with_reducible first | exact HB.out | apply below_alloc | apply pw_below_drewN | apply below_drew1 | refine below_set ?_ GE268.out | refine below_set ?_ GE269.out | refine below_set ?_ GE270.out | refine below_set ?_ GE283.out | refine below_set ?_ GE290.out | refine below_set ?_ GE296.out | refine below_set ?_ GE302.out) | exact HB.out)) hb)
                            clear BK268
                            clear BK269
                            clear BK270
                            clear BK283
                            clear BK290
                            clear BK296
                            clear BK302
                            clear HB
                            have BK268 := n0_
                            have BK269 := n1_
                            have BK270 := n2_
                            have BK283 := n3_
                            have BK290 := n4_
                            have BK296 := n5_
                            have BK302 := n6_
                            have HB := n7_
                            clear n0_ n1_ n2_ n3_ n4_ n5_ n6_ n7_
                            (try clear hb)
                            (try clear hb2)
                            (try clear hk)
                            (try clear hi)
                            refine hK.out _ _ ⟨(blk_cell BK268.out 0).trans rfl, (blk_cell BK268.out 1).trans rfl, (blk_cell BK268.out 2).trans rfl, (blk_cell BK268.out 3).trans rfl, (blk_cell BK269.out 0).trans rfl, (blk_cell BK269.out 1).trans rfl, (blk_cell BK269.out 2).trans rfl, (blk_cell BK269.out 3).trans rfl, (blk_cell BK283.out 0).trans rfl, (blk_cell BK283.out 1).trans rfl, (blk_cell BK283.out 2).trans rfl, (blk_cell BK283.out 3).trans rfl, (blk_cell BK290.out 0).trans rfl, (blk_cell BK290.out 1).trans rfl, (blk_cell BK290.out 2).trans rfl, (blk_cell BK290.out 3).trans rfl, (blk_cell BK296.out 0).trans rfl, (blk_cell BK296.out 1).trans rfl, (blk_cell BK296.out 2).trans rfl, (blk_cell BK296.out 3).trans rfl, (blk_cell BK302.out 0).trans rfl, (blk_cell BK302.out 1).trans rfl, (blk_cell BK302.out 2).trans rfl, (blk_cell BK302.out 3).trans rfl, (blk_cell BK270.out 0).trans rfl, (blk_cell BK270.out 1).trans rfl, (blk_cell BK270.out 2).trans rfl⟩ (fun hHeld => ?_)
                            clear hK K
                            refine norm_ (a' := ?_) ?_ ?_
                            rotate_left
                            · show Act.put _ (some 108) _ = _
                              simp only [Act.put, List.setIfInBounds_toArray, List.set_cons_zero, List.set_cons_succ, i64_w, i32_w]
                              rfl
                            refine one_ (i := 25) (N := some 110) #[true, true, true, true, true, true, true, true, true, true, true, true, true, true, true, true, true, true, true, true, true, true, true, true, true, true, false, false, false, false, false, false, false, false, false, false, false, false, false, false, false, false, false, false, false, false, false, false, false, false, false, false, false, false, false, false, false, false, false, false, false] rfl rfl (one_of HT_.out (by kernel_rfl)) (by decide) (fun K hK => ?_)
                            refine goes_ Try.func22 (by kernel_rfl) rfl #[.slice A2 l2.length c2] (by rfl) rfl rfl (by (try simp only [List.map_toArray, List.map_cons, List.map_nil]); first | done | rfl | (simp only [List.length_drop, List.length_take]; rfl)) ?_
                            with_reducible refine (ravelinref6_Sorted.calls kj9 _ _ l2 t310 _ ?side1 ?side2 A79.out).mono ?_
                            (case side1 => repeat (first | exact (Kd.C_below HR2.out HB.out) | (with_reducible refine Kd.C_alloc ?_ _) | (with_reducible refine Kd.C_drewN ?_ _) | (with_reducible refine Kd.C_drew ?_)))
                            (case side2 => exact HC2.out)
                            rintro e w127 ⟨rfl, hb⟩
                            refine ⟨_, rfl, ?_⟩
                            have n0_ := Aside0.mk (blk_below (g := gb268) (o := .cells #[.string a0_0, .int .i64 a0_1, .bool a0_2, .string a0_3] 23 (0, 0)) (by (with_reducible repeat (first | refine blk_drewN ?_ _ | refine blk_drew ?_ | refine blk_alloc ?_ _)); exact BK268.out) hb)
                            have n1_ := Aside0.mk (blk_below (g := gb269) (o := .cells #[.string a1_0, .int .i64 a1_1, .bool a1_2, .string a1_3] 23 (0, 0)) (by (with_reducible repeat (first | refine blk_drewN ?_ _ | refine blk_drew ?_ | refine blk_alloc ?_ _)); exact BK269.out) hb)
                            have n2_ := Aside0.mk (blk_below (g := gb270) (o := .cells #[.string a6_0, .bool a6_1, .string a6_2] 26 (0, 0)) (by (with_reducible repeat (first | refine blk_drewN ?_ _ | refine blk_drew ?_ | refine blk_alloc ?_ _)); exact BK270.out) hb)
                            have n3_ := Aside0.mk (blk_below (g := gb283) (o := .cells #[.string t277, .int .i64 t278, .bool t279, .string t280] 23 (0, 0)) (by (with_reducible repeat (first | refine blk_drewN ?_ _ | refine blk_drew ?_ | refine blk_alloc ?_ _)); exact BK283.out) hb)
                            have n4_ := Aside0.mk (blk_below (g := gb290) (o := .cells #[.string t284, .int .i64 t285, .bool t286, .string t287] 23 (0, 0)) (by (with_reducible repeat (first | refine blk_drewN ?_ _ | refine blk_drew ?_ | refine blk_alloc ?_ _)); exact BK290.out) hb)
                            have n5_ := Aside0.mk (blk_below (g := gb296) (o := .cells #[.string t291, .int .i64 t292, .bool t293, .string t294] 23 (0, 0)) (by (with_reducible repeat (first | refine blk_drewN ?_ _ | refine blk_drew ?_ | refine blk_alloc ?_ _)); exact BK296.out) hb)
                            have n6_ := Aside0.mk (blk_below (g := gb302) (o := .cells #[.string t297, .int .i64 t298, .bool t299, .string t300] 23 (0, 0)) (by (with_reducible repeat (first | refine blk_drewN ?_ _ | refine blk_drew ?_ | refine blk_alloc ?_ _)); exact BK302.out) hb)
                            have n7_ := Aside0.mk (below_step (by repeat (first | (with_reducible first | exact HB.out | apply below_alloc | apply pw_below_drewN | apply below_drew1 | refine below_set ?_ GE268.out | refine below_set ?_ GE269.out | refine below_set ?_ GE270.out | refine below_set ?_ GE283.out | refine below_set ?_ GE290.out | refine below_set ?_ GE296.out | refine below_set ?_ GE302.out) | exact HB.out)) hb)
                            clear BK268
                            clear BK269
                            clear BK270
                            clear BK283
                            clear BK290
                            clear BK296
                            clear BK302
                            clear HB
                            have BK268 := n0_
                            have BK269 := n1_
                            have BK270 := n2_
                            have BK283 := n3_
                            have BK290 := n4_
                            have BK296 := n5_
                            have BK302 := n6_
                            have HB := n7_
                            clear n0_ n1_ n2_ n3_ n4_ n5_ n6_ n7_
                            (try clear hb)
                            (try clear hb2)
                            (try clear hk)
                            (try clear hi)
                            refine hK.out _ _ ⟨(blk_cell BK268.out 0).trans rfl, (blk_cell BK268.out 1).trans rfl, (blk_cell BK268.out 2).trans rfl, (blk_cell BK268.out 3).trans rfl, (blk_cell BK269.out 0).trans rfl, (blk_cell BK269.out 1).trans rfl, (blk_cell BK269.out 2).trans rfl, (blk_cell BK269.out 3).trans rfl, (blk_cell BK283.out 0).trans rfl, (blk_cell BK283.out 1).trans rfl, (blk_cell BK283.out 2).trans rfl, (blk_cell BK283.out 3).trans rfl, (blk_cell BK290.out 0).trans rfl, (blk_cell BK290.out 1).trans rfl, (blk_cell BK290.out 2).trans rfl, (blk_cell BK290.out 3).trans rfl, (blk_cell BK296.out 0).trans rfl, (blk_cell BK296.out 1).trans rfl, (blk_cell BK296.out 2).trans rfl, (blk_cell BK296.out 3).trans rfl, (blk_cell BK302.out 0).trans rfl, (blk_cell BK302.out 1).trans rfl, (blk_cell BK302.out 2).trans rfl, (blk_cell BK302.out 3).trans rfl, (blk_cell BK270.out 0).trans rfl, (blk_cell BK270.out 1).trans rfl, (blk_cell BK270.out 2).trans rfl⟩ (fun hHeld => ?_)
                            clear hK K
                            refine norm_ (a' := ?_) ?_ ?_
                            rotate_left
                            · show Act.put _ (some 110) _ = _
                              simp only [Act.put, List.setIfInBounds_toArray, List.set_cons_zero, List.set_cons_succ, i64_w, i32_w]
                              rfl
                            refine pure_ (i := 26) (N := some 111) (v := ?_) (a' := ?_) #[true, true, true, true, true, true, true, true, true, true, true, true, true, true, true, true, true, true, true, true, true, true, true, true, true, true, true, false, false, false, false, false, false, false, false, false, false, false, false, false, false, false, false, false, false, false, false, false, false, false, false, false, false, false, false, false, false, false, false, false, false] rfl rfl (any_of HT_.out (by kernel_rfl)) (fun _ _ _ h => h) (Or.inl ⟨by rfl, ?_⟩) ?_ ?_
                            rotate_left
                            · intro w'
                              go_simp
                              with_reducible rfl
                            rotate_left
                            · simp only [Act.put, List.setIfInBounds_toArray, List.set_cons_zero, List.set_cons_succ, i64_w, i32_w]
                              rfl
                            refine pure_ (i := 27) (N := some 112) (v := ?_) (a' := ?_) #[true, true, true, true, true, true, true, true, true, true, true, true, true, true, true, true, true, true, true, true, true, true, true, true, true, true, true, true, false, false, false, false, false, false, false, false, false, false, false, false, false, false, false, false, false, false, false, false, false, false, false, false, false, false, false, false, false, false, false, false, false] rfl rfl (any_of HT_.out (by kernel_rfl)) (fun _ _ _ h => h) (Or.inl ⟨by rfl, ?_⟩) ?_ ?_
                            rotate_left
                            · intro w'
                              go_simp
                              with_reducible rfl
                            rotate_left
                            · simp only [Act.put, List.setIfInBounds_toArray, List.set_cons_zero, List.set_cons_succ, i64_w, i32_w]
                              rfl
                            refine pure_ (i := 28) (N := some 113) (v := ?_) (a' := ?_) #[true, true, true, true, true, true, true, true, true, true, true, true, true, true, true, true, true, true, true, true, true, true, true, true, true, true, true, true, true, false, false, false, false, false, false, false, false, false, false, false, false, false, false, false, false, false, false, false, false, false, false, false, false, false, false, false, false, false, false, false, false] rfl rfl (any_of HT_.out (by kernel_rfl)) (fun _ _ _ h => h) (Or.inl ⟨by rfl, ?_⟩) ?_ ?_
                            rotate_left
                            · intro w'
                              go_simp
                              with_reducible rfl
                            rotate_left
                            · simp only [Act.put, List.setIfInBounds_toArray, List.set_cons_zero, List.set_cons_succ, i64_w, i32_w]
                              rfl
                            refine take_ (i := 29) (N := some 114) (v := ?_) (a' := ?_) #[true, true, true, true, true, true, true, true, true, true, true, true, true, true, true, true, true, true, true, true, true, true, true, true, true, true, true, true, true, true, false, false, false, false, false, false, false, false, false, false, false, false, false, false, false, false, false, false, false, false, false, false, false, false, false, false, false, false, false, false, false] rfl rfl (take_ofW HT_.out HW_.out (by kernel_rfl)) (fun _ _ _ h => h) (Or.inl ⟨by rfl, ?_⟩) hHeld ?_ ?_
                            rotate_left
                            · rintro w' ⟨s0, s1, s2, s3, s4, s5, s6, s7, s8, s9, s10, s11, s12, s13, s14, s15, s16, s17, s18, s19, s20, s21, s22, s23, s24, s25, s26⟩
                              go_simp
                              with_reducible rfl
                            rotate_left
                            · simp only [Act.put, List.setIfInBounds_toArray, List.set_cons_zero, List.set_cons_succ, i64_w, i32_w]
                              rfl
                            refine take_ (i := 30) (N := some 115) (v := ?_) (a' := ?_) #[true, true, true, true, true, true, true, true, true, true, true, true, true, true, true, true, true, true, true, true, true, true, true, true, true, true, true, true, true, true, true, false, false, false, false, false, false, false, false, false, false, false, false, false, false, false, false, false, false, false, false, false, false, false, false, false, false, false, false, false, false] rfl rfl (take_ofW HT_.out HW_.out (by kernel_rfl)) (fun _ _ _ h => h) (Or.inl ⟨by rfl, ?_⟩) hHeld ?_ ?_
                            rotate_left
                            · rintro w' ⟨s0, s1, s2, s3, s4, s5, s6, s7, s8, s9, s10, s11, s12, s13, s14, s15, s16, s17, s18, s19, s20, s21, s22, s23, s24, s25, s26⟩
                              go_simp
                              with_reducible rfl
                            rotate_left
                            · simp only [Act.put, List.setIfInBounds_toArray, List.set_cons_zero, List.set_cons_succ, i64_w, i32_w]
                              rfl
                            refine pure_ (i := 31) (N := some 116) (v := ?_) (a' := ?_) #[true, true, true, true, true, true, true, true, true, true, true, true, true, true, true, true, true, true, true, true, true, true, true, true, true, true, true, true, true, true, true, true, false, false, false, false, false, false, false, false, false, false, false, false, false, false, false, false, false, false, false, false, false, false, false, false, false, false, false, false, false] rfl rfl (any_of HT_.out (by kernel_rfl)) (fun _ _ _ h => h) (Or.inl ⟨by rfl, ?_⟩) ?_ ?_
                            rotate_left
                            · intro w'
                              go_simp
                              with_reducible rfl
                            rotate_left
                            · simp only [Act.put, List.setIfInBounds_toArray, List.set_cons_zero, List.set_cons_succ, i64_w, i32_w]
                              rfl
                            refine pure_ (i := 32) (N := some 117) (v := ?_) (a' := ?_) #[true, true, true, true, true, true, true, true, true, true, true, true, true, true, true, true, true, true, true, true, true, true, true, true, true, true, true, true, true, true, true, true, true, false, false, false, false, false, false, false, false, false, false, false, false, false, false, false, false, false, false, false, false, false, false, false, false, false, false, false, false] rfl rfl (any_of HT_.out (by kernel_rfl)) (fun _ _ _ h => h) (Or.inl ⟨by rfl, ?_⟩) ?_ ?_
                            rotate_left
                            · intro w'
                              go_simp
                              with_reducible rfl
                            rotate_left
                            · simp only [Act.put, List.setIfInBounds_toArray, List.set_cons_zero, List.set_cons_succ, i64_w, i32_w]
                              rfl
                            refine pure_ (i := 33) (N := some 118) (v := ?_) (a' := ?_) #[true, true, true, true, true, true, true, true, true, true, true, true, true, true, true, true, true, true, true, true, true, true, true, true, true, true, true, true, true, true, true, true, true, true, false, false, false, false, false, false, false, false, false, false, false, false, false, false, false, false, false, false, false, false, false, false, false, false, false, false, false] rfl rfl (any_of HT_.out (by kernel_rfl)) (fun _ _ _ h => h) (Or.inl ⟨by rfl, ?_⟩) ?_ ?_
                            rotate_left
                            · intro w'
                              go_simp
                              with_reducible rfl
                            rotate_left
                            · simp only [Act.put, List.setIfInBounds_toArray, List.set_cons_zero, List.set_cons_succ, i64_w, i32_w]
                              rfl
                            refine pure_ (i := 34) (N := some 119) (v := ?_) (a' := ?_) #[true, true, true, true, true, true, true, true, true, true, true, true, true, true, true, true, true, true, true, true, true, true, true, true, true, true, true, true, true, true, true, true, true, true, true, false, false, false, false, false, false, false, false, false, false, false, false, false, false, false, false, false, false, false, false, false, false, false, false, false, false] rfl rfl (any_of HT_.out (by kernel_rfl)) (fun _ _ _ h => h) (Or.inl ⟨by rfl, ?_⟩) ?_ ?_
                            rotate_left
                            · intro w'
                              go_simp
                              with_reducible rfl
                            rotate_left
                            · simp only [Act.put, List.setIfInBounds_toArray, List.set_cons_zero, List.set_cons_succ, i64_w, i32_w]
                              rfl
                            refine pure_ (i := 35) (N := some 120) (v := ?_) (a' := ?_) #[true, true, true, true, true, true, true, true, true, true, true, true, true, true, true, true, true, true, true, true, true, true, true, true, true, true, true, true, true, true, true, true, true, true, true, true, false, false, false, false, false, false, false, false, false, false, false, false, false, false, false, false, false, false, false, false, false, false, false, false, false] rfl rfl (any_of HT_.out (by kernel_rfl)) (fun _ _ _ h => h) (Or.inl ⟨by rfl, ?_⟩) ?_ ?_
                            rotate_left
                            · intro w'
                              go_simp
                              with_reducible rfl
                            rotate_left
                            · simp only [Act.put, List.setIfInBounds_toArray, List.set_cons_zero, List.set_cons_succ, i64_w, i32_w]
                              rfl
                            refine pure_ (i := 36) (N := some 121) (v := ?_) (a' := ?_) #[true, true, true, true, true, true, true, true, true, true, true, true, true, true, true, true, true, true, true, true, true, true, true, true, true, true, true, true, true, true, true, true, true, true, true, true, true, false, false, false, false, false, false, false, false, false, false, false, false, false, false, false, false, false, false, false, false, false, false, false, false] rfl rfl (any_of HT_.out (by kernel_rfl)) (fun _ _ _ h => h) (Or.inl ⟨by rfl, ?_⟩) ?_ ?_
                            rotate_left
                            · intro w'
                              go_simp
                              with_reducible rfl
                            rotate_left
                            · simp only [Act.put, List.setIfInBounds_toArray, List.set_cons_zero, List.set_cons_succ, i64_w, i32_w]
                              rfl
                            refine pure_ (i := 37) (N := some 122) (v := ?_) (a' := ?_) #[true, true, true, true, true, true, true, true, true, true, true, true, true, true, true, true, true, true, true, true, true, true, true, true, true, true, true, true, true, true, true, true, true, true, true, true, true, true, false, false, false, false, false, false, false, false, false, false, false, false, false, false, false, false, false, false, false, false, false, false, false] rfl rfl (any_of HT_.out (by kernel_rfl)) (fun _ _ _ h => h) (Or.inl ⟨by rfl, ?_⟩) ?_ ?_
                            rotate_left
                            · intro w'
                              go_simp
                              with_reducible rfl
                            rotate_left
                            · simp only [Act.put, List.setIfInBounds_toArray, List.set_cons_zero, List.set_cons_succ, i64_w, i32_w]
                              rfl
                            refine pure_ (i := 38) (N := some 123) (v := ?_) (a' := ?_) #[true, true, true, true, true, true, true, true, true, true, true, true, true, true, true, true, true, true, true, true, true, true, true, true, true, true, true, true, true, true, true, true, true, true, true, true, true, true, true, false, false, false, false, false, false, false, false, false, false, false, false, false, false, false, false, false, false, false, false, false, false] rfl rfl (any_of HT_.out (by kernel_rfl)) (fun _ _ _ h => h) (Or.inl ⟨by rfl, ?_⟩) ?_ ?_
                            rotate_left
                            · intro w'
                              go_simp
                              with_reducible rfl
                            rotate_left
                            · simp only [Act.put, List.setIfInBounds_toArray, List.set_cons_zero, List.set_cons_succ, i64_w, i32_w]
                              rfl
                            refine pure_ (i := 39) (N := some 124) (v := ?_) (a' := ?_) #[true, true, true, true, true, true, true, true, true, true, true, true, true, true, true, true, true, true, true, true, true, true, true, true, true, true, true, true, true, true, true, true, true, true, true, true, true, true, true, true, false, false, false, false, false, false, false, false, false, false, false, false, false, false, false, false, false, false, false, false, false] rfl rfl (any_of HT_.out (by kernel_rfl)) (fun _ _ _ h => h) (Or.inl ⟨by rfl, ?_⟩) ?_ ?_
                            rotate_left
                            · intro w'
                              go_simp
                              with_reducible rfl
                            rotate_left
                            · simp only [Act.put, List.setIfInBounds_toArray, List.set_cons_zero, List.set_cons_succ, i64_w, i32_w]
                              rfl
                            refine pure_ (i := 40) (N := some 125) (v := ?_) (a' := ?_) #[true, true, true, true, true, true, true, true, true, true, true, true, true, true, true, true, true, true, true, true, true, true, true, true, true, true, true, true, true, true, true, true, true, true, true, true, true, true, true, true, true, false, false, false, false, false, false, false, false, false, false, false, false, false, false, false, false, false, false, false, false] rfl rfl (any_of HT_.out (by kernel_rfl)) (fun _ _ _ h => h) (Or.inl ⟨by rfl, ?_⟩) ?_ ?_
                            rotate_left
                            · intro w'
                              go_simp
                              with_reducible rfl
                            rotate_left
                            · simp only [Act.put, List.setIfInBounds_toArray, List.set_cons_zero, List.set_cons_succ, i64_w, i32_w]
                              rfl
                            refine pure_ (i := 41) (N := some 126) (v := ?_) (a' := ?_) #[true, true, true, true, true, true, true, true, true, true, true, true, true, true, true, true, true, true, true, true, true, true, true, true, true, true, true, true, true, true, true, true, true, true, true, true, true, true, true, true, true, true, false, false, false, false, false, false, false, false, false, false, false, false, false, false, false, false, false, false, false] rfl rfl (any_of HT_.out (by kernel_rfl)) (fun _ _ _ h => h) (Or.inl ⟨by rfl, ?_⟩) ?_ ?_
                            rotate_left
                            · intro w'
                              go_simp
                              with_reducible rfl
                            rotate_left
                            · simp only [Act.put, List.setIfInBounds_toArray, List.set_cons_zero, List.set_cons_succ, i64_w, i32_w]
                              rfl
                            refine pure_ (i := 42) (N := some 127) (v := ?_) (a' := ?_) #[true, true, true, true, true, true, true, true, true, true, true, true, true, true, true, true, true, true, true, true, true, true, true, true, true, true, true, true, true, true, true, true, true, true, true, true, true, true, true, true, true, true, true, false, false, false, false, false, false, false, false, false, false, false, false, false, false, false, false, false, false] rfl rfl (any_of HT_.out (by kernel_rfl)) (fun _ _ _ h => h) (Or.inl ⟨by rfl, ?_⟩) ?_ ?_
                            rotate_left
                            · intro w'
                              go_simp
                              with_reducible rfl
                            rotate_left
                            · simp only [Act.put, List.setIfInBounds_toArray, List.set_cons_zero, List.set_cons_succ, i64_w, i32_w]
                              rfl
                            refine pure_ (i := 43) (N := some 128) (v := ?_) (a' := ?_) #[true, true, true, true, true, true, true, true, true, true, true, true, true, true, true, true, true, true, true, true, true, true, true, true, true, true, true, true, true, true, true, true, true, true, true, true, true, true, true, true, true, true, true, true, false, false, false, false, false, false, false, false, false, false, false, false, false, false, false, false, false] rfl rfl (any_of HT_.out (by kernel_rfl)) (fun _ _ _ h => h) (Or.inl ⟨by rfl, ?_⟩) ?_ ?_
                            rotate_left
                            · intro w'
                              go_simp
                              with_reducible rfl
                            rotate_left
                            · simp only [Act.put, List.setIfInBounds_toArray, List.set_cons_zero, List.set_cons_succ, i64_w, i32_w]
                              rfl
                            refine take_ (i := 44) (N := some 129) (v := ?_) (a' := ?_) #[true, true, true, true, true, true, true, true, true, true, true, true, true, true, true, true, true, true, true, true, true, true, true, true, true, true, true, true, true, true, true, true, true, true, true, true, true, true, true, true, true, true, true, true, true, false, false, false, false, false, false, false, false, false, false, false, false, false, false, false, false] rfl rfl (take_ofW HT_.out HW_.out (by kernel_rfl)) (fun _ _ _ h => h) (Or.inl ⟨by rfl, ?_⟩) hHeld ?_ ?_
                            rotate_left
                            · rintro w' ⟨s0, s1, s2, s3, s4, s5, s6, s7, s8, s9, s10, s11, s12, s13, s14, s15, s16, s17, s18, s19, s20, s21, s22, s23, s24, s25, s26⟩
                              go_simp
                              with_reducible rfl
                            rotate_left
                            · simp only [Act.put, List.setIfInBounds_toArray, List.set_cons_zero, List.set_cons_succ, i64_w, i32_w]
                              rfl
                            refine take_ (i := 45) (N := some 130) (v := ?_) (a' := ?_) #[true, true, true, true, true, true, true, true, true, true, true, true, true, true, true, true, true, true, true, true, true, true, true, true, true, true, true, true, true, true, true, true, true, true, true, true, true, true, true, true, true, true, true, true, true, true, false, false, false, false, false, false, false, false, false, false, false, false, false, false, false] rfl rfl (take_ofW HT_.out HW_.out (by kernel_rfl)) (fun _ _ _ h => h) (Or.inl ⟨by rfl, ?_⟩) hHeld ?_ ?_
                            rotate_left
                            · rintro w' ⟨s0, s1, s2, s3, s4, s5, s6, s7, s8, s9, s10, s11, s12, s13, s14, s15, s16, s17, s18, s19, s20, s21, s22, s23, s24, s25, s26⟩
                              go_simp
                              with_reducible rfl
                            rotate_left
                            · simp only [Act.put, List.setIfInBounds_toArray, List.set_cons_zero, List.set_cons_succ, i64_w, i32_w]
                              rfl
                            refine pure_ (i := 46) (N := some 131) (v := ?_) (a' := ?_) #[true, true, true, true, true, true, true, true, true, true, true, true, true, true, true, true, true, true, true, true, true, true, true, true, true, true, true, true, true, true, true, true, true, true, true, true, true, true, true, true, true, true, true, true, true, true, true, false, false, false, false, false, false, false, false, false, false, false, false, false, false] rfl rfl (any_of HT_.out (by kernel_rfl)) (fun _ _ _ h => h) (Or.inl ⟨by rfl, ?_⟩) ?_ ?_
                            rotate_left
                            · intro w'
                              go_simp
                              with_reducible rfl
                            rotate_left
                            · simp only [Act.put, List.setIfInBounds_toArray, List.set_cons_zero, List.set_cons_succ, i64_w, i32_w]
                              rfl
                            refine pure_ (i := 47) (N := some 132) (v := ?_) (a' := ?_) #[true, true, true, true, true, true, true, true, true, true, true, true, true, true, true, true, true, true, true, true, true, true, true, true, true, true, true, true, true, true, true, true, true, true, true, true, true, true, true, true, true, true, true, true, true, true, true, true, false, false, false, false, false, false, false, false, false, false, false, false, false] rfl rfl (any_of HT_.out (by kernel_rfl)) (fun _ _ _ h => h) (Or.inl ⟨by rfl, ?_⟩) ?_ ?_
                            rotate_left
                            · intro w'
                              go_simp
                              with_reducible rfl
                            rotate_left
                            · simp only [Act.put, List.setIfInBounds_toArray, List.set_cons_zero, List.set_cons_succ, i64_w, i32_w]
                              rfl
                            refine pure_ (i := 48) (N := some 133) (v := ?_) (a' := ?_) #[true, true, true, true, true, true, true, true, true, true, true, true, true, true, true, true, true, true, true, true, true, true, true, true, true, true, true, true, true, true, true, true, true, true, true, true, true, true, true, true, true, true, true, true, true, true, true, true, true, false, false, false, false, false, false, false, false, false, false, false, false] rfl rfl (any_of HT_.out (by kernel_rfl)) (fun _ _ _ h => h) (Or.inl ⟨by rfl, ?_⟩) ?_ ?_
                            rotate_left
                            · intro w'
                              go_simp
                              with_reducible rfl
                            rotate_left
                            · simp only [Act.put, List.setIfInBounds_toArray, List.set_cons_zero, List.set_cons_succ, i64_w, i32_w]
                              rfl
                            refine pure_ (i := 49) (N := some 134) (v := ?_) (a' := ?_) #[true, true, true, true, true, true, true, true, true, true, true, true, true, true, true, true, true, true, true, true, true, true, true, true, true, true, true, true, true, true, true, true, true, true, true, true, true, true, true, true, true, true, true, true, true, true, true, true, true, true, false, false, false, false, false, false, false, false, false, false, false] rfl rfl (any_of HT_.out (by kernel_rfl)) (fun _ _ _ h => h) (Or.inl ⟨by rfl, ?_⟩) ?_ ?_
                            rotate_left
                            · intro w'
                              go_simp
                              with_reducible rfl
                            rotate_left
                            · simp only [Act.put, List.setIfInBounds_toArray, List.set_cons_zero, List.set_cons_succ, i64_w, i32_w]
                              rfl
                            refine pure_ (i := 50) (N := some 135) (v := ?_) (a' := ?_) #[true, true, true, true, true, true, true, true, true, true, true, true, true, true, true, true, true, true, true, true, true, true, true, true, true, true, true, true, true, true, true, true, true, true, true, true, true, true, true, true, true, true, true, true, true, true, true, true, true, true, true, false, false, false, false, false, false, false, false, false, false] rfl rfl (any_of HT_.out (by kernel_rfl)) (fun _ _ _ h => h) (Or.inl ⟨by rfl, ?_⟩) ?_ ?_
                            rotate_left
                            · intro w'
                              go_simp
                              with_reducible rfl
                            rotate_left
                            · simp only [Act.put, List.setIfInBounds_toArray, List.set_cons_zero, List.set_cons_succ, i64_w, i32_w]
                              rfl
                            refine pure_ (i := 51) (N := some 136) (v := ?_) (a' := ?_) #[true, true, true, true, true, true, true, true, true, true, true, true, true, true, true, true, true, true, true, true, true, true, true, true, true, true, true, true, true, true, true, true, true, true, true, true, true, true, true, true, true, true, true, true, true, true, true, true, true, true, true, true, false, false, false, false, false, false, false, false, false] rfl rfl (any_of HT_.out (by kernel_rfl)) (fun _ _ _ h => h) (Or.inl ⟨by rfl, ?_⟩) ?_ ?_
                            rotate_left
                            · intro w'
                              go_simp
                              with_reducible rfl
                            rotate_left
                            · simp only [Act.put, List.setIfInBounds_toArray, List.set_cons_zero, List.set_cons_succ, i64_w, i32_w]
                              rfl
                            refine pure_ (i := 52) (N := some 137) (v := ?_) (a' := ?_) #[true, true, true, true, true, true, true, true, true, true, true, true, true, true, true, true, true, true, true, true, true, true, true, true, true, true, true, true, true, true, true, true, true, true, true, true, true, true, true, true, true, true, true, true, true, true, true, true, true, true, true, true, true, false, false, false, false, false, false, false, false] rfl rfl (any_of HT_.out (by kernel_rfl)) (fun _ _ _ h => h) (Or.inl ⟨by rfl, ?_⟩) ?_ ?_
                            rotate_left
                            · intro w'
                              go_simp
                              with_reducible rfl
                            rotate_left
                            · simp only [Act.put, List.setIfInBounds_toArray, List.set_cons_zero, List.set_cons_succ, i64_w, i32_w]
                              rfl
                            refine pure_ (i := 53) (N := some 138) (v := ?_) (a' := ?_) #[true, true, true, true, true, true, true, true, true, true, true, true, true, true, true, true, true, true, true, true, true, true, true, true, true, true, true, true, true, true, true, true, true, true, true, true, true, true, true, true, true, true, true, true, true, true, true, true, true, true, true, true, true, true, false, false, false, false, false, false, false] rfl rfl (any_of HT_.out (by kernel_rfl)) (fun _ _ _ h => h) (Or.inl ⟨by rfl, ?_⟩) ?_ ?_
                            rotate_left
                            · intro w'
                              go_simp
                              with_reducible rfl
                            rotate_left
                            · simp only [Act.put, List.setIfInBounds_toArray, List.set_cons_zero, List.set_cons_succ, i64_w, i32_w]
                              rfl
                            refine take_ (i := 54) (N := some 139) (v := ?_) (a' := ?_) #[true, true, true, true, true, true, true, true, true, true, true, true, true, true, true, true, true, true, true, true, true, true, true, true, true, true, true, true, true, true, true, true, true, true, true, true, true, true, true, true, true, true, true, true, true, true, true, true, true, true, true, true, true, true, true, false, false, false, false, false, false] rfl rfl (take_ofW HT_.out HW_.out (by kernel_rfl)) (fun _ _ _ h => h) (Or.inl ⟨by rfl, ?_⟩) hHeld ?_ ?_
                            rotate_left
                            · rintro w' ⟨s0, s1, s2, s3, s4, s5, s6, s7, s8, s9, s10, s11, s12, s13, s14, s15, s16, s17, s18, s19, s20, s21, s22, s23, s24, s25, s26⟩
                              go_simp
                              with_reducible rfl
                            rotate_left
                            · simp only [Act.put, List.setIfInBounds_toArray, List.set_cons_zero, List.set_cons_succ, i64_w, i32_w]
                              rfl
                            refine take_ (i := 56) (N := some 141) (v := ?_) (a' := ?_) #[true, true, true, true, true, true, true, true, true, true, true, true, true, true, true, true, true, true, true, true, true, true, true, true, true, true, true, true, true, true, true, true, true, true, true, true, true, true, true, true, true, true, true, true, true, true, true, true, true, true, true, true, true, true, true, false, true, false, false, false, false] rfl rfl (take_ofW HT_.out HW_.out (by kernel_rfl)) (fun _ _ _ h => h) (Or.inl ⟨by rfl, ?_⟩) hHeld ?_ ?_
                            rotate_left
                            · rintro w' ⟨s0, s1, s2, s3, s4, s5, s6, s7, s8, s9, s10, s11, s12, s13, s14, s15, s16, s17, s18, s19, s20, s21, s22, s23, s24, s25, s26⟩
                              go_simp
                              with_reducible rfl
                            rotate_left
                            · simp only [Act.put, List.setIfInBounds_toArray, List.set_cons_zero, List.set_cons_succ, i64_w, i32_w]
                              rfl
                            refine one_ (i := 55) (N := some 140) #[true, true, true, true, true, true, true, true, true, true, true, true, true, true, true, true, true, true, true, true, true, true, true, true, true, true, true, true, true, true, true, true, true, true, true, true, true, true, true, true, true, true, true, true, true, true, true, true, true, true, true, true, true, true, true, true, true, false, false, false, false] rfl rfl (one_of HT_.out (by kernel_rfl)) (by decide) (fun K hK => ?_)
                            refine goes_ Try.func23 (by kernel_rfl) rfl #[.agg #[.string a6_0, .bool a6_1, .string a6_2]] (by rfl) rfl rfl (by (try simp only [List.map_toArray, List.map_cons, List.map_nil]); first | done | rfl | (simp only [List.length_drop, List.length_take]; rfl)) ?_
                            with_reducible refine (entry_IsWrite.calls a6_0 a6_1 a6_2 t311 _ A86.out).mono ?_
                            rintro e w128 ⟨rfl, hb⟩
                            refine ⟨_, rfl, ?_⟩
                            have n0_ := Aside0.mk (blk_below (g := gb268) (o := .cells #[.string a0_0, .int .i64 a0_1, .bool a0_2, .string a0_3] 23 (0, 0)) (by (with_reducible repeat (first | refine blk_drewN ?_ _ | refine blk_drew ?_ | refine blk_alloc ?_ _)); exact BK268.out) hb)
                            have n1_ := Aside0.mk (blk_below (g := gb269) (o := .cells #[.string a1_0, .int .i64 a1_1, .bool a1_2, .string a1_3] 23 (0, 0)) (by (with_reducible repeat (first | refine blk_drewN ?_ _ | refine blk_drew ?_ | refine blk_alloc ?_ _)); exact BK269.out) hb)
                            have n2_ := Aside0.mk (blk_below (g := gb270) (o := .cells #[.string a6_0, .bool a6_1, .string a6_2] 26 (0, 0)) (by (with_reducible repeat (first | refine blk_drewN ?_ _ | refine blk_drew ?_ | refine blk_alloc ?_ _)); exact BK270.out) hb)
                            have n3_ := Aside0.mk (blk_below (g := gb283) (o := .cells #[.string t277, .int .i64 t278, .bool t279, .string t280] 23 (0, 0)) (by (with_reducible repeat (first | refine blk_drewN ?_ _ | refine blk_drew ?_ | refine blk_alloc ?_ _)); exact BK283.out) hb)
                            have n4_ := Aside0.mk (blk_below (g := gb290) (o := .cells #[.string t284, .int .i64 t285, .bool t286, .string t287] 23 (0, 0)) (by (with_reducible repeat (first | refine blk_drewN ?_ _ | refine blk_drew ?_ | refine blk_alloc ?_ _)); exact BK290.out) hb)
                            have n5_ := Aside0.mk (blk_below (g := gb296) (o := .cells #[.string t291, .int .i64 t292, .bool t293, .string t294] 23 (0, 0)) (by (with_reducible repeat (first | refine blk_drewN ?_ _ | refine blk_drew ?_ | refine blk_alloc ?_ _)); exact BK296.out) hb)
                            have n6_ := Aside0.mk (blk_below (g := gb302) (o := .cells #[.string t297, .int .i64 t298, .bool t299, .string t300] 23 (0, 0)) (by (with_reducible repeat (first | refine blk_drewN ?_ _ | refine blk_drew ?_ | refine blk_alloc ?_ _)); exact BK302.out) hb)
                            have n7_ := Aside0.mk (below_step (by repeat (first | (with_reducible first | exact HB.out | apply below_alloc | apply pw_below_drewN | apply below_drew1 | refine below_set ?_ GE268.out | refine below_set ?_ GE269.out | refine below_set ?_ GE270.out | refine below_set ?_ GE283.out | refine below_set ?_ GE290.out | refine below_set ?_ GE296.out | refine below_set ?_ GE302.out) | exact HB.out)) hb)
                            clear BK268
                            clear BK269
                            clear BK270
                            clear BK283
                            clear BK290
                            clear BK296
                            clear BK302
                            clear HB
                            have BK268 := n0_
                            have BK269 := n1_
                            have BK270 := n2_
                            have BK283 := n3_
                            have BK290 := n4_
                            have BK296 := n5_
                            have BK302 := n6_
                            have HB := n7_
                            clear n0_ n1_ n2_ n3_ n4_ n5_ n6_ n7_
                            (try clear hb)
                            (try clear hb2)
                            (try clear hk)
                            (try clear hi)
                            refine hK.out _ _ ⟨(blk_cell BK268.out 0).trans rfl, (blk_cell BK268.out 1).trans rfl, (blk_cell BK268.out 2).trans rfl, (blk_cell BK268.out 3).trans rfl, (blk_cell BK269.out 0).trans rfl, (blk_cell BK269.out 1).trans rfl, (blk_cell BK269.out 2).trans rfl, (blk_cell BK269.out 3).trans rfl, (blk_cell BK283.out 0).trans rfl, (blk_cell BK283.out 1).trans rfl, (blk_cell BK283.out 2).trans rfl, (blk_cell BK283.out 3).trans rfl, (blk_cell BK290.out 0).trans rfl, (blk_cell BK290.out 1).trans rfl, (blk_cell BK290.out 2).trans rfl, (blk_cell BK290.out 3).trans rfl, (blk_cell BK296.out 0).trans rfl, (blk_cell BK296.out 1).trans rfl, (blk_cell BK296.out 2).trans rfl, (blk_cell BK296.out 3).trans rfl, (blk_cell BK302.out 0).trans rfl, (blk_cell BK302.out 1).trans rfl, (blk_cell BK302.out 2).trans rfl, (blk_cell BK302.out 3).trans rfl, (blk_cell BK270.out 0).trans rfl, (blk_cell BK270.out 1).trans rfl, (blk_cell BK270.out 2).trans rfl⟩ (fun hHeld => ?_)
                            clear hK K
                            refine norm_ (a' := ?_) ?_ ?_
                            rotate_left
                            · show Act.put _ (some 140) _ = _
                              simp only [Act.put, List.setIfInBounds_toArray, List.set_cons_zero, List.set_cons_succ, i64_w, i32_w]
                              rfl
                            refine one_ (i := 57) (N := some 142) #[true, true, true, true, true, true, true, true, true, true, true, true, true, true, true, true, true, true, true, true, true, true, true, true, true, true, true, true, true, true, true, true, true, true, true, true, true, true, true, true, true, true, true, true, true, true, true, true, true, true, true, true, true, true, true, true, true, true, false, false, false] rfl rfl (one_of HT_.out (by kernel_rfl)) (by decide) (fun K hK => ?_)
                            refine goes_ Try.func24 (by kernel_rfl) rfl #[.agg #[.string a6_0, .bool a6_1, .string a6_2]] (by rfl) rfl rfl (by (try simp only [List.map_toArray, List.map_cons, List.map_nil]); first | done | rfl | (simp only [List.length_drop, List.length_take]; rfl)) ?_
                            with_reducible refine (ravelinref6_IsWrite.calls a6_0 a6_1 a6_2 t312 _ A87.out).mono ?_
                            rintro e w129 ⟨rfl, hb⟩
                            refine ⟨_, rfl, ?_⟩
                            have n0_ := Aside0.mk (blk_below (g := gb268) (o := .cells #[.string a0_0, .int .i64 a0_1, .bool a0_2, .string a0_3] 23 (0, 0)) (by (with_reducible repeat (first | refine blk_drewN ?_ _ | refine blk_drew ?_ | refine blk_alloc ?_ _)); exact BK268.out) hb)
                            have n1_ := Aside0.mk (blk_below (g := gb269) (o := .cells #[.string a1_0, .int .i64 a1_1, .bool a1_2, .string a1_3] 23 (0, 0)) (by (with_reducible repeat (first | refine blk_drewN ?_ _ | refine blk_drew ?_ | refine blk_alloc ?_ _)); exact BK269.out) hb)
                            have n2_ := Aside0.mk (blk_below (g := gb270) (o := .cells #[.string a6_0, .bool a6_1, .string a6_2] 26 (0, 0)) (by (with_reducible repeat (first | refine blk_drewN ?_ _ | refine blk_drew ?_ | refine blk_alloc ?_ _)); exact BK270.out) hb)
                            have n3_ := Aside0.mk (blk_below (g := gb283) (o := .cells #[.string t277, .int .i64 t278, .bool t279, .string t280] 23 (0, 0)) (by (with_reducible repeat (first | refine blk_drewN ?_ _ | refine blk_drew ?_ | refine blk_alloc ?_ _)); exact BK283.out) hb)
                            have n4_ := Aside0.mk (blk_below (g := gb290) (o := .cells #[.string t284, .int .i64 t285, .bool t286, .string t287] 23 (0, 0)) (by (with_reducible repeat (first | refine blk_drewN ?_ _ | refine blk_drew ?_ | refine blk_alloc ?_ _)); exact BK290.out) hb)
                            have n5_ := Aside0.mk (blk_below (g := gb296) (o := .cells #[.string t291, .int .i64 t292, .bool t293, .string t294] 23 (0, 0)) (by (with_reducible repeat (first | refine blk_drewN ?_ _ | refine blk_drew ?_ | refine blk_alloc ?_ _)); exact BK296.out) hb)
                            have n6_ := Aside0.mk (blk_below (g := gb302) (o := .cells #[.string t297, .int .i64 t298, .bool t299, .string t300] 23 (0, 0)) (by (with_reducible repeat (first | refine blk_drewN ?_ _ | refine blk_drew ?_ | refine blk_alloc ?_ _)); exact BK302.out) hb)
                            have n7_ := Aside0.mk (below_step (by repeat (first | (with_reducible first | exact HB.out | apply below_alloc | apply pw_below_drewN | apply below_drew1 | refine below_set ?_ GE268.out | refine below_set ?_ GE269.out | refine below_set ?_ GE270.out | refine below_set ?_ GE283.out | refine below_set ?_ GE290.out | refine below_set ?_ GE296.out | refine below_set ?_ GE302.out) | exact HB.out)) hb)
                            clear BK268
                            clear BK269
                            clear BK270
                            clear BK283
                            clear BK290
                            clear BK296
                            clear BK302
                            clear HB
                            have BK268 := n0_
                            have BK269 := n1_
                            have BK270 := n2_
                            have BK283 := n3_
                            have BK290 := n4_
                            have BK296 := n5_
                            have BK302 := n6_
                            have HB := n7_
                            clear n0_ n1_ n2_ n3_ n4_ n5_ n6_ n7_
                            (try clear hb)
                            (try clear hb2)
                            (try clear hk)
                            (try clear hi)
                            refine hK.out _ _ ⟨(blk_cell BK268.out 0).trans rfl, (blk_cell BK268.out 1).trans rfl, (blk_cell BK268.out 2).trans rfl, (blk_cell BK268.out 3).trans rfl, (blk_cell BK269.out 0).trans rfl, (blk_cell BK269.out 1).trans rfl, (blk_cell BK269.out 2).trans rfl, (blk_cell BK269.out 3).trans rfl, (blk_cell BK283.out 0).trans rfl, (blk_cell BK283.out 1).trans rfl, (blk_cell BK283.out 2).trans rfl, (blk_cell BK283.out 3).trans rfl, (blk_cell BK290.out 0).trans rfl, (blk_cell BK290.out 1).trans rfl, (blk_cell BK290.out 2).trans rfl, (blk_cell BK290.out 3).trans rfl, (blk_cell BK296.out 0).trans rfl, (blk_cell BK296.out 1).trans rfl, (blk_cell BK296.out 2).trans rfl, (blk_cell BK296.out 3).trans rfl, (blk_cell BK302.out 0).trans rfl, (blk_cell BK302.out 1).trans rfl, (blk_cell BK302.out 2).trans rfl, (blk_cell BK302.out 3).trans rfl, (blk_cell BK270.out 0).trans rfl, (blk_cell BK270.out 1).trans rfl, (blk_cell BK270.out 2).trans rfl⟩ (fun hHeld => ?_)
                            clear hK K
                            refine norm_ (a' := ?_) ?_ ?_
                            rotate_left
                            · show Act.put _ (some 142) _ = _
                              simp only [Act.put, List.setIfInBounds_toArray, List.set_cons_zero, List.set_cons_succ, i64_w, i32_w]
                              rfl
                            refine pure_ (i := 58) (N := some 143) (v := ?_) (a' := ?_) #[true, true, true, true, true, true, true, true, true, true, true, true, true, true, true, true, true, true, true, true, true, true, true, true, true, true, true, true, true, true, true, true, true, true, true, true, true, true, true, true, true, true, true, true, true, true, true, true, true, true, true, true, true, true, true, true, true, true, true, false, false] rfl rfl (any_of HT_.out (by kernel_rfl)) (fun _ _ _ h => h) (Or.inl ⟨by rfl, ?_⟩) ?_ ?_
                            rotate_left
                            · intro w'
                              go_simp
                              with_reducible rfl
                            rotate_left
                            · simp only [Act.put, List.setIfInBounds_toArray, List.set_cons_zero, List.set_cons_succ, i64_w, i32_w]
                              rfl
                            refine pure_ (i := 59) (N := some 144) (v := ?_) (a' := ?_) #[true, true, true, true, true, true, true, true, true, true, true, true, true, true, true, true, true, true, true, true, true, true, true, true, true, true, true, true, true, true, true, true, true, true, true, true, true, true, true, true, true, true, true, true, true, true, true, true, true, true, true, true, true, true, true, true, true, true, true, true, false] rfl rfl (any_of HT_.out (by kernel_rfl)) (fun _ _ _ h => h) (Or.inl ⟨by rfl, ?_⟩) ?_ ?_
                            rotate_left
                            · intro w'
                              go_simp
                              with_reducible rfl
                            rotate_left
                            · simp only [Act.put, List.setIfInBounds_toArray, List.set_cons_zero, List.set_cons_succ, i64_w, i32_w]
                              rfl
                            refine pure_ (i := 60) (N := some 14) (v := ?_) (a' := ?_) #[true, true, true, true, true, true, true, true, true, true, true, true, true, true, true, true, true, true, true, true, true, true, true, true, true, true, true, true, true, true, true, true, true, true, true, true, true, true, true, true, true, true, true, true, true, true, true, true, true, true, true, true, true, true, true, true, true, true, true, true, true] rfl rfl (any_of HT_.out (by kernel_rfl)) (fun _ _ _ h => h) (Or.inl ⟨by rfl, ?_⟩) ?_ ?_
                            rotate_left
                            · intro w'
                              go_simp
                              with_reducible rfl
                            rotate_left
                            · simp only [Act.put, List.setIfInBounds_toArray, List.set_cons_zero, List.set_cons_succ, i64_w, i32_w]
                              rfl
                            refine done_ (done_of HT_.out (by kernel_rfl)) ?_
                            try go_wp2
                            go_ret
                            exact ⟨by first | rfl | (simp [errW_none, errW_some] <;> rfl) | (simp [*, errW_none, errW_some] <;> rfl), by repeat (first | (with_reducible first | exact HB.out | apply below_alloc | apply pw_below_drewN | apply below_drew1 | refine below_set ?_ GE268.out | refine below_set ?_ GE269.out | refine below_set ?_ GE270.out | refine below_set ?_ GE283.out | refine below_set ?_ GE290.out | refine below_set ?_ GE296.out | refine below_set ?_ GE302.out) | exact HB.out)⟩
                          · rw [if_neg c85] at H
                            have c85b0 : (t295 == t301) = false := by simpa using c85
                            (try (have c85b1 : decide (t295 = t301) = false := by simpa using c85))
                            (try (have c85b2 : (t295 == t301) = false := by simpa using c85))
                            (try (have c85b3 : ¬ (t295 = t301) := by simpa using c85))
                            clear c85
                            exact absurd ((Option.some.inj H).trans HR_.out) (by decide)
                        · rw [if_neg c84] at H
                          have c84b0 : (t291.toList == t297.toList && (t292 == t298 && (t293 == t299 && (t294.toList == t300.toList)))) = false := by simpa using c84
                          (try (have c84b1 : decide (t291.toList = t297.toList && (t292 == t298 && (t293 == t299 && (t294.toList == t300.toList)))) = false := by simpa using c84))
                          (try (have c84b2 : (t291.toList == t297.toList && (t292 == t298 && (t293 == t299 && (t294.toList == t300.toList)))) = false := by simpa using c84))
                          (try (have c84b3 : ¬ (t291.toList = t297.toList && (t292 == t298 && (t293 == t299 && (t294.toList == t300.toList)))) := by simpa using c84))
                          clear c84
                          exact absurd ((Option.some.inj H).trans HR_.out) (by decide)
                      · rw [if_neg c83] at H
                        have c83b0 : (t282 == t289) = false := beq_eq_false_iff_ne.mpr c83
                        have c83b1 : (t282 != t289) = true := bne_iff_ne.mpr c83
                        exact absurd ((Option.some.inj H).trans HR_.out) (by decide)
                    · rw [if_neg c82] at H
                      have c82b0 : (t281 == t288) = false := beq_eq_false_iff_ne.mpr c82
                      have c82b1 : (t281 != t288) = true := bne_iff_ne.mpr c82
                      exact absurd ((Option.some.inj H).trans HR_.out) (by decide)
                  · rw [if_neg c81] at H
                    have c81b0 : (t277.toList == t284.toList && (t278 == t285 && (t279 == t286 && (t280.toList == t287.toList)))) = false := by simpa using c81
                    (try (have c81b1 : decide (t277.toList = t284.toList && (t278 == t285 && (t279 == t286 && (t280.toList == t287.toList)))) = false := by simpa using c81))
                    (try (have c81b2 : (t277.toList == t284.toList && (t278 == t285 && (t279 == t286 && (t280.toList == t287.toList)))) = false := by simpa using c81))
                    (try (have c81b3 : ¬ (t277.toList = t284.toList && (t278 == t285 && (t279 == t286 && (t280.toList == t287.toList)))) := by simpa using c81))
                    clear c81
                    exact absurd ((Option.some.inj H).trans HR_.out) (by decide)
                · rw [if_neg c80] at H
                  have c80b0 : (t309 == t310) = false := by simpa using c80
                  (try (have c80b1 : decide (t309 = t310) = false := by simpa using c80))
                  (try (have c80b2 : (t309 == t310) = false := by simpa using c80))
                  (try (have c80b3 : ¬ (t309 = t310) := by simpa using c80))
                  clear c80
                  exact absurd ((Option.some.inj H).trans HR_.out) (by decide)
              · rw [if_neg c77] at H
                have c77b0 : (t307.toList == t308.toList) = false := beq_eq_false_iff_ne.mpr c77
                have c77b1 : (t307.toList != t308.toList) = true := bne_iff_ne.mpr c77
                exact absurd ((Option.some.inj H).trans HR_.out) (by decide)
            · rw [if_neg c74] at H
              have c74b0 : (t305 == t306) = false := by simpa using c74
              (try (have c74b1 : decide (t305 = t306) = false := by simpa using c74))
              (try (have c74b2 : (t305 == t306) = false := by simpa using c74))
              (try (have c74b3 : ¬ (t305 = t306) := by simpa using c74))
              clear c74
              exact absurd ((Option.some.inj H).trans HR_.out) (by decide)
          · rw [if_neg c71] at H
            have c71b0 : (t303 == t304) = false := by simpa using c71
            (try (have c71b1 : decide (t303 = t304) = false := by simpa using c71))
            (try (have c71b2 : (t303 == t304) = false := by simpa using c71))
            (try (have c71b3 : ¬ (t303 = t304) := by simpa using c71))
            clear c71
            exact absurd ((Option.some.inj H).trans HR_.out) (by decide)
  · replace c9 := Bool.eq_false_iff.mpr c9
    subst c9
    have H1 : (some false) = some r := by rw [if_neg (show ¬ (false = true) by decide)] at H; exact H
    clear H
    have H := H1
    clear H1
    exact absurd ((Option.some.inj H).trans HR_.out) (by decide)
def ravelinlaw6_EntryTells.Pure : Prop := ∀ (a0_0 : ByteArray) (a0_1 : Int) (a0_2 : Bool) (a0_3 : ByteArray) (a1_0 : ByteArray) (a1_1 : Int) (a1_2 : Bool) (a1_3 : ByteArray) (l2 : List (S23)) (a3 : ByteArray) (a4 : Int) (a5 : ByteArray) (a6_0 : ByteArray) (a6_1 : Bool) (a6_2 : ByteArray), a0_0.size ≤ 9223372036854775807 → (Lit.int .i64 a0_1).wf = true → a0_3.size ≤ 9223372036854775807 → a1_0.size ≤ 9223372036854775807 → (Lit.int .i64 a1_1).wf = true → a1_3.size ≤ 9223372036854775807 → l2.length ≤ 9223372036854775807 → (∀ y_ ∈ l2, (y_.f0.size ≤ 9223372036854775807 ∧ (Lit.int .i64 y_.f1).wf = true ∧ True ∧ y_.f3.size ≤ 9223372036854775807)) → a3.size ≤ 140737488351232 → (Lit.int .i64 a4).wf = true → a5.size ≤ 140737488351232 → a6_0.size ≤ 9223372036854775807 → a6_2.size ≤ 9223372036854775807 → ∃ k, ravelinlaw6_EntryTells.f k a0_0 a0_1 a0_2 a0_3 a1_0 a1_1 a1_2 a1_3 l2 a3 a4 a5 a6_0 a6_1 a6_2 = some true

end Go.Proofs.Ytggmgenofmfdpaa.P
