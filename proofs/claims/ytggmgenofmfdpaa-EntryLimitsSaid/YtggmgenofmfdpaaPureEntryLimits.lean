/- Proved: the law EntryLimits is true of every length, every number, with and without del. -/
import Derived.Test.YtggmgenofmfdpaaQKnown6
import Derived.Test.YtggmgenofmfdpaaPx31
namespace Go.Proofs.Ytggmgenofmfdpaa.P
end Go.Proofs.Ytggmgenofmfdpaa.P
namespace Go.Proofs.Ytggmgenofmfdpaa.Q
end Go.Proofs.Ytggmgenofmfdpaa.Q
namespace Go.Proofs.Ytggmgenofmfdpaa.Pure
open Go.RowKit Go.Proofs.Ytggmgenofmfdpaa.P Go.Proofs.YtggmgenofmfdpaaW.PrintWords Go.Proofs.YtggmgenofmfdpaaW.PrintLast Go.Proofs.YtggmgenofmfdpaaW.PrintMore Go.Proofs.Ytggmgenofmfdpaa.Q
set_option linter.unusedVariables false
set_option linter.unusedSimpArgs false
theorem zeros (n : Nat) : strOfNums (List.replicate n 0 : List Int) = S (List.replicate n 0) := by
  rw [← strOf']
  simp [nm]
theorem limits_last (k v : List UInt8) (s : Int) (d : Bool) : ((S (bytesF k s d v)).toList != ([] : List UInt8)) = isF k s d v := by
  rw [S_toList]
  cases h : isF k s d v with
  | true =>
    have := row_len h
    rw [bytesF_some h]
    cases hr : rowL k s d v with
    | nil => rw [hr] at this; simp at this
    | cons a t => rfl
  | false => rw [bytesF, h]; rfl
theorem limits_j1 (k v : List UInt8) (s : Int) (d : Bool) (hs : 1 ≤ s) : Ev (fun n => ravelinlaw6_EntryLimits.j1 n d (isW k d v) (S k) s d (S v)) true := by
  refine Ev.step (fun k => ravelinlaw6_EntryLimits.j1.eq_2 ..) (evConst (isWrite_ev _ _ _) ?_)
  rw [S_data, S_data]
  refine evT (by simp) (evConst (is_ev _ _ _ _) ?_)
  rw [S_data, S_data]
  have e : isF k s d v = (decide (s ≤ 1000000) && isW k d v) := by rw [isF, decide_eq_true hs, Bool.true_and]
  have last : Ev (fun n => (entry_Bytes.f n (S k) s d (S v)).bind fun t => (entry_Is.f (S k) s d (S v)).bind fun u => some ((t.toList != ([] : List UInt8)) == u)) true := by
    refine evBind (bytes_ev6 _ _ _ _) (evConst (is_ev _ _ _ _) (evEq (evSome _) ?_))
    rw [S_data, S_data, limits_last]
    simp
  cases h : isW k d v with
  | true =>
    refine evT rfl (evT ?_ last)
    rw [e, h]
    simp
  | false =>
    refine evF (by simp) (evT ?_ last)
    rw [e, h]
    simp
theorem limits_j0 (q : Int) (d : Bool) (a b : Nat) (ha : a ≤ 15) (hb : b ≤ 25) (hq : 0 ≤ q ∧ q ≤ 255) : Ev (fun k => ravelinlaw6_EntryLimits.j0 k q d (a : Int) (b : Int)) true := by
  have m : 0 ≤ Int.tmod q 3 ∧ Int.tmod q 3 ≤ 2 := by rw [Int.tmod_eq_emod_of_nonneg hq.1]; omega
  refine Ev.step (fun k => ravelinlaw6_EntryLimits.j0.eq_2 ..) ?_
  rw [w64 (show -9223372036854775808 ≤ Int.tmod q 3 ∧ Int.tmod q 3 ≤ 9223372036854775807 by omega), w64 (show -9223372036854775808 ≤ 999999 + Int.tmod q 3 ∧ 999999 + Int.tmod q 3 ≤ 9223372036854775807 by omega)]
  rw [Int.toNat_natCast, Int.toNat_natCast]
  refine evT (by omega) (evT (by omega) (evConst rfl (evT (by omega) (evT (by omega) (evConst rfl ?_)))))
  rw [zeros, zeros]
  have j := limits_j1 (List.replicate a 0) (List.replicate b 0) (999999 + Int.tmod q 3) d (by omega)
  have e : isW (List.replicate a 0) d (List.replicate b 0) = (decide (1 ≤ a) && decide (a ≤ 13) && decide (b ≤ 24) && (!d || (List.replicate b (0 : UInt8)).isEmpty)) := by rw [isW, List.length_replicate, List.length_replicate]
  rw [e] at j
  by_cases h1 : (a : Int) ≥ 1
  · refine evT h1 ?_
    rw [decide_eq_true (show 1 ≤ a by omega)] at j
    by_cases h2 : (a : Int) ≤ 13
    · refine evT h2 ?_
      rw [decide_eq_true (show a ≤ 13 by omega)] at j
      by_cases h3 : (b : Int) ≤ 24
      · refine evT h3 ?_
        rw [decide_eq_true (show b ≤ 24 by omega)] at j
        cases d with
        | true =>
          refine evT rfl ?_
          have e2 : ((b : Int) == 0) = (List.replicate b (0 : UInt8)).isEmpty := by
            cases b with
            | zero => rfl
            | succ n =>
              rw [List.replicate_succ]
              simp
              omega
          rw [e2]
          simpa using j
        | false => exact evF (by simp) (by simpa using j)
      · refine evF h3 ?_
        rw [decide_eq_false (show ¬ b ≤ 24 by omega)] at j
        simpa using j
    · refine evF h2 ?_
      rw [decide_eq_false (show ¬ a ≤ 13 by omega)] at j
      simpa using j
  · refine evF h1 ?_
    rw [decide_eq_false (show ¬ 1 ≤ a by omega)] at j
    simpa using j
theorem EntryLimits : ravelinlaw6_EntryLimits.Pure := by
  intro a b q d ha hb hq
  have ha := wf_u8 ha
  have hb := wf_u8 hb
  have hq := wf_u8 hq
  refine Ev.rounds (Ev.congr (fun k => ravelinlaw6_EntryLimits.f.eq_1 ..) (evBind known6 (evT rfl ?_)))
  have m1 : 0 ≤ Int.tmod a 16 ∧ Int.tmod a 16 ≤ 15 := by rw [Int.tmod_eq_emod_of_nonneg ha.1]; omega
  have m2 : 0 ≤ Int.tmod b 2 ∧ Int.tmod b 2 ≤ 1 := by rw [Int.tmod_eq_emod_of_nonneg hb.1]; omega
  have m3 : 0 ≤ Int.tmod b 3 ∧ Int.tmod b 3 ≤ 2 := by rw [Int.tmod_eq_emod_of_nonneg hb.1]; omega
  rw [w64 (show -9223372036854775808 ≤ Int.tmod a 16 ∧ Int.tmod a 16 ≤ 9223372036854775807 by omega), w64 (show -9223372036854775808 ≤ Int.tmod b 2 ∧ Int.tmod b 2 ≤ 9223372036854775807 by omega), w64 (show -9223372036854775808 ≤ Int.tmod b 3 ∧ Int.tmod b 3 ≤ 9223372036854775807 by omega), w64 (show -9223372036854775808 ≤ 23 + Int.tmod b 3 ∧ 23 + Int.tmod b 3 ≤ 9223372036854775807 by omega)]
  by_cases hd : d = true
  · refine evT hd ?_
    have := limits_j0 q d (Int.tmod a 16).toNat (Int.tmod b 2).toNat (by omega) (by omega) hq
    rw [Int.toNat_of_nonneg m1.1, Int.toNat_of_nonneg m2.1] at this
    exact this
  · refine evF hd ?_
    have := limits_j0 q d (Int.tmod a 16).toNat (23 + Int.tmod b 3).toNat (by omega) (by omega) hq
    rw [Int.toNat_of_nonneg m1.1, Int.toNat_of_nonneg (show 0 ≤ 23 + Int.tmod b 3 by omega)] at this
    exact this
end Go.Proofs.Ytggmgenofmfdpaa.Pure
