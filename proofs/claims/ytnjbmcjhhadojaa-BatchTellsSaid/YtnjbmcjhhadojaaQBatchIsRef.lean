import Derived.Test.YtnjbmcjhhadojaaQBatchImpl
import Derived.Test.YtnjbmcjhhadojaaM8
import Derived.Test.YtnjbmcjhhadojaaM7
namespace Go.Proofs.Ytnjbmcjhhadojaa.P
end Go.Proofs.Ytnjbmcjhhadojaa.P
namespace Go.Proofs.Ytnjbmcjhhadojaa.Q
end Go.Proofs.Ytnjbmcjhhadojaa.Q
namespace Go.Proofs.Ytnjbmcjhhadojaa.Q
open Go.RowKit Go.Proofs.Ytnjbmcjhhadojaa.P Go.Proofs.YtnjbmcjhhadojaaW.PrintWords Go.Proofs.YtnjbmcjhhadojaaW.PrintLast Go.Proofs.YtnjbmcjhhadojaaW.PrintMore
set_option linter.unusedVariables false
set_option linter.unusedSimpArgs false
theorem few12_l0 (l : List S49) (hl : l.length ≤ 9223372036854775807) (d : Nat) : ∀ i : Nat, l.length - i = d → ∃ b, Ev (fun k => ravelinlaw12_few.l0 k l (i : Int)) b ∧ (b = true → l.length ≤ 20) := by
  induction d with
  | zero =>
    intro i hi
    refine ⟨_, Ev.step (fun k => ravelinlaw12_few.l0.eq_2 ..) (evF (by omega) (evSome _)), fun h => ?_⟩
    have := of_decide_eq_true h
    omega
  | succ d ih =>
    intro i hi
    obtain ⟨b, hb, hc⟩ := ih (i + 1) (by omega)
    have e : wrap64 ((i : Int) + 1) = ((i + 1 : Nat) : Int) := by rw [w64 (by omega)]; omega
    by_cases h1 : (((rd_T49 l (i : Int)).f0).size : Int) > 20
    · exact ⟨false, Ev.step (fun k => ravelinlaw12_few.l0.eq_2 ..) (evT (by omega) (evT (by omega) (evT h1 (evSome _)))), fun h => by cases h⟩
    · by_cases h2 : (((rd_T49 l (i : Int)).f2).size : Int) > 40
      · exact ⟨false, Ev.step (fun k => ravelinlaw12_few.l0.eq_2 ..) (evT (by omega) (evT (by omega) (evF h1 (evT h2 (evSome _))))), fun h => by cases h⟩
      · exact ⟨b, Ev.step (fun k => ravelinlaw12_few.l0.eq_2 ..) (evT (by omega) (evT (by omega) (evF h1 (evF h2 (by rw [e]; exact hb))))), hc⟩
theorem few12_ev (l : List S49) (hl : l.length ≤ 9223372036854775807) : ∃ b, Ev (fun k => ravelinlaw12_few.f k l) b ∧ (b = true → l.length ≤ 20) := by
  obtain ⟨b, hb, hc⟩ := few12_l0 l hl _ 0 rfl
  exact ⟨b, Ev.congr (fun k => ravelinlaw12_few.f.eq_1 ..) hb, hc⟩
theorem risWrite_ev (a : ByteArray) (d : Bool) (v : ByteArray) : ravelinref6_IsWrite.f a d v = some (isW a.data.toList d v.data.toList) := by
  unfold ravelinref6_IsWrite.f isW
  rw [size_data, size_data, toL]
  generalize a.data.toList = x
  generalize v.data.toList = y
  by_cases h1 : 1 ≤ x.length
  · rw [if_pos (by omega)]
    by_cases h2 : x.length ≤ 13
    · rw [if_pos (by omega)]
      by_cases h3 : y.length ≤ 24
      · rw [if_pos (by omega)]
        cases d <;> cases y <;> simp_all
      · rw [if_neg (by omega)]; simp [h3]
    · rw [if_neg (by omega)]; simp [h2]
  · rw [if_neg (by omega)]; simp [h1]
/-- The key ahead of place i. -/
def aheadK (l : List S49) (i : Nat) : List UInt8 := if i = 0 then [] else wk (l.getD (i - 1) z49)
theorem ris_l0 (l : List S49) (hl : l.length ≤ 4611686018427387904) (d : Nat) : ∀ i : Nat, i ≤ l.length → l.length - i = d →
    Ev (fun k => ravelinref12_Is.l0 k l (i : Int)) (riseB (aheadK l i) (l.drop i) && decide (l.length ≤ 8)) := by
  induction d with
  | zero =>
    intro i hi hd
    refine Ev.step (fun k => ravelinref12_Is.l0.eq_2 ..) (evF (by omega) (evEq (evSome _) ?_))
    rw [List.drop_eq_nil_of_le (by omega), riseB, Bool.true_and, decide_eq_decide]
    omega
  | succ d ih =>
    intro i hi hd
    have hi2 : i < l.length := by omega
    have next := ih (i + 1) (by omega) (by omega)
    have ea : aheadK l (i + 1) = wk (l.getD i z49) := rfl
    rw [ea] at next
    refine Ev.step (fun k => ravelinref12_Is.l0.eq_2 ..) (evT (by omega) (evT (by omega) ?_))
    rw [rd_at, getD_cons hi2, riseB, w64 (n := (i : Int) + 1) (by omega), show (i : Int) + 1 = ((i + 1 : Nat) : Int) by omega]
    generalize l.getD i z49 = w at *
    refine evConst (risWrite_ev w.f0 w.f1 w.f2) ?_
    show Ev (fun n => if isWr w = true then _ else _) _
    cases h1 : isWr w with
    | false => exact evF (by simp) (evSome _)
    | true =>
      refine evT rfl ?_
      by_cases h0 : (i : Int) > 0
      · refine evT h0 ?_
        rw [w64 (by omega), show (i : Int) - 1 = ((i - 1 : Nat) : Int) by omega]
        refine evT (by omega) (evT (by omega) ?_)
        rw [rd_at, toL, toL]
        have e2 : aheadK l i = (l.getD (i - 1) z49).f0.data.toList := if_neg (by omega)
        rw [e2]
        show Ev (fun n => if Op.bytesLess _ (wk w) = true then _ else _) _
        cases h2 : Op.bytesLess (l.getD (i - 1) z49).f0.data.toList (wk w) with
        | false => exact evF (by simp) (evSome _)
        | true => exact evT rfl (evEq next (by simp))
      · refine evF h0 (evEq next ?_)
        have e2 : aheadK l i = [] := if_pos (by omega)
        have e3 : Op.bytesLess [] (wk w) = true := by
          have := (isWr_iff h1).1
          cases hk : wk w with
          | nil => rw [hk] at this; simp at this
          | cons c t => rfl
        rw [e2, e3, Bool.true_and, Bool.true_and]
theorem ris_ev (l : List S49) (hl : l.length ≤ 4611686018427387904) : Ev (fun k => ravelinref12_Is.f k l) (isB l) := by
  refine Ev.congr (fun k => ravelinref12_Is.f.eq_1 ..) ?_
  exact ris_l0 l hl _ 0 (by omega) rfl
end Go.Proofs.Ytnjbmcjhhadojaa.Q
