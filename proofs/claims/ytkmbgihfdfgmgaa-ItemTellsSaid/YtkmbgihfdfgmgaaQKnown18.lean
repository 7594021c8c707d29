import Derived.Test.YtkmbgihfdfgmgaaQItemRead
import Derived.Test.YtkmbgihfdfgmgaaM7
import Derived.Test.YtkmbgihfdfgmgaaM8
namespace Go.Proofs.Ytkmbgihfdfgmgaa.P
end Go.Proofs.Ytkmbgihfdfgmgaa.P
namespace Go.Proofs.Ytkmbgihfdfgmgaa.Q
end Go.Proofs.Ytkmbgihfdfgmgaa.Q
namespace Go.Proofs.Ytkmbgihfdfgmgaa.Q
open Go.RowKit Go.Proofs.Ytkmbgihfdfgmgaa.P Go.Proofs.YtkmbgihfdfgmgaaW.PrintWords Go.Proofs.YtkmbgihfdfgmgaaW.PrintLast Go.Proofs.YtkmbgihfdfgmgaaW.PrintMore
set_option linter.unusedVariables false
set_option linter.unusedSimpArgs false
theorem known18 : Ev (fun k => ravelinlaw18_known.f k) true := Ev.of (fun k => ravelinlaw18_known.mono k) (k := 120) (by decide +kernel)
theorem few18_l0 (lv n t : Int) (sh : Bool) (l : List S39) (hl : l.length ≤ 9223372036854775807) (d : Nat) : ∀ i : Nat, l.length - i = d → ∃ b, Ev (fun k => ravelinlaw18_few.l0 k (i : Int) lv n t sh l) b ∧ (b = true → l.length ≤ 12) := by
  induction d with
  | zero =>
    intro i hi
    refine ⟨_, Ev.step (fun k => ravelinlaw18_few.l0.eq_2 ..) (evF (by omega) (evSome _)), fun h => ?_⟩
    have := of_decide_eq_true h
    omega
  | succ d ih =>
    intro i hi
    obtain ⟨b, hb, hc⟩ := ih (i + 1) (by omega)
    have e : wrap64 ((i : Int) + 1) = ((i + 1 : Nat) : Int) := by rw [w64 (by omega)]; omega
    by_cases h1 : (((rd_T39 l (i : Int)).f0).size : Int) > 20
    · exact ⟨false, Ev.step (fun k => ravelinlaw18_few.l0.eq_2 ..) (evT (by omega) (evT (by omega) (evT h1 (evSome _)))), fun h => by cases h⟩
    · by_cases h2 : (((rd_T39 l (i : Int)).f2).size : Int) > 40
      · exact ⟨false, Ev.step (fun k => ravelinlaw18_few.l0.eq_2 ..) (evT (by omega) (evT (by omega) (evF h1 (evT h2 (evSome _))))), fun h => by cases h⟩
      · exact ⟨b, Ev.step (fun k => ravelinlaw18_few.l0.eq_2 ..) (evT (by omega) (evT (by omega) (evF h1 (evF h2 (by rw [e]; exact hb))))), hc⟩
theorem few18_ev (lv n t : Int) (sh : Bool) (l : List S39) (hl : l.length ≤ 9223372036854775807) : ∃ b, Ev (fun k => ravelinlaw18_few.f k lv n t sh l) b ∧ (b = true → l.length ≤ 12) := by
  obtain ⟨b, hb, hc⟩ := few18_l0 lv n t sh l hl _ 0 rfl
  exact ⟨b, Ev.congr (fun k => ravelinlaw18_few.f.eq_1 ..) hb, hc⟩
end Go.Proofs.Ytkmbgihfdfgmgaa.Q
