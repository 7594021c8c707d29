import Derived.Test.YtjcpdbekdimceaaQMergeSpec
import Derived.Test.YtjcpdbekdimceaaM6
import Derived.Test.YtjcpdbekdimceaaM7
namespace Go.Proofs.Ytjcpdbekdimceaa.P
end Go.Proofs.Ytjcpdbekdimceaa.P
namespace Go.Proofs.Ytjcpdbekdimceaa.Q
end Go.Proofs.Ytjcpdbekdimceaa.Q
namespace Go.Proofs.Ytjcpdbekdimceaa.Q
open Go.RowKit Go.Proofs.Ytjcpdbekdimceaa.P Go.Proofs.YtjcpdbekdimceaaW.PrintWords Go.Proofs.YtjcpdbekdimceaaW.PrintLast Go.Proofs.YtjcpdbekdimceaaW.PrintMore
set_option linter.unusedVariables false
set_option linter.unusedSimpArgs false
theorem known11 : Ev (fun k => ravelinlaw11_known.f k) true := Ev.of (fun k => ravelinlaw11_known.mono k) (k := 300) (by decide +kernel)
theorem few11_l0 (l : List S39) (hl : l.length ≤ 9223372036854775807) (n : Nat) : ∀ i : Nat, l.length - i = n → ∃ b, Ev (fun k => ravelinlaw11_few.l0 k l (i : Int)) b ∧ (b = true → l.length ≤ 60) := by
  induction n with
  | zero =>
    intro i hi
    refine ⟨_, Ev.step (fun k => ravelinlaw11_few.l0.eq_2 ..) (evF (by omega) (evSome _)), fun h => ?_⟩
    have := of_decide_eq_true h
    omega
  | succ n ih =>
    intro i hi
    obtain ⟨b, hb, hc⟩ := ih (i + 1) (by omega)
    have e : wrap64 ((i : Int) + 1) = ((i + 1 : Nat) : Int) := by rw [w64 (by omega)]; rfl
    by_cases h1 : ((rd_T39 l (i : Int)).f0.size : Int) > 20
    · exact ⟨false, Ev.step (fun k => ravelinlaw11_few.l0.eq_2 ..) (evT (by omega) (evT (by omega) (evT h1 (evSome _)))), fun h => by cases h⟩
    · by_cases h2 : ((rd_T39 l (i : Int)).f3.size : Int) > 40
      · exact ⟨false, Ev.step (fun k => ravelinlaw11_few.l0.eq_2 ..) (evT (by omega) (evT (by omega) (evF h1 (evT h2 (evSome _))))), fun h => by cases h⟩
      · exact ⟨b, Ev.step (fun k => ravelinlaw11_few.l0.eq_2 ..) (evT (by omega) (evT (by omega) (evF h1 (evF h2 (by rw [e]; exact hb))))), hc⟩
theorem few11_ev (l : List S39) (hl : l.length ≤ 9223372036854775807) : ∃ b, Ev (fun k => ravelinlaw11_few.f k l) b ∧ (b = true → l.length ≤ 60) := by
  obtain ⟨b, hb, hc⟩ := few11_l0 l hl _ 0 rfl
  exact ⟨b, Ev.congr (fun k => ravelinlaw11_few.f.eq_1 ..) hb, hc⟩
end Go.Proofs.Ytjcpdbekdimceaa.Q
