/- Proved: the law BlockTells is true of every entries, every bytes, every two texts. -/
import Derived.Test.YthohfmfgijckhaaQKnown8
import Derived.Test.YthohfmfgijckhaaPx14
import Derived.Test.YthohfmfgijckhaaM6
namespace Go.Proofs.Ythohfmfgijckhaa.P
end Go.Proofs.Ythohfmfgijckhaa.P
namespace Go.Proofs.Ythohfmfgijckhaa.Q
end Go.Proofs.Ythohfmfgijckhaa.Q
namespace Go.Proofs.Ythohfmfgijckhaa.Pure
open Go.RowKit Go.Proofs.Ythohfmfgijckhaa.P Go.Proofs.YthohfmfgijckhaaW.PrintWords Go.Proofs.YthohfmfgijckhaaW.PrintLast Go.Proofs.YthohfmfgijckhaaW.PrintMore Go.Proofs.Ythohfmfgijckhaa.Q
set_option linter.unusedVariables false
set_option linter.unusedSimpArgs false
theorem few8_l0 (l : List S45) (hl : l.length ≤ 9223372036854775807) (n : Nat) : ∀ i : Nat, l.length - i = n → ∃ b, Ev (fun k => ravelinlaw8_few.l0 k l (i : Int)) b ∧ (b = true → l.length ≤ 60) := by
  induction n with
  | zero =>
    intro i hi
    refine ⟨_, Ev.step (fun k => ravelinlaw8_few.l0.eq_2 ..) (evF (by omega) (evSome _)), fun h => ?_⟩
    have := of_decide_eq_true h
    omega
  | succ n ih =>
    intro i hi
    obtain ⟨b, hb, hc⟩ := ih (i + 1) (by omega)
    have e : wrap64 ((i : Int) + 1) = ((i + 1 : Nat) : Int) := by rw [w64 (by omega)]; omega
    by_cases h1 : (((rd_T45 l (i : Int)).f0).size : Int) > 20
    · exact ⟨false, Ev.step (fun k => ravelinlaw8_few.l0.eq_2 ..) (evT (by omega) (evT (by omega) (evT h1 (evSome _)))), fun h => by cases h⟩
    · by_cases h2 : (((rd_T45 l (i : Int)).f3).size : Int) > 40
      · exact ⟨false, Ev.step (fun k => ravelinlaw8_few.l0.eq_2 ..) (evT (by omega) (evT (by omega) (evF h1 (evT h2 (evSome _))))), fun h => by cases h⟩
      · exact ⟨b, Ev.step (fun k => ravelinlaw8_few.l0.eq_2 ..) (evT (by omega) (evT (by omega) (evF h1 (evF h2 (by rw [e]; exact hb))))), hc⟩
theorem few8_ev (l : List S45) (hl : l.length ≤ 9223372036854775807) : ∃ b, Ev (fun k => ravelinlaw8_few.f k l) b ∧ (b = true → l.length ≤ 60) := by
  obtain ⟨b, hb, hc⟩ := few8_l0 l hl _ 0 rfl
  exact ⟨b, Ev.congr (fun k => ravelinlaw8_few.f.eq_1 ..) hb, hc⟩
theorem BlockTells : ravelinlaw8_BlockTells.Pure := by
  intro l s a b hl _ _ _ _
  obtain ⟨s, rfl⟩ : ∃ l, s = S l := ⟨_, (S_of _).symm⟩
  obtain ⟨a, rfl⟩ : ∃ l, a = S l := ⟨_, (S_of _).symm⟩
  obtain ⟨b, rfl⟩ : ∃ l, b = S l := ⟨_, (S_of _).symm⟩
  refine Ev.rounds (Ev.congr (fun k => ravelinlaw8_BlockTells.f.eq_1 ..) (evBind known8 (evT rfl ?_)))
  rw [S_size, S_size, S_size]
  have yes : Ev (fun k => ravelinlaw8_BlockTells.j0 k l (S s) (S a) (S b) true) true := Ev.step (fun k => ravelinlaw8_BlockTells.j0.eq_2 ..) (evT rfl (evSome _))
  obtain ⟨c, hc, hc2⟩ := few8_ev l hl
  refine evBind hc ?_
  cases c with
  | false => exact evF (by simp) yes
  | true =>
    have hlen := hc2 rfl
    refine evT rfl ?_
    by_cases h1 : (s.length : Int) > 1000
    · exact evT h1 yes
    refine evF h1 ?_
    by_cases h2 : (a.length : Int) > 40
    · exact evT h2 yes
    refine evF h2 ?_
    by_cases h3 : (b.length : Int) > 40
    · rw [decide_eq_true h3]; exact yes
    rw [decide_eq_false h3]
    have hr : (readB s).1.length ≤ s.length := readB_len s
    refine Ev.step (fun k => ravelinlaw8_BlockTells.j0.eq_2 ..) (evF (by simp) (evBind (make_ev l (by omega)) (evBind (rblock_ev l (by omega)) (evBind (bread_ev s (by omega)) (evBind (rbread_ev s (by omega)) ?_)))))
    refine evT rfl (evT rfl (evBind (same_ev _ (by omega)) (evT rfl (evT rfl (evBind (shared_ev a b (by omega)) (evBind (rshared_ev a b (by omega)) (evEq (evSome _) ?_)))))))
    simp
end Go.Proofs.Ythohfmfgijckhaa.Pure
