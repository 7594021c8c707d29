/- Proved: the law BlockShared is true of every two texts. -/
import Derived.Test.YthohfmfgijckhaaQKnown8
import Derived.Test.YthohfmfgijckhaaPx15
namespace Go.Proofs.Ythohfmfgijckhaa.P
end Go.Proofs.Ythohfmfgijckhaa.P
namespace Go.Proofs.Ythohfmfgijckhaa.Q
end Go.Proofs.Ythohfmfgijckhaa.Q
namespace Go.Proofs.Ythohfmfgijckhaa.Pure
open Go.RowKit Go.Proofs.Ythohfmfgijckhaa.P Go.Proofs.YthohfmfgijckhaaW.PrintWords Go.Proofs.YthohfmfgijckhaaW.PrintLast Go.Proofs.YthohfmfgijckhaaW.PrintMore Go.Proofs.Ythohfmfgijckhaa.Q
set_option linter.unusedVariables false
set_option linter.unusedSimpArgs false
theorem BlockShared : ravelinlaw8_BlockShared.Pure := by
  intro a b _ _
  obtain ⟨a, rfl⟩ : ∃ l, a = S l := ⟨_, (S_of _).symm⟩
  obtain ⟨b, rfl⟩ : ∃ l, b = S l := ⟨_, (S_of _).symm⟩
  refine Ev.rounds (Ev.congr (fun k => ravelinlaw8_BlockShared.f.eq_1 ..) (evBind known8 (evT rfl ?_)))
  rw [S_size, S_size]
  have yes : Ev (fun k => ravelinlaw8_BlockShared.j0 k (S a) (S b) true) true := Ev.step (fun k => ravelinlaw8_BlockShared.j0.eq_2 ..) (evT rfl (evSome _))
  by_cases h1 : (a.length : Int) > 60
  · exact evT h1 yes
  refine evF h1 ?_
  by_cases h2 : (b.length : Int) > 60
  · rw [decide_eq_true h2]; exact yes
  rw [decide_eq_false h2]
  have hs := shared_le a b
  have hself : Ev (fun k => (block_Shared.f k (S a) (S a)).bind fun t => (some (t == ((S a).size : Int)))) true := by
    refine evBind (shared_ev a a (by omega)) (evEq (evSome _) ?_)
    rw [shared_self, S_size]
    simp
  refine Ev.step (fun k => ravelinlaw8_BlockShared.j0.eq_2 ..) (evF (by simp) (evBind (shared_ev a b (by omega)) (evBind (evEq (shared_ev b a (by omega)) (by rw [shared_comm])) (evT rfl (evT (by omega) ?_)))))
  simp only [S_size] at hself ⊢
  refine evT (by omega) (evT (by omega) (evT (by omega) (evT ?_ ?_)))
  · rw [S_extract, S_extract, S_toList, S_toList, List.drop_zero, List.drop_zero, Nat.sub_zero, Int.toNat_natCast]
    exact shared_take a b
  · by_cases h3 : ((sharedL a b : Nat) : Int) = (a.length : Int)
    · exact evT h3 hself
    · refine evF h3 ?_
      by_cases h4 : ((sharedL a b : Nat) : Int) = (b.length : Int)
      · exact evT h4 hself
      · refine evF h4 (evT (by omega) (evT (by omega) (evF ?_ hself)))
        rw [bt_eq]
        exact shared_ne a b (by omega) (by omega)
end Go.Proofs.Ythohfmfgijckhaa.Pure
