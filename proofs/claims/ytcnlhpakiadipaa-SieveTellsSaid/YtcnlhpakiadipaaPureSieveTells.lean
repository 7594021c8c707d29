/- Proved: the law SieveTells is true of every keys, every two texts. -/
import Derived.Test.YtcnlhpakiadipaaQKnown7
import Derived.Test.YtcnlhpakiadipaaPx3
namespace Go.Proofs.Ytcnlhpakiadipaa.P
end Go.Proofs.Ytcnlhpakiadipaa.P
namespace Go.Proofs.Ytcnlhpakiadipaa.Q
end Go.Proofs.Ytcnlhpakiadipaa.Q
namespace Go.Proofs.Ytcnlhpakiadipaa.Pure
open Go.RowKit Go.Proofs.Ytcnlhpakiadipaa.P Go.Proofs.YtcnlhpakiadipaaW.PrintWords Go.Proofs.YtcnlhpakiadipaaW.PrintLast Go.Proofs.YtcnlhpakiadipaaW.PrintMore Go.Proofs.Ytcnlhpakiadipaa.Q
set_option linter.unusedVariables false
set_option linter.unusedSimpArgs false
theorem SieveTells : ravelinlaw7_SieveTells.Pure := by
  intro l a b hl _ _ _
  obtain ⟨a, rfl⟩ : ∃ l, a = S l := ⟨_, (S_of _).symm⟩
  obtain ⟨b, rfl⟩ : ∃ l, b = S l := ⟨_, (S_of _).symm⟩
  refine Ev.rounds (Ev.congr (fun k => ravelinlaw7_SieveTells.f.eq_1 ..) (evBind known7 (evT rfl ?_)))
  rw [S_size, S_size]
  have yes : Ev (fun k => ravelinlaw7_SieveTells.j0 k l (S a) (S b) true) true := Ev.step (fun k => ravelinlaw7_SieveTells.j0.eq_2 ..) (evT rfl (evSome _))
  obtain ⟨c, hc, hc2⟩ := few7_ev l hl
  refine evBind hc ?_
  cases c with
  | false => exact evF (by simp) yes
  | true =>
    obtain ⟨hlen, hkeys⟩ := hc2 rfl
    refine evT rfl ?_
    by_cases h1 : (a.length : Int) > 200
    · exact evT h1 yes
    refine evF h1 ?_
    by_cases h2 : (b.length : Int) > 40
    · rw [decide_eq_true h2]; exact yes
    rw [decide_eq_false h2]
    obtain ⟨L, rfl⟩ := map_S_of l
    rw [List.length_map] at hlen
    have hk : ∀ k ∈ L, k.length ≤ 140737488351232 := by
      intro k hk
      have := hkeys (S k) (List.mem_map.2 ⟨k, hk, rfl⟩)
      rw [S_size] at this
      omega
    have hm : (makeS L).length ≤ 1000000000000 := by rw [makeS_len]; omega
    refine Ev.step (fun k => ravelinlaw7_SieveTells.j0.eq_2 ..) (evF (by simp) (evBind (hash_ev b (by omega)) (evBind (rhash_ev b (by omega)) (evBind (make_ev L (by omega) hk) (evT rfl (evT rfl (evBind (rsieve_ev L (by omega) hk) (evT rfl ?_))))))))
    refine evBind (may_ev a b (by omega) (by omega)) (evBind (rmay_ev a b (by omega) (by omega)) (evT (by simp) (evBind (may_ev _ b hm (by omega)) (evBind (rmay_ev _ b hm (by omega)) (evEq (evSome _) ?_)))))
    simp
end Go.Proofs.Ytcnlhpakiadipaa.Pure
