/- Proved: the law SealTells is true of every two texts: the program's sums, sealed bytes, what it opens are the document's. -/
import Derived.Test.YthlndkbdonoefaaQKnown4
import Derived.Test.YthlndkbdonoefaaPx12
import Derived.Test.YthlndkbdonoefaaPx11
namespace Go.Proofs.Ythlndkbdonoefaa.P
end Go.Proofs.Ythlndkbdonoefaa.P
namespace Go.Proofs.Ythlndkbdonoefaa.Q
end Go.Proofs.Ythlndkbdonoefaa.Q
namespace Go.Proofs.Ythlndkbdonoefaa.Pure
open Go.RowKit Go.Proofs.Ythlndkbdonoefaa.P Go.Proofs.YthlndkbdonoefaaW.PrintWords Go.Proofs.YthlndkbdonoefaaW.PrintLast Go.Proofs.YthlndkbdonoefaaW.PrintMore Go.Proofs.Ythlndkbdonoefaa.Q
set_option linter.unusedVariables false
set_option linter.unusedSimpArgs false
theorem same_l0 (x : List ByteArray) (hx : x.length ≤ 9223372036854775800) (d : Nat) : ∀ i : Nat, i + d = x.length → Ev (fun k => ravelinlaw4_same.l0 k x x (i : Int)) true := by
  induction d with
  | zero =>
    intro i hi
    exact Ev.step (fun k => ravelinlaw4_same.l0.eq_2 ..) (evF (by omega) (evSome _))
  | succ d ih =>
    intro i hi
    refine Ev.step (fun k => ravelinlaw4_same.l0.eq_2 ..) (evT (by omega) (evT (by omega) (evT (by omega) (evT rfl ?_))))
    rw [w64 (by omega), show (i : Int) + 1 = ((i + 1 : Nat) : Int) by omega]
    exact ih (i + 1) (by omega)
theorem same_ev (x : List ByteArray) (hx : x.length ≤ 9223372036854775800) : Ev (fun k => ravelinlaw4_same.f k x x) true :=
  Ev.congr (fun k => ravelinlaw4_same.f.eq_1 ..) (evT rfl (same_l0 x hx x.length 0 (by omega)))
theorem SealTells : ravelinlaw4_SealTells.Pure := by
  intro s t hs ht
  obtain ⟨s, rfl⟩ : ∃ l, s = S l := ⟨_, (S_of _).symm⟩
  obtain ⟨t, rfl⟩ : ∃ l, t = S l := ⟨_, (S_of _).symm⟩
  refine Ev.rounds (Ev.congr (fun k => ravelinlaw4_SealTells.f.eq_1 ..) (evBind known4 (evT rfl ?_)))
  have yes : Ev (fun k => ravelinlaw4_SealTells.j0 k (S s) (S t) true) true := Ev.step (fun k => ravelinlaw4_SealTells.j0.eq_2 ..) (evT rfl (evSome _))
  rw [S_size, S_size]
  by_cases h1 : (s.length : Int) > 600
  · exact evT h1 yes
  refine evF h1 ?_
  by_cases h2 : (t.length : Int) > 600
  · rw [decide_eq_true h2]; exact yes
  rw [decide_eq_false h2]
  have h3 := (allS_le t.length t (by omega)).2
  refine Ev.step (fun k => ravelinlaw4_SealTells.j0.eq_2 ..) (evF (by simp) ?_)
  refine evBind (open_ev t (by omega)) (evBind (ropen_ev t (by omega)) (evBind (all_ev t (by omega)) (evBind (rall_ev t (by omega)) (evBind (sum_ev s (by omega)) (evBind (rsum_ev s (by omega)) (evT rfl ?_))))))
  refine evBind (seal_ev s (by omega)) (evBind (rseal_ev s (by omega)) (evT rfl (evT rfl (evT rfl (evT rfl (evBind (same_ev _ (by simp; omega)) (evT rfl (evEq (evSome _) ?_))))))))
  simp
end Go.Proofs.Ythlndkbdonoefaa.Pure
