/- Proved: the law CellTells is true of every number and every two texts: the program's numbers and texts as bytes are the document's. -/
import Derived.Test.YtialmkppgbplpaaQKnown3
import Derived.Test.YtialmkppgbplpaaPx5
namespace Go.Proofs.Ytialmkppgbplpaa.P
end Go.Proofs.Ytialmkppgbplpaa.P
namespace Go.Proofs.Ytialmkppgbplpaa.Q
end Go.Proofs.Ytialmkppgbplpaa.Q
namespace Go.Proofs.Ytialmkppgbplpaa.Pure
open Go.RowKit Go.Proofs.Ytialmkppgbplpaa.P Go.Proofs.YtialmkppgbplpaaW.PrintWords Go.Proofs.YtialmkppgbplpaaW.PrintLast Go.Proofs.YtialmkppgbplpaaW.PrintMore Go.Proofs.Ytialmkppgbplpaa.Q
set_option linter.unusedVariables false
set_option linter.unusedSimpArgs false
theorem tells_main (n : Int) (s t : List UInt8) (hn : n < 9223372036854775808) (hs : s.length ≤ 140737488351232) (ht : t.length ≤ 140737488351232) :
    Ev (fun k => ravelinlaw3_CellTells.j0 k n (S s) (S t) false) true := by
  refine Ev.step (fun k => ravelinlaw3_CellTells.j0.eq_2 ..) (evF (by simp) ?_)
  refine evBind (takeNum_ev t ht) (evBind (rtakeNum_ev t ht) (evBind (takeText_ev t ht) (evBind (rtakeText_ev t ht) (evBind (num_ev n hn) (evBind (rnum_ev n hn) (evT rfl ?_))))))
  refine evBind (text_ev s hs) (evBind (rtext_ev s hs) (evT rfl (evT rfl (evT rfl (evT rfl (evT rfl (evT rfl (evT rfl ?_))))))))
  refine evConst (less_ev s t) (evEq (evSome _) ?_)
  rw [S_toList, S_toList]
  simp
theorem CellTells : ravelinlaw3_CellTells.Pure := by
  intro n s t hn hs ht
  obtain ⟨s, rfl⟩ : ∃ l, s = S l := ⟨_, (S_of _).symm⟩
  obtain ⟨t, rfl⟩ : ∃ l, t = S l := ⟨_, (S_of _).symm⟩
  rw [S_size] at hs ht
  have hn := wf_i64 hn
  refine Ev.rounds (Ev.congr (fun k => ravelinlaw3_CellTells.f.eq_1 ..) (evBind known3 (evT rfl ?_)))
  have yes : Ev (fun k => ravelinlaw3_CellTells.j0 k n (S s) (S t) true) true := Ev.step (fun k => ravelinlaw3_CellTells.j0.eq_2 ..) (evT rfl (evSome _))
  rw [S_size, S_size]
  by_cases h1 : (s.length : Int) > 300
  · exact evT h1 yes
  · refine evF h1 ?_
    by_cases h2 : (t.length : Int) > 300
    · rw [decide_eq_true h2]; exact yes
    · rw [decide_eq_false h2]; exact tells_main n s t hn.2 hs ht
end Go.Proofs.Ytialmkppgbplpaa.Pure
