/- Proved: the law CellBack is true of every two numbers, every text, whatever stands behind, every cut. -/
import Derived.Test.YtialmkppgbplpaaQKnown3
import Derived.Test.YtialmkppgbplpaaPx6
namespace Go.Proofs.Ytialmkppgbplpaa.P
end Go.Proofs.Ytialmkppgbplpaa.P
namespace Go.Proofs.Ytialmkppgbplpaa.Q
end Go.Proofs.Ytialmkppgbplpaa.Q
namespace Go.Proofs.Ytialmkppgbplpaa.Pure
open Go.RowKit Go.Proofs.Ytialmkppgbplpaa.P Go.Proofs.YtialmkppgbplpaaW.PrintWords Go.Proofs.YtialmkppgbplpaaW.PrintLast Go.Proofs.YtialmkppgbplpaaW.PrintMore Go.Proofs.Ytialmkppgbplpaa.Q
set_option linter.unusedVariables false
set_option linter.unusedSimpArgs false
theorem cut_mod {c len : Nat} (hc : c ≤ 255) (hl : 0 < len) : Int.tmod (wrap64 (c : Int)) (len : Int) = ((c % len : Nat) : Int) := by
  rw [w64 (by omega), Int.tmod_eq_emod_of_nonneg (by omega)]
  omega
theorem back_main (n m : Nat) (s r : List UInt8) (c : Nat) (hn : n < 9223372036854775808) (hm : m < 9223372036854775808) (hs : s.length ≤ 300) (hr : r.length ≤ 300) (hc : c ≤ 255) :
    Ev (fun k => ravelinlaw3_CellBack.j0 k (n : Int) (m : Int) (S s) (S r) (c : Int) false) true := by
  have ln := numL_le hn
  have l0 := numL_len n
  have lt : (textL s).length ≤ 309 := by have := numL_le (n := s.length) (by omega); simp only [textL, List.length_append]; omega
  have lt0 : 0 < (textL s).length := by have := numL_len s.length; simp only [textL, List.length_append]; omega
  refine Ev.step (fun k => ravelinlaw3_CellBack.j0.eq_2 ..) (evF (by simp) ?_)
  refine evBind (num_ev (n : Int) (by omega)) (evBind (text_ev s (by omega)) ?_)
  simp only [Int.toNat_natCast]
  rw [S_append, S_append, S_size, S_size, S_size]
  refine evT (by omega) (evBind (takeNum_ev _ (by rw [List.length_append]; omega)) (evT (by omega) (evBind (takeText_ev _ (by rw [List.length_append]; omega)) (evF (by omega) ?_))))
  rw [takeNum_num hn, takeText_text (by omega)]
  simp only [tr]
  rw [show (((textL s).length : Int) == 0) = false by rw [beq_eq_false_iff_ne]; omega]
  refine Ev.step (fun k => ravelinlaw3_CellBack.j1.eq_2 ..) (evF (by simp) ?_)
  rw [S_size, S_size, cut_mod hc (by omega), cut_mod hc lt0]
  have m1 := Nat.mod_lt c (show 0 < (numL n).length by omega)
  have m2 := Nat.mod_lt c lt0
  refine evF (by omega) (evT (by omega) (evT (by omega) ?_))
  rw [S_extract, S_extract, Int.toNat_natCast, Int.toNat_natCast]
  simp only [List.drop_zero, Nat.sub_zero]
  refine evBind (takeNum_ev _ (by rw [List.length_take]; omega)) (evF (by omega) (evT (by omega) (evT (by omega) (evBind (takeText_ev _ (by rw [List.length_take]; omega)) ?_))))
  rw [takeNum_cut hn m1, takeText_cut (by omega) m2]
  refine evT (by simp) (evT (by simp) (evT (by simp) (evT (by simp) (evT (by simp) (evT (by simp) (evT (by simp) (evT rfl (evBind (num_ev (m : Int) (by omega)) (evConst (less_ev _ _) (evEq (evSome _) ?_))))))))))
  rw [Int.toNat_natCast, less_num hn hm]
  simp
theorem CellBack : ravelinlaw3_CellBack.Pure := by
  intro n m s r c hn hm hs hr hc
  obtain ⟨s, rfl⟩ : ∃ l, s = S l := ⟨_, (S_of _).symm⟩
  obtain ⟨r, rfl⟩ : ∃ l, r = S l := ⟨_, (S_of _).symm⟩
  have hn := wf_i64 hn
  have hm := wf_i64 hm
  have hc := wf_u8 hc
  refine Ev.rounds (Ev.congr (fun k => ravelinlaw3_CellBack.f.eq_1 ..) (evBind known3 (evT rfl ?_)))
  have yes : Ev (fun k => ravelinlaw3_CellBack.j0 k n m (S s) (S r) c true) true := Ev.step (fun k => ravelinlaw3_CellBack.j0.eq_2 ..) (evT rfl (evSome _))
  rw [S_size, S_size]
  by_cases h1 : (s.length : Int) > 300
  · exact evT h1 yes
  refine evF h1 ?_
  by_cases h2 : (r.length : Int) > 300
  · exact evT h2 yes
  refine evF h2 ?_
  by_cases h3 : n < 0
  · exact evT h3 yes
  refine evF h3 ?_
  by_cases h4 : m < 0
  · rw [decide_eq_true h4]; exact yes
  rw [decide_eq_false h4]
  have := back_main n.toNat m.toNat s r c.toNat (by omega) (by omega) (by omega) (by omega) (by omega)
  rw [Int.toNat_of_nonneg (by omega), Int.toNat_of_nonneg (by omega), Int.toNat_of_nonneg (by omega)] at this
  exact this
end Go.Proofs.Ytialmkppgbplpaa.Pure
