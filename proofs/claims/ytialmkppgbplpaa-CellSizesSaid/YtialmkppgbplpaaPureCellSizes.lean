/- Proved: the law CellSizes is true of every power of two, and of one less. -/
import Derived.Test.YtialmkppgbplpaaQKnown3
import Derived.Test.YtialmkppgbplpaaPx9
namespace Go.Proofs.Ytialmkppgbplpaa.P
end Go.Proofs.Ytialmkppgbplpaa.P
namespace Go.Proofs.Ytialmkppgbplpaa.Q
end Go.Proofs.Ytialmkppgbplpaa.Q
namespace Go.Proofs.Ytialmkppgbplpaa.Pure
open Go.RowKit Go.Proofs.Ytialmkppgbplpaa.P Go.Proofs.YtialmkppgbplpaaW.PrintWords Go.Proofs.YtialmkppgbplpaaW.PrintLast Go.Proofs.YtialmkppgbplpaaW.PrintMore Go.Proofs.Ytialmkppgbplpaa.Q
set_option linter.unusedVariables false
set_option linter.unusedSimpArgs false
theorem sizes_l0 (v : Nat) (hv : v < 9223372036854775808) (n : Nat) : ∀ j : Nat, j + (be n).length = (be v).length + 1 → n < 9223372036854775808 →
    Ev (fun k => ravelinlaw3_CellSizes.l0 k (v : Int) (j : Int) (n : Int)) true := by
  have hb := be8 hv
  induction n using Nat.strongRecOn with
  | _ n ih =>
    intro j hj hn
    refine Ev.step (fun k => ravelinlaw3_CellSizes.l0.eq_2 ..) ?_
    by_cases h : n = 0
    · subst h
      rw [be_zero] at hj
      simp only [List.length_nil] at hj
      have hl := numL_len v
      refine evF (by omega) (evBind (num_ev (v : Int) (by omega)) ?_)
      rw [Int.toNat_natCast, S_size]
      have e0 : wrap64 (bt (S (numL v)) 0) = ((be v).length : Int) := by
        rw [bt_S]
        have := len_byte hv
        simp only [numL, Int.toNat_zero, List.getD_cons_zero]
        rw [this]; exact w64 (by omega)
      rw [e0]
      refine evT (by omega) (evT (by omega) (evT (by rw [w64 (by omega)]; omega) ?_))
      rw [w64 (n := -(v : Int)) (by omega), w64 (n := -(v : Int) - 1) (by omega)]
      refine evBind (num_ev _ (by omega)) (evBind (num_ev 0 (by omega)) (evEq (evSome _) ?_))
      rw [show (-(v : Int) - 1).toNat = 0 by omega]
      simp
    · refine evT (by omega) ?_
      rw [be_pos (by omega), List.length_append] at hj
      simp only [List.length_cons, List.length_nil] at hj
      have e2 : wrap64 (Int.tdiv (n : Int) 256) = ((n / 256 : Nat) : Int) := by
        rw [Int.tdiv_eq_ediv_of_nonneg (by omega), w64 (by omega)]; omega
      rw [e2, w64 (by omega), show (j : Int) + 1 = ((j + 1 : Nat) : Int) by omega]
      exact ih (n / 256) (by omega) (j + 1) (by omega) (by omega)
theorem sizes_j0 (v : Nat) (hv : v < 9223372036854775808) : Ev (fun k => ravelinlaw3_CellSizes.j0 k (v : Int)) true :=
  Ev.step (fun k => ravelinlaw3_CellSizes.j0.eq_2 ..) (sizes_l0 v hv v 1 (by omega) hv)
theorem pow63 : ∀ e : Fin 63, shl .i64 1 ((e.val : Nat) : Int) = ((2 ^ e.val : Nat) : Int) := by decide +kernel
theorem CellSizes : ravelinlaw3_CellSizes.Pure := by
  intro a low ha
  have ha := wf_u8 ha
  have e1 : IntKind.u64.wrap (Int.tmod a 63) = ((a.toNat % 63 : Nat) : Int) := by
    rw [Int.tmod_eq_emod_of_nonneg (by omega), u64w (by omega)]; omega
  have hlt : a.toNat % 63 < 63 := Nat.mod_lt _ (by omega)
  have e2 := pow63 ⟨a.toNat % 63, hlt⟩
  simp only at e2
  have hp : 2 ^ (a.toNat % 63) ≤ 2 ^ 62 := Nat.pow_le_pow_right (by omega) (by omega)
  have h1 : 0 < 2 ^ (a.toNat % 63) := Nat.pow_pos (by omega)
  refine Ev.rounds (Ev.congr (fun k => ravelinlaw3_CellSizes.f.eq_1 ..) (evBind known3 (evT rfl ?_)))
  rw [e1, e2]
  refine evT (by omega) ?_
  cases low with
  | true =>
    refine evT rfl ?_
    rw [w64 (by omega), show ((2 ^ (a.toNat % 63) : Nat) : Int) - 1 = ((2 ^ (a.toNat % 63) - 1 : Nat) : Int) by omega]
    exact sizes_j0 _ (by omega)
  | false =>
    refine evF (by simp) ?_
    exact sizes_j0 _ (by omega)
end Go.Proofs.Ytialmkppgbplpaa.Pure
