import Derived.Test.YthlndkbdonoefaaQSealImpl
import Derived.Test.YthlndkbdonoefaaM1
import Derived.Test.YthlndkbdonoefaaM3
namespace Go.Proofs.Ythlndkbdonoefaa.P
end Go.Proofs.Ythlndkbdonoefaa.P
namespace Go.Proofs.Ythlndkbdonoefaa.Q
end Go.Proofs.Ythlndkbdonoefaa.Q
namespace Go.Proofs.Ythlndkbdonoefaa.Q
open Go.RowKit Go.Proofs.Ythlndkbdonoefaa.P Go.Proofs.YthlndkbdonoefaaW.PrintWords Go.Proofs.YthlndkbdonoefaaW.PrintLast Go.Proofs.YthlndkbdonoefaaW.PrintMore
set_option linter.unusedVariables false
set_option linter.unusedSimpArgs false
theorem allS_pos {l : List UInt8} (h : (openS l).2.2 = 0) : allS l = ((openS l).1 :: (allS (l.drop (openS l).2.1.toNat)).1, (openS l).2.1.toNat + (allS (l.drop (openS l).2.1.toNat)).2) := by
  rw [allS, dif_pos h]
theorem allS_neg {l : List UInt8} (h : ¬ (openS l).2.2 = 0) : allS l = ([], 0) := by
  rw [allS, dif_neg h]
theorem allS_seal {s : List UInt8} (h : s.length < 9223372036854775808) (r : List UInt8) : allS (sealL s ++ r) = (s :: (allS r).1, (sealL s).length + (allS r).2) := by
  have e := openS_seal h r
  rw [allS_pos (by rw [e]), e]
  simp
theorem all_l0 (l : List UInt8) (hz : l.length ≤ 8796093022000) (n : Nat) : ∀ (at_ : Nat) (acc : List ByteArray), at_ ≤ l.length → l.length - at_ ≤ n → acc.length ≤ at_ →
    Ev (fun k => seal_All.l0 k (S l) acc (at_ : Int)) (acc ++ (allS (l.drop at_)).1.map S, ((at_ + (allS (l.drop at_)).2 : Nat) : Int)) := by
  induction n using Nat.strongRecOn with
  | _ n ih =>
    intro at_ acc h1 h2 h3
    refine Ev.step (fun k => seal_All.l0.eq_2 ..) (evT (by omega) (evT (by rw [S_size]; omega) ?_))
    rw [S_extract, S_size, Int.toNat_natCast, List.take_of_length_le (by rw [List.length_drop]; omega)]
    refine evBind (open_ev (l.drop at_) (by rw [List.length_drop]; omega)) ?_
    by_cases h : (openS (l.drop at_)).2.2 = 0
    · have h4 := openS_ok h
      rw [List.length_drop] at h4
      refine evT h (evT (by omega) ?_)
      rw [allS_pos h, List.drop_drop]
      have e : wrap64 ((at_ : Int) + (tr4 (openS (l.drop at_))).2.1) = ((at_ + (openS (l.drop at_)).2.1.toNat : Nat) : Int) := by
        show wrap64 ((at_ : Int) + (openS (l.drop at_)).2.1) = _
        rw [w64 (by omega)]; omega
      rw [e]
      refine evEq (ih (n - 1) (by omega) _ _ (by omega) (by omega) (by simp; omega)) ?_
      simp [tr4]
      omega
    · refine evF h (evEq (evSome _) ?_)
      rw [allS_neg h]; simp
theorem all_ev (l : List UInt8) (hz : l.length ≤ 8796093022000) : Ev (fun k => seal_All.f k (S l)) ((allS l).1.map S, ((allS l).2 : Int)) := by
  refine Ev.congr (fun k => seal_All.f.eq_1 ..) ?_
  have := all_l0 l hz l.length 0 [] (by omega) (by omega) (by simp)
  simpa using this
theorem rall_l0 (l : List UInt8) (hz : l.length ≤ 8796093022000) (n : Nat) : ∀ (at_ : Nat) (acc : List ByteArray), at_ ≤ l.length → l.length - at_ ≤ n → acc.length ≤ at_ →
    Ev (fun k => ravelinref3_All.l0 k (S l) acc (at_ : Int)) (acc ++ (allS (l.drop at_)).1.map S, ((at_ + (allS (l.drop at_)).2 : Nat) : Int)) := by
  induction n using Nat.strongRecOn with
  | _ n ih =>
    intro at_ acc h1 h2 h3
    refine Ev.step (fun k => ravelinref3_All.l0.eq_2 ..) ?_
    by_cases hl : at_ < l.length
    · refine evT (by rw [S_size]; omega) (evT (by omega) (evT (by rw [S_size]; omega) ?_))
      rw [S_extract, S_size, Int.toNat_natCast, List.take_of_length_le (by rw [List.length_drop]; omega)]
      refine evBind (ropen_ev (l.drop at_) (by rw [List.length_drop]; omega)) ?_
      by_cases h : (openS (l.drop at_)).2.2 = 0
      · have h4 := openS_ok h
        rw [List.length_drop] at h4
        refine evT h (evT (by omega) ?_)
        rw [allS_pos h, List.drop_drop]
        have e : wrap64 ((at_ : Int) + (tr4 (openS (l.drop at_))).2.1) = ((at_ + (openS (l.drop at_)).2.1.toNat : Nat) : Int) := by
          show wrap64 ((at_ : Int) + (openS (l.drop at_)).2.1) = _
          rw [w64 (by omega)]; omega
        rw [e]
        refine evEq (ih (n - 1) (by omega) _ _ (by omega) (by omega) (by simp; omega)) ?_
        simp [tr4]
        omega
      · refine evF h (evEq (evSome _) ?_)
        rw [allS_neg h]; simp
    · refine evF (by rw [S_size]; omega) (evEq (evSome _) ?_)
      have e : l.drop at_ = [] := List.drop_eq_nil_of_le (by omega)
      rw [e, allS_neg (by decide)]; simp
theorem rall_ev (l : List UInt8) (hz : l.length ≤ 8796093022000) : Ev (fun k => ravelinref3_All.f k (S l)) ((allS l).1.map S, ((allS l).2 : Int)) := by
  refine Ev.congr (fun k => ravelinref3_All.f.eq_1 ..) ?_
  have := rall_l0 l hz l.length 0 [] (by omega) (by omega) (by simp)
  simpa using this
end Go.Proofs.Ythlndkbdonoefaa.Q
