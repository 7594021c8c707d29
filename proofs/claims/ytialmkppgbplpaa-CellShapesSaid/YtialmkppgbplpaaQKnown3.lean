import Derived.Test.YtialmkppgbplpaaQCellImpl
import Derived.Test.YtialmkppgbplpaaPx4
namespace Go.Proofs.Ytialmkppgbplpaa.P
end Go.Proofs.Ytialmkppgbplpaa.P
namespace Go.Proofs.Ytialmkppgbplpaa.Q
end Go.Proofs.Ytialmkppgbplpaa.Q
namespace Go.Proofs.Ytialmkppgbplpaa.Q
open Go.RowKit Go.Proofs.Ytialmkppgbplpaa.P Go.Proofs.YtialmkppgbplpaaW.PrintWords Go.Proofs.YtialmkppgbplpaaW.PrintLast Go.Proofs.YtialmkppgbplpaaW.PrintMore
set_option linter.unusedVariables false
set_option linter.unusedSimpArgs false
theorem less_ev (a b : List UInt8) : cell_Less.f (S a) (S b) = some (Op.bytesLess a b) := by
  unfold cell_Less.f; rw [S_toList, S_toList]
theorem known3 : Ev (fun k => ravelinlaw3_known.f k) true := by
  have n300 : numL 300 = [2, 1, 44] := by simp [numL, be]
  have n0 : numL 0 = [0] := by simp [numL, be]
  have tab : textL [97, 98] = [1, 2, 97, 98] := by simp [textL, numL, be]
  refine Ev.congr (fun k => ravelinlaw3_known.f.eq_1 ..) ?_
  refine evBind (num_ev 300 (by omega)) ?_
  rw [show (300 : Int).toNat = 300 from rfl, n300, show (⟨#[120]⟩ : ByteArray) = S [120] from rfl, show (⟨#[97, 98]⟩ : ByteArray) = S [97, 98] from rfl, show (⟨#[121]⟩ : ByteArray) = S [121] from rfl,
    show (⟨#[]⟩ : ByteArray) = S [] from rfl, show (⟨#[1, 0]⟩ : ByteArray) = S [1, 0] from rfl, show (⟨#[97]⟩ : ByteArray) = S [97] from rfl]
  refine evT (by rw [S_size]; simp) ?_
  rw [S_append]
  refine evBind (takeNum_ev _ (by simp)) (evBind (text_ev _ (by simp)) ?_)
  rw [tab]
  refine evT (by rw [S_size]; simp) ?_
  rw [S_append]
  refine evBind (takeText_ev _ (by simp)) (evBind (takeNum_ev _ (by simp)) (evBind (takeNum_ev _ (by simp)) (evBind (num_ev 300 (by omega)) ?_)))
  rw [show (300 : Int).toNat = 300 from rfl, n300]
  refine evT (by rw [S_toList]) (evT (by decide +kernel) (evT (by decide +kernel) (evT (by decide +kernel) (evT (by decide +kernel) (evT ?_ (evT (by decide +kernel) (evT (by decide +kernel) (evT (by decide +kernel) (evConst (less_ev _ _) (evT (by decide +kernel) (evBind (num_ev 0 (by omega)) ?_)))))))))))
  · rw [show (tr (takeText ([1, 2, 97, 98] ++ [121]))).1 = S [97, 98] by unfold tr; congr 1]
    rw [S_toList]
  · rw [show (0 : Int).toNat = 0 from rfl, n0, S_toList]
    exact evSome _
end Go.Proofs.Ytialmkppgbplpaa.Q
