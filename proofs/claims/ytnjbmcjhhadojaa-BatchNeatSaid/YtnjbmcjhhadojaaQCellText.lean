import Derived.Test.YtnjbmcjhhadojaaQCellNum
import Derived.Test.YtnjbmcjhhadojaaM1
namespace Go.Proofs.Ytnjbmcjhhadojaa.P
end Go.Proofs.Ytnjbmcjhhadojaa.P
namespace Go.Proofs.Ytnjbmcjhhadojaa.Q
end Go.Proofs.Ytnjbmcjhhadojaa.Q
namespace Go.Proofs.Ytnjbmcjhhadojaa.Q
open Go.RowKit Go.Proofs.Ytnjbmcjhhadojaa.P Go.Proofs.YtnjbmcjhhadojaaW.PrintWords Go.Proofs.YtnjbmcjhhadojaaW.PrintLast Go.Proofs.YtnjbmcjhhadojaaW.PrintMore
set_option linter.unusedVariables false
set_option linter.unusedSimpArgs false
theorem text_ev (s : List UInt8) (h : s.length ≤ 140737488351232) : Ev (fun k => cell_Text.f k (S s)) (S (textL s)) := by
  refine Ev.congr (fun k => cell_Text.f.eq_1 ..) ?_
  rw [S_size]
  refine evBind (num_ev _ (by omega)) ?_
  have := numL_le (n := s.length) (by omega)
  simp only [Int.toNat_natCast]
  refine evT (by rw [S_size]; omega) (evEq (evSome _) ?_)
  rw [S_append]; rfl
end Go.Proofs.Ytnjbmcjhhadojaa.Q
