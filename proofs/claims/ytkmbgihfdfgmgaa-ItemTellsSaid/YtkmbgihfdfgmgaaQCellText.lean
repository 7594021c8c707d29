import Derived.Test.YtkmbgihfdfgmgaaQCellNum
import Derived.Test.YtkmbgihfdfgmgaaM1
import Derived.Test.YtkmbgihfdfgmgaaM9
namespace Go.Proofs.Ytkmbgihfdfgmgaa.P
end Go.Proofs.Ytkmbgihfdfgmgaa.P
namespace Go.Proofs.Ytkmbgihfdfgmgaa.Q
end Go.Proofs.Ytkmbgihfdfgmgaa.Q
namespace Go.Proofs.Ytkmbgihfdfgmgaa.Q
open Go.RowKit Go.Proofs.Ytkmbgihfdfgmgaa.P Go.Proofs.YtkmbgihfdfgmgaaW.PrintWords Go.Proofs.YtkmbgihfdfgmgaaW.PrintLast Go.Proofs.YtkmbgihfdfgmgaaW.PrintMore
set_option linter.unusedVariables false
set_option linter.unusedSimpArgs false
theorem text_ev (s : List UInt8) (h : s.length ≤ 140737488351232) : Ev (fun k => cell_Text.f k (S s)) (S (textL s)) := by
  refine Ev.congr (fun k => cell_Text.f.eq_1 ..) ?_
  rw [S_size]
  refine evBind (num_ev _ (by omega)) ?_
  have := numL_le (n := s.length) (by omega)
  simp only [Int.toNat_natCast]
  refine evT (by rw [S_size]; omega) (evEq (evSome _) ?_)
  rw [S_append]; rfl
theorem rtext_ev (s : List UInt8) (h : s.length ≤ 140737488351232) : Ev (fun k => ravelinref3_Text.f k (S s)) (S (textL s)) := by
  refine Ev.congr (fun k => ravelinref3_Text.f.eq_1 ..) ?_
  rw [S_size]
  refine evBind (rnum_ev _ (by omega)) ?_
  have := numL_le (n := s.length) (by omega)
  simp only [Int.toNat_natCast]
  refine evT (by rw [S_size]; omega) (evEq (evSome _) ?_)
  rw [S_append]; rfl
end Go.Proofs.Ytkmbgihfdfgmgaa.Q
