import Derived.Test.YtkmbgihfdfgmgaaQCellTakeNum
import Derived.Test.YtkmbgihfdfgmgaaM3
import Derived.Test.YtkmbgihfdfgmgaaM10
namespace Go.Proofs.Ytkmbgihfdfgmgaa.P
end Go.Proofs.Ytkmbgihfdfgmgaa.P
namespace Go.Proofs.Ytkmbgihfdfgmgaa.Q
end Go.Proofs.Ytkmbgihfdfgmgaa.Q
namespace Go.Proofs.Ytkmbgihfdfgmgaa.Q
open Go.RowKit Go.Proofs.Ytkmbgihfdfgmgaa.P Go.Proofs.YtkmbgihfdfgmgaaW.PrintWords Go.Proofs.YtkmbgihfdfgmgaaW.PrintLast Go.Proofs.YtkmbgihfdfgmgaaW.PrintMore
set_option linter.unusedVariables false
set_option linter.unusedSimpArgs false
/-! TakeText -/
def tr (x : List UInt8 × Int × Int) : ByteArray × Int × Int := (S x.1, x.2.1, x.2.2)
theorem takeText_ev (l : List UInt8) (hz : l.length ≤ 140737488351232) : Ev (fun k => cell_TakeText.f k (S l)) (tr (takeText l)) := by
  refine Ev.congr (fun k => cell_TakeText.f.eq_1 ..) ?_
  refine evBind (takeNum_ev l hz) ?_
  have hb := takeNum_bounds l
  rw [S_size]
  by_cases h0 : (takeNum l).2.2 = 0
  · refine evT h0 ?_
    rw [w64 (n := (l.length : Int) - (takeNum l).2.1) (by omega)]
    by_cases h1 : (takeNum l).1 > (l.length : Int) - (takeNum l).2.1
    · refine evT h1 (evEq (evSome _) ?_)
      rw [show takeText l = ([], 0, 12) by unfold takeText; rw [if_pos h0, if_pos h1]]
      rfl
    · rw [w64 (n := (takeNum l).2.1 + (takeNum l).1) (by omega)]
      refine evF h1 (evT (by omega) (evT (by omega) (evT (by omega) (evEq (evSome _) ?_))))
      rw [S_extract, show ((takeNum l).2.1 + (takeNum l).1).toNat - (takeNum l).2.1.toNat = (takeNum l).1.toNat by omega]
      unfold takeText; rw [if_pos h0, if_neg h1]
      rfl
  · refine evF h0 (evEq (evSome _) ?_)
    unfold takeText; rw [if_neg h0]
    rfl
theorem rtakeText_ev (l : List UInt8) (hz : l.length ≤ 140737488351232) : Ev (fun k => ravelinref3_TakeText.f k (S l)) (tr (takeText l)) := by
  refine Ev.congr (fun k => ravelinref3_TakeText.f.eq_1 ..) ?_
  refine evBind (rtakeNum_ev l hz) ?_
  have hb := takeNum_bounds l
  rw [S_size]
  by_cases h0 : (takeNum l).2.2 = 0
  · refine evT h0 ?_
    rw [w64 (n := (l.length : Int) - (takeNum l).2.1) (by omega)]
    by_cases h1 : (takeNum l).1 > (l.length : Int) - (takeNum l).2.1
    · refine evT h1 (evEq (evSome _) ?_)
      rw [show takeText l = ([], 0, 12) by unfold takeText; rw [if_pos h0, if_pos h1]]
      rfl
    · rw [w64 (n := (takeNum l).2.1 + (takeNum l).1) (by omega)]
      refine evF h1 (evT (by omega) (evT (by omega) (evT (by omega) (evEq (evSome _) ?_))))
      rw [S_extract, show ((takeNum l).2.1 + (takeNum l).1).toNat - (takeNum l).2.1.toNat = (takeNum l).1.toNat by omega]
      unfold takeText; rw [if_pos h0, if_neg h1]
      rfl
  · refine evF h0 (evEq (evSome _) ?_)
    unfold takeText; rw [if_neg h0]
    rfl

end Go.Proofs.Ytkmbgihfdfgmgaa.Q
