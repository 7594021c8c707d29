import Derived.Test.YtmbedgopceigaaaQTabS
import Derived.Test.YtmbedgopceigaaaM0
namespace Go.Proofs.Ytmbedgopceigaaa.Q
open Go.RowKit Go.Lib Go.Proofs Go.Proofs.Ytmbedgopceigaaa.P Go.Proofs.YtmbedgopceigaaaW.PrintWords Go.Proofs.YtmbedgopceigaaaW.PrintLast Go.Proofs.YtmbedgopceigaaaW.PrintMore
set_option linter.unusedVariables false
set_option linter.unusedSimpArgs false
/-! Same, of one row twice -/
theorem same_l0 (l : List S32) (hl : l.length ≤ 1000000) : ∀ (n i : Nat), i + n = l.length → Ev (fun k => ravelinref9_Same.l0 k l l (i : Int)) true
  | 0, i, h => by
    refine Ev.step (fun k => ravelinref9_Same.l0.eq_2 ..) (evF (by omega) (evSome _))
  | n + 1, i, h => by
    have hi : i < l.length := by omega
    refine Ev.step (fun k => ravelinref9_Same.l0.eq_2 ..) (evT (by omega) (evT (by omega) (evT (by omega) ?_)))
    refine evF (by simp) ?_
    rw [wsuccT i l.length hi hl]
    exact same_l0 l hl n (i + 1) (by omega)
theorem same_ev (l : List S32) (hl : l.length ≤ 1000000) : Ev (fun k => ravelinref9_Same.f k l l) true := by
  unfold ravelinref9_Same.f
  exact evT rfl (same_l0 l hl l.length 0 (by omega))
end Go.Proofs.Ytmbedgopceigaaa.Q
