import Derived.Test.YtdkdnfgpgedglaaQEntrySpec
import Derived.Test.YtdkdnfgpgedglaaPx5
namespace Go.Proofs.Ytdkdnfgpgedglaa.P
end Go.Proofs.Ytdkdnfgpgedglaa.P
namespace Go.Proofs.Ytdkdnfgpgedglaa.Q
end Go.Proofs.Ytdkdnfgpgedglaa.Q
namespace Go.Proofs.Ytdkdnfgpgedglaa.Q
open Go.RowKit Go.Proofs.Ytdkdnfgpgedglaa.P Go.Proofs.YtdkdnfgpgedglaaW.PrintWords Go.Proofs.YtdkdnfgpgedglaaW.PrintLast Go.Proofs.YtdkdnfgpgedglaaW.PrintMore
set_option linter.unusedVariables false
set_option linter.unusedSimpArgs false
theorem same_l0 (l : List S29) (hl : l.length ≤ 9223372036854775807) (d : Nat) : ∀ i : Nat, l.length - i = d → Ev (fun k => ravelinref6_Same.l0 k l l (i : Int)) true := by
  induction d with
  | zero => intro i hi; exact Ev.step (fun k => ravelinref6_Same.l0.eq_2 ..) (evF (by omega) (evSome _))
  | succ d ih =>
    intro i hi
    refine Ev.step (fun k => ravelinref6_Same.l0.eq_2 ..) (evT (by omega) (evT (by omega) (evT (by omega) (evF (by simp) ?_))))
    rw [w64 (by omega), show (i : Int) + 1 = ((i + 1 : Nat) : Int) by omega]
    exact ih (i + 1) (by omega)
theorem same_ev (l : List S29) (hl : l.length ≤ 9223372036854775807) : Ev (fun k => ravelinref6_Same.f k l l) true :=
  Ev.congr (fun k => ravelinref6_Same.f.eq_1 ..) (evT rfl (same_l0 l hl _ 0 rfl))
end Go.Proofs.Ytdkdnfgpgedglaa.Q
