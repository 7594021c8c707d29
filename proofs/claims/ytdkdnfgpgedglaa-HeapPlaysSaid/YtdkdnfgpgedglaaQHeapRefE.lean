import Derived.Test.YtdkdnfgpgedglaaQHeapEntry
import Derived.Test.YtdkdnfgpgedglaaPx3
import Derived.Test.YtdkdnfgpgedglaaPx5
namespace Go.Proofs.Ytdkdnfgpgedglaa.P
end Go.Proofs.Ytdkdnfgpgedglaa.P
namespace Go.Proofs.Ytdkdnfgpgedglaa.Q
end Go.Proofs.Ytdkdnfgpgedglaa.Q
namespace Go.Proofs.Ytdkdnfgpgedglaa.Q
open Go.RowKit Go.Proofs.Ytdkdnfgpgedglaa.P Go.Proofs.YtdkdnfgpgedglaaW.PrintWords Go.Proofs.YtdkdnfgpgedglaaW.PrintLast Go.Proofs.YtdkdnfgpgedglaaW.PrintMore
set_option linter.unusedVariables false
set_option linter.unusedSimpArgs false
theorem risWrite_ev (a : ByteArray) (d : Bool) (v : ByteArray) : ravelinref6_IsWrite.f a d v = some (isW a.data.toList d v.data.toList) := isWrite_ev a d v
theorem ris_ev (a : ByteArray) (s : Int) (d : Bool) (v : ByteArray) : ravelinref6_Is.f a s d v = some (isF a.data.toList s d v.data.toList) := is_ev a s d v
theorem rless_ev (a : ByteArray) (s : Int) (d : Bool) (v : ByteArray) (b : ByteArray) (t : Int) (d' : Bool) (v' : ByteArray) : ravelinref6_Less.f a s d v b t d' v' = some (lessF a.data.toList s b.data.toList t) := by
  unfold ravelinref6_Less.f lessF
  rw [toL, toL]
  generalize a.data.toList = x
  generalize b.data.toList = y
  cases h1 : Op.bytesLess x y with
  | true => simp
  | false =>
    by_cases h2 : x = y
    · simp [h2]
    · simp [h2]
theorem rsorted_l0 (l : List S29) (hl : l.length ≤ 9223372036854775807) (n : Nat) : ∀ i : Nat, l.length - (i + 1) = n → Ev (fun k => ravelinref6_Sorted.l0 k l ((i : Int) + 1)) (sortedB (l.drop i)) := by
  induction n with
  | zero =>
    intro i hi
    refine Ev.step (fun k => ravelinref6_Sorted.l0.eq_2 ..) (evF (by omega) (evEq (evSome _) ?_))
    rw [sortedB_last l i (by omega)]
  | succ n ih =>
    intro i hi
    refine Ev.step (fun k => ravelinref6_Sorted.l0.eq_2 ..) (evT (by omega) ?_)
    rw [w64 (n := (i : Int) + 1 - 1) (by omega)]
    refine evT (by omega) (evT (by omega) (evT (by omega) (evConst (rless_ev _ _ _ _ _ _ _ _) ?_)))
    rw [sortedB_drop l i (by omega)]
    have e1 : rd_T29 l ((i : Int) + 1 - 1) = l.getD i z29 := by unfold rd_T29; rw [show ((i : Int) + 1 - 1).toNat = i by omega]
    have e2 : rd_T29 l ((i : Int) + 1) = l.getD (i + 1) z29 := by unfold rd_T29; rw [show ((i : Int) + 1).toNat = i + 1 by omega]
    rw [e1, e2]
    cases hb : lessE (l.getD i z29) (l.getD (i + 1) z29) with
    | true =>
      refine evT hb ?_
      rw [w64 (by omega)]
      refine evEq (ih (i + 1) (by omega)) ?_
      simp
    | false =>
      exact evF (fun hh => by have h2 := hb.symm.trans hh; cases h2) (evSome _)
theorem rsorted_ev (l : List S29) (hl : l.length ≤ 9223372036854775807) : Ev (fun k => ravelinref6_Sorted.f k l) (sortedB l) := by
  refine Ev.congr (fun k => ravelinref6_Sorted.f.eq_1 ..) ?_
  exact rsorted_l0 l hl _ 0 rfl
end Go.Proofs.Ytdkdnfgpgedglaa.Q
