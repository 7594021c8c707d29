import Derived.Test.YtjcpdbekdimceaaQEntrySpec
import Derived.Test.YtjcpdbekdimceaaM3
import Derived.Test.YtjcpdbekdimceaaM0
import Derived.Test.YtjcpdbekdimceaaM1
namespace Go.Proofs.Ytjcpdbekdimceaa.P
end Go.Proofs.Ytjcpdbekdimceaa.P
namespace Go.Proofs.Ytjcpdbekdimceaa.Q
end Go.Proofs.Ytjcpdbekdimceaa.Q
namespace Go.Proofs.Ytjcpdbekdimceaa.Q
open Go.RowKit Go.Proofs.Ytjcpdbekdimceaa.P Go.Proofs.YtjcpdbekdimceaaW.PrintWords Go.Proofs.YtjcpdbekdimceaaW.PrintLast Go.Proofs.YtjcpdbekdimceaaW.PrintMore
set_option linter.unusedVariables false
set_option linter.unusedSimpArgs false
theorem isWrite_ev (a : ByteArray) (d : Bool) (v : ByteArray) : entry_IsWrite.f a d v = some (isW a.data.toList d v.data.toList) := by
  unfold entry_IsWrite.f isW
  rw [size_data, size_data, toL]
  generalize a.data.toList = x
  generalize v.data.toList = y
  by_cases h1 : 1 ≤ x.length
  · rw [if_pos (by omega)]
    by_cases h2 : x.length ≤ 13
    · rw [if_pos (by omega)]
      by_cases h3 : y.length ≤ 24
      · rw [if_pos (by omega)]
        cases d <;> cases y <;> simp_all
      · rw [if_neg (by omega)]; simp [h3]
    · rw [if_neg (by omega)]; simp [h2]
  · rw [if_neg (by omega)]; simp [h1]
theorem is_ev (a : ByteArray) (s : Int) (d : Bool) (v : ByteArray) : entry_Is.f a s d v = some (isF a.data.toList s d v.data.toList) := by
  unfold entry_Is.f isF
  rw [isWrite_ev]
  by_cases h1 : 1 ≤ s
  · rw [if_pos (by omega)]
    by_cases h2 : s ≤ 1000000
    · rw [if_pos (by omega)]; simp [h1, h2]
    · rw [if_neg (by omega)]; simp [h2]
  · rw [if_neg (by omega)]; simp [h1]
theorem or_ev (x y : Int) : Ev (fun k => cmp_Or_int.f k [x, y]) (if x = 0 then y else x) := by
  refine Ev.congr (fun k => cmp_Or_int.f.eq_1 ..) ?_
  refine Ev.step (fun k => cmp_Or_int.l0.eq_2 ..) (evT (by simp) (evT (by omega) (evT (by simp) ?_)))
  have e0 : rd [x, y] 0 = x := rfl
  have e1 : rd [x, y] 1 = y := rfl
  rw [e0]
  by_cases h : x = 0
  · rw [if_pos h]
    refine evT h ?_
    rw [w64 (by omega)]
    refine Ev.step (fun k => cmp_Or_int.l0.eq_2 ..) (evT (by simp) (evT (by omega) (evT (by simp) ?_)))
    rw [show (0 : Int) + 1 = 1 from rfl, e1]
    by_cases h2 : y = 0
    · refine evT h2 ?_
      rw [w64 (by omega)]
      exact Ev.step (fun k => cmp_Or_int.l0.eq_2 ..) (evF (by simp) (evEq (evSome _) h2.symm))
    · exact evF h2 (evSome _)
  · rw [if_neg h]
    exact evF h (evSome _)
theorem less_ev (a : ByteArray) (s : Int) (d : Bool) (v : ByteArray) (b : ByteArray) (t : Int) (d' : Bool) (v' : ByteArray) : Ev (fun k => entry_Less.f k a s d v b t d' v') (lessF a.data.toList s b.data.toList t) := by
  refine Ev.congr (fun k => entry_Less.f.eq_1 ..) ?_
  have hc : Ev (fun k => entry_Compare.f k a s d v b t d' v') (if Go.Lib.compareBytes a.data.toList b.data.toList = 0 then (if t < s then -1 else if t > s then 1 else 0) else Go.Lib.compareBytes a.data.toList b.data.toList) := by
    refine Ev.congr (fun k => entry_Compare.f.eq_1 ..) ?_
    refine evConst (show strings_Compare.f a b = some (Go.Lib.compareBytes a.data.toList b.data.toList) from rfl) ?_
    refine evConst (show cmp_Compare_int.f t s = some (if t < s then -1 else if t > s then 1 else 0) from ?_) ?_
    · unfold cmp_Compare_int.f cmp_isNaN_int.f
      simp only [bne_self_eq_false, Option.bind_some, Bool.false_eq_true, if_false]
      split
      · rfl
      · split <;> rfl
    · exact evBind (or_ev _ _) (evSome _)
  refine evBind hc (evEq (evSome _) ?_)
  rw [cmp_tells]
  unfold lessF
  clear hc
  generalize a.data.toList = x
  generalize b.data.toList = y
  cases h1 : Op.bytesLess x y with
  | true => simp
  | false =>
    by_cases h2 : x = y
    · simp only [h2, Bool.false_eq_true, if_false, if_true, Bool.false_or, beq_self_eq_true, Bool.true_and]
      by_cases h3 : t < s
      · simp [h3]
      · by_cases h4 : t > s
        · simp [h3, h4]
        · simp [h3, h4]
    · simp [h2]
theorem sorted_l0 (l : List S39) (hl : l.length ≤ 9223372036854775807) (n : Nat) : ∀ i : Nat, l.length - (i + 1) = n → Ev (fun k => entry_Sorted.l0 k l (l.length : Int) ((i : Int) + 1)) (sortedB (l.drop i)) := by
  induction n with
  | zero =>
    intro i hi
    refine Ev.step (fun k => entry_Sorted.l0.eq_2 ..) (evF (by omega) (evEq (evSome _) ?_))
    rw [sortedB_last l i (by omega)]
  | succ n ih =>
    intro i hi
    refine Ev.step (fun k => entry_Sorted.l0.eq_2 ..) (evT (by omega) (evF (by omega) ?_))
    rw [w64 (n := (i : Int) + 1 - 1) (by omega)]
    refine evT (by omega) (evT (by omega) (evT (by omega) (evT (by omega) (evBind (less_ev _ _ _ _ _ _ _ _) ?_))))
    rw [sortedB_drop l i (by omega)]
    have e1 : rd_T39 l ((i : Int) + 1 - 1) = l.getD i z39 := by unfold rd_T39; rw [show ((i : Int) + 1 - 1).toNat = i by omega]
    have e2 : rd_T39 l ((i : Int) + 1) = l.getD (i + 1) z39 := by unfold rd_T39; rw [show ((i : Int) + 1).toNat = i + 1 by omega]
    rw [e1, e2]
    cases hb : lessE (l.getD i z39) (l.getD (i + 1) z39) with
    | true =>
      refine evT hb ?_
      rw [w64 (by omega)]
      refine evEq (ih (i + 1) (by omega)) ?_
      simp
    | false =>
      exact evF (fun hh => by have h2 := hb.symm.trans hh; cases h2) (evSome _)
theorem sorted_ev (l : List S39) (hl : l.length ≤ 9223372036854775807) : Ev (fun k => entry_Sorted.f k l) (sortedB l) := by
  refine Ev.congr (fun k => entry_Sorted.f.eq_1 ..) ?_
  by_cases h : 0 < l.length
  · refine Ev.step (fun k => entry_Sorted.l0.eq_2 ..) (evT (by omega) (evT rfl ?_))
    rw [w64 (by omega)]
    exact sorted_l0 l hl _ 0 rfl
  · refine Ev.step (fun k => entry_Sorted.l0.eq_2 ..) (evF (by omega) (evEq (evSome _) ?_))
    have := sortedB_last l 0 (by omega)
    simpa using this.symm
end Go.Proofs.Ytjcpdbekdimceaa.Q
