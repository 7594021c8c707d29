import Derived.Test.YtkmbgihfdfgmgaaQItemSpec
import Derived.Test.YtkmbgihfdfgmgaaQSealImpl
import Derived.Test.YtkmbgihfdfgmgaaM0
import Derived.Test.YtkmbgihfdfgmgaaM1
import Derived.Test.YtkmbgihfdfgmgaaM4
import Derived.Test.YtkmbgihfdfgmgaaM2
import Derived.Test.YtkmbgihfdfgmgaaM5
import Derived.Test.YtkmbgihfdfgmgaaM6
namespace Go.Proofs.Ytkmbgihfdfgmgaa.P
end Go.Proofs.Ytkmbgihfdfgmgaa.P
namespace Go.Proofs.Ytkmbgihfdfgmgaa.Q
end Go.Proofs.Ytkmbgihfdfgmgaa.Q
namespace Go.Proofs.Ytkmbgihfdfgmgaa.Q
open Go.RowKit Go.Proofs.Ytkmbgihfdfgmgaa.P Go.Proofs.YtkmbgihfdfgmgaaW.PrintWords Go.Proofs.YtkmbgihfdfgmgaaW.PrintLast Go.Proofs.YtkmbgihfdfgmgaaW.PrintMore
set_option linter.unusedVariables false
set_option linter.unusedSimpArgs false
theorem getD_cons {l : List S39} {i : Nat} (h : i < l.length) : l.drop i = l.getD i z39 :: l.drop (i + 1) := by
  rw [List.drop_eq_getElem_cons h, List.getD_eq_getElem?_getD, List.getElem?_eq_getElem h]; rfl
theorem rd_at (l : List S39) (i : Nat) : rd_T39 l (i : Int) = l.getD i z39 := by
  unfold rd_T39
  rw [Int.toNat_natCast]
theorem bis_l0 (l : List S39) (hl : l.length ≤ 4611686018427387904) (d : Nat) : ∀ (i : Nat) (a : ByteArray), i ≤ l.length → l.length - i = d →
    Ev (fun k => batch_Is.l0 k l a l (l.length : Int) (i : Int)) (riseB a.data.toList (l.drop i) && decide (l.length ≤ 8)) := by
  induction d with
  | zero =>
    intro i a hi hd
    refine Ev.step (fun k => batch_Is.l0.eq_2 ..) (evF (by omega) (evEq (evSome _) ?_))
    rw [List.drop_eq_nil_of_le (by omega), riseB, Bool.true_and, decide_eq_decide]
    omega
  | succ d ih =>
    intro i a hi hd
    have hi2 : i < l.length := by omega
    refine Ev.step (fun k => batch_Is.l0.eq_2 ..) (evT (by omega) (evT (by omega) (evT (by omega) ?_)))
    rw [rd_at, getD_cons hi2, riseB]
    generalize l.getD i z39 = w at *
    refine evConst (isWrite_ev w.f0 w.f1 w.f2) ?_
    show Ev (fun n => if isWr w = true then _ else _) _
    cases h1 : isWr w with
    | false => exact evF (by simp) (evSome _)
    | true =>
      refine evT rfl ?_
      rw [toL, toL]
      show Ev (fun n => if Op.bytesLess a.data.toList (wk w) = true then _ else _) _
      cases h2 : Op.bytesLess a.data.toList (wk w) with
      | false => exact evF (by simp) (evSome _)
      | true =>
        refine evT rfl ?_
        rw [w64 (by omega), show (i : Int) + 1 = ((i + 1 : Nat) : Int) by omega]
        exact evEq (ih (i + 1) w.f0 (by omega) (by omega)) rfl
theorem bis_ev (l : List S39) (hl : l.length ≤ 4611686018427387904) : Ev (fun k => batch_Is.f k l) (isB l) := by
  refine Ev.congr (fun k => batch_Is.f.eq_1 ..) ?_
  exact bis_l0 l hl _ 0 _ (by omega) rfl
theorem between_ev (a b c : Int) : item_between.f a b c = some (decide (b ≤ a) && decide (a ≤ c)) := by
  unfold item_between.f
  by_cases h : b ≤ a
  · rw [if_pos h, decide_eq_true h, Bool.true_and]
  · rw [if_neg h, decide_eq_false h, Bool.false_and]
theorem is_l0 (lv n t : Int) (sh : Bool) (l : List S39) (hl : l.length ≤ 4611686018427387904) (d : Nat) : ∀ i : Nat, i ≤ l.length → l.length - i = d →
    Ev (fun k => item_Is.l0 k l (l.length : Int) (i : Int) lv n t sh l) (shortB (l.drop i) && isB l) := by
  induction d with
  | zero =>
    intro i hi hd
    refine Ev.step (fun k => item_Is.l0.eq_2 ..) (evF (by omega) (evBind (bis_ev l hl) (evEq (evSome _) ?_)))
    rw [List.drop_eq_nil_of_le (by omega)]
    rfl
  | succ d ih =>
    intro i hi hd
    have hi2 : i < l.length := by omega
    refine Ev.step (fun k => item_Is.l0.eq_2 ..) (evT (by omega) (evT (by omega) (evT (by omega) ?_)))
    rw [rd_at, getD_cons hi2, shortB, List.all_cons, size_data]
    generalize l.getD i z39 = w at *
    show Ev (fun n => if ((wk w).length : Int) ≤ 12 then _ else _) _
    by_cases h : (wk w).length ≤ 12
    · refine evT (by omega) ?_
      rw [w64 (by omega), show (i : Int) + 1 = ((i + 1 : Nat) : Int) by omega, decide_eq_true h, Bool.true_and]
      exact ih (i + 1) (by omega) (by omega)
    · refine evF (by omega) ?_
      rw [decide_eq_false h]
      exact evSome _
theorem is_j0 (lv n t : Int) (sh : Bool) (l : List S39) (hl : l.length ≤ 4611686018427387904) :
    Ev (fun k => item_Is.j0 k false lv n t sh l) (if (sh || l.isEmpty) = true then sh && l.isEmpty else shortB l && isB l) := by
  have he : (((l.length : Int)) == 0) = l.isEmpty := by cases l <;> simp; omega
  refine Ev.step (fun k => item_Is.j0.eq_2 ..) (evF (by simp) ?_)
  rw [he]
  cases sh with
  | true =>
    refine evT rfl (Ev.step (fun k => item_Is.j1.eq_2 ..) (evT rfl (evT rfl (evEq (evSome _) ?_))))
    rw [he]; rfl
  | false =>
    refine evF (by simp) (Ev.step (fun k => item_Is.j1.eq_2 ..) ?_)
    cases hx : l.isEmpty with
    | true => exact evT rfl (evF (by simp) (evSome _))
    | false => exact evF (by simp) (is_l0 lv n t false l hl _ 0 (by omega) rfl)
theorem is_ev (lv n t : Int) (sh : Bool) (l : List S39) (hl : l.length ≤ 4611686018427387904) : Ev (fun k => item_Is.f k lv n t sh l) (isI lv n t sh l) := by
  have bad : Ev (fun k => item_Is.j0 k true lv n t sh l) false := Ev.step (fun k => item_Is.j0.eq_2 ..) (evT rfl (evSome _))
  refine Ev.congr (fun k => item_Is.f.eq_1 ..) (evConst (between_ev lv 0 5) ?_)
  unfold isI
  cases h1 : (decide (0 ≤ lv) && decide (lv ≤ 5)) with
  | false => exact evF (by simp) bad
  | true =>
    refine evT rfl (evConst (between_ev n 1 1000000) ?_)
    cases h2 : (decide (1 ≤ n) && decide (n ≤ 1000000)) with
    | false => exact evF (by simp) bad
    | true =>
      refine evT rfl (evConst (between_ev t 0 1000000) ?_)
      cases h3 : (decide (0 ≤ t) && decide (t ≤ 1000000)) with
      | false => exact bad
      | true => exact is_j0 lv n t sh l hl
theorem words_l0 (l : List S39) (hl : l.length ≤ 8) (hw : ∀ w ∈ l, isWr w = true) (d : Nat) : ∀ (i : Nat) (acc : List UInt8), i ≤ l.length → l.length - i = d → acc.length ≤ 10 + 60 * i →
    Ev (fun k => batch_Words.l0 k (S acc) l (l.length : Int) (i : Int)) (S (acc ++ rowsW (l.drop i))) := by
  induction d with
  | zero =>
    intro i acc hi hd _
    refine Ev.step (fun k => batch_Words.l0.eq_2 ..) (evF (by omega) (evEq (evSome _) ?_))
    rw [List.drop_eq_nil_of_le (by omega), rowsW, List.append_nil]
  | succ d ih =>
    intro i acc hi hd hacc
    have hi2 : i < l.length := by omega
    have hmem : l.getD i z39 ∈ l := by
      rw [List.getD_eq_getElem?_getD, List.getElem?_eq_getElem hi2]; exact List.getElem_mem hi2
    refine Ev.step (fun k => batch_Words.l0.eq_2 ..) (evT (by omega) (evT (by omega) (evT (by omega) ?_)))
    rw [rd_at, getD_cons hi2, rowsW]
    have hx := hw _ hmem
    generalize l.getD i z39 = w at *
    obtain ⟨h1, h2, h3, h4⟩ := isWr_iff hx
    have hr := rowW_len hx
    have t1 := text_ev (wk w) (by omega)
    have t2 := value_ev w.f1 (wv w) (by omega)
    rw [show S (wk w) = w.f0 from S_of _] at t1
    rw [show S (wv w) = w.f2 from S_of _] at t2
    refine evBind t1 (evBind t2 ?_)
    rw [S_append, S_append, S_size, S_size, S_size, S_size]
    have hr2 : (textL (wk w)).length + (valL w.f1 (wv w)).length = (rowW w).length := by rw [rowW, List.length_append]
    refine evT (by omega) (evT (by rw [List.length_append]; omega) ?_)
    rw [w64 (by omega), show (i : Int) + 1 = ((i + 1 : Nat) : Int) by omega]
    refine evEq (ih (i + 1) _ (by omega) (by omega) (by rw [List.length_append, List.length_append]; omega)) ?_
    simp [rowW]
theorem words_ev (l : List S39) (hl : l.length ≤ 8) (hw : ∀ w ∈ l, isWr w = true) : Ev (fun k => batch_Words.f k l) (S (wordsW l)) := by
  have a4 := numL_le (n := l.length) (by omega)
  have n1 := num_ev (l.length : Int) (by omega)
  rw [Int.toNat_natCast] at n1
  refine Ev.congr (fun k => batch_Words.f.eq_1 ..) (evBind n1 ?_)
  exact words_l0 l hl hw _ 0 _ (by omega) rfl (by omega)
theorem bytes_j0 {lv n t : Int} {sh : Bool} {l : List S39} (h : isI lv n t sh l = true) (m : List UInt8) (hm : m = if sh = true then [1] else [0]) :
    Ev (fun k => item_Bytes.j0 k (S m) lv n t sh l) (S (sealL (payI lv n t sh l)), 0) := by
  obtain ⟨h1, h2, h3, h4, h5⟩ := isI_num h
  have hp := payI_len h
  have a1 := numL_le (n := lv.toNat) (by omega)
  have a2 := numL_le (n := n.toNat) (by omega)
  have a3 := numL_le (n := t.toNat) (by omega)
  have a4 := numL_le (n := l.length) (by omega)
  have a5 := rowsW_len h5
  have a6 : m.length = 1 := by rw [hm]; split <;> rfl
  have n1 := num_ev lv (by omega)
  have n2 := num_ev n (by omega)
  have n3 := num_ev t (by omega)
  refine Ev.step (fun k => item_Bytes.j0.eq_2 ..) ?_
  refine evBind n1 (evBind n2 (evT (by rw [S_size, S_size]; omega) (evBind n3 ?_)))
  rw [S_append, S_append, S_append, S_size, S_size, S_size, S_size]
  refine evT (by rw [List.length_append]; omega) (evT (by simp only [List.length_append]; omega) (evBind (words_ev l h4 h5) ?_))
  rw [S_append, S_size, S_size]
  have e : (((numL lv.toNat ++ numL n.toNat) ++ numL t.toNat) ++ m) ++ wordsW l = payI lv n t sh l := by
    rw [payI, hm]; simp only [List.append_assoc]
  have e2 := congrArg List.length e
  rw [List.length_append] at e2
  rw [e]
  exact evT (by omega) (evBind (seal_ev _ (by omega)) (evSome _))
theorem ibytes_ev (lv n t : Int) (sh : Bool) (l : List S39) (hl : l.length ≤ 4611686018427387904) : Ev (fun k => item_Bytes.f k lv n t sh l) (S (bytesI lv n t sh l).1, (bytesI lv n t sh l).2) := by
  refine Ev.congr (fun k => item_Bytes.f.eq_1 ..) (evBind (is_ev lv n t sh l hl) ?_)
  unfold bytesI
  by_cases h : isI lv n t sh l = true
  · rw [if_pos h]
    refine evT h ?_
    cases sh with
    | true => exact evT rfl (bytes_j0 h [1] rfl)
    | false => exact evF (by simp) (bytes_j0 h [0] rfl)
  · rw [if_neg h]
    exact evF h (evSome _)
end Go.Proofs.Ytkmbgihfdfgmgaa.Q
