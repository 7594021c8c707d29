import Derived.Test.YtmbedgopceigaaaQTabH
import Derived.Test.YtmbedgopceigaaaQTabQ
import Derived.Test.YtmbedgopceigaaaM7
namespace Go.Proofs.Ytmbedgopceigaaa.Q
open Go.RowKit Go.Lib Go.Proofs Go.Proofs.Ytmbedgopceigaaa.P Go.Proofs.YtmbedgopceigaaaW.PrintWords Go.Proofs.YtmbedgopceigaaaW.PrintLast Go.Proofs.YtmbedgopceigaaaW.PrintMore
set_option linter.unusedVariables false
set_option linter.unusedSimpArgs false
/-! few: not too many edits, none of them too great -/
theorem rdE (l : List S36) (i : Nat) (h : i < l.length) : rd_T36 l (i : Int) = l[i] := by
  unfold rd_T36
  rw [Int.toNat_natCast, List.getD_eq_getElem?_getD, List.getElem?_eq_getElem h]; rfl
theorem wsuccN (i n : Nat) (h : i < n) (hn : n ≤ 9223372036854775807) : wrap64 ((i : Int) + 1) = ((i + 1 : Nat) : Int) := by unfold wrap64; omega
def fewT (t : S32) : Bool := !(decide (20 < t.f2.size)) && !(decide (20 < t.f3.size))
def fewE (e : S36) : Bool := !(decide (60 < e.f0.length)) && !(decide (60 < e.f1.length)) && e.f1.all fewT
def fewB (l : List S36) : Bool := l.all fewE && decide (l.length ≤ 20)
theorem few_l1 (l : List S36) (hl : l.length ≤ 9223372036854775807) (i : Nat) (hi : i < l.length) (hc : l[i].f1.length ≤ 60) (r : Bool) (hn : Ev (fun k => ravelinlaw13_few.l0 k l ((i + 1 : Nat) : Int)) r) : ∀ (n q : Nat), q + n = l[i].f1.length →
    Ev (fun k => ravelinlaw13_few.l1 k l (i : Int) (q : Int)) ((l[i].f1.drop q).all fewT && r)
  | 0, q, h => by
    refine Ev.step (fun k => ravelinlaw13_few.l1.eq_2 ..) (evT (by omega) (evT (by omega) ?_))
    rw [rdE l i hi]
    refine evF (by omega) ?_
    rw [List.drop_of_length_le (by omega), List.all_nil, Bool.true_and, wsuccN i l.length hi hl]
    exact hn
  | n + 1, q, h => by
    have hq : q < l[i].f1.length := by omega
    have hd : l[i].f1.drop q = l[i].f1[q] :: l[i].f1.drop (q + 1) := List.drop_eq_getElem_cons hq
    have ih := few_l1 l hl i hi hc r hn n (q + 1) (by omega)
    refine Ev.step (fun k => ravelinlaw13_few.l1.eq_2 ..) (evT (by omega) (evT (by omega) ?_))
    rw [rdE l i hi]
    refine evT (by omega) (evT (by omega) ?_)
    rw [rdT _ q hq, hd, List.all_cons]
    generalize l[i].f1[q] = t
    have hw : wrap64 ((q : Int) + 1) = ((q + 1 : Nat) : Int) := by unfold wrap64; omega
    rw [hw]
    unfold fewT at ih ⊢
    by_cases h1 : 20 < t.f2.size
    · rw [decide_eq_true h1]
      exact evT (by omega) (evEq (evSome _) (by simp))
    · by_cases h2 : 20 < t.f3.size
      · rw [decide_eq_true h2]
        exact evF (by omega) (evT (by omega) (evEq (evSome _) (by simp)))
      · rw [decide_eq_false h1, decide_eq_false h2]
        exact evF (by omega) (evF (by omega) (evEq ih (by simp)))
theorem few_l0 (l : List S36) (hl : l.length ≤ 9223372036854775807) : ∀ (n i : Nat), i + n = l.length → Ev (fun k => ravelinlaw13_few.l0 k l (i : Int)) ((l.drop i).all fewE && decide (l.length ≤ 20))
  | 0, i, h => by
    refine Ev.step (fun k => ravelinlaw13_few.l0.eq_2 ..) (evF (by omega) (evEq (evSome _) ?_))
    rw [List.drop_of_length_le (by omega), List.all_nil, Bool.true_and]
    by_cases h1 : l.length ≤ 20
    · rw [decide_eq_true h1, decide_eq_true (by omega)]
    · rw [decide_eq_false h1, decide_eq_false (by omega)]
  | n + 1, i, h => by
    have hi : i < l.length := by omega
    have hd : l.drop i = l[i] :: l.drop (i + 1) := List.drop_eq_getElem_cons hi
    have ih := few_l0 l hl n (i + 1) (by omega)
    refine Ev.step (fun k => ravelinlaw13_few.l0.eq_2 ..) (evT (by omega) (evT (by omega) ?_))
    rw [rdE l i hi, hd, List.all_cons]
    by_cases h1 : 60 < l[i].f0.length
    · refine evT (by omega) (Ev.step (fun k => ravelinlaw13_few.j1.eq_2 ..) (evT rfl (evEq (evSome _) ?_)))
      unfold fewE; rw [decide_eq_true h1]; simp
    · refine evF (by omega) (Ev.step (fun k => ravelinlaw13_few.j1.eq_2 ..) ?_)
      by_cases h2 : 60 < l[i].f1.length
      · rw [decide_eq_true (show ((l[i].f1.length : Int) > 60) by omega)]
        refine evT rfl (evEq (evSome _) ?_)
        unfold fewE; rw [decide_eq_true h2]; simp
      · rw [decide_eq_false (show ¬ ((l[i].f1.length : Int) > 60) by omega)]
        refine evF (by decide) ?_
        have h3 := few_l1 l hl i hi (by omega) _ ih l[i].f1.length 0 (by omega)
        refine evEq h3 ?_
        rw [List.drop_zero]
        unfold fewE
        rw [decide_eq_false h1, decide_eq_false h2]
        simp [Bool.and_assoc]
theorem few_ev (l : List S36) (hl : l.length ≤ 9223372036854775807) : Ev (fun k => ravelinlaw13_few.f k l) (fewB l) := few_l0 l hl l.length 0 (by omega)
theorem few_at {l : List S36} (h : fewB l = true) (i : Nat) (hi : i < l.length) : l[i].f0.length ≤ 60 ∧ l[i].f1.length ≤ 60 := by
  unfold fewB at h
  rw [Bool.and_eq_true, List.all_eq_true] at h
  have h1 := h.1 l[i] (List.getElem_mem hi)
  unfold fewE at h1
  simp only [Bool.and_eq_true, Bool.not_eq_true', decide_eq_false_iff_not] at h1
  omega
theorem few_len {l : List S36} (h : fewB l = true) : l.length ≤ 20 := by
  unfold fewB at h
  rw [Bool.and_eq_true] at h
  exact of_decide_eq_true h.2
/-- The sheet behind a row of edits. -/
def runS (s : St) (l : List S36) : St := l.foldl (fun s e => doS s e.f0 e.f1 e.f2 e.f3) s
def new0 : St := ⟨[], 1, 0, 1⟩
theorem run_take (s : St) (l : List S36) (i : Nat) (h : i < l.length) : runS s (l.take (i + 1)) = doS (runS s (l.take i)) l[i].f0 l[i].f1 l[i].f2 l[i].f3 := by
  unfold runS
  rw [List.take_succ_eq_append_getElem h, List.foldl_append]
  rfl
theorem run_inv {s : St} (h : InvS s) : ∀ l : List S36, InvS (runS s l)
  | [] => h
  | e :: r => by
    unfold runS
    rw [List.foldl_cons]
    exact run_inv (doS_inv h e.f0 e.f1 e.f2 e.f3) r
end Go.Proofs.Ytmbedgopceigaaa.Q
