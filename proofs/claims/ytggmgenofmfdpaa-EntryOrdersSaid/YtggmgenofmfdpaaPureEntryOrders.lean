/- Proved: the law EntryOrders is true of every three entries, every row, every cut. -/
import Derived.Test.YtggmgenofmfdpaaQKnown6
import Derived.Test.YtggmgenofmfdpaaPx29
namespace Go.Proofs.Ytggmgenofmfdpaa.P
end Go.Proofs.Ytggmgenofmfdpaa.P
namespace Go.Proofs.Ytggmgenofmfdpaa.Q
end Go.Proofs.Ytggmgenofmfdpaa.Q
namespace Go.Proofs.Ytggmgenofmfdpaa.Pure
open Go.RowKit Go.Proofs.Ytggmgenofmfdpaa.P Go.Proofs.YtggmgenofmfdpaaW.PrintWords Go.Proofs.YtggmgenofmfdpaaW.PrintLast Go.Proofs.YtggmgenofmfdpaaW.PrintMore Go.Proofs.Ytggmgenofmfdpaa.Q
set_option linter.unusedVariables false
set_option linter.unusedSimpArgs false
theorem sorted_take : ∀ (l : List S23) (n : Nat), sortedB l = true → sortedB (l.take n) = true
  | [], _, _ => by rw [List.take_nil]; rfl
  | _ :: _, 0, _ => rfl
  | [_], _ + 1, _ => by rw [List.take_succ_cons, List.take_nil]; rfl
  | _ :: _ :: _, 1, _ => rfl
  | a :: b :: t, n + 2, h => by
    have h' : (lessE a b && sortedB (b :: t)) = true := h
    rw [Bool.and_eq_true] at h'
    have := sorted_take (b :: t) (n + 1) h'.2
    show (lessE a b && sortedB (b :: t.take n)) = true
    rw [Bool.and_eq_true]
    exact ⟨h'.1, this⟩
theorem orders_row (l : List S23) (c : Nat) (hl : l.length ≤ 60) (hc : c ≤ 255) : Ev (fun k => ravelinlaw6_EntryOrders.j1 k l (c : Int) false) true := by
  refine Ev.step (fun k => ravelinlaw6_EntryOrders.j1.eq_2 ..) (evF (by simp) ?_)
  by_cases h0 : (l.length : Int) > 0
  · refine evT h0 (evF (by omega) (evBind (sorted_ev l (by omega)) ?_))
    by_cases hs : sortedB l = true
    · have e : Int.tmod (wrap64 (c : Int)) (l.length : Int) = ((c % l.length : Nat) : Int) := by
        rw [w64 (by omega), Int.tmod_eq_emod_of_nonneg (by omega)]
        omega
      have m := Nat.mod_lt c (show 0 < l.length by omega)
      rw [e]
      refine evT hs (evT (by omega) (evT (by omega) (evBind (sorted_ev _ (by rw [List.length_take]; omega)) ?_)))
      rw [Int.toNat_natCast]
      refine evT (sorted_take l _ hs) (evBind (sorted_ev _ (by rw [List.length_drop]; omega)) (evEq (evSome _) (sorted_from hs _)))
    · exact evF hs (evSome _)
  · refine evF h0 (evBind (sorted_ev l (by omega)) ?_)
    by_cases hs : sortedB l = true
    · refine evT hs (evT (by omega) (evBind (sorted_ev _ (by rw [List.length_take]; omega)) ?_))
      refine evT (sorted_take l _ hs) (evBind (sorted_ev _ (by rw [List.length_drop]; omega)) (evEq (evSome _) (sorted_from hs 0)))
    · exact evF hs (evSome _)
theorem orders_main (a b d : S23) (l : List S23) (c : Nat) (hl : l.length ≤ 60) (hc : c ≤ 255) :
    Ev (fun k => ravelinlaw6_EntryOrders.j0 k l (c : Int) false a.f0 a.f1 a.f2 a.f3 b.f0 b.f1 b.f2 b.f3 d.f0 d.f1 d.f2 d.f3) true := by
  have row := orders_row l c hl hc
  refine Ev.step (fun k => ravelinlaw6_EntryOrders.j0.eq_2 ..) (evF (by simp) ?_)
  refine evBind (less_ev _ _ _ _ _ _ _ _) (evBind (less_ev _ _ _ _ _ _ _ _) ?_)
  rw [toL, toL]
  rcases lessF_tri a.f0.data.toList b.f0.data.toList a.f1 b.f1 with h | ⟨h1, h2⟩ | h
  · have h' := lessF_asymm h
    have last : Ev (fun k => (entry_Less.f k b.f0 b.f1 b.f2 b.f3 d.f0 d.f1 d.f2 d.f3).bind fun t => if t = true then (entry_Less.f k a.f0 a.f1 a.f2 a.f3 d.f0 d.f1 d.f2 d.f3).bind fun u => ravelinlaw6_EntryOrders.j1 k l (c : Int) (!u) else ravelinlaw6_EntryOrders.j1 k l (c : Int) false) true := by
      refine evBind (less_ev _ _ _ _ _ _ _ _) ?_
      by_cases h3 : lessF b.f0.data.toList b.f1 d.f0.data.toList d.f1 = true
      · refine evT h3 (evBind (less_ev _ _ _ _ _ _ _ _) ?_)
        rw [lessF_trans h h3]
        exact row
      · exact evF h3 row
    rw [h']
    refine evT h (evF (by simp) ?_)
    by_cases hk : a.f0.data.toList = b.f0.data.toList
    · refine evT hk (evF ?_ last)
      have : a.f1 ≠ b.f1 := by
        intro e
        rw [hk, e, lessF_irrefl] at h
        cases h
      simp [this]
    · exact evF hk (evF (by simp) last)
  · rw [← h1, ← h2, lessF_irrefl]
    exact evF (by simp) (evT rfl (evF (by simp) row))
  · have h' := lessF_asymm h
    rw [h', h]
    refine evF (by simp) ?_
    by_cases hk : a.f0.data.toList = b.f0.data.toList
    · refine evT hk (evF ?_ row)
      have : a.f1 ≠ b.f1 := by
        intro e
        rw [hk, e, lessF_irrefl] at h
        cases h
      simp [this]
    · exact evF hk (evF (by simp) row)
theorem EntryOrders : ravelinlaw6_EntryOrders.Pure := by
  intro a0 a1 a2 a3 b0 b1 b2 b3 d0 d1 d2 d3 l c _ _ _ _ _ _ _ _ _ hl _ hc
  have hc := wf_u8 hc
  refine Ev.rounds (Ev.congr (fun k => ravelinlaw6_EntryOrders.f.eq_1 ..) (evBind known6 (evT rfl ?_)))
  have yes : Ev (fun k => ravelinlaw6_EntryOrders.j0 k l c true a0 a1 a2 a3 b0 b1 b2 b3 d0 d1 d2 d3) true := Ev.step (fun k => ravelinlaw6_EntryOrders.j0.eq_2 ..) (evT rfl (evSome _))
  refine evBind (few_ev l hl) ?_
  by_cases h1 : fewB l = true
  · refine evT h1 (evBind (few_ev _ (by simp)) ?_)
    cases h2 : fewB [(⟨a0, a1, a2, a3⟩ : S23), ⟨b0, b1, b2, b3⟩, ⟨d0, d1, d2, d3⟩] with
    | true =>
      have := orders_main ⟨a0, a1, a2, a3⟩ ⟨b0, b1, b2, b3⟩ ⟨d0, d1, d2, d3⟩ l c.toNat (few_len h1) (by omega)
      rw [Int.toNat_of_nonneg hc.1] at this
      exact this
    | false => exact yes
  · exact evF h1 yes
end Go.Proofs.Ytggmgenofmfdpaa.Pure
