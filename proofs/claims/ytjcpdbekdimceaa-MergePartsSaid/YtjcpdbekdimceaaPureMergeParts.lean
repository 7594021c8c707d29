/- The statement's part that speaks of no program: a row cut into two, merged again, is the row. -/
import Derived.Test.YtjcpdbekdimceaaQKnown11
import Derived.Test.YtjcpdbekdimceaaQMergeRows
import Derived.Test.YtjcpdbekdimceaaQMergeRefE
import Derived.Test.YtjcpdbekdimceaaPx16
namespace Go.Proofs.Ytjcpdbekdimceaa.P
end Go.Proofs.Ytjcpdbekdimceaa.P
namespace Go.Proofs.Ytjcpdbekdimceaa.Q
end Go.Proofs.Ytjcpdbekdimceaa.Q
namespace Go.Proofs.Ytjcpdbekdimceaa.Pure
open Go.RowKit Go.Proofs.Ytjcpdbekdimceaa.P Go.Proofs.YtjcpdbekdimceaaW.PrintWords Go.Proofs.YtjcpdbekdimceaaW.PrintLast Go.Proofs.YtjcpdbekdimceaaW.PrintMore Go.Proofs.Ytjcpdbekdimceaa.Q
set_option linter.unusedVariables false
set_option linter.unusedSimpArgs false
theorem parts_end (r a b : List S39) (hr : r.Pairwise (fun a b => lessE a b = true)) (hl : r.length ≤ 60) (ha : a.Sublist r) (hb : b.Sublist r) (hlook : ∀ k s, lookE (a ++ b) k s = lookE r k s) :
    Ev (fun k => merge_Rows.f k [a, b]) (r, 0) ∧ Ev (fun k => merge_Rows.f k [r, a, r]) (r, 0) := by
  have pa := hr.sublist ha
  have pb := hr.sublist hb
  have la := ha.length_le
  have lb := hb.length_le
  have sr := pw_sorted hr
  have sa := pw_sorted pa
  have sb := pw_sorted pb
  constructor
  · refine evEq (rows_ev [a, b] (by simp) ?_ ?_) ?_
    · intro x hx
      rcases List.mem_cons.1 hx with rfl | hx
      · omega
      · rw [List.mem_singleton.1 hx]; omega
    · simp only [List.flatten_cons, List.flatten_nil, List.append_nil, List.length_append]; omega
    · rw [if_pos (by simp [sa, sb]), sorted_uniq (mergeL_pw [a, b] List.Pairwise.nil) hr (fun k s => ?_)]
      rw [look_mergeL _ k s List.Pairwise.nil, ← hlook]
      simp [look_nil]
  · refine evEq (rows_ev [r, a, r] (by simp) ?_ ?_) ?_
    · intro x hx
      simp only [List.mem_cons, List.not_mem_nil, or_false] at hx
      rcases hx with rfl | rfl | rfl <;> omega
    · simp only [List.flatten_cons, List.flatten_nil, List.append_nil, List.length_append]; omega
    · rw [if_pos (by simp [sa, sr]), sorted_uniq (mergeL_pw [r, a, r] List.Pairwise.nil) hr (fun k s => ?_)]
      rw [look_mergeL _ k s List.Pairwise.nil, look_nil]
      simp only [List.flatten_cons, List.flatten_nil, List.append_nil, look_append]
      have h2 := hlook k s
      rw [look_append] at h2
      cases h : lookE r k s with
      | some x => rfl
      | none =>
        rw [h] at h2
        cases h3 : lookE a k s with
        | none => rfl
        | some y => rw [h3] at h2; cases h2
theorem parts_l0 (r : List S39) (tk : List Bool) (hr : r.Pairwise (fun a b => lessE a b = true)) (hl : r.length ≤ 60) (n : Nat) : ∀ (i : Nat) (a b : List S39), r.length - i = n → i ≤ r.length → a.Sublist (r.take i) → b.Sublist (r.take i) → (∀ k s, lookE (a ++ b) k s = lookE (r.take i) k s) →
    Ev (fun k => ravelinlaw11_MergeParts.l0 k r tk a b (i : Int)) true := by
  induction n with
  | zero =>
    intro i a b h1 h2 ha hb hlook
    rw [List.take_of_length_le (by omega)] at ha hb hlook
    obtain ⟨e1, e2⟩ := parts_end r a b hr hl ha hb hlook
    refine Ev.step (fun k => ravelinlaw11_MergeParts.l0.eq_2 ..) (evF (by omega) (evBind e1 (evBind e2 (evT rfl (evT rfl (evBind (same_ev r (by omega)) (evT rfl (evBind (same_ev r (by omega)) (evSome _)))))))))
  | succ n ih =>
    intro i a b h1 h2 ha hb hlook
    have hi : i < r.length := by omega
    have ht : r.take (i + 1) = r.take i ++ [r.getD i z39] := by
      rw [List.take_add_one, List.getElem?_eq_getElem hi]
      have : r.getD i z39 = r[i] := by rw [List.getD_eq_getElem?_getD, List.getElem?_eq_getElem hi]; rfl
      rw [this]; rfl
    have hlt : ∀ y ∈ r.take i, lessE y (r.getD i z39) = true := by
      have h3 := (hr.sublist (List.take_sublist (i + 1) r))
      rw [ht, List.pairwise_append] at h3
      exact fun y hy => h3.2.2 y hy _ List.mem_cons_self
    have la := ha.length_le
    have lb := hb.length_le
    rw [List.length_take] at la lb
    have nb : ∀ k s, hit k s (r.getD i z39) = true → lookE b k s = none := fun k s hh => look_none (fun e he h4 => less_ne (hlt e (hb.subset he)) ⟨h4.1.trans (hit_iff.1 hh).1.symm, h4.2.trans (hit_iff.1 hh).2.symm⟩)
    have toA : Ev (fun k => ravelinlaw11_MergeParts.l0 k r tk (a ++ [r.getD i z39]) b ((i + 1 : Nat) : Int)) true := by
      refine ih (i + 1) _ _ (by omega) (by omega) (by rw [ht]; exact List.Sublist.append ha (List.Sublist.refl _)) (by rw [ht]; exact hb.trans (List.sublist_append_left _ _)) (fun k s => ?_)
      rw [ht, look_append (r.take i), ← hlook, look_append, look_append a, look_append a b, look_cons, look_nil]
      by_cases hh : hit k s (r.getD i z39) = true
      · rw [nb k s hh, Option.or_none, Option.or_none]
      · rw [if_neg hh, Option.or_none, Option.or_none]
    have toB : Ev (fun k => ravelinlaw11_MergeParts.l0 k r tk a (b ++ [r.getD i z39]) ((i + 1 : Nat) : Int)) true := by
      refine ih (i + 1) _ _ (by omega) (by omega) (by rw [ht]; exact ha.trans (List.sublist_append_left _ _)) (by rw [ht]; exact List.Sublist.append hb (List.Sublist.refl _)) (fun k s => ?_)
      rw [ht, look_append (r.take i), ← hlook, look_append a, look_append a, look_append b, Option.or_assoc]
    have e : rd_T39 r (i : Int) = r.getD i z39 := by unfold rd_T39; rw [Int.toNat_natCast]
    refine Ev.step (fun k => ravelinlaw11_MergeParts.l0.eq_2 ..) (evT (by omega) ?_)
    rw [w64 (by omega), show (i : Int) + 1 = ((i + 1 : Nat) : Int) by omega, e]
    by_cases h3 : (i : Int) < (tk.length : Int)
    · refine evT h3 (evT (by omega) ?_)
      by_cases h4 : rdOf false tk (i : Int) = true
      · exact evT h4 (evT (by omega) toA)
      · exact evF h4 (evT (by omega) toB)
    · exact evF h3 (evT (by omega) (evT (by omega) toB))
theorem MergeParts : ravelinlaw11_MergeParts.Pure := by
  intro r tk hl _ _ _
  obtain ⟨b, hb, hc⟩ := few11_ev r hl
  refine Ev.rounds (Ev.congr (fun k => ravelinlaw11_MergeParts.f.eq_1 ..) (evBind known11 (evT rfl (evBind hb ?_))))
  have no : Ev (fun k => ravelinlaw11_MergeParts.j0 k r tk true) true := Ev.step (fun k => ravelinlaw11_MergeParts.j0.eq_2 ..) (evT rfl (evSome _))
  by_cases h1 : b = true
  · refine evT h1 ?_
    have hl2 := hc h1
    by_cases h2 : (tk.length : Int) > 60
    · exact evT h2 no
    · refine evF h2 (evBind (rsorted_ev r hl) ?_)
      cases hs : sortedB r with
      | false => exact no
      | true => exact Ev.step (fun k => ravelinlaw11_MergeParts.j0.eq_2 ..) (evF (by simp) (parts_l0 r tk (sorted_pw hs) hl2 _ 0 [] [] rfl (Nat.zero_le _) (List.nil_sublist _) (List.nil_sublist _) (fun k s => by simp)))
  · exact evF h1 no
end Go.Proofs.Ytjcpdbekdimceaa.Pure
