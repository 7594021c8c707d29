/- The statement's part that speaks of no program: the one row, what is seen and what is packed are the document's. -/
import Derived.Test.YtjcpdbekdimceaaQKnown11
import Derived.Test.YtjcpdbekdimceaaQMergeRows
import Derived.Test.YtjcpdbekdimceaaQMergeRef
import Derived.Test.YtjcpdbekdimceaaQMergeRefS
import Derived.Test.YtjcpdbekdimceaaPx14
import Derived.Test.YtjcpdbekdimceaaM7
namespace Go.Proofs.Ytjcpdbekdimceaa.P
end Go.Proofs.Ytjcpdbekdimceaa.P
namespace Go.Proofs.Ytjcpdbekdimceaa.Q
end Go.Proofs.Ytjcpdbekdimceaa.Q
namespace Go.Proofs.Ytjcpdbekdimceaa.Pure
open Go.RowKit Go.Proofs.Ytjcpdbekdimceaa.P Go.Proofs.YtjcpdbekdimceaaW.PrintWords Go.Proofs.YtjcpdbekdimceaaW.PrintLast Go.Proofs.YtjcpdbekdimceaaW.PrintMore Go.Proofs.Ytjcpdbekdimceaa.Q
set_option linter.unusedVariables false
set_option linter.unusedSimpArgs false
theorem flat_len : ∀ (L : List (List S39)) (m : Nat), (∀ r ∈ L, r.length ≤ m) → L.flatten.length ≤ L.length * m
  | [], _, _ => by simp
  | r :: t, m, h => by
    have h1 := h r List.mem_cons_self
    have h2 := flat_len t m (fun x hx => h x (List.mem_cons_of_mem _ hx))
    rw [List.flatten_cons, List.length_append, List.length_cons, Nat.add_mul]
    omega
theorem fewRows_l0 (L : List (List S39)) (hL : L.length ≤ 9223372036854775807) (hr : ∀ r ∈ L, r.length ≤ 9223372036854775807) (n : Nat) : ∀ i : Nat, L.length - i = n → i ≤ L.length → ∃ b, Ev (fun k => ravelinlaw11_fewRows.l0 k L (i : Int)) b ∧ (b = true → L.length ≤ 5 ∧ ∀ r ∈ L.drop i, r.length ≤ 25) := by
  induction n with
  | zero =>
    intro i h1 h2
    refine ⟨_, Ev.step (fun k => ravelinlaw11_fewRows.l0.eq_2 ..) (evF (by omega) (evSome _)), fun h => ?_⟩
    have := of_decide_eq_true h
    rw [List.drop_eq_nil_of_le (by omega)]
    exact ⟨by omega, fun r hr => by cases hr⟩
  | succ n ih =>
    intro i h1 h2
    have hi : i < L.length := by omega
    have hm : L.getD i [] ∈ L := by rw [List.getD_eq_getElem?_getD, List.getElem?_eq_getElem hi]; exact List.getElem_mem hi
    obtain ⟨b, hb, hc⟩ := ih (i + 1) (by omega) (by omega)
    obtain ⟨b2, hb2, _⟩ := few11_ev (L.getD i []) (hr _ hm)
    have e : wrap64 ((i : Int) + 1) = ((i + 1 : Nat) : Int) := by rw [w64 (by omega)]; rfl
    have go := fun {r : Bool} (h : Ev (fun k => if b2 = true then (if ((L.getD i []).length : Int) > 25 then some false else ravelinlaw11_fewRows.l0 k L ((i + 1 : Nat) : Int)) else some false) r) => (show Ev (fun k => ravelinlaw11_fewRows.l0 k L (i : Int)) r from Ev.step (fun k => ravelinlaw11_fewRows.l0.eq_2 ..) (evT (by omega) (evT (by omega) (by rw [iL, e]; exact evBind hb2 h))))
    cases b2 with
    | false => exact ⟨false, go (evF (by simp) (evSome _)), fun h => by cases h⟩
    | true =>
      by_cases h3 : ((L.getD i []).length : Int) > 25
      · exact ⟨false, go (evT rfl (evT h3 (evSome _))), fun h => by cases h⟩
      · refine ⟨b, go (evT rfl (evF h3 hb)), fun h => ⟨(hc h).1, fun r hr => ?_⟩⟩
        rw [drop_cons L [] i hi] at hr
        rcases List.mem_cons.1 hr with rfl | hr
        · omega
        · exact (hc h).2 r hr
theorem tells_end (L : List (List S39)) (r : List S39) (q : Int) (hs : List Int) (b : Bool) (hL : L.length ≤ 5) (hr : ∀ x ∈ L, x.length ≤ 25) (hl : r.length ≤ 60) (hh : hs.length ≤ 10) :
    Ev (fun k => ravelinlaw11_MergeTells.j0 k L r q hs b false) true := by
  have hf := flat_len L 25 hr
  have hf2 : L.flatten.length ≤ 1000000 := by omega
  have hr2 : ∀ x ∈ L, x.length ≤ 1000000 := fun x hx => by have := hr x hx; omega
  have a1 := rows_ev L (by omega) hr2 hf2
  have a2 := rrows_ev L (by omega) hr2 hf2
  have a3 := visible_ev r q (by omega)
  have a4 := rvis_ev r q (by omega)
  have a5 := pack_ev r hs b (by omega) (by omega)
  have a6 := rpack_ev r hs b (by omega) (by omega)
  have v1 : (visS r q).length ≤ 9223372036854775807 := by
    have : ∀ (t : List S39) (p : Option S39), (visL p t q).length ≤ t.length := by
      intro t
      induction t with
      | nil => intro p; exact Nat.le_refl _
      | cons e t ih => intro p; rw [visL, List.length_append, List.length_cons]; have := ih (some e); split <;> simp <;> omega
    have h := this r none
    unfold visS; split
    · omega
    · simp
  have v2 : (packS r hs b).length ≤ 9223372036854775807 := by
    have h1 := want_length hs r none
    have h2 := stripR_length (wantL none r hs)
    unfold packS packL
    split
    · split <;> omega
    · simp
  have fin : Ev (fun k => (merge_Visible.f k r q).bind fun t280 => ((ravelinref6_Visible.f k r q).bind fun t283 => ((ravelinref6_Same.f k t280 t283).bind fun t286 => (if t286 = true then ((merge_Pack.f k r hs b).bind fun t287 => ((ravelinref6_Pack.f k r hs b).bind fun t290 => ((ravelinref6_Same.f k t287 t290).bind fun t293 => (some t293)))) else (some false))))) true :=
    evBind a3 (evBind a4 (evBind (same_ev _ v1) (evT rfl (evBind a5 (evBind a6 (evBind (same_ev _ v2) (evSome _)))))))
  refine Ev.step (fun k => ravelinlaw11_MergeTells.j0.eq_2 ..) (evF (by simp) (evBind a1 (evBind a2 ?_)))
  by_cases h : L.all sortedB = true
  · rw [if_pos h, if_pos h]
    have hm := mergeL_length L []
    refine evBind (same_ev (mergeL [] L) (by simp only [List.length_nil] at hm; omega)) (evT rfl (evT rfl (evT rfl fin)))
  · rw [if_neg h, if_neg h]
    exact evBind (same_ev [] (by simp)) (evT rfl (evT rfl (evF (by simp) (evT rfl fin))))
theorem MergeTells : ravelinlaw11_MergeTells.Pure := by
  intro L r q hs b hL hLr hl _ _ _ _
  have no : Ev (fun k => ravelinlaw11_MergeTells.j0 k L r q hs b true) true := Ev.step (fun k => ravelinlaw11_MergeTells.j0.eq_2 ..) (evT rfl (evSome _))
  obtain ⟨b1, h1, c1⟩ := fewRows_l0 L hL (fun x hx => (hLr x hx).1) _ 0 rfl (Nat.zero_le _)
  obtain ⟨b2, h2, c2⟩ := few11_ev r hl
  refine Ev.rounds (Ev.congr (fun k => ravelinlaw11_MergeTells.f.eq_1 ..) (evBind known11 (evT rfl (evBind (Ev.congr (fun k => ravelinlaw11_fewRows.f.eq_1 ..) h1) ?_))))
  by_cases d1 : b1 = true
  · refine evT d1 (evBind h2 ?_)
    by_cases d2 : b2 = true
    · refine evT d2 ?_
      by_cases d3 : (hs.length : Int) > 10
      · rw [decide_eq_true d3]; exact no
      · rw [decide_eq_false d3]
        exact tells_end L r q hs b (c1 d1).1 (c1 d1).2 (c2 d2) (by omega)
    · exact evF d2 no
  · exact evF d1 no
end Go.Proofs.Ytjcpdbekdimceaa.Pure
