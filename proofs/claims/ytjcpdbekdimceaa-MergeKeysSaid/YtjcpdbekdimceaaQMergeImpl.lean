import Derived.Test.YtjcpdbekdimceaaQMergeEntry
import Derived.Test.YtjcpdbekdimceaaQMergeSee
import Derived.Test.YtjcpdbekdimceaaM3
import Derived.Test.YtjcpdbekdimceaaM5
import Derived.Test.YtjcpdbekdimceaaM4
namespace Go.Proofs.Ytjcpdbekdimceaa.P
end Go.Proofs.Ytjcpdbekdimceaa.P
namespace Go.Proofs.Ytjcpdbekdimceaa.Q
end Go.Proofs.Ytjcpdbekdimceaa.Q
namespace Go.Proofs.Ytjcpdbekdimceaa.Q
open Go.RowKit Go.Proofs.Ytjcpdbekdimceaa.P Go.Proofs.YtjcpdbekdimceaaW.PrintWords Go.Proofs.YtjcpdbekdimceaaW.PrintLast Go.Proofs.YtjcpdbekdimceaaW.PrintMore
set_option linter.unusedVariables false
set_option linter.unusedSimpArgs false

/-! merge.groups -/
theorem iL {L : List (List S39)} (i : Nat) : rd_L4 L (i : Int) = L.getD i [] := by unfold rd_L4; rw [Int.toNat_natCast]
theorem iE {l : List S39} (i : Nat) : rd_T39 l (i : Int) = l.getD i z39 := by unfold rd_T39; rw [Int.toNat_natCast]
theorem wS {i : Nat} (h : i ≤ 1000000000) : wrap64 ((i : Int) + 1) = ((i + 1 : Nat) : Int) := by rw [w64 (by omega)]; rfl
theorem span_ex (κ : List UInt8) : ∀ l : List S39, ∃ a b, l = a ++ b ∧ (∀ x ∈ a, ky x = κ) ∧ (∀ y u, b = y :: u → ky y ≠ κ)
  | [] => ⟨[], [], rfl, fun _ h => by simp at h, fun _ _ h => by cases h⟩
  | e :: t => by
    by_cases h : ky e = κ
    · obtain ⟨a, b, hl, ha, hb⟩ := span_ex κ t
      refine ⟨e :: a, b, by rw [hl]; rfl, fun x hx => ?_, hb⟩
      rcases List.mem_cons.1 hx with rfl | hx
      · exact h
      · exact ha x hx
    · exact ⟨[], e :: t, rfl, fun _ h => by simp at h, fun y u hy => by cases hy; exact h⟩
theorem groups_l1 (e : S39) (t rest : List S39) (out R : List (List S39)) (hl : (e :: t ++ rest).length ≤ 1000000) (ho : out.length ≤ 1000000) (hg : ∀ x ∈ e :: t, ky x = ky e) (hr : ∀ y u, rest = y :: u → ky y ≠ ky e)
    (hend : Ev (fun k => merge_groups.l0 k rest (out ++ [e :: t])) R) (n : Nat) : ∀ i : Nat, (e :: t).length - i = n → i ≤ (e :: t).length → Ev (fun k => merge_groups.l1 k (e :: t ++ rest) out (i : Int)) R := by
  have htake : (e :: t ++ rest).take (e :: t).length = e :: t := List.take_left
  have hdrop : (e :: t ++ rest).drop (e :: t).length = rest := List.drop_left
  induction n with
  | zero =>
    intro i h1 h2
    obtain rfl : i = (e :: t).length := by omega
    have fin : Ev (fun k => if (0 : Int) ≤ (((e :: t).length : Nat) : Int) then (if (((e :: t).length : Nat) : Int) ≤ ((e :: t ++ rest).length : Int) then (if out.length < 5864062014805 then merge_groups.l0 k ((e :: t ++ rest).drop (((e :: t).length : Nat) : Int).toNat) (out ++ [(e :: t ++ rest).take (((e :: t).length : Nat) : Int).toNat]) else none) else none) else none) R := by
      refine evT (by omega) (evT (by rw [List.length_append]; omega) (evT (by omega) ?_))
      rw [Int.toNat_natCast, htake, hdrop]
      exact hend
    cases rest with
    | nil =>
      refine Ev.step (fun k => merge_groups.l1.eq_2 ..) (evF (by rw [List.append_nil]; omega) ?_)
      exact fin
    | cons y u =>
      have hlt : (e :: t).length < (e :: t ++ y :: u).length := by simp only [List.length_append, List.length_cons]; omega
      refine Ev.step (fun k => merge_groups.l1.eq_2 ..) (evT (by omega) (evT (by omega) (evT (by omega) ?_)))
      have e1 : rd_T39 (e :: t ++ y :: u) (((e :: t).length : Nat) : Int) = y := by
        rw [iE, List.getD_eq_getElem?_getD, List.getElem?_append_right (Nat.le_refl _), Nat.sub_self]; rfl
      have e2 : rd_T39 (e :: t ++ y :: u) 0 = e := rfl
      rw [e1, e2, toL, toL]
      exact evF (hr y u rfl) fin
  | succ n ih =>
    intro i h1 h2
    have hi : i < (e :: t).length := by omega
    refine Ev.step (fun k => merge_groups.l1.eq_2 ..) (evT (by rw [List.length_append]; omega) (evT (by omega) (evT (by rw [List.length_append]; omega) ?_)))
    have e1 : rd_T39 (e :: t ++ rest) (i : Int) = (e :: t)[i] := by
      rw [iE, List.getD_eq_getElem?_getD, List.getElem?_append_left hi, List.getElem?_eq_getElem hi]; rfl
    have e2 : rd_T39 (e :: t ++ rest) 0 = e := rfl
    have hlen : (e :: t).length ≤ 1000000 := by rw [List.length_append] at hl; omega
    rw [e1, e2, toL, toL, wS (by omega)]
    exact evT (hg _ (List.getElem_mem hi)) (ih (i + 1) (by omega) (by omega))
theorem groups_l0 (m : Nat) : ∀ (l : List S39) (out : List (List S39)), l.length ≤ m → m ≤ 1000000 → out.length + l.length ≤ 1000000 → ∃ gs, Ev (fun k => merge_groups.l0 k l out) (out ++ gs) ∧ isG l gs ∧ gs.length ≤ l.length := by
  induction m with
  | zero =>
    intro l out h1 h2 h3
    obtain rfl : l = [] := List.eq_nil_of_length_eq_zero (by omega)
    exact ⟨[], by rw [List.append_nil]; exact Ev.step (fun k => merge_groups.l0.eq_2 ..) (evF (by simp) (evSome _)), rfl, Nat.le_refl _⟩
  | succ m ih =>
    intro l out h1 h2 h3
    cases l with
    | nil => exact ⟨[], by rw [List.append_nil]; exact Ev.step (fun k => merge_groups.l0.eq_2 ..) (evF (by simp) (evSome _)), rfl, Nat.le_refl _⟩
    | cons e s =>
      obtain ⟨t, rest, rfl, ha, hb⟩ := span_ex (ky e) s
      simp only [List.length_cons, List.length_append] at h1 h3
      obtain ⟨gs, hgs, hG, hn⟩ := ih rest (out ++ [e :: t]) (by omega) (by omega) (by simp only [List.length_append, List.length_cons, List.length_nil]; omega)
      have hall : ∀ x ∈ e :: t, ky x = ky e := by
        intro x hx
        rcases List.mem_cons.1 hx with rfl | hx
        · rfl
        · exact ha x hx
      refine ⟨(e :: t) :: gs, ?_, ⟨e, t, rest, rfl, rfl, hall, hb, hG⟩, ?_⟩
      · refine Ev.step (fun k => merge_groups.l0.eq_2 ..) (evT (by simp only [List.length_cons]; omega) ?_)
        refine evEq (groups_l1 e t rest out _ (by simp only [List.length_append, List.length_cons]; omega) (by omega) hall hb hgs _ 0 rfl (Nat.zero_le _)) ?_
        rw [List.append_assoc]; rfl
      · simp only [List.length_cons, List.length_append]; omega
theorem groups_ev (l : List S39) (hl : l.length ≤ 1000000) : ∃ gs, Ev (fun k => merge_groups.f k l) gs ∧ isG l gs ∧ gs.length ≤ l.length := by
  obtain ⟨gs, h1, h2, h3⟩ := groups_l0 l.length l [] (Nat.le_refl _) hl (by simpa using hl)
  exact ⟨gs, Ev.congr (fun k => merge_groups.f.eq_1 ..) h1, h2, h3⟩
theorem isG_mem : ∀ {gs : List (List S39)} {l : List S39}, isG l gs → ∀ g ∈ gs, (∃ e t, g = e :: t ∧ ∀ x ∈ g, ky x = ky e) ∧ g.Sublist l
  | [], _, _, _, h => by cases h
  | g0 :: gs, l, h, g, hg => by
    obtain ⟨e, t, rest, rfl, rfl, h1, _, h3⟩ := h
    rcases List.mem_cons.1 hg with rfl | hg
    · exact ⟨⟨e, t, rfl, h1⟩, List.sublist_append_left _ _⟩
    · have := isG_mem h3 g hg
      exact ⟨this.1, this.2.trans (List.sublist_append_right _ _)⟩
/-! merge.newest -/
def nidx (q : Int) : List S39 → Nat
  | [] => 0
  | e :: t => if e.f1 ≤ q then 0 else nidx q t + 1
theorem nidx_le (q : Int) : ∀ l : List S39, nidx q l ≤ l.length
  | [] => Nat.le_refl _
  | e :: t => by
    have := nidx_le q t
    unfold nidx
    split
    · exact Nat.zero_le _
    · simp only [List.length_cons]; omega
theorem newest_l0 (l : List S39) (q : Int) (hl : l.length ≤ 1000000) (n : Nat) : ∀ i : Nat, l.length - i = n → i ≤ l.length → Ev (fun k => merge_newest.l0 k l q l (l.length : Int) (i : Int)) ((i + nidx q (l.drop i) : Nat) : Int) := by
  induction n with
  | zero =>
    intro i h1 h2
    refine Ev.step (fun k => merge_newest.l0.eq_2 ..) (evF (by omega) (evEq (evSome _) ?_))
    rw [List.drop_eq_nil_of_le (by omega), nidx]
    omega
  | succ n ih =>
    intro i h1 h2
    refine Ev.step (fun k => merge_newest.l0.eq_2 ..) (evT (by omega) (evT (by omega) (evT (by omega) ?_)))
    rw [iE, wS (by omega), drop_cons l z39 i (by omega), nidx]
    by_cases h : (l.getD i z39).f1 ≤ q
    · refine evEq (evT h (evSome _)) ?_
      rw [if_pos h]; rfl
    · refine evEq (evF h (ih (i + 1) (by omega) (by omega))) ?_
      rw [if_neg h]; omega
theorem newest_evM (l : List S39) (q : Int) (hl : l.length ≤ 1000000) : Ev (fun k => merge_newest.f k l q) (nidx q l : Int) := by
  refine Ev.congr (fun k => merge_newest.f.eq_1 ..) (evEq (newest_l0 l q hl _ 0 rfl (Nat.zero_le _)) ?_)
  rw [Nat.zero_add]; rfl
theorem nv_at (q : Int) : ∀ l : List S39, nv q l = if nidx q l < l.length then (if (l.getD (nidx q l) z39).f2 = true then [] else [l.getD (nidx q l) z39]) else []
  | [] => rfl
  | e :: t => by
    have ih := nv_at q t
    rw [nv, nidx]
    by_cases h : e.f1 ≤ q
    · rw [if_pos h, if_pos h, if_pos (show 0 < (e :: t).length by simp)]; rfl
    · rw [if_neg h, if_neg h, ih]
      simp only [List.length_cons, Nat.add_lt_add_iff_right, List.getD_cons_succ]
/-! merge.Visible -/
theorem visible_l0 (gs : List (List S39)) (q : Int) (hg : gs.length ≤ 1000000) (hgl : ∀ g ∈ gs, g.length ≤ 1000000) (n : Nat) : ∀ (i : Nat) (acc : List S39), gs.length - i = n → i ≤ gs.length → acc.length ≤ i →
    Ev (fun k => merge_Visible.l0 k q acc gs (gs.length : Int) (i : Int)) (acc ++ (gs.drop i).flatMap (nv q)) := by
  induction n with
  | zero =>
    intro i acc h1 h2 h3
    refine Ev.step (fun k => merge_Visible.l0.eq_2 ..) (evF (by omega) (evEq (evSome _) ?_))
    rw [List.drop_eq_nil_of_le (by omega), List.flatMap_nil, List.append_nil]
  | succ n ih =>
    intro i acc h1 h2 h3
    have hi : i < gs.length := by omega
    have hm : gs.getD i [] ∈ gs := by rw [List.getD_eq_getElem?_getD, List.getElem?_eq_getElem hi]; exact List.getElem_mem hi
    refine Ev.step (fun k => merge_Visible.l0.eq_2 ..) (evT (by omega) (evT (by omega) (evT (by omega) ?_)))
    rw [iL, wS (by omega), drop_cons gs [] i hi, List.flatMap_cons, nv_at]
    generalize hgg : gs.getD i [] = g at hm ⊢
    have hgl' := hgl g hm
    refine evBind (newest_evM g q hgl') ?_
    have hle := nidx_le q g
    by_cases h4 : nidx q g < g.length
    · refine evT (by omega) (evT (by omega) ?_)
      rw [if_pos h4, iE]
      by_cases h5 : (g.getD (nidx q g) z39).f2 = true
      · rw [if_pos h5]
        exact evT h5 (ih (i + 1) acc (by omega) (by omega) (by omega))
      · rw [if_neg h5]
        refine evF h5 (evT (by omega) ?_)
        refine evEq (ih (i + 1) (acc ++ [g.getD (nidx q g) z39]) (by omega) (by omega) (by rw [List.length_append, List.length_singleton]; omega)) ?_
        rw [List.append_assoc]
    · rw [if_neg h4]
      exact evF (by omega) (ih (i + 1) acc (by omega) (by omega) (by omega))
def visS (l : List S39) (q : Int) : List S39 := if sortedB l = true then visL none l q else []
theorem visible_ev (l : List S39) (q : Int) (hl : l.length ≤ 1000000) : Ev (fun k => merge_Visible.f k l q) (visS l q) := by
  refine Ev.congr (fun k => merge_Visible.f.eq_1 ..) (evBind (sorted_ev l (by omega)) ?_)
  unfold visS
  by_cases hs : sortedB l = true
  · rw [if_pos hs]
    obtain ⟨gs, h1, h2, h3⟩ := groups_ev l hl
    refine evT hs (evBind h1 ?_)
    rw [vis_groups q gs l h2 (sorted_pw hs)]
    exact visible_l0 gs q (by omega) (fun g hg => by have := (isG_mem h2 g hg).2.length_le; omega) _ 0 [] rfl (Nat.zero_le _) (Nat.le_refl _)
  · rw [if_neg hs]
    exact evF hs (evSome _)
end Go.Proofs.Ytjcpdbekdimceaa.Q
