import Derived.Test.YtjcpdbekdimceaaQMergeRefE
import Derived.Test.YtjcpdbekdimceaaQMergeSpec
import Derived.Test.YtjcpdbekdimceaaM8
import Derived.Test.YtjcpdbekdimceaaM9
namespace Go.Proofs.Ytjcpdbekdimceaa.P
end Go.Proofs.Ytjcpdbekdimceaa.P
namespace Go.Proofs.Ytjcpdbekdimceaa.Q
end Go.Proofs.Ytjcpdbekdimceaa.Q
namespace Go.Proofs.Ytjcpdbekdimceaa.Q
open Go.RowKit Go.Proofs.Ytjcpdbekdimceaa.P Go.Proofs.YtjcpdbekdimceaaW.PrintWords Go.Proofs.YtjcpdbekdimceaaW.PrintLast Go.Proofs.YtjcpdbekdimceaaW.PrintMore
set_option linter.unusedVariables false
set_option linter.unusedSimpArgs false

/-! The reference's rows as one -/
theorem rrdL {L : List (List S39)} (i : Nat) : rd_L4 L (i : Int) = L.getD i [] := by unfold rd_L4; rw [Int.toNat_natCast]
theorem rrdE {l : List S39} (i : Nat) : rd_T39 l (i : Int) = l.getD i z39 := by unfold rd_T39; rw [Int.toNat_natCast]
theorem rins_done (L : List S39) (e : S39) (hl : L.length ≤ 1000000) (n : Nat) : ∀ (i : Nat) (acc : List S39), L.length - i = n → i ≤ L.length → acc.length ≤ i + 1 → (∀ y ∈ L.drop i, ¬ (ky y = ky e ∧ y.f1 = e.f1)) →
    Ev (fun k => ravelinref6_insert.l0 k L acc true (i : Int) e.f0 e.f1 e.f2 e.f3) (acc ++ L.drop i) := by
  induction n with
  | zero =>
    intro i acc h1 h2 h3 h4
    refine Ev.step (fun k => ravelinref6_insert.l0.eq_2 ..) (evF (by omega) (evT rfl (evEq (evSome _) ?_)))
    rw [List.drop_eq_nil_of_le (by omega), List.append_nil]
  | succ n ih =>
    intro i acc h1 h2 h3 h4
    have hd := drop_cons L z39 i (by omega)
    have hne := h4 _ (by rw [hd]; exact List.mem_cons_self)
    have go : Ev (fun k => ravelinref6_insert.j1 k L acc true (i : Int) false e.f0 e.f1 e.f2 e.f3) (acc ++ L.drop i) := by
      refine Ev.step (fun k => ravelinref6_insert.j1.eq_2 ..) (evF (by simp) (evT rfl (evT (by omega) (evT (by omega) (evT (by omega) ?_)))))
      rw [w64 (by omega), show (i : Int) + 1 = ((i + 1 : Nat) : Int) by omega, rrdE]
      refine evEq (ih (i + 1) (acc ++ [L.getD i z39]) (by omega) (by omega) (by rw [List.length_append, List.length_singleton]; omega) (fun y hy => h4 y (by rw [hd]; exact List.mem_cons_of_mem _ hy))) ?_
      rw [hd, List.append_assoc]; rfl
    refine Ev.step (fun k => ravelinref6_insert.l0.eq_2 ..) (evT (by omega) (evT (by omega) ?_))
    rw [rrdE, toL, toL]
    by_cases h : ky (L.getD i z39) = ky e
    · refine evT h ?_
      have h5 : ((L.getD i z39).f1 == e.f1) = false := beq_eq_false_iff_ne.2 (fun h6 => hne ⟨h, h6⟩)
      rw [h5]; exact go
    · exact evF h go
theorem rins_l0 (L : List S39) (e : S39) (hl : L.length ≤ 1000000) (hp : L.Pairwise (fun a b => lessE a b = true)) (n : Nat) : ∀ (i : Nat), L.length - i = n → i ≤ L.length →
    Ev (fun k => ravelinref6_insert.l0 k L (L.take i) false (i : Int) e.f0 e.f1 e.f2 e.f3) (L.take i ++ ins (L.drop i) e) := by
  induction n with
  | zero =>
    intro i h1 h2
    refine Ev.step (fun k => ravelinref6_insert.l0.eq_2 ..) (evF (by omega) (evF (by simp) (evT (by rw [List.length_take]; omega) (evEq (evSome _) ?_))))
    rw [List.drop_eq_nil_of_le (by omega)]; rfl
  | succ n ih =>
    intro i h1 h2
    have hd := drop_cons L z39 i (by omega)
    have hpd : (L.drop i).Pairwise (fun a b => lessE a b = true) := hp.drop
    rw [hd] at hpd
    have hpc := List.pairwise_cons.1 hpd
    have htl : (L.take i).length = i := by rw [List.length_take]; omega
    have go : ¬ (ky (L.getD i z39) = ky e ∧ (L.getD i z39).f1 = e.f1) → Ev (fun k => ravelinref6_insert.j1 k L (L.take i) false (i : Int) false e.f0 e.f1 e.f2 e.f3) (L.take i ++ ins (L.drop i) e) := by
      intro hne
      refine Ev.step (fun k => ravelinref6_insert.j1.eq_2 ..) (evF (by simp) (evF (by simp) (evT (by omega) (evT (by omega) (evConst (rless_ev _ _ _ _ _ _ _ _) ?_)))))
      rw [w64 (by omega), show (i : Int) + 1 = ((i + 1 : Nat) : Int) by omega, rrdE]
      rw [hd, ins]
      by_cases hlt : lessE e (L.getD i z39) = true
      · refine evT hlt (evT (by omega) (evConst rfl (evT (by rw [List.length_append, List.length_singleton]; omega) ?_)))
        rw [if_pos hlt]
        refine evEq (rins_done L e hl _ (i + 1) _ rfl (by omega) ?_ ?_) ?_
        · simp only [List.length_append, List.length_singleton]; omega
        · intro y hy hh
          exact less_ne (lessF_trans hlt (hpc.1 y hy)) ⟨hh.1.symm, hh.2.symm⟩
        · rw [List.append_assoc, List.append_assoc]; rfl
      · refine evF hlt (evT (by omega) ?_)
        rw [if_neg hlt, if_neg hne]
        refine evEq (Ev.congr (fun k => ?_) (ih (i + 1) (by omega) (by omega))) ?_
        · rw [List.take_add_one, List.getElem?_eq_getElem (by omega)]
          have : L.getD i z39 = L[i] := by rw [List.getD_eq_getElem?_getD, List.getElem?_eq_getElem (by omega)]; rfl
          rw [this]; rfl
        · rw [List.take_add_one, List.getElem?_eq_getElem (by omega), List.append_assoc]
          have : L.getD i z39 = L[i] := by rw [List.getD_eq_getElem?_getD, List.getElem?_eq_getElem (by omega)]; rfl
          rw [this]; rfl
    refine Ev.step (fun k => ravelinref6_insert.l0.eq_2 ..) (evT (by omega) (evT (by omega) ?_))
    rw [rrdE, toL, toL]
    by_cases h : ky (L.getD i z39) = ky e
    · refine evT h ?_
      by_cases h6 : (L.getD i z39).f1 = e.f1
      · have h5 : ((L.getD i z39).f1 == e.f1) = true := beq_iff_eq.2 h6
        rw [h5]
        refine Ev.step (fun k => ravelinref6_insert.j1.eq_2 ..) (evT rfl (evEq (evSome _) ?_))
        have hnl : ¬ lessE e (L.getD i z39) = true := fun h7 => less_ne h7 ⟨h.symm, h6.symm⟩
        rw [hd, ins, if_neg hnl, if_pos ⟨h, h6⟩, ← hd, List.take_append_drop]
      · have h5 : ((L.getD i z39).f1 == e.f1) = false := beq_eq_false_iff_ne.2 h6
        rw [h5]; exact go (fun hh => h6 hh.2)
    · exact evF h (go (fun hh => h hh.1))
theorem rins_ev (L : List S39) (e : S39) (hl : L.length ≤ 1000000) (hp : L.Pairwise (fun a b => lessE a b = true)) : Ev (fun k => ravelinref6_insert.f k L e.f0 e.f1 e.f2 e.f3) (ins L e) :=
  Ev.congr (fun k => ravelinref6_insert.f.eq_1 ..) (rins_l0 L e hl hp _ 0 rfl (Nat.zero_le _))
theorem insAll_snoc (l row : List S39) (e : S39) : insAll l (row ++ [e]) = ins (insAll l row) e := by simp [insAll, List.foldl_append]
theorem rrows_l1 (L : List (List S39)) (i : Nat) (hi : i < L.length) (hL : L.length ≤ 1000) (acc : List S39) (hp : acc.Pairwise (fun a b => lessE a b = true)) (hl : acc.length + (L.getD i []).length ≤ 1000000) (R : List S39 × Bool)
    (hend : Ev (fun k => ravelinref6_Rows.l0 k L (insAll acc (L.getD i [])) ((i + 1 : Nat) : Int)) R) (n : Nat) : ∀ j : Nat, (L.getD i []).length - j = n → j ≤ (L.getD i []).length → Ev (fun k => ravelinref6_Rows.l1 k L (insAll acc ((L.getD i []).take j)) (i : Int) (j : Int)) R := by
  induction n with
  | zero =>
    intro j h1 h2
    refine Ev.step (fun k => ravelinref6_Rows.l1.eq_2 ..) (evT (by omega) (evT (by omega) ?_))
    rw [rrdL, w64 (n := (i : Int) + 1) (by omega), show (i : Int) + 1 = ((i + 1 : Nat) : Int) by omega]
    refine evF (by omega) ?_
    rw [List.take_of_length_le (by omega)]
    exact hend
  | succ n ih =>
    intro j h1 h2
    refine Ev.step (fun k => ravelinref6_Rows.l1.eq_2 ..) (evT (by omega) (evT (by omega) ?_))
    rw [rrdL]
    have hlen := insAll_length ((L.getD i []).take j) acc
    rw [List.length_take] at hlen
    refine evT (by omega) (evT (by omega) (evBind (rins_ev _ (rd_T39 (L.getD i []) (j : Int)) (by omega) (insAll_pw _ hp)) ?_))
    rw [w64 (by omega), show (j : Int) + 1 = ((j + 1 : Nat) : Int) by omega]
    refine Ev.congr (fun k => ?_) (ih (j + 1) (by omega) (by omega))
    have hj : j < (L.getD i []).length := by omega
    rw [List.take_add_one, List.getElem?_eq_getElem hj, Option.toList_some, insAll_snoc, rrdE]
    have : (L.getD i []).getD j z39 = (L.getD i [])[j] := by rw [List.getD_eq_getElem?_getD, List.getElem?_eq_getElem hj]; rfl
    rw [this]
theorem mergeL_snoc (l : List S39) (rows : List (List S39)) (r : List S39) : mergeL l (rows ++ [r]) = insAll (mergeL l rows) r := by simp only [mergeL, List.foldl_append, List.foldl_cons, List.foldl_nil]
theorem flatten_take_le (L : List (List S39)) (i : Nat) (hi : i < L.length) : (L.take i).flatten.length + (L.getD i []).length ≤ L.flatten.length := by
  have h : L = L.take i ++ L.getD i [] :: L.drop (i + 1) := by
    conv => lhs; rw [← List.take_append_drop i L]
    rw [drop_cons L [] i hi]
  have h2 := congrArg (fun z : List (List S39) => z.flatten.length) h
  simp only [List.flatten_append, List.flatten_cons, List.length_append] at h2
  omega
theorem mergeL_length (rows : List (List S39)) : ∀ l : List S39, (mergeL l rows).length ≤ l.length + rows.flatten.length := by
  induction rows with
  | nil => intro l; exact Nat.le_add_right _ _
  | cons r t ih =>
    intro l
    have h3 : (mergeL l (r :: t)) = mergeL (insAll l r) t := rfl
    have h1 := ih (insAll l r)
    have h2 := insAll_length r l
    rw [h3, List.flatten_cons, List.length_append]
    omega
theorem rrows_l0 (L : List (List S39)) (hl : L.length ≤ 1000) (hr : ∀ r ∈ L, r.length ≤ 1000000) (hf : L.flatten.length ≤ 1000000) (n : Nat) :
    ∀ i : Nat, L.length - i = n → (L.take i).all sortedB = true → Ev (fun k => ravelinref6_Rows.l0 k L (mergeL [] (L.take i)) (i : Int)) (if L.all sortedB = true then (mergeL [] L, true) else ([], false)) := by
  induction n with
  | zero =>
    intro i h1 h2
    rw [List.take_of_length_le (by omega)] at h2 ⊢
    refine Ev.step (fun k => ravelinref6_Rows.l0.eq_2 ..) (evF (by omega) (evEq (evSome _) ?_))
    rw [if_pos h2]
  | succ n ih =>
    intro i h1 h2
    have hi : i < L.length := by omega
    have hmem : L.getD i [] ∈ L := by
      rw [List.getD_eq_getElem?_getD, List.getElem?_eq_getElem hi]; exact List.getElem_mem hi
    have hget : L.getD i [] = L[i] := by rw [List.getD_eq_getElem?_getD, List.getElem?_eq_getElem hi]; rfl
    refine Ev.step (fun k => ravelinref6_Rows.l0.eq_2 ..) (evT (by omega) (evT (by omega) ?_))
    rw [rrdL]
    refine evBind (rsorted_ev _ (by have := hr _ hmem; omega)) ?_
    by_cases hs : sortedB (L.getD i []) = true
    · refine evT hs ?_
      have hlen := mergeL_length (L.take i) []
      have hft := flatten_take_le L i hi
      simp only [List.length_nil] at hlen
      refine rrows_l1 L i hi hl _ (mergeL_pw _ List.Pairwise.nil) (by omega) _ ?_ _ 0 rfl (Nat.zero_le _)
      refine Ev.congr (fun k => ?_) (ih (i + 1) (by omega) ?_)
      · rw [List.take_add_one, List.getElem?_eq_getElem hi, hget, Option.toList_some, mergeL_snoc]
      · rw [List.take_add_one, List.all_append, h2, List.getElem?_eq_getElem hi]
        rw [hget] at hs
        simp [hs]
    · refine evEq (evF hs (evSome _)) ?_
      rw [if_neg (fun h => hs (List.all_eq_true.1 h _ hmem))]
theorem rrows_ev (L : List (List S39)) (hl : L.length ≤ 1000) (hr : ∀ r ∈ L, r.length ≤ 1000000) (hf : L.flatten.length ≤ 1000000) : Ev (fun k => ravelinref6_Rows.f k L) (if L.all sortedB = true then (mergeL [] L, true) else ([], false)) :=
  Ev.congr (fun k => ravelinref6_Rows.f.eq_1 ..) (rrows_l0 L hl hr hf _ 0 rfl rfl)
end Go.Proofs.Ytjcpdbekdimceaa.Q
