/- The statement's part that speaks of no program: what is packed is seen as before by all that hold it, and by the newest; it has nothing that wasn't there. -/
import Derived.Test.YtjcpdbekdimceaaQKnown11
import Derived.Test.YtjcpdbekdimceaaQMergePack
import Derived.Test.YtjcpdbekdimceaaQMergeRefE
import Derived.Test.YtjcpdbekdimceaaPx15
namespace Go.Proofs.Ytjcpdbekdimceaa.P
end Go.Proofs.Ytjcpdbekdimceaa.P
namespace Go.Proofs.Ytjcpdbekdimceaa.Q
end Go.Proofs.Ytjcpdbekdimceaa.Q
namespace Go.Proofs.Ytjcpdbekdimceaa.Pure
open Go.RowKit Go.Proofs.Ytjcpdbekdimceaa.P Go.Proofs.YtjcpdbekdimceaaW.PrintWords Go.Proofs.YtjcpdbekdimceaaW.PrintLast Go.Proofs.YtjcpdbekdimceaaW.PrintMore Go.Proofs.Ytjcpdbekdimceaa.Q
set_option linter.unusedVariables false
set_option linter.unusedSimpArgs false
theorem want_sub (hs : List Int) : ∀ (t : List S39) (p : Option S39), (wantL p t hs).Sublist t
  | [], _ => List.Sublist.refl _
  | e :: t, p => by
    have ih := want_sub hs t (some e)
    rw [wantL]
    split
    · exact ih.cons_cons e
    · exact ih.cons e
theorem stripR_sub : ∀ l : List S39, (stripR l).Sublist l
  | [] => List.Sublist.refl _
  | e :: t => by
    have ih := stripR_sub t
    unfold stripR
    cases h : stripR t with
    | nil =>
      simp only
      split
      · exact List.nil_sublist _
      · exact (List.nil_sublist t).cons_cons e
    | cons x u =>
      rw [h] at ih
      simp only
      split
      · exact ih.cons e
      · exact ih.cons_cons e
theorem stripT_sub : ∀ l : List S39, (stripT l).Sublist l
  | [] => List.Sublist.refl _
  | e :: t => by
    have ih := stripT_sub t
    unfold stripT
    cases h : stripT t with
    | nil =>
      simp only
      split
      · exact List.nil_sublist _
      · exact (List.nil_sublist t).cons_cons e
    | cons x u =>
      rw [h] at ih
      exact ih.cons_cons e
theorem keptG_sub (hs : List Int) (b : Bool) (g : List S39) : (keptG hs b g).Sublist g := by
  unfold keptG
  split
  · exact (stripT_sub _).trans (want_sub hs g none)
  · exact want_sub hs g none
theorem packL_sub (l : List S39) (hs : List Int) (b : Bool) : (packL l hs b).Sublist l := by
  unfold packL
  split
  · exact (stripR_sub _).trans (want_sub hs l none)
  · exact want_sub hs l none
theorem nv_strip (q : Int) : ∀ g : List S39, nv q (stripT g) = nv q g
  | [] => rfl
  | e :: t => by
    have ih := nv_strip q t
    unfold stripT
    cases h : stripT t with
    | nil =>
      rw [h] at ih
      simp only
      by_cases hd : e.f2 = true
      · rw [if_pos hd, nv, nv, if_pos hd]
        split
        · rfl
        · exact ih
      · rw [if_neg hd, nv, nv, nv]
        split
        · rfl
        · exact ih
    | cons x u =>
      rw [h] at ih
      simp only
      rw [nv, ih]
      rfl
theorem nv_want (q : Int) (hs : List Int) (hq : q ∈ hs) : ∀ (g : List S39) (p : Option S39), (∀ d, p = some d → q < d.f1) → nv q (wantL p g hs) = nv q g
  | [], _, _ => rfl
  | e :: t, p, hp => by
    rw [wantL]
    by_cases h : e.f1 ≤ q
    · have hw : wantP p e hs = true := by
        unfold wantP
        cases p with
        | none => rfl
        | some d =>
          simp only [Bool.or_eq_true, List.any_eq_true]
          exact .inr ⟨q, hq, by simp [h, hp d rfl]⟩
      rw [hw, if_pos rfl, List.singleton_append, nv, nv, if_pos h, if_pos h]
    · have ih := nv_want q hs hq t (some e) (fun d hd => by cases hd; omega)
      have e2 : nv q (e :: t) = nv q t := by rw [nv, if_neg h]
      rw [e2, ← ih]
      split
      · rw [List.singleton_append, nv, if_neg h]
      · rfl
theorem nv_kept (q : Int) (hs : List Int) (b : Bool) (g : List S39) (h : q ∈ hs ∨ ∀ x ∈ g, x.f1 ≤ q) : nv q (keptG hs b g) = nv q g := by
  have hw : nv q (wantL none g hs) = nv q g := by
    rcases h with h | h
    · exact nv_want q hs h g none (fun d hd => by cases hd)
    · cases g with
      | nil => rfl
      | cons e t =>
        rw [wantL, show wantP none e hs = true from rfl, if_pos rfl, List.singleton_append, nv, nv, if_pos (h e List.mem_cons_self), if_pos (h e List.mem_cons_self)]
  unfold keptG
  split
  · rw [nv_strip, hw]
  · exact hw
theorem kept_groups (q : Int) (hs : List Int) (b : Bool) : ∀ (gs : List (List S39)) (l : List S39), isG l gs → l.Pairwise (fun a b => lessE a b = true) → (q ∈ hs ∨ ∀ x ∈ l, x.f1 ≤ q) → ∃ gs', isG (gs.flatMap (keptG hs b)) gs' ∧ gs'.flatMap (nv q) = gs.flatMap (nv q)
  | [], l, h, _, _ => ⟨[], rfl, rfl⟩
  | g :: gs, l, h, hp, hq => by
    obtain ⟨e, t, rest, rfl, rfl, hg, hr, hgs⟩ := h
    have hp2 := List.pairwise_append.1 hp
    obtain ⟨gs', h1, h2⟩ := kept_groups q hs b gs rest hgs hp2.2.1 (hq.imp_right (fun h x hx => h x (List.mem_append.2 (.inr hx))))
    have hk := nv_kept q hs b (e :: t) (hq.imp_right (fun h x hx => h x (List.mem_append.2 (.inl hx))))
    have hs' := keptG_sub hs b (e :: t)
    cases hkg : keptG hs b (e :: t) with
    | nil =>
      rw [hkg] at hk
      refine ⟨gs', by rw [List.flatMap_cons, hkg]; exact h1, ?_⟩
      rw [List.flatMap_cons, ← hk, h2]
      rfl
    | cons x u =>
      rw [hkg] at hk hs'
      have hx := hg x (hs'.subset List.mem_cons_self)
      refine ⟨(x :: u) :: gs', ⟨x, u, gs.flatMap (keptG hs b), rfl, by rw [List.flatMap_cons, hkg], fun y hy => (hg y (hs'.subset hy)).trans hx.symm, fun y v hy => ?_, h1⟩, ?_⟩
      · rw [hx]
        have hym : y ∈ gs.flatMap (keptG hs b) := by rw [hy]; exact List.mem_cons_self
        obtain ⟨g', hg', hyg⟩ := List.mem_flatMap.1 hym
        exact rest_ne hp hr y ((isG_mem hgs g' hg').2.subset ((keptG_sub hs b g').subset hyg))
      · rw [List.flatMap_cons, List.flatMap_cons, hk, h2]
theorem see_pack (q : Int) (hs : List Int) (b : Bool) (l : List S39) (hl : l.length ≤ 1000000) (hs1 : sortedB l = true) (hE : l.all isE = true) (hq : q ∈ hs ∨ q = 1000000) : visS (packS l hs b) q = visS l q := by
  have hp := sorted_pw hs1
  have hpp : (packL l hs b).Pairwise (fun a b => lessE a b = true) := hp.sublist (packL_sub l hs b)
  have hpe : packS l hs b = packL l hs b := by unfold packS; rw [if_pos ⟨hs1, hE⟩]
  rw [hpe]
  unfold visS
  rw [if_pos hs1, if_pos (pw_sorted hpp)]
  obtain ⟨gs, _, h4, _⟩ := groups_ev l hl
  obtain ⟨gs', h5, h6⟩ := kept_groups q hs b gs l h4 hp (hq.imp_right (fun h x hx => by have := (isF_iff.1 (List.all_eq_true.1 hE x hx)).2.1; omega))
  have e1 := pack_groups hs b gs l h4 hp
  rw [← e1] at h5
  rw [vis_groups q gs' _ h5 hpp, vis_groups q gs l h4 hp, h6]
/-! What was there -/
theorem rnew_l0 (l : List S39) (hl : l.length ≤ 1000000) (hs : sortedB l = true) (m : Nat) (hm : m < l.length) (n : Nat) : ∀ i : Nat, m - i = n → i ≤ m → Ev (fun k => ravelinref6_Newest.l0 k l (l.getD m z39).f0 (l.getD m z39).f1 (i : Int)) ((l.getD m z39).f0, (l.getD m z39).f1, (l.getD m z39).f2, (l.getD m z39).f3, true) := by
  have hsr := rsorted_ev l (by omega)
  rw [hs] at hsr
  induction n with
  | zero =>
    intro i h1 h2
    obtain rfl : i = m := by omega
    refine Ev.step (fun k => ravelinref6_Newest.l0.eq_2 ..) (evT (by omega) (evBind hsr (Ev.step (fun k => ravelinref6_Newest.j1.eq_2 ..) (evT rfl (evT (by omega) (evT (by omega) ?_))))))
    rw [iE]
    exact evT rfl (evT (Int.le_refl _) (evSome _))
  | succ n ih =>
    intro i h1 h2
    have hlt := sorted_lt hs (show i < m by omega) hm
    refine Ev.step (fun k => ravelinref6_Newest.l0.eq_2 ..) (evT (by omega) (evBind hsr (Ev.step (fun k => ravelinref6_Newest.j1.eq_2 ..) (evT rfl (evT (by omega) (evT (by omega) ?_))))))
    rw [iE, wS (by omega), toL, toL]
    have ih' := ih (i + 1) (by omega) (by omega)
    by_cases h : (l.getD i z39).f0.data.toList = (l.getD m z39).f0.data.toList
    · have := key_le hlt h
      exact evT h (evF (by omega) ih')
    · exact evF h ih'
theorem rnew_ev (l : List S39) (hl : l.length ≤ 1000000) (hs : sortedB l = true) (x : S39) (hx : x ∈ l) : Ev (fun k => ravelinref6_Newest.f k l x.f0 x.f1) (x.f0, x.f1, x.f2, x.f3, true) := by
  obtain ⟨m, hm, rfl⟩ := List.getElem_of_mem hx
  have h := rnew_l0 l hl hs m hm _ 0 rfl (Nat.zero_le _)
  rw [List.getD_eq_getElem?_getD, List.getElem?_eq_getElem hm] at h
  exact Ev.congr (fun k => ravelinref6_Newest.f.eq_1 ..) h
/-! The law -/
theorem same_l2 (l p : List S39) (hl : l.length ≤ 1000000) (hpl : p.length ≤ 1000000) (hs : sortedB l = true) (hp : ∀ x ∈ p, x ∈ l) (n : Nat) : ∀ i : Nat, p.length - i = n → Ev (fun k => ravelinlaw11_MergeSame.l2 k l p (i : Int)) true := by
  induction n with
  | zero => intro i h1; exact Ev.step (fun k => ravelinlaw11_MergeSame.l2.eq_2 ..) (evF (by omega) (evSome _))
  | succ n ih =>
    intro i h1
    have hi : i < p.length := by omega
    have hm : p.getD i z39 ∈ p := by rw [List.getD_eq_getElem?_getD, List.getElem?_eq_getElem hi]; exact List.getElem_mem hi
    refine Ev.step (fun k => ravelinlaw11_MergeSame.l2.eq_2 ..) (evT (by omega) (evT (by omega) ?_))
    rw [iE, wS (by omega)]
    refine evBind (rnew_ev l hl hs _ (hp _ hm)) (evT rfl (evF (by simp) (ih (i + 1) (by omega))))
theorem vis_length (q : Int) : ∀ (t : List S39) (p : Option S39), (visL p t q).length ≤ t.length
  | [], _ => Nat.le_refl _
  | e :: t, p => by rw [visL, List.length_append, List.length_cons]; have := vis_length q t (some e); split <;> simp <;> omega
theorem visS_length (l : List S39) (q : Int) : (visS l q).length ≤ l.length := by
  unfold visS; split
  · exact vis_length q l none
  · simp
theorem same_l1 (l : List S39) (hs : List Int) (b : Bool) (hl : l.length ≤ 1000000) (hh : hs.length ≤ 1000000) (hs1 : sortedB l = true) (hE : l.all isE = true) (n : Nat) : ∀ j : Nat, hs.length - j = n → Ev (fun k => ravelinlaw11_MergeSame.l1 k l hs (packS l hs b) (j : Int)) true := by
  have hpe : packS l hs b = packL l hs b := by unfold packS; rw [if_pos ⟨hs1, hE⟩]
  have hsub := packL_sub l hs b
  rw [← hpe] at hsub
  have hpl := hsub.length_le
  induction n with
  | zero => intro j h1; exact Ev.step (fun k => ravelinlaw11_MergeSame.l1.eq_2 ..) (evF (by omega) (same_l2 l _ hl (by omega) hs1 (fun x hx => hsub.subset hx) _ 0 rfl))
  | succ n ih =>
    intro j h1
    have hj : j < hs.length := by omega
    have hm : hs.getD j 0 ∈ hs := by rw [List.getD_eq_getElem?_getD, List.getElem?_eq_getElem hj]; exact List.getElem_mem hj
    have hr : rd hs (j : Int) = hs.getD j 0 := by unfold rd; rw [Int.toNat_natCast]
    refine Ev.step (fun k => ravelinlaw11_MergeSame.l1.eq_2 ..) (evT (by omega) (evT (by omega) ?_))
    rw [hr, wS (by omega)]
    have v1 := visible_ev (packS l hs b) (hs.getD j 0) (by omega)
    have v2 := visible_ev l (hs.getD j 0) hl
    rw [see_pack _ hs b l hl hs1 hE (.inl hm)] at v1
    have := visS_length l (hs.getD j 0)
    exact evBind v1 (evBind v2 (evBind (same_ev _ (by omega)) (evT rfl (ih (j + 1) (by omega)))))
theorem same_l0 (l : List S39) (hs : List Int) (b : Bool) (hl : l.length ≤ 1000000) (hh : hs.length ≤ 1000000) (hs1 : sortedB l = true) (n : Nat) : ∀ i : Nat, l.length - i = n → i ≤ l.length → (∀ x ∈ l.take i, isE x = true) → Ev (fun k => ravelinlaw11_MergeSame.l0 k l hs b (i : Int)) true := by
  induction n with
  | zero =>
    intro i h1 h2 h3
    rw [List.take_of_length_le (by omega)] at h3
    have hE : l.all isE = true := List.all_eq_true.2 h3
    have hpe : packS l hs b = packL l hs b := by unfold packS; rw [if_pos ⟨hs1, hE⟩]
    have hsub := packL_sub l hs b
    rw [← hpe] at hsub
    have hpl := hsub.length_le
    have hp2 : sortedB (packS l hs b) = true := pw_sorted ((sorted_pw hs1).sublist hsub)
    have v1 := visible_ev (packS l hs b) 1000000 (by omega)
    have v2 := visible_ev l 1000000 hl
    rw [see_pack _ hs b l hl hs1 hE (.inr rfl)] at v1
    have := visS_length l 1000000
    have X : Ev (fun k => ravelinlaw11_MergeSame.j2 k l hs (packS l hs b) (!true)) true := Ev.step (fun k => ravelinlaw11_MergeSame.j2.eq_2 ..) (evF (by simp) (same_l1 l hs b hl hh hs1 hE _ 0 rfl))
    refine Ev.step (fun k => ravelinlaw11_MergeSame.l0.eq_2 ..) (evF (by omega) (evBind (pack_ev l hs b hl hh) (evBind (rsorted_ev _ (by omega)) (evT hp2 (evF (by omega) ?_)))))
    exact evBind v1 (evBind v2 (evBind (same_ev _ (by omega)) X))
  | succ n ih =>
    intro i h1 h2 h3
    have hi : i < l.length := by omega
    refine Ev.step (fun k => ravelinlaw11_MergeSame.l0.eq_2 ..) (evT (by omega) (evT (by omega) ?_))
    rw [iE, wS (by omega)]
    refine evConst (show ravelinref6_Is.f _ _ _ _ = some (isE (l.getD i z39)) from ris_ev _ _ _ _) ?_
    cases hb : isE (l.getD i z39) with
    | true =>
      refine evT rfl (ih (i + 1) (by omega) (by omega) (fun x hx => ?_))
      have ht : l.take (i + 1) = l.take i ++ [l.getD i z39] := by
        rw [List.take_add_one, List.getElem?_eq_getElem hi, List.getD_eq_getElem?_getD, List.getElem?_eq_getElem hi]; rfl
      rw [ht] at hx
      rcases List.mem_append.1 hx with hx | hx
      · exact h3 x hx
      · rw [List.mem_singleton.1 hx]; exact hb
    | false => exact evF (by simp) (evSome _)
theorem MergeSame : ravelinlaw11_MergeSame.Pure := by
  intro l hs b hl _ _ _
  have no : Ev (fun k => ravelinlaw11_MergeSame.j0 k l hs b true) true := Ev.step (fun k => ravelinlaw11_MergeSame.j0.eq_2 ..) (evT rfl (evSome _))
  obtain ⟨b2, h2, c2⟩ := few11_ev l hl
  refine Ev.rounds (Ev.congr (fun k => ravelinlaw11_MergeSame.f.eq_1 ..) (evBind known11 (evT rfl (evBind h2 ?_))))
  by_cases d2 : b2 = true
  · refine evT d2 ?_
    have hl2 := c2 d2
    by_cases d3 : (hs.length : Int) > 10
    · exact evT d3 no
    · refine evF d3 (evBind (rsorted_ev l (by omega)) ?_)
      cases hs1 : sortedB l with
      | false => exact no
      | true => exact Ev.step (fun k => ravelinlaw11_MergeSame.j0.eq_2 ..) (evF (by simp) (same_l0 l hs b (by omega) (by omega) hs1 _ 0 rfl (Nat.zero_le _) (fun x hx => by simp at hx)))
  · exact evF d2 no
end Go.Proofs.Ytjcpdbekdimceaa.Pure
