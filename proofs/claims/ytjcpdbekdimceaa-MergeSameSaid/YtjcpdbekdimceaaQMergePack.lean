import Derived.Test.YtjcpdbekdimceaaQMergeImpl
import Derived.Test.YtjcpdbekdimceaaM5
import Derived.Test.YtjcpdbekdimceaaM3
import Derived.Test.YtjcpdbekdimceaaM4
namespace Go.Proofs.Ytjcpdbekdimceaa.P
end Go.Proofs.Ytjcpdbekdimceaa.P
namespace Go.Proofs.Ytjcpdbekdimceaa.Q
end Go.Proofs.Ytjcpdbekdimceaa.Q
namespace Go.Proofs.Ytjcpdbekdimceaa.Q
open Go.RowKit Go.Proofs.Ytjcpdbekdimceaa.P Go.Proofs.YtjcpdbekdimceaaW.PrintWords Go.Proofs.YtjcpdbekdimceaaW.PrintLast Go.Proofs.YtjcpdbekdimceaaW.PrintMore
set_option linter.unusedVariables false
set_option linter.unusedSimpArgs false

/-! slices.ContainsFunc: is there one that is none -/
def isE (e : S39) : Bool := isF (ky e) e.f1 e.f2 (vl e)
theorem pack1_ev (e : S39) : merge_Pack_1.f e.f0 e.f1 e.f2 e.f3 = some (!isE e) := by
  unfold merge_Pack_1.f
  rw [is_ev]; rfl
theorem index_l0 (l : List S39) (hl : l.length ≤ 1000000) (n : Nat) : ∀ i : Nat, l.length - i = n → i ≤ l.length → ∃ r, Ev (fun k => api_Entry_36.l0 k l (i : Int)) r ∧ (decide (r ≥ 0) = !(l.drop i).all isE) := by
  induction n with
  | zero =>
    intro i h1 h2
    refine ⟨-1, Ev.step (fun k => api_Entry_36.l0.eq_2 ..) (evF (by omega) (evSome _)), ?_⟩
    rw [List.drop_eq_nil_of_le (by omega)]; rfl
  | succ n ih =>
    intro i h1 h2
    have hi : i < l.length := by omega
    have hd := drop_cons l z39 i hi
    cases hb : isE (l.getD i z39) with
    | true =>
      obtain ⟨r, hr, hd2⟩ := ih (i + 1) (by omega) (by omega)
      refine ⟨r, Ev.step (fun k => api_Entry_36.l0.eq_2 ..) (evT (by omega) (evT (by omega) ?_)), ?_⟩
      · rw [iE]
        refine evConst (pack1_ev _) (evF (by rw [hb]; simp) ?_)
        rw [wS (by omega)]; exact hr
      · rw [hd2, hd, List.all_cons, hb, Bool.true_and]
    | false =>
      refine ⟨(i : Int), Ev.step (fun k => api_Entry_36.l0.eq_2 ..) (evT (by omega) (evT (by omega) ?_)), ?_⟩
      · rw [iE]
        exact evConst (pack1_ev _) (evT (by rw [hb]; rfl) (evSome _))
      · rw [hd, List.all_cons, hb, Bool.false_and]; simp
theorem contains_ev (l : List S39) (hl : l.length ≤ 1000000) : Ev (fun k => api_Entry_28.f k l) (!l.all isE) := by
  obtain ⟨r, hr, h⟩ := index_l0 l hl _ 0 rfl (Nat.zero_le _)
  refine evEq (Ev.congr (fun k => api_Entry_28.f.eq_1 ..) (evBind (Ev.congr (fun k => api_Entry_36.f.eq_1 ..) hr) (evSome _))) ?_
  rw [h]; rfl
/-! One group: what is wanted, by places -/
def selF (f : Nat → Bool) : Nat → List S39 → List S39
  | _, [] => []
  | i, e :: t => (if f i = true then [e] else []) ++ selF f (i + 1) t
theorem selF_congr {f g : Nat → Bool} : ∀ (t : List S39) (i : Nat), (∀ j, i ≤ j → j < i + t.length → f j = g j) → selF f i t = selF g i t
  | [], _, _ => rfl
  | e :: t, i, h => by
    rw [selF, selF, h i (Nat.le_refl _) (by simp), selF_congr t (i + 1) (fun j h1 h2 => h j (by omega) (by rw [List.length_cons]; omega))]
theorem nidx_shift (q : Int) : ∀ (pre t : List S39) (d e : S39), (pre ++ d :: e :: t).Pairwise (fun a b => b.f1 < a.f1) → (nidx q (pre ++ d :: e :: t) = pre.length + 1 ↔ (e.f1 ≤ q ∧ q < d.f1))
  | [], t, d, e, _ => by
    simp only [List.nil_append, List.length_nil, Nat.zero_add, nidx]
    by_cases h1 : d.f1 ≤ q
    · rw [if_pos h1]; omega
    · rw [if_neg h1]
      by_cases h2 : e.f1 ≤ q
      · rw [if_pos h2]; omega
      · rw [if_neg h2]; omega
  | x :: pre, t, d, e, h => by
    have h1 := List.pairwise_cons.1 h
    have ih := nidx_shift q pre t d e h1.2
    simp only [List.cons_append, nidx, List.length_cons]
    have hx := h1.1 d (by simp)
    by_cases h2 : x.f1 ≤ q
    · rw [if_pos h2]; omega
    · rw [if_neg h2]; omega
theorem want_sel (hs : List Int) (g : List S39) (κ : List UInt8) (hk : ∀ x ∈ g, ky x = κ) (hp : g.Pairwise (fun a b => b.f1 < a.f1)) : ∀ (t pre : List S39) (d : S39), g = pre ++ d :: t → wantL (some d) t hs = selF (fun i => i == 0 || hs.any (fun h => nidx h g == i)) (pre.length + 1) t
  | [], _, _, _ => rfl
  | e :: t, pre, d, hg => by
    have ih := want_sel hs g κ hk hp t (pre ++ [d]) e (by rw [hg, List.append_assoc]; rfl)
    rw [wantL, selF, ih, List.length_append, List.length_singleton]
    have hw : wantP (some d) e hs = (pre.length + 1 == 0 || hs.any (fun h => nidx h g == pre.length + 1)) := by
      unfold wantP
      have hd : ky d = κ := hk d (by rw [hg]; simp)
      have he : ky e = κ := hk e (by rw [hg]; simp)
      simp only [hd, he, beq_self_eq_true, Bool.not_true, Bool.false_or]
      rw [show (pre.length + 1 == 0) = false from beq_eq_false_iff_ne.2 (by omega), Bool.false_or]
      congr 1
      funext h
      have := nidx_shift h pre t d e (by rw [← hg]; exact hp)
      rw [← hg] at this
      rw [Bool.eq_iff_iff, beq_iff_eq, this]
      simp
    rw [hw]
theorem want_group (hs : List Int) (g : List S39) (κ : List UInt8) (hk : ∀ x ∈ g, ky x = κ) (hp : g.Pairwise (fun a b => b.f1 < a.f1)) : wantL none g hs = selF (fun i => i == 0 || hs.any (fun h => nidx h g == i)) 0 g := by
  cases g with
  | nil => rfl
  | cons e t =>
    rw [wantL, selF, want_sel hs (e :: t) κ hk hp t [] e rfl]
    rfl
/-! merge.Pack -/
theorem strip_snoc (x : S39) : ∀ t : List S39, stripT (t ++ [x]) = if x.f2 = true then stripT t else t ++ [x]
  | [] => by simp [stripT]
  | e :: t => by
    rw [List.cons_append, stripT, strip_snoc x t]
    by_cases h : x.f2 = true
    · rw [if_pos h, if_pos h, stripT]
    · rw [if_neg h, if_neg h]
      cases t <;> rfl
theorem pack_l3 (hs : List Int) (acc : List S39) (L : List (List S39)) (i : Int) (R : List S39) (ha : acc.length ≤ 1000000) (n : Nat) : ∀ (t : List S39), t.length = n → t.length ≤ 1000000 →
    Ev (fun k => merge_Pack.l0 k hs true (acc ++ stripT t) L (L.length : Int) (wrap64 (i + 1))) R → Ev (fun k => merge_Pack.l3 k hs true (acc ++ t) (acc.length : Int) L (L.length : Int) i) R := by
  induction n with
  | zero =>
    intro t h1 h2 hend
    obtain rfl := List.eq_nil_of_length_eq_zero h1
    exact Ev.step (fun k => merge_Pack.l3.eq_2 ..) (evT rfl (evF (by rw [List.append_nil]; omega) hend))
  | succ n ih =>
    intro t h1 h2 hend
    obtain ⟨u, x, rfl⟩ : ∃ u x, t = u ++ [x] := ⟨t.dropLast, t.getLast (by rintro rfl; cases h1), (List.dropLast_concat_getLast _).symm⟩
    rw [List.length_append, List.length_singleton] at h1 h2
    rw [strip_snoc] at hend
    have hlen : ((acc ++ (u ++ [x])).length : Int) = ((acc.length + u.length + 1 : Nat) : Int) := by simp only [List.length_append, List.length_singleton]; omega
    have hw : wrap64 (((acc ++ (u ++ [x])).length : Int) - 1) = ((acc.length + u.length : Nat) : Int) := by rw [hlen, w64 (by omega)]; omega
    refine Ev.step (fun k => merge_Pack.l3.eq_2 ..) (evT rfl (evT (by rw [hlen]; omega) ?_))
    rw [hw, hlen]
    refine evT (by omega) (evT (by omega) ?_)
    have hx : rd_T39 (acc ++ (u ++ [x])) ((acc.length + u.length : Nat) : Int) = x := by
      rw [iE, ← List.append_assoc, List.getD_eq_getElem?_getD, List.getElem?_append_right (by simp), List.length_append, Nat.sub_self]; rfl
    rw [hx]
    by_cases h : x.f2 = true
    · rw [if_pos h] at hend
      refine evT h (evT (by omega) ?_)
      have ht : (acc ++ (u ++ [x])).take (((acc.length + u.length : Nat) : Int)).toNat = acc ++ u := by
        rw [Int.toNat_natCast, ← List.append_assoc, show acc.length + u.length = (acc ++ u).length from (List.length_append).symm, List.take_left]
      rw [ht]
      exact ih u (by omega) (by omega) hend
    · rw [if_neg h] at hend
      exact evF h hend
theorem pack_l3f (hs : List Int) (acc : List S39) (L : List (List S39)) (m i : Int) (R : List S39) (hend : Ev (fun k => merge_Pack.l0 k hs false acc L (L.length : Int) (wrap64 (i + 1))) R) : Ev (fun k => merge_Pack.l3 k hs false acc m L (L.length : Int) i) R :=
  Ev.step (fun k => merge_Pack.l3.eq_2 ..) (evF (by simp) hend)
theorem pack_l2 (hs : List Int) (b : Bool) (W : List Bool) (m : Int) (L : List (List S39)) (i : Int) (g : List S39) (hg : g.length ≤ 1000000) (hW : W.length = g.length + 1) (R : List S39) (n : Nat) : ∀ (j : Nat) (acc : List S39), g.length - j = n → j ≤ g.length → acc.length + (g.length - j) ≤ 2000000 →
    Ev (fun k => merge_Pack.l3 k hs b (acc ++ selF (fun i => W.getD i false) j (g.drop j)) m L (L.length : Int) i) R → Ev (fun k => merge_Pack.l2 k hs b acc W m L (L.length : Int) i g (g.length : Int) (j : Int)) R := by
  induction n with
  | zero =>
    intro j acc h1 h2 h3 hend
    rw [List.drop_eq_nil_of_le (by omega)] at hend
    refine Ev.step (fun k => merge_Pack.l2.eq_2 ..) (evF (by omega) ?_)
    rw [selF, List.append_nil] at hend
    exact hend
  | succ n ih =>
    intro j acc h1 h2 h3 hend
    have hj : j < g.length := by omega
    rw [drop_cons g z39 j hj, selF, ← List.append_assoc] at hend
    refine Ev.step (fun k => merge_Pack.l2.eq_2 ..) (evT (by omega) (evT (by omega) (evT (by omega) (evT (by omega) ?_))))
    rw [iE, wS (by omega)]
    have hr : rdOf false W (j : Int) = W.getD j false := by unfold rdOf; rw [Int.toNat_natCast]
    rw [hr]
    by_cases h : W.getD j false = true
    · rw [if_pos h] at hend
      refine evT h (evT (by omega) ?_)
      exact ih (j + 1) _ (by omega) (by omega) (by rw [List.length_append, List.length_singleton]; omega) hend
    · rw [if_neg h, List.append_nil] at hend
      exact evF h (ih (j + 1) acc (by omega) (by omega) (by omega) hend)
theorem setD (W : List Bool) (n i : Nat) (h : n < W.length) : (W.set n true).getD i false = (W.getD i false || (n == i)) := by
  rw [List.getD_eq_getElem?_getD, List.getElem?_set, List.getD_eq_getElem?_getD]
  by_cases h1 : n = i
  · subst h1
    rw [if_pos rfl, if_pos h, beq_self_eq_true, Bool.or_true]; rfl
  · rw [if_neg h1, beq_eq_false_iff_ne.2 h1, Bool.or_false]
theorem pack_l1 (hs : List Int) (hh : hs.length ≤ 1000000) (b : Bool) (acc : List S39) (L : List (List S39)) (i : Int) (g : List S39) (hg : g.length ≤ 1000000) (R : List S39) (n : Nat) : ∀ (j : Nat) (W : List Bool), hs.length - j = n → j ≤ hs.length → W.length = g.length + 1 →
    (∀ V : List Bool, V.length = g.length + 1 → (∀ q, V.getD q false = (W.getD q false || (hs.drop j).any (fun h => nidx h g == q))) → Ev (fun k => merge_Pack.l2 k hs b acc V (acc.length : Int) L (L.length : Int) i g (g.length : Int) 0) R) →
    Ev (fun k => merge_Pack.l1 k hs b acc g W L (L.length : Int) i hs (hs.length : Int) (j : Int)) R := by
  induction n with
  | zero =>
    intro j W h1 h2 hW hend
    exact Ev.step (fun k => merge_Pack.l1.eq_2 ..) (evF (by omega) (hend W hW (fun q => by rw [List.drop_eq_nil_of_le (by omega)]; simp)))
  | succ n ih =>
    intro j W h1 h2 hW hend
    have hj : j < hs.length := by omega
    refine Ev.step (fun k => merge_Pack.l1.eq_2 ..) (evT (by omega) (evT (by omega) (evT (by omega) ?_)))
    have hr : rd hs (j : Int) = hs.getD j 0 := by unfold rd; rw [Int.toNat_natCast]
    rw [hr, wS (by omega)]
    have hle := nidx_le (hs.getD j 0) g
    refine evBind (newest_evM g (hs.getD j 0) hg) (evT (by omega) (evT (by omega) ?_))
    rw [Int.toNat_natCast]
    refine ih (j + 1) _ (by omega) (by omega) (by rw [List.length_set]; exact hW) (fun V hV hq => hend V hV (fun q => ?_))
    rw [hq, setD W _ q (by omega), drop_cons hs 0 j hj, List.any_cons, Bool.or_assoc]
theorem pack_group (hs : List Int) (hh : hs.length ≤ 1000000) (b : Bool) (acc : List S39) (L : List (List S39)) (i : Int) (g : List S39) (κ : List UInt8) (hg : g.length ≤ 1000000) (ha : acc.length ≤ 1000000) (h0 : g ≠ []) (hk : ∀ x ∈ g, ky x = κ) (hp : g.Pairwise (fun a b => b.f1 < a.f1)) (hE : ∀ x ∈ g, x.f1 ≤ 1000000) (R : List S39)
    (hend : Ev (fun k => merge_Pack.l0 k hs b (acc ++ keptG hs b g) L (L.length : Int) (wrap64 (i + 1))) R) :
    Ev (fun k => merge_Pack.l1 k hs b acc g ((List.replicate (g.length + 1) false).set (nidx 1000000 g) true) L (L.length : Int) i hs (hs.length : Int) 0) R := by
  have hn : nidx 1000000 g = 0 := by
    cases g with
    | nil => exact absurd rfl h0
    | cons e t => rw [nidx, if_pos (hE e List.mem_cons_self)]
  rw [hn]
  refine pack_l1 hs hh b acc L i g hg R _ 0 _ rfl (Nat.zero_le _) (by simp) (fun V hV hq => ?_)
  have hsel : selF (fun i => V.getD i false) 0 g = wantL none g hs := by
    rw [want_group hs g κ hk hp]
    refine selF_congr g 0 (fun j _ _ => ?_)
    rw [hq, setD _ _ _ (by simp), List.drop_zero]
    have : (List.replicate (g.length + 1) false).getD j false = false := by
      rw [List.getD_eq_getElem?_getD, List.getElem?_replicate]; split <;> rfl
    rw [this, Bool.false_or]
    congr 1
    cases j <;> rfl
  refine pack_l2 hs b V _ L i g hg hV R _ 0 acc rfl (Nat.zero_le _) (by omega) ?_
  rw [List.drop_zero, hsel]
  unfold keptG at hend
  cases b with
  | false => exact pack_l3f hs _ L _ i R hend
  | true =>
    have hlen : (wantL none g hs).length ≤ 1000000 := by
      have : ∀ (t : List S39) (p : Option S39), (wantL p t hs).length ≤ t.length := by
        intro t
        induction t with
        | nil => intro p; exact Nat.le_refl _
        | cons e t ih => intro p; rw [wantL, List.length_append, List.length_cons]; have := ih (some e); split <;> simp <;> omega
      have := this g none; omega
    exact pack_l3 hs acc L i R ha _ _ rfl hlen hend
theorem want_length (hs : List Int) : ∀ (t : List S39) (p : Option S39), (wantL p t hs).length ≤ t.length
  | [], _ => Nat.le_refl _
  | e :: t, p => by rw [wantL, List.length_append, List.length_cons]; have := want_length hs t (some e); split <;> simp <;> omega
theorem stripT_length : ∀ l : List S39, (stripT l).length ≤ l.length
  | [] => Nat.le_refl _
  | e :: t => by
    have ih := stripT_length t
    unfold stripT
    cases h : stripT t with
    | nil => simp only; split <;> simp
    | cons x u => rw [h] at ih; simp only [List.length_cons] at ih ⊢; omega
theorem keptG_length (hs : List Int) (b : Bool) (g : List S39) : (keptG hs b g).length ≤ g.length := by
  unfold keptG
  have h1 := want_length hs g none
  have h2 := stripT_length (wantL none g hs)
  split <;> omega
theorem isG_length : ∀ {gs : List (List S39)} {l : List S39}, isG l gs → gs.flatten = l
  | [], l, h => by rw [show l = [] from h]; rfl
  | g :: gs, l, h => by
    obtain ⟨e, t, rest, rfl, rfl, hg, hr, hgs⟩ := h
    rw [List.flatten_cons, isG_length hgs]
theorem pack_l0 (hs : List Int) (hh : hs.length ≤ 1000000) (b : Bool) (L : List (List S39)) (hL : L.length ≤ 1000000) (hf : L.flatten.length ≤ 1000000)
    (hG : ∀ g ∈ L, g ≠ [] ∧ (∃ κ, ∀ x ∈ g, ky x = κ) ∧ g.Pairwise (fun a b => b.f1 < a.f1) ∧ ∀ x ∈ g, x.f1 ≤ 1000000) (n : Nat) : ∀ (i : Nat) (acc : List S39), L.length - i = n → i ≤ L.length → acc.length + (L.drop i).flatten.length ≤ 1000000 →
    Ev (fun k => merge_Pack.l0 k hs b acc L (L.length : Int) (i : Int)) (acc ++ (L.drop i).flatMap (keptG hs b)) := by
  induction n with
  | zero =>
    intro i acc h1 h2 h3
    refine Ev.step (fun k => merge_Pack.l0.eq_2 ..) (evF (by omega) (evEq (evSome _) ?_))
    rw [List.drop_eq_nil_of_le (by omega), List.flatMap_nil, List.append_nil]
  | succ n ih =>
    intro i acc h1 h2 h3
    have hi : i < L.length := by omega
    have hm : L.getD i [] ∈ L := by rw [List.getD_eq_getElem?_getD, List.getElem?_eq_getElem hi]; exact List.getElem_mem hi
    refine Ev.step (fun k => merge_Pack.l0.eq_2 ..) (evT (by omega) (evT (by omega) (evT (by omega) ?_)))
    rw [drop_cons L [] i hi, List.flatten_cons, List.length_append] at h3
    rw [iL, drop_cons L [] i hi, List.flatMap_cons, ← List.append_assoc]
    generalize hgg : L.getD i [] = g at hm h3 ⊢
    obtain ⟨h0, ⟨κ, hk⟩, hp, hE⟩ := hG g hm
    have hle := nidx_le 1000000 g
    rw [wS (by omega)]
    refine evT (by omega) (evT (by omega) ?_)
    rw [Int.toNat_natCast]
    refine evConst rfl (evBind (newest_evM g 1000000 (by omega)) (evT (by omega) (evT (by rw [List.length_replicate]; omega) ?_)))
    rw [Int.toNat_natCast]
    refine pack_group hs hh b acc L i g κ (by omega) (by omega) h0 hk hp hE _ ?_
    rw [wS (by omega)]
    have h4 := keptG_length hs b g
    exact ih (i + 1) _ (by omega) (by omega) (by rw [List.length_append]; omega)
def packS (l : List S39) (hs : List Int) (b : Bool) : List S39 := if sortedB l = true ∧ l.all isE = true then packL l hs b else []
theorem pack_ev (l : List S39) (hs : List Int) (b : Bool) (hl : l.length ≤ 1000000) (hh : hs.length ≤ 1000000) : Ev (fun k => merge_Pack.f k l hs b) (packS l hs b) := by
  refine Ev.congr (fun k => merge_Pack.f.eq_1 ..) (evBind (sorted_ev l (by omega)) ?_)
  unfold packS
  by_cases h1 : sortedB l = true
  · refine evT h1 (evBind (contains_ev l hl) ?_)
    cases h2 : l.all isE with
    | false => exact Ev.step (fun k => merge_Pack.j0.eq_2 ..) (evT rfl (evEq (evSome _) (by rw [if_neg (fun h => by cases h.2)])))
    | true =>
      rw [if_pos ⟨h1, rfl⟩]
      obtain ⟨gs, h3, h4, h5⟩ := groups_ev l hl
      refine Ev.step (fun k => merge_Pack.j0.eq_2 ..) (evF (by simp) (evBind h3 ?_))
      rw [pack_groups hs b gs l h4 (sorted_pw h1)]
      have hf := isG_length h4
      refine pack_l0 hs hh b gs (by omega) (by rw [hf]; exact hl) (fun g hg => ?_) _ 0 [] rfl (Nat.zero_le _) (by rw [List.drop_zero, hf]; simpa using hl)
      obtain ⟨⟨e, t, h6, h7⟩, h8⟩ := isG_mem h4 g hg
      refine ⟨by rw [h6]; simp, ⟨ky e, h7⟩, ?_, ?_⟩
      · have h9 := (sorted_pw h1).sublist h8
        refine List.Pairwise.imp_of_mem (fun {a c} ha hc hac => ?_) h9
        exact key_le hac ((h7 a ha).trans (h7 c hc).symm)
      · intro x hx
        have := List.all_eq_true.1 h2 x (h8.subset hx)
        exact (isF_iff.1 this).2.1
  · rw [if_neg (fun h => h1 h.1)]
    exact evF h1 (Ev.step (fun k => merge_Pack.j0.eq_2 ..) (evT rfl (evSome _)))
end Go.Proofs.Ytjcpdbekdimceaa.Q
