import Derived.Test.YtjcpdbekdimceaaQMergePack
import Derived.Test.YtjcpdbekdimceaaQMergeRefE
import Derived.Test.YtjcpdbekdimceaaM10
import Derived.Test.YtjcpdbekdimceaaM11
namespace Go.Proofs.Ytjcpdbekdimceaa.P
end Go.Proofs.Ytjcpdbekdimceaa.P
namespace Go.Proofs.Ytjcpdbekdimceaa.Q
end Go.Proofs.Ytjcpdbekdimceaa.Q
namespace Go.Proofs.Ytjcpdbekdimceaa.Q
open Go.RowKit Go.Proofs.Ytjcpdbekdimceaa.P Go.Proofs.YtjcpdbekdimceaaW.PrintWords Go.Proofs.YtjcpdbekdimceaaW.PrintLast Go.Proofs.YtjcpdbekdimceaaW.PrintMore
set_option linter.unusedVariables false
set_option linter.unusedSimpArgs false

/-! What the reference sees and keeps -/
def prevE (l : List S39) : Nat → Option S39
  | 0 => none
  | i + 1 => some (l.getD i z39)
theorem rvis_l0 (l : List S39) (q : Int) (hl : l.length ≤ 1000000) (hs : sortedB l = true) (n : Nat) : ∀ (i : Nat) (acc : List S39), l.length - i = n → i ≤ l.length → acc.length ≤ i →
    Ev (fun k => ravelinref6_Visible.l0 k l q acc (i : Int)) (acc ++ visL (prevE l i) (l.drop i) q) := by
  induction n with
  | zero =>
    intro i acc h1 h2 h3
    refine Ev.step (fun k => ravelinref6_Visible.l0.eq_2 ..) (evF (by omega) (Ev.step (fun k => ravelinref6_Visible.j1.eq_2 ..) (evF (by simp) (evEq (evSome _) ?_))))
    rw [List.drop_eq_nil_of_le (by omega)]; simp [visL]
  | succ n ih =>
    intro i acc h1 h2 h3
    have hi : i < l.length := by omega
    have hsr := rsorted_ev l (by omega)
    rw [hs] at hsr
    refine Ev.step (fun k => ravelinref6_Visible.l0.eq_2 ..) (evT (by omega) (evBind hsr (Ev.step (fun k => ravelinref6_Visible.j1.eq_2 ..) (evT rfl (evT (by omega) (evT (by omega) ?_))))))
    rw [iE, wS (by omega), drop_cons l z39 i hi, visL]
    generalize he : l.getD i z39 = e
    have no : seen (prevE l i) e q = false → Ev (fun k => ravelinref6_Visible.l0 k l q acc ((i + 1 : Nat) : Int)) (acc ++ ((if seen (prevE l i) e q = true then [e] else []) ++ visL (some e) (l.drop (i + 1)) q)) := by
      intro h
      rw [h, if_neg (by simp), List.nil_append]
      have := ih (i + 1) acc (by omega) (by omega) (by omega)
      rw [show prevE l (i + 1) = some e from congrArg some he] at this
      exact this
    have yes : seen (prevE l i) e q = true → Ev (fun k => ravelinref6_Visible.l0 k l q (acc ++ [e]) ((i + 1 : Nat) : Int)) (acc ++ ((if seen (prevE l i) e q = true then [e] else []) ++ visL (some e) (l.drop (i + 1)) q)) := by
      intro h
      rw [h, if_pos rfl, ← List.append_assoc]
      have := ih (i + 1) (acc ++ [e]) (by omega) (by omega) (by rw [List.length_append, List.length_singleton]; omega)
      rw [show prevE l (i + 1) = some e from congrArg some he] at this
      exact this
    by_cases h4 : e.f1 ≤ q
    · refine evT h4 ?_
      cases i with
      | zero =>
        refine evT rfl ?_
        by_cases h5 : e.f2 = true
        · exact evT h5 (no (by simp [seen, h5]))
        · exact evF h5 (evT (by omega) (yes (by simp [seen, h5, prevE, h4])))
      | succ i =>
        refine evF (by omega) ?_
        have hw : wrap64 (((i + 1 : Nat) : Int) - 1) = (i : Int) := by rw [w64 (by omega)]; omega
        rw [hw, iE]
        refine evT (by omega) (evT (by omega) ?_)
        rw [toL, toL]
        have hp : prevE l (i + 1) = some (l.getD i z39) := rfl
        rw [hp] at no yes ⊢
        generalize l.getD i z39 = d at no yes ⊢
        by_cases h6 : d.f0.data.toList = e.f0.data.toList
        · have hk : (ky d == ky e) = true := beq_iff_eq.2 h6
          refine evT h6 ?_
          by_cases h7 : d.f1 > q
          · refine evT h7 ?_
            by_cases h5 : e.f2 = true
            · exact evT h5 (no (by simp [seen, h5]))
            · exact evF h5 (evT (by omega) (yes (by simp [seen, h5, h4]; exact .inr h7)))
          · exact evF h7 (no (by simp only [seen, hk]; simp [h4]; intro h; omega))
        · have hk : (ky d == ky e) = false := beq_eq_false_iff_ne.2 h6
          refine evF h6 ?_
          by_cases h5 : e.f2 = true
          · exact evT h5 (no (by simp [seen, h5]))
          · exact evF h5 (evT (by omega) (yes (by simp only [seen, hk]; simp [h5, h4])))
    · exact evF h4 (no (by simp [seen, h4]))
theorem rvis_ev (l : List S39) (q : Int) (hl : l.length ≤ 1000000) : Ev (fun k => ravelinref6_Visible.f k l q) (visS l q) := by
  refine Ev.congr (fun k => ravelinref6_Visible.f.eq_1 ..) ?_
  unfold visS
  by_cases hs : sortedB l = true
  · rw [if_pos hs]
    exact rvis_l0 l q hl hs _ 0 [] rfl (Nat.zero_le _) (Nat.le_refl _)
  · rw [if_neg hs]
    have hsr := rsorted_ev l (by omega)
    by_cases h0 : (0 : Int) < (l.length : Int)
    · exact Ev.step (fun k => ravelinref6_Visible.l0.eq_2 ..) (evT h0 (evBind hsr (Ev.step (fun k => ravelinref6_Visible.j1.eq_2 ..) (evF hs (evSome _)))))
    · exact Ev.step (fun k => ravelinref6_Visible.l0.eq_2 ..) (evF h0 (Ev.step (fun k => ravelinref6_Visible.j1.eq_2 ..) (evF (by simp) (evSome _))))
theorem rpack_l3 (n : Nat) : ∀ (pre suf : List S39), pre.length = n → pre.length + suf.length ≤ 1000000 → (stripR suf).length ≤ suf.length → Ev (fun k => ravelinref6_Pack.l3 k true (pre ++ stripR suf) ((pre.length : Int) - 1)) (stripR (pre ++ suf)) := by
  induction n with
  | zero =>
    intro pre suf h1 h2 h3
    obtain rfl := List.eq_nil_of_length_eq_zero h1
    exact Ev.step (fun k => ravelinref6_Pack.l3.eq_2 ..) (evF (by simp) (Ev.step (fun k => ravelinref6_Pack.j7.eq_2 ..) (evF (by simp) (evSome _))))
  | succ n ih =>
    intro pre suf h1 h2 h3
    obtain ⟨u, x, rfl⟩ : ∃ u x, pre = u ++ [x] := ⟨pre.dropLast, pre.getLast (by rintro rfl; cases h1), (List.dropLast_concat_getLast _).symm⟩
    rw [List.length_append, List.length_singleton] at h1 h2
    have hp : (((u ++ [x]).length : Int) - 1) = (u.length : Int) := by rw [List.length_append, List.length_singleton]; omega
    rw [hp]
    have hx : rd_T39 (u ++ [x] ++ stripR suf) (u.length : Int) = x := by
      rw [iE, List.append_assoc, List.getD_eq_getElem?_getD, List.getElem?_append_right (Nat.le_refl _), Nat.sub_self]; rfl
    have hlen : ((u ++ [x] ++ stripR suf).length : Int) = ((u.length + 1 + (stripR suf).length : Nat) : Int) := by simp only [List.length_append, List.length_singleton]
    have e1 : wrap64 ((u.length : Int) + 1) = ((u.length + 1 : Nat) : Int) := wS (by omega)
    have e2 : wrap64 ((u.length : Int) - 1) = (u.length : Int) - 1 := w64 (by omega)
    have hs2 : stripR (u ++ [x] ++ suf) = stripR (u ++ (x :: suf)) := by rw [List.append_assoc]; rfl
    rw [hs2]
    have hl2 : (stripR (x :: suf)).length ≤ (x :: suf).length := by
      rw [stripR]
      cases hq : stripR suf with
      | nil => simp only; split <;> simp
      | cons y t => rw [hq] at h3; simp only [List.length_cons] at h3 ⊢; split <;> simp only [List.length_cons] <;> omega
    have ih' := ih u (x :: suf) (by omega) (by rw [List.length_cons]; omega) hl2
    have keep : stripR (x :: suf) = x :: stripR suf → Ev (fun k => ravelinref6_Pack.j8 k true (u ++ [x] ++ stripR suf) (u.length : Int) false) (stripR (u ++ (x :: suf))) := by
      intro h
      refine Ev.step (fun k => ravelinref6_Pack.j8.eq_2 ..) (evF (by simp) ?_)
      rw [e2]
      rw [h] at ih'
      rw [show u ++ [x] ++ stripR suf = u ++ (x :: stripR suf) by rw [List.append_assoc]; rfl]
      exact ih'
    have away : stripR (x :: suf) = stripR suf → Ev (fun k => ravelinref6_Pack.j8 k true (u ++ [x] ++ stripR suf) (u.length : Int) true) (stripR (u ++ (x :: suf))) := by
      intro h
      refine Ev.step (fun k => ravelinref6_Pack.j8.eq_2 ..) (evT rfl (evT (by omega) (evT (by rw [hlen]; omega) (evConst rfl ?_))))
      rw [e1, e2, Int.toNat_natCast, Int.toNat_natCast]
      have ht : (u ++ [x] ++ stripR suf).take u.length = u := by rw [List.append_assoc, List.take_left]
      have hd : (u ++ [x] ++ stripR suf).drop (u.length + 1) = stripR suf := by
        have : u.length + 1 = (u ++ [x]).length := by simp
        rw [this, List.drop_left]
      rw [ht, hd]
      refine evT (by simp only [List.length_nil]; omega) (evConst rfl (evT (by omega) (evT (by rw [hlen]; omega) (evConst rfl (evT (by rw [List.nil_append]; omega) ?_)))))
      rw [List.nil_append]
      rw [h] at ih'
      exact ih'
    refine Ev.step (fun k => ravelinref6_Pack.l3.eq_2 ..) (evT (by omega) (Ev.step (fun k => ravelinref6_Pack.j7.eq_2 ..) (evT rfl (evT (by omega) (evT (by rw [hlen]; omega) ?_)))))
    rw [hx]
    by_cases hd : x.f2 = true
    · refine evT hd ?_
      cases hq : stripR suf with
      | nil =>
        rw [hq] at away
        refine evT (by rw [hq] at hlen; rw [hlen, w64 (by simp only [List.length_nil]; omega)]; simp only [List.length_nil]; omega) (away (by rw [stripR, hq]; simp [hd]))
      | cons y t =>
        rw [hq] at away keep hlen h3
        simp only [List.length_cons] at h3
        have hy : rd_T39 (u ++ [x] ++ y :: t) ((u.length + 1 : Nat) : Int) = y := by
          have : u.length + 1 = (u ++ [x]).length := by simp
          rw [iE, List.getD_eq_getElem?_getD, this, List.getElem?_append_right (Nat.le_refl _), Nat.sub_self]; rfl
        refine evF (by rw [hlen, w64 (by simp only [List.length_cons]; omega)]; simp only [List.length_cons]; omega) ?_
        rw [e1, hy]
        refine evT (by omega) (evT (by rw [hlen]; simp only [List.length_cons]; omega) ?_)
        rw [toL, toL]
        by_cases hk : y.f0.data.toList = x.f0.data.toList
        · rw [show (y.f0.data.toList != x.f0.data.toList) = false by simp [hk]]
          exact keep (by rw [stripR, hq]; simp only; rw [if_neg (fun h => h.2 hk)])
        · rw [show (y.f0.data.toList != x.f0.data.toList) = true by simp [hk]]
          exact away (by rw [stripR, hq]; simp only; rw [if_pos ⟨hd, hk⟩])
    · refine evF hd (keep ?_)
      rw [stripR]
      cases hq : stripR suf with
      | nil => simp [hd]
      | cons y t => simp [hd]
theorem stripR_length : ∀ l : List S39, (stripR l).length ≤ l.length
  | [] => Nat.le_refl _
  | e :: t => by
    have ih := stripR_length t
    unfold stripR
    cases h : stripR t with
    | nil => simp only; split <;> simp
    | cons x u => rw [h] at ih; simp only [List.length_cons] at ih ⊢; split <;> simp only [List.length_cons] <;> omega
theorem rpack_l3_ev (b : Bool) (l : List S39) (hl : l.length ≤ 1000000) : Ev (fun k => ravelinref6_Pack.l3 k b l (wrap64 ((l.length : Int) - 1))) (if b = true then stripR l else l) := by
  rw [w64 (by omega)]
  cases b with
  | false =>
    rw [if_neg (by simp)]
    have hj : Ev (fun k => ravelinref6_Pack.j7 k false l ((l.length : Int) - 1) false) l := Ev.step (fun k => ravelinref6_Pack.j7.eq_2 ..) (evF (by simp) (evSome _))
    by_cases h : (l.length : Int) - 1 ≥ 0
    · exact Ev.step (fun k => ravelinref6_Pack.l3.eq_2 ..) (evT h hj)
    · exact Ev.step (fun k => ravelinref6_Pack.l3.eq_2 ..) (evF h hj)
  | true =>
    have := rpack_l3 _ l [] rfl (by simpa using hl) (Nat.le_refl _)
    rw [show stripR [] = [] from rfl, List.append_nil] at this
    exact this
theorem rpack_l2 (l : List S39) (hs : List Int) (hh : hs.length ≤ 1000000) (b : Bool) (acc : List S39) (ha : acc.length ≤ 1000000) (i : Nat) (hi : i < l.length) (hl : l.length ≤ 1000000) (nw : Int) (R : List S39) (n : Nat) : ∀ (j : Nat) (c : Bool), hs.length - j = n → j ≤ hs.length →
    Ev (fun k => ravelinref6_Pack.l1 k l hs b (acc ++ (if (c || (hs.drop j).any (fun h => decide ((l.getD i z39).f1 ≤ h) && decide (h < nw))) = true then [l.getD i z39] else [])) ((i + 1 : Nat) : Int)) R →
    Ev (fun k => ravelinref6_Pack.l2 k l hs b acc (i : Int) nw c (j : Int)) R := by
  induction n with
  | zero =>
    intro j c h1 h2 hend
    rw [List.drop_eq_nil_of_le (by omega), List.any_nil, Bool.or_false] at hend
    refine Ev.step (fun k => ravelinref6_Pack.l2.eq_2 ..) (evF (by omega) ?_)
    rw [iE, wS (by omega)]
    cases c with
    | true => exact evT rfl (evT (by omega) (evT (by omega) (evT (by omega) hend)))
    | false =>
      rw [if_neg (by simp), List.append_nil] at hend
      exact evF (by simp) hend
  | succ n ih =>
    intro j c h1 h2 hend
    have hj : j < hs.length := by omega
    rw [drop_cons hs 0 j hj, List.any_cons, ← Bool.or_assoc] at hend
    refine Ev.step (fun k => ravelinref6_Pack.l2.eq_2 ..) (evT (by omega) ?_)
    have hr : rd hs (j : Int) = hs.getD j 0 := by unfold rd; rw [Int.toNat_natCast]
    rw [iE, hr, wS (i := j) (by omega)]
    cases c with
    | true =>
      rw [Bool.true_or] at hend
      exact evT rfl (ih (j + 1) true (by omega) (by omega) hend)
    | false =>
      rw [Bool.false_or] at hend
      refine evF (by simp) (evT (by omega) (evT (by omega) (evT (by omega) ?_)))
      by_cases h : hs.getD j 0 ≥ (l.getD i z39).f1
      · refine evT h (ih (j + 1) _ (by omega) (by omega) ?_)
        rw [decide_eq_true (show (l.getD i z39).f1 ≤ hs.getD j 0 from h), Bool.true_and] at hend
        exact hend
      · refine evF h (ih (j + 1) _ (by omega) (by omega) ?_)
        rw [decide_eq_false (show ¬ (l.getD i z39).f1 ≤ hs.getD j 0 from h), Bool.false_and] at hend
        exact hend
theorem rpack_l1 (l : List S39) (hs : List Int) (hh : hs.length ≤ 1000000) (b : Bool) (hl : l.length ≤ 1000000) (hE : ∀ x ∈ l, x.f1 ≤ 1000000) (R : List S39) (n : Nat) : ∀ (i : Nat) (acc : List S39), l.length - i = n → i ≤ l.length → acc.length ≤ i →
    Ev (fun k => ravelinref6_Pack.l3 k b (acc ++ wantL (prevE l i) (l.drop i) hs) (wrap64 (((acc ++ wantL (prevE l i) (l.drop i) hs).length : Int) - 1))) R →
    Ev (fun k => ravelinref6_Pack.l1 k l hs b acc (i : Int)) R := by
  induction n with
  | zero =>
    intro i acc h1 h2 h3 hend
    rw [List.drop_eq_nil_of_le (by omega), wantL, List.append_nil] at hend
    exact Ev.step (fun k => ravelinref6_Pack.l1.eq_2 ..) (evF (by omega) hend)
  | succ n ih =>
    intro i acc h1 h2 h3 hend
    have hi : i < l.length := by omega
    rw [drop_cons l z39 i hi, wantL, ← List.append_assoc] at hend
    have he : (l.getD i z39).f1 ≤ 1000000 := hE _ (by rw [List.getD_eq_getElem?_getD, List.getElem?_eq_getElem hi]; exact List.getElem_mem hi)
    have go : ∀ (nw : Int) (c : Bool), (c || hs.any (fun h => decide ((l.getD i z39).f1 ≤ h) && decide (h < nw))) = wantP (prevE l i) (l.getD i z39) hs → decide (nw > 1000000) = c → Ev (fun k => ravelinref6_Pack.j3 k l hs b acc (i : Int) nw) R := by
      intro nw c h4 h5
      refine Ev.step (fun k => ravelinref6_Pack.j3.eq_2 ..) (evT (by omega) (evT (by omega) ?_))
      rw [iE, h5]
      refine evT he (Ev.step (fun k => ravelinref6_Pack.j4.eq_2 ..) ?_)
      refine rpack_l2 l hs hh b acc (by omega) i hi hl nw R _ 0 c rfl (Nat.zero_le _) ?_
      rw [List.drop_zero, h4]
      refine ih (i + 1) _ (by omega) (by omega) (by rw [List.length_append]; split <;> simp <;> omega) ?_
      exact hend
    refine Ev.step (fun k => ravelinref6_Pack.l1.eq_2 ..) (evT (by omega) ?_)
    cases i with
    | zero =>
      refine evF (by omega) (Ev.step (fun k => ravelinref6_Pack.j2.eq_2 ..) (evF (by simp) (go 1000001 true (by simp [wantP, prevE]) rfl)))
    | succ i =>
      have hw : wrap64 (((i + 1 : Nat) : Int) - 1) = (i : Int) := by rw [w64 (by omega)]; omega
      refine evT (by omega) ?_
      rw [hw, iE, iE]
      refine evT (by omega) (evT (by omega) (evT (by omega) (Ev.step (fun k => ravelinref6_Pack.j2.eq_2 ..) ?_)))
      rw [hw, iE, toL, toL]
      have hd : (l.getD i z39).f1 ≤ 1000000 := hE _ (by rw [List.getD_eq_getElem?_getD, List.getElem?_eq_getElem (by omega)]; exact List.getElem_mem (by omega))
      by_cases h6 : (l.getD i z39).f0.data.toList = (l.getD (i + 1) z39).f0.data.toList
      · refine evT (by rw [h6]; simp) (evT (by omega) (evT (by omega) (go _ false ?_ (decide_eq_false (by omega)))))
        simp only [wantP, prevE, ky]
        rw [show ((l.getD i z39).f0.data.toList == (l.getD (i + 1) z39).f0.data.toList) = true from beq_iff_eq.2 h6]
        simp
      · refine evF (by simpa using h6) (go 1000001 true ?_ rfl)
        simp only [wantP, prevE, ky]
        rw [show ((l.getD i z39).f0.data.toList == (l.getD (i + 1) z39).f0.data.toList) = false from beq_eq_false_iff_ne.2 h6]
        simp
theorem rpack_l0 (l : List S39) (hs : List Int) (b : Bool) (hl : l.length ≤ 1000000) (hh : hs.length ≤ 1000000) (n : Nat) : ∀ (i : Nat), l.length - i = n → i ≤ l.length → (∀ x ∈ l.take i, isE x = true) → Ev (fun k => ravelinref6_Pack.l0 k l hs b (i : Int)) (packS l hs b) := by
  induction n with
  | zero =>
    intro i h1 h2 h3
    rw [List.take_of_length_le (by omega)] at h3
    refine Ev.step (fun k => ravelinref6_Pack.l0.eq_2 ..) (evF (by omega) (evBind (rsorted_ev l (by omega)) ?_))
    unfold packS
    by_cases hs1 : sortedB l = true
    · rw [if_pos ⟨hs1, List.all_eq_true.2 h3⟩]
      refine evT hs1 ?_
      refine rpack_l1 l hs hh b hl (fun x hx => (isF_iff.1 (h3 x hx)).2.1) _ _ 0 [] rfl (Nat.zero_le _) (Nat.le_refl _) ?_
      rw [List.nil_append, List.drop_zero]
      have := want_length hs l none
      exact rpack_l3_ev b _ (by show (wantL none l hs).length ≤ _; omega)
    · rw [if_neg (fun h => hs1 h.1)]
      exact evF hs1 (evSome _)
  | succ n ih =>
    intro i h1 h2 h3
    have hi : i < l.length := by omega
    refine Ev.step (fun k => ravelinref6_Pack.l0.eq_2 ..) (evT (by omega) (evT (by omega) ?_))
    rw [iE, wS (by omega)]
    have hm : l.getD i z39 ∈ l := by rw [List.getD_eq_getElem?_getD, List.getElem?_eq_getElem hi]; exact List.getElem_mem hi
    refine evConst (show ravelinref6_Is.f _ _ _ _ = some (isE (l.getD i z39)) from ris_ev _ _ _ _) ?_
    cases hb : isE (l.getD i z39) with
    | true =>
      refine evT rfl (ih (i + 1) (by omega) (by omega) (fun x hx => ?_))
      have ht : l.take (i + 1) = l.take i ++ [l.getD i z39] := by
        rw [List.take_add_one, List.getElem?_eq_getElem hi, List.getD_eq_getElem?_getD, List.getElem?_eq_getElem hi]; rfl
      rw [ht] at hx
      rcases List.mem_append.1 hx with hx | hx
      · exact h3 x hx
      · rw [List.mem_singleton.1 hx]; exact hb
    | false =>
      refine evF (by simp) (evEq (evSome _) ?_)
      unfold packS
      rw [if_neg (fun h => by have := List.all_eq_true.1 h.2 _ hm; rw [hb] at this; cases this)]
theorem rpack_ev (l : List S39) (hs : List Int) (b : Bool) (hl : l.length ≤ 1000000) (hh : hs.length ≤ 1000000) : Ev (fun k => ravelinref6_Pack.f k l hs b) (packS l hs b) :=
  Ev.congr (fun k => ravelinref6_Pack.f.eq_1 ..) (rpack_l0 l hs b hl hh _ 0 rfl (Nat.zero_le _) (fun x hx => by simp at hx))
end Go.Proofs.Ytjcpdbekdimceaa.Q
