/- Proved: the law EntryNewest is true of every row of steps, every number. -/
import Derived.Test.YtggmgenofmfdpaaQKnown6
import Derived.Test.YtggmgenofmfdpaaPx30
namespace Go.Proofs.Ytggmgenofmfdpaa.P
end Go.Proofs.Ytggmgenofmfdpaa.P
namespace Go.Proofs.Ytggmgenofmfdpaa.Q
end Go.Proofs.Ytggmgenofmfdpaa.Q
namespace Go.Proofs.Ytggmgenofmfdpaa.Pure
open Go.RowKit Go.Proofs.Ytggmgenofmfdpaa.P Go.Proofs.YtggmgenofmfdpaaW.PrintWords Go.Proofs.YtggmgenofmfdpaaW.PrintLast Go.Proofs.YtggmgenofmfdpaaW.PrintMore Go.Proofs.Ytggmgenofmfdpaa.Q
set_option linter.unusedVariables false
set_option linter.unusedSimpArgs false
/-- What the walk from the end keeps. -/
def bestE (q : Int) : List S23 → NE
  | [] => noneE
  | e :: t => if ky e = [107] ∧ e.f1 ≤ q then someE e else bestE q t
theorem best_from (l : List S23) (q : Int) (hs : sortedB l = true) (n : Nat) : ∀ i : Nat, l.length - i = n →
    bestE q (l.drop i) = if i ≤ placeE l [107] q then newestE l [107] q else if placeE l [107] q < l.length ∧ ky (l.getD (placeE l [107] q) z23) = [107] then bestE q (l.drop i) else noneE := by
  induction n with
  | zero =>
    intro i hi
    have hp := place_le l [107] q
    rw [List.drop_eq_nil_of_le (by omega)]
    have e : bestE q [] = noneE := rfl
    rw [e, ite_self]
    by_cases h : i ≤ placeE l [107] q
    · rw [if_pos h]
      unfold newestE
      rw [if_pos hs, if_neg (by rintro ⟨h1, _⟩; omega)]
    · rw [if_neg h]
  | succ n ih =>
    intro i hi
    have next := ih (i + 1) (by omega)
    rw [drop_cons l z23 i (by omega)]
    show (if ky (l.getD i z23) = [107] ∧ (l.getD i z23).f1 ≤ q then someE (l.getD i z23) else bestE q (l.drop (i + 1))) = _
    rcases Nat.lt_trichotomy i (placeE l [107] q) with h1 | h1 | h1
    · have h2 := lessF_no (place_lt h1)
      rw [if_neg h2, next, if_pos (by omega), if_pos (by omega)]
    · have h2 := place_ge hs (Nat.le_refl (placeE l [107] q)) (show placeE l [107] q < l.length by omega)
      rw [if_pos (show i ≤ placeE l [107] q by omega)]
      unfold newestE
      rw [if_pos hs]
      by_cases h3 : ky (l.getD i z23) = [107]
      · rw [if_pos ⟨h3, by rw [h1] at h3 ⊢; exact lessF_le h2 h3⟩, if_pos ⟨by omega, by rw [← h1]; exact h3⟩, ← h1]
      · rw [if_neg (fun h => h3 h.1), next, if_neg (by omega), ← h1, if_neg (fun h => h3 h.2), if_neg (fun h => h3 h.2)]
    · rw [if_neg (show ¬ i ≤ placeE l [107] q by omega)]
      by_cases h3 : placeE l [107] q < l.length ∧ ky (l.getD (placeE l [107] q) z23) = [107]
      · rw [if_pos h3]
        rfl
      · rw [if_neg h3]
        have h4 : ky (l.getD (placeE l [107] q) z23) ≠ [107] := fun h => h3 ⟨by omega, h⟩
        rw [if_neg (fun h => behind_no hs h1 (by omega) h4 h.1), next, if_neg (by omega), if_neg h3]
theorem best_all (l : List S23) (q : Int) (hs : sortedB l = true) : bestE q l = newestE l [107] q := by
  have := best_from l q hs _ 0 rfl
  rw [if_pos (by omega)] at this
  exact this
theorem newest_l1 (l : List S23) (q : Int) (nb : NE) (hl : l.length ≤ 60) (hs : sortedB l = true) (hb : nb = bestE q l) (n : Nat) : ∀ b : NE, b = bestE q (l.drop n) → n ≤ l.length →
    Ev (fun k => ravelinlaw6_EntryNewest.l1 k q l nb.2.2.2.2 b.2.2.2.2 ((n : Int) - 1) nb.1 nb.2.1 nb.2.2.1 nb.2.2.2.1 b.1 b.2.1 b.2.2.1 b.2.2.2.1) true := by
  induction n with
  | zero =>
    intro b e _
    rw [List.drop_zero, ← hb] at e
    subst e
    refine Ev.step (fun k => ravelinlaw6_EntryNewest.l1.eq_2 ..) (evF (by omega) (evBind (sorted_ev l (by omega)) (evT hs (evT (by simp) (evEq (evSome _) (by simp))))))
  | succ n ih =>
    intro b e hn
    refine Ev.step (fun k => ravelinlaw6_EntryNewest.l1.eq_2 ..) (evT (by omega) (evT (by omega) (evT (by omega) ?_)))
    have e1 : rd_T23 l (((n + 1 : Nat) : Int) - 1) = l.getD n z23 := by unfold rd_T23; rw [show (((n + 1 : Nat) : Int) - 1) = (n : Int) by omega, Int.toNat_natCast]
    rw [e1, toL, show (((n + 1 : Nat) : Int) - 1) = (n : Int) by omega, w64 (by omega)]
    have e2 : bestE q (l.drop n) = if ky (l.getD n z23) = [107] ∧ (l.getD n z23).f1 ≤ q then someE (l.getD n z23) else bestE q (l.drop (n + 1)) := by
      rw [drop_cons l z23 n (by omega)]; rfl
    by_cases h1 : ky (l.getD n z23) = [107]
    · refine evT h1 ?_
      by_cases h2 : (l.getD n z23).f1 ≤ q
      · refine evT h2 ?_
        rw [if_pos ⟨h1, h2⟩] at e2
        exact ih (someE (l.getD n z23)) e2.symm (by omega)
      · refine evF h2 ?_
        rw [if_neg (fun h => h2 h.2)] at e2
        exact ih b (e.trans e2.symm) (by omega)
    · refine evF h1 ?_
      rw [if_neg (fun h => h1 h.1)] at e2
      exact ih b (e.trans e2.symm) (by omega)
/-- What the first walk builds. -/
def good : List S23 → Int → Prop
  | [], _ => True
  | e :: t, s => e.f0 = S [107] ∧ e.f1 = s ∧ ∃ u, u < s ∧ good t u
theorem good_sorted : ∀ (l : List S23) (s : Int) (L : S23), L.f0 = S [108] → good l s → sortedB (l ++ [L]) = true
  | [], _, _, _, _ => rfl
  | [e], s, L, hL, h => by
    show (lessE e L && true) = true
    unfold lessE ky
    rw [h.1, hL]
    rfl
  | e :: g :: t, s, L, hL, h => by
    obtain ⟨h1, h2, u, h3, h4⟩ := h
    have := good_sorted (g :: t) u L hL h4
    show (lessE e g && sortedB (g :: t ++ [L])) = true
    rw [this, Bool.and_true]
    unfold lessE ky
    rw [h1, h4.1, lessF_iff]
    exact .inr ⟨rfl, by rw [h2, h4.2.1]; exact h3⟩
theorem built_sorted (l : List S23) (s : Int) (J L : S23) (hJ : J.f0 = S [106]) (hL : L.f0 = S [108]) (h : good l s) : sortedB (J :: (l ++ [L])) = true := by
  have h1 := good_sorted l s L hL h
  cases l with
  | nil =>
    show (lessE J L && true) = true
    unfold lessE ky
    rw [hJ, hL]; rfl
  | cons e t =>
    show (lessE J e && sortedB (e :: t ++ [L])) = true
    rw [h1, Bool.and_true]
    unfold lessE ky
    rw [hJ, h.1]; rfl
theorem newest_j1 (l : List S23) (q s : Int) (hl : l.length ≤ 20) (h : good l s) : Ev (fun k => ravelinlaw6_EntryNewest.j1 k q l) true := by
  have hs := built_sorted l s ⟨⟨#[106]⟩, 5, false, ⟨#[]⟩⟩ ⟨⟨#[108]⟩, 1, false, ⟨#[]⟩⟩ rfl rfl h
  refine Ev.step (fun k => ravelinlaw6_EntryNewest.j1.eq_2 ..) (evConst rfl (evT (by simp; omega) (evConst rfl (evT (by simp; omega) (evConst rfl ?_)))))
  rw [List.singleton_append, List.cons_append]
  obtain ⟨m, hm⟩ : ∃ m, m = (⟨⟨#[106]⟩, 5, false, ⟨#[]⟩⟩ : S23) :: (l ++ [(⟨⟨#[108]⟩, 1, false, ⟨#[]⟩⟩ : S23)]) := ⟨_, rfl⟩
  have len : m.length = l.length + 2 := by rw [hm]; simp
  rw [← hm] at hs ⊢
  refine evBind (newest_ev m (by omega) _ _) ?_
  rw [w64 (by omega)]
  exact newest_l1 m q (newestE m [107] q) (by omega) hs (best_all m q hs).symm m.length noneE (by rw [List.drop_length]; rfl) (Nat.le_refl _)
theorem newest_l0 (x : List Int) (q : Int) (hx : ∀ y ∈ x, (Lit.int .u8 y).wf = true) (n : Nat) : ∀ (i : Nat) (l : List S23) (s : Int), 20 - i = n → i ≤ 20 → l.length = i → 0 ≤ s → s ≤ 20 * i → good l s →
    Ev (fun k => ravelinlaw6_EntryNewest.l0 k x q l s (i : Int)) true := by
  induction n with
  | zero =>
    intro i l s h1 h2 h3 h4 h5 h6
    refine Ev.step (fun k => ravelinlaw6_EntryNewest.l0.eq_2 ..) ?_
    have last := newest_j1 l q s (by omega) h6
    by_cases h : (i : Int) < (x.length : Int)
    · exact evT h (evF (by omega) last)
    · exact evF h last
  | succ n ih =>
    intro i l s h1 h2 h3 h4 h5 h6
    refine Ev.step (fun k => ravelinlaw6_EntryNewest.l0.eq_2 ..) ?_
    by_cases h : (i : Int) < (x.length : Int)
    · refine evT h (evT (by omega) (evT (by omega) (evConst rfl (evT (by simp; omega) ?_))))
      have b : 0 ≤ rd x (i : Int) ∧ rd x (i : Int) ≤ 255 := by
        unfold rd
        rw [Int.toNat_natCast, List.getD_eq_getElem?_getD, List.getElem?_eq_getElem (show i < x.length by omega), Option.getD_some]
        exact wf_u8 (hx _ (List.getElem_mem _))
      have m : 0 ≤ Int.tmod (rd x (i : Int)) 9 ∧ Int.tmod (rd x (i : Int)) 9 ≤ 8 := by
        rw [Int.tmod_eq_emod_of_nonneg b.1]; omega
      generalize hr : Int.tmod (rd x (i : Int)) 9 = r at m ⊢
      rw [w64 (show -9223372036854775808 ≤ r ∧ r ≤ 9223372036854775807 by omega), w64 (show -9223372036854775808 ≤ s + r ∧ s + r ≤ 9223372036854775807 by omega), w64 (show -9223372036854775808 ≤ s + r + 1 ∧ s + r + 1 ≤ 9223372036854775807 by omega), w64 (show -9223372036854775808 ≤ (i : Int) + 1 ∧ (i : Int) + 1 ≤ 9223372036854775807 by omega), show (i : Int) + 1 = ((i + 1 : Nat) : Int) by omega]
      exact ih (i + 1) _ (s + r + 1) (by omega) (by omega) (by simp [h3]) (by omega) (by omega) ⟨rfl, rfl, s, by omega, h6⟩
    · exact evF h (newest_j1 l q s (by omega) h6)
theorem EntryNewest : ravelinlaw6_EntryNewest.Pure := by
  intro x q _ _ hx _
  refine Ev.rounds (Ev.congr (fun k => ravelinlaw6_EntryNewest.f.eq_1 ..) (evBind known6 (evT rfl ?_)))
  exact newest_l0 x q hx _ 0 [] 0 rfl (by omega) rfl (by omega) (by omega) trivial
end Go.Proofs.Ytggmgenofmfdpaa.Pure
