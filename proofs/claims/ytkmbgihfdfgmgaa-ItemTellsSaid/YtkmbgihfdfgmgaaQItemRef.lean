import Derived.Test.YtkmbgihfdfgmgaaQRowRef
import Derived.Test.YtkmbgihfdfgmgaaM12
import Derived.Test.YtkmbgihfdfgmgaaM9
import Derived.Test.YtkmbgihfdfgmgaaM11
namespace Go.Proofs.Ytkmbgihfdfgmgaa.P
end Go.Proofs.Ytkmbgihfdfgmgaa.P
namespace Go.Proofs.Ytkmbgihfdfgmgaa.Q
end Go.Proofs.Ytkmbgihfdfgmgaa.Q
namespace Go.Proofs.Ytkmbgihfdfgmgaa.Q
open Go.RowKit Go.Proofs.Ytkmbgihfdfgmgaa.P Go.Proofs.YtkmbgihfdfgmgaaW.PrintWords Go.Proofs.YtkmbgihfdfgmgaaW.PrintLast Go.Proofs.YtkmbgihfdfgmgaaW.PrintMore
set_option linter.unusedVariables false
set_option linter.unusedSimpArgs false
/-! Alike, by the reference -/
theorem rsame12_l0 (a b : List S39) (hl : a.length = b.length) (hz : a.length ≤ 4611686018427387904) (d : Nat) : ∀ i : Nat, i ≤ a.length → a.length - i = d →
    ∃ r, Ev (fun k => ravelinref12_Same.l0 k a b (i : Int)) r ∧ (r = true ↔ a.drop i = b.drop i) := by
  induction d with
  | zero =>
    intro i hi hd
    refine ⟨true, Ev.step (fun k => ravelinref12_Same.l0.eq_2 ..) (evF (by omega) (evSome _)), ?_⟩
    rw [List.drop_eq_nil_of_le (by omega), List.drop_eq_nil_of_le (by omega)]
    simp
  | succ d ih =>
    intro i hi hd
    have hi2 : i < a.length := by omega
    have hi3 : i < b.length := by omega
    obtain ⟨r, hr, hr2⟩ := ih (i + 1) (by omega) (by omega)
    have e : wrap64 ((i : Int) + 1) = ((i + 1 : Nat) : Int) := by rw [w64 (by omega)]; omega
    rw [getD_cons hi2, getD_cons hi3]
    by_cases hc : a.getD i z39 = b.getD i z39
    · refine ⟨r, Ev.step (fun k => ravelinref12_Same.l0.eq_2 ..) (evT (by omega) (evT (by omega) (evT (by omega) ?_))), ?_⟩
      · rw [rd_at, rd_at, hc, e]
        exact evF (by simp) hr
      · rw [hr2, hc]; simp
    · refine ⟨false, Ev.step (fun k => ravelinref12_Same.l0.eq_2 ..) (evT (by omega) (evT (by omega) (evT (by omega) ?_))), ?_⟩
      · rw [rd_at, rd_at]
        generalize a.getD i z39 = x at *
        generalize b.getD i z39 = y at *
        refine evT ?_ (evSome _)
        rw [toL, toL, toL, toL]
        by_cases h0 : x.f0.data.toList = y.f0.data.toList
        · by_cases h1 : x.f1 = y.f1
          · by_cases h2 : x.f2.data.toList = y.f2.data.toList
            · exact absurd (write_ext h0 h1 h2) hc
            · rw [beq_false_of_ne h2]; simp
          · rw [beq_false_of_ne h1]; simp
        · rw [beq_false_of_ne h0]; simp
      · simp only [Bool.false_eq_true, List.cons.injEq, false_iff]
        exact fun hh => hc hh.1
theorem rsameI_ev (lv n t : Int) (sh : Bool) (a : List S39) (lv' n' t' : Int) (sh' : Bool) (b : List S39) (hz : a.length ≤ 4611686018427387904) :
    ∃ r, Ev (fun k => ravelinref18_Same.f k lv n t sh a lv' n' t' sh' b) r ∧ (r = true ↔ (lv, n, t, sh, a) = (lv', n', t', sh', b)) := by
  by_cases h1 : lv = lv'
  · by_cases h2 : n = n'
    · by_cases h3 : t = t'
      · by_cases h4 : sh = sh'
        · by_cases hl : a.length = b.length
          · obtain ⟨r, hr, hr2⟩ := rsame12_l0 a b hl hz _ 0 (by omega) rfl
            refine ⟨r, Ev.congr (fun k => ravelinref18_Same.f.eq_1 ..) (evT h1 (evT h2 (evT h3 (evT (by simp [h4]) (evBind (Ev.congr (fun k => ravelinref12_Same.f.eq_1 ..) (evT (by omega) hr)) (evSome _)))))), ?_⟩
            rw [hr2]
            simp [h1, h2, h3, h4]
          · refine ⟨false, Ev.congr (fun k => ravelinref18_Same.f.eq_1 ..) (evT h1 (evT h2 (evT h3 (evT (by simp [h4]) (evBind (Ev.congr (fun k => ravelinref12_Same.f.eq_1 ..) (evF (by omega) (evSome _))) (evSome _)))))), ?_⟩
            simp only [Bool.false_eq_true, Prod.mk.injEq, false_iff]
            exact fun hh => hl (by rw [hh.2.2.2.2])
        · exact ⟨false, Ev.congr (fun k => ravelinref18_Same.f.eq_1 ..) (evT h1 (evT h2 (evT h3 (evF (by simp [h4]) (evSome _))))), by simp [h4]⟩
      · exact ⟨false, Ev.congr (fun k => ravelinref18_Same.f.eq_1 ..) (evT h1 (evT h2 (evF h3 (evSome _)))), by simp [h3]⟩
    · exact ⟨false, Ev.congr (fun k => ravelinref18_Same.f.eq_1 ..) (evT h1 (evF h2 (evSome _))), by simp [h2]⟩
  · exact ⟨false, Ev.congr (fun k => ravelinref18_Same.f.eq_1 ..) (evF h1 (evSome _)), by simp [h1]⟩
/-! An item, by the reference -/
theorem risI_l0 (lv n t : Int) (sh : Bool) (l : List S39) (hl : l.length ≤ 4611686018427387904) (d : Nat) : ∀ i : Nat, i ≤ l.length → l.length - i = d →
    Ev (fun k => ravelinref18_Is.l0 k (i : Int) lv n t sh l) (shortB (l.drop i) && (if sh = true then l.isEmpty else !l.isEmpty && isB l)) := by
  induction d with
  | zero =>
    intro i hi hd
    rw [List.drop_eq_nil_of_le (by omega), show shortB [] = true from rfl, Bool.true_and]
    refine Ev.step (fun k => ravelinref18_Is.l0.eq_2 ..) (evF (by omega) ?_)
    cases sh with
    | true =>
      refine evT rfl ?_
      cases l with
      | nil => exact evT rfl (evSome _)
      | cons x y => exact evF (by simp only [List.length_cons]; omega) (evSome _)
    | false =>
      refine evF (by simp) ?_
      cases l with
      | nil => exact evF (by simp) (evSome _)
      | cons x y =>
        refine evT (by simp only [List.length_cons]; omega) (evBind (ris_ev (x :: y) hl) (evEq (evSome _) ?_))
        simp
  | succ d ih =>
    intro i hi hd
    have hi2 : i < l.length := by omega
    have next := ih (i + 1) (by omega) (by omega)
    have e : wrap64 ((i : Int) + 1) = ((i + 1 : Nat) : Int) := by rw [w64 (by omega)]; omega
    refine Ev.step (fun k => ravelinref18_Is.l0.eq_2 ..) (evT (by omega) (evT (by omega) ?_))
    rw [rd_at, e, getD_cons hi2]
    generalize l.getD i z39 = w at *
    have hs : (w.f0.size : Int) = ((wk w).length : Int) := by rw [size_data]; rfl
    rw [hs]
    by_cases h : (((wk w).length : Nat) : Int) > 12
    · refine evT h (evEq (evSome _) ?_)
      rw [shortB, List.all_cons, decide_eq_false (show ¬ (wk w).length ≤ 12 by omega)]; simp
    · refine evF h (evEq next ?_)
      rw [shortB, shortB, List.all_cons, decide_eq_true (show (wk w).length ≤ 12 by omega), Bool.true_and]
theorem risI_ev (lv n t : Int) (sh : Bool) (l : List S39) (hl : l.length ≤ 4611686018427387904) : Ev (fun k => ravelinref18_Is.f k lv n t sh l) (isI lv n t sh l) := by
  have no : ∀ r, r = false → Ev (fun k => ravelinref18_Is.j0 k true lv n t sh l) r := fun r h => h ▸ Ev.step (fun k => ravelinref18_Is.j0.eq_2 ..) (evT rfl (evSome _))
  have yes := risI_l0 lv n t sh l hl _ 0 (by omega) rfl
  refine Ev.congr (fun k => ravelinref18_Is.f.eq_1 ..) ?_
  unfold isI
  by_cases a1 : lv < 0
  · exact evT a1 (no _ (by rw [decide_eq_false (show ¬ 0 ≤ lv by omega)]; simp))
  · refine evF a1 ?_
    by_cases a2 : lv ≥ 6
    · exact evT a2 (no _ (by rw [decide_eq_false (show ¬ lv ≤ 5 by omega)]; simp))
    · refine evF a2 ?_
      by_cases a3 : n < 1
      · exact evT a3 (no _ (by rw [decide_eq_false (show ¬ 1 ≤ n by omega)]; simp))
      · refine evF a3 ?_
        by_cases a4 : n > 1000000
        · exact evT a4 (no _ (by rw [decide_eq_false (show ¬ n ≤ 1000000 by omega)]; simp))
        · refine evF a4 ?_
          by_cases a5 : t < 0
          · exact evT a5 (no _ (by rw [decide_eq_false (show ¬ 0 ≤ t by omega)]; simp))
          · refine evF a5 ?_
            by_cases a6 : t > 1000000
            · rw [decide_eq_true a6]
              exact no _ (by rw [decide_eq_false (show ¬ t ≤ 1000000 by omega)]; simp)
            · rw [decide_eq_false a6]
              refine Ev.step (fun k => ravelinref18_Is.j0.eq_2 ..) (evF (by simp) (evEq yes ?_))
              rw [decide_eq_true (show 0 ≤ lv by omega), decide_eq_true (show lv ≤ 5 by omega), decide_eq_true (show 1 ≤ n by omega), decide_eq_true (show n ≤ 1000000 by omega), decide_eq_true (show 0 ≤ t by omega), decide_eq_true (show t ≤ 1000000 by omega), List.drop_zero]
              cases sh <;> cases l <;> simp [shortB]
theorem rbytesI_ev (lv n t : Int) (sh : Bool) (l : List S39) (hl : l.length ≤ 4611686018427387904) : Ev (fun k => ravelinref18_Bytes.f k lv n t sh l) (S (bytesI lv n t sh l).1, decide ((bytesI lv n t sh l).2 = 0)) := by
  refine Ev.congr (fun k => ravelinref18_Bytes.f.eq_1 ..) (evBind (risI_ev lv n t sh l hl) ?_)
  unfold bytesI
  cases h : isI lv n t sh l with
  | false => exact evF (by simp) (evSome _)
  | true =>
    obtain ⟨b1, b2, b3, b4, b5⟩ := isI_num h
    have hp := payI_len h
    have n1 := rnum_ev lv (by omega)
    have n2 := rnum_ev n (by omega)
    have n3 := rnum_ev t (by omega)
    have w1 := rrow_ev l b4 b5
    have go : ∀ m : List UInt8, m = (if sh = true then [1] else [0]) → Ev (fun k => ravelinref18_Bytes.j0 k (S m) lv n t sh l) (S (sealL (payI lv n t sh l)), true) := by
      intro m hm
      have e : payI lv n t sh l = (((numL lv.toNat ++ numL n.toNat) ++ numL t.toNat) ++ m) ++ wordsW l := by rw [payI, hm]; simp
      have hlen := congrArg List.length e
      simp only [List.length_append] at hlen
      refine Ev.step (fun k => ravelinref18_Bytes.j0.eq_2 ..) (evBind n1 (evBind n2 (evT (by rw [S_size, S_size]; omega) (evBind n3 ?_))))
      rw [S_append, S_append, S_append]
      refine evT (by rw [S_size, S_size]; simp only [List.length_append]; omega) (evT (by rw [S_size, S_size]; simp only [List.length_append]; omega) (evBind w1 ?_))
      rw [S_append]
      refine evT (by rw [S_size, S_size]; simp only [List.length_append]; omega) ?_
      rw [← e]
      exact evBind (rseal_ev _ (by omega)) (evSome _)
    refine evT rfl ?_
    cases sh with
    | true => exact evT rfl (go [1] rfl)
    | false => exact evF (by simp) (go [0] rfl)
/-! What is read at the front, by the reference -/
theorem bytesI_zero {lv n t : Int} {sh : Bool} {l : List S39} (h : (bytesI lv n t sh l).2 = 0) : isI lv n t sh l = true ∧ bytesI lv n t sh l = (sealL (payI lv n t sh l), 0) := by
  unfold bytesI at h ⊢
  cases hi : isI lv n t sh l with
  | true => exact ⟨rfl, rfl⟩
  | false => rw [hi] at h; cases h
theorem isI_B {lv n t : Int} {sh : Bool} {l : List S39} (h : isI lv n t sh l = true) : isB l = true := by
  unfold isI at h
  simp only [Bool.and_eq_true] at h
  have h2 := h.2.2.2
  cases l with
  | nil => rfl
  | cons x y =>
    cases sh with
    | true => simp at h2
    | false => simp at h2; exact h2.2
theorem readI_of {l : List UInt8} (ho : (openS l).2.2 = 0) {lv n t : Int} {sh : Bool} {w : List S39} (h2 : (bytesI lv n t sh w).2 = 0) (h3 : (bytesI lv n t sh w).1 = l.take (openS l).2.1.toNat) : (openS l).1 = payI lv n t sh w ∧ isI lv n t sh w = true ∧ readI l = ((lv, n, t, sh, w), (openS l).2.1, 0) := by
  obtain ⟨hI, hb⟩ := bytesI_zero h2
  have hp := payI_len hI
  obtain ⟨k1, k2, r, k3⟩ := openS_inv (l := l) (s := (openS l).1) (k := (openS l).2.1) (by rw [← ho])
  have e : l.take (openS l).2.1.toNat = sealL (openS l).1 := by
    have k4 := congrArg (List.take (sealL (openS l).1).length) k3
    rw [List.take_left] at k4
    rw [k2, Int.toNat_natCast]
    exact k4
  have h4 := h3
  rw [hb] at h3
  simp only at h3
  rw [e] at h3
  have e2 := sealL_inj (by omega) k1 h3
  refine ⟨e2.symm, hI, ?_⟩
  unfold readI
  rw [if_pos ho, ← e2, takeI_pay hI]
  exact if_pos ⟨h2, h4⟩
theorem readI_inv {l : List UInt8} (h : (readI l).2.2 = 0) : (openS l).2.2 = 0 ∧ (openS l).1 = payI (readI l).1.1 (readI l).1.2.1 (readI l).1.2.2.1 (readI l).1.2.2.2.1 (readI l).1.2.2.2.2 ∧ isI (readI l).1.1 (readI l).1.2.1 (readI l).1.2.2.1 (readI l).1.2.2.2.1 (readI l).1.2.2.2.2 = true ∧
    sealL (openS l).1 = l.take (openS l).2.1.toNat ∧ readI l = ((readI l).1, (openS l).2.1, 0) := by
  have hc := h
  unfold readI at hc
  by_cases c1 : (openS l).2.2 = 0
  · rw [if_pos c1] at hc
    by_cases c2 : (bytesT (takeI (openS l).1)).2 = 0 ∧ (bytesT (takeI (openS l).1)).1 = l.take (openS l).2.1.toNat
    · obtain ⟨k1, k2, k4⟩ := readI_of c1 c2.1 c2.2
      have k5 := c2.2
      rw [show (bytesT (takeI (openS l).1)).1 = sealL (payI _ _ _ _ _) from congrArg Prod.fst (bytesI_zero c2.1).2, ← k1] at k5
      rw [k4]
      exact ⟨c1, k1, k2, k5, rfl⟩
    · rw [if_neg c2] at hc
      cases hc
  · rw [if_neg c1] at hc
    exact absurd hc c1
theorem readI_bad {l : List UInt8} (h : (readI l).2.2 ≠ 0) (ho : (openS l).2.2 = 0) : readI l = ((0, 0, 0, false, []), 0, 10) := by
  unfold readI at h ⊢
  rw [if_pos ho] at h ⊢
  split at h
  · exact absurd rfl h
  · rename_i hc
    rw [if_neg hc]
/-- A number taken at a place: where it ends. -/
theorem take_at (L : List UInt8) (hz : L.length ≤ 1000000) (a : Nat) (ha : a ≤ L.length) : Ev (fun k => ravelinref3_TakeNum.f k ((S L).extract (a : Int).toNat (S L).size)) (takeNum (L.drop a)) ∧ ∃ m : Nat, (takeNum (L.drop a)).2.1 = (m : Int) ∧ a + m ≤ L.length := by
  have hb := takeNum_bounds (L.drop a)
  rw [List.length_drop] at hb
  constructor
  · rw [S_extract, S_size, Int.toNat_natCast, List.take_of_length_le (by rw [List.length_drop]; omega)]
    exact rtakeNum_ev _ (by rw [List.length_drop]; omega)
  · exact ⟨(takeNum (L.drop a)).2.1.toNat, by omega, by omega⟩
theorem pay_take {lv n t : Int} {sh : Bool} {ws : List S39} (h : isI lv n t sh ws = true) {L : List UInt8} (hL : L = payI lv n t sh ws) :
    takeNum L = (lv, ((numL lv.toNat).length : Int), 0) ∧ takeNum (L.drop (numL lv.toNat).length) = (n, ((numL n.toNat).length : Int), 0) ∧ takeNum (L.drop ((numL lv.toNat).length + (numL n.toNat).length)) = (t, ((numL t.toNat).length : Int), 0) ∧
    L.drop ((numL lv.toNat).length + (numL n.toNat).length + (numL t.toNat).length) = (if sh = true then 1 else 0) :: wordsW ws := by
  obtain ⟨b1, b2, b3, _⟩ := isI_num h
  have d1 : L.drop (numL lv.toNat).length = numL n.toNat ++ (numL t.toNat ++ ((if sh = true then [1] else [0]) ++ wordsW ws)) := by rw [hL, payI, List.drop_left]
  have d2 : L.drop ((numL lv.toNat).length + (numL n.toNat).length) = numL t.toNat ++ ((if sh = true then [1] else [0]) ++ wordsW ws) := by rw [← List.drop_drop, d1, List.drop_left]
  have d3 : L.drop ((numL lv.toNat).length + (numL n.toNat).length + (numL t.toNat).length) = (if sh = true then 1 else 0) :: wordsW ws := by
    rw [← List.drop_drop, d2, List.drop_left]
    cases sh <;> rfl
  refine ⟨?_, ?_, ?_, d3⟩
  · rw [hL, payI, takeNum_num (by omega), Int.toNat_of_nonneg (by omega)]
  · rw [d1, takeNum_num (by omega), Int.toNat_of_nonneg (by omega)]
  · rw [d2, takeNum_num (by omega), Int.toNat_of_nonneg (by omega)]
theorem rreadI_ev (l : List UInt8) (hz : l.length ≤ 1000000) : Ev (fun k => ravelinref18_Read.f k (S l)) (flatI (readI l)) := by
  refine Ev.congr (fun k => ravelinref18_Read.f.eq_1 ..) (evBind (ropen_ev l (by omega)) ?_)
  by_cases ho : (openS l).2.2 = 0
  · have hok := openS_ok ho
    have fail : (readI l).2.2 ≠ 0 → Ev (fun _ => (some (0, 0, 0, false, ([] : List S39), 0, 10) : Option (Int × Int × Int × Bool × List S39 × Int × Int))) (flatI (readI l)) := by
      intro h
      rw [readI_bad h ho]
      exact evSome _
    have hv := fun h : (readI l).2.2 = 0 => pay_take (readI_inv h).2.2.1 (readI_inv h).2.1
    have hL : (openS l).1.length ≤ 1000000 := by omega
    refine evT ho (evT (by omega) ?_)
    show Ev (fun n => (ravelinref3_TakeNum.f n (S (openS l).1)).bind _) _
    have hof := fun {lv n t : Int} {sh : Bool} {w : List S39} (h2 : (bytesI lv n t sh w).2 = 0) (h3 : (bytesI lv n t sh w).1 = l.take (openS l).2.1.toNat) => readI_of ho h2 h3
    have hin := fun h : (readI l).2.2 = 0 => (readI_inv h)
    have hop : (openS l).2.1 = (((openS l).2.1.toNat : Nat) : Int) := by omega
    have hfst : (tr4 (openS l)).1 = S (openS l).1 := rfl
    have hsnd : (tr4 (openS l)).2.1 = (((openS l).2.1.toNat : Nat) : Int) := hop
    have hpl : (openS l).2.1.toNat ≤ l.length := by omega
    rw [hfst, hsnd]
    clear hfst hsnd hok
    generalize (openS l).2.1.toNat = p at *
    generalize (openS l).1 = b at *
    refine evBind (rtakeNum_ev b (by omega)) ?_
    by_cases x0 : (takeNum b).2.2 = 0
    · obtain ⟨_, a, xa, xl⟩ := take_at b hL 0 (Nat.zero_le _)
      rw [List.drop_zero] at xa
      rw [Nat.zero_add] at xl
      refine evT x0 ?_
      have wa : wrap64 (takeNum b).2.1 = (a : Int) := by rw [xa, w64 (by omega)]
      rw [wa]
      refine evT (by omega) (evT (by rw [S_size]; omega) ?_)
      obtain ⟨y1, c, yc, yl⟩ := take_at b hL a xl
      refine evBind y1 ?_
      by_cases y0 : (takeNum (b.drop a)).2.2 = 0
      · refine evT y0 ?_
        have wc : wrap64 ((a : Int) + (takeNum (b.drop a)).2.1) = ((a + c : Nat) : Int) := by rw [yc, wadd a c (by omega)]
        rw [wc]
        refine evT (by omega) (evT (by rw [S_size]; omega) ?_)
        obtain ⟨z1, d, zd, zl⟩ := take_at b hL (a + c) yl
        refine evBind z1 ?_
        by_cases z0 : (takeNum (b.drop (a + c))).2.2 = 0
        · refine evT z0 ?_
          have wd : wrap64 (((a + c : Nat) : Int) + (takeNum (b.drop (a + c))).2.1) = ((a + c + d : Nat) : Int) := by rw [zd, wadd (a + c) d (by omega)]
          rw [wd]
          have good : (readI l).2.2 = 0 → a = (numL (readI l).1.1.toNat).length ∧ c = (numL (readI l).1.2.1.toNat).length ∧ d = (numL (readI l).1.2.2.1.toNat).length ∧ (takeNum b).1 = (readI l).1.1 ∧ (takeNum (b.drop a)).1 = (readI l).1.2.1 ∧ (takeNum (b.drop (a + c))).1 = (readI l).1.2.2.1 ∧ b.drop (a + c + d) = (if (readI l).1.2.2.2.1 = true then 1 else 0) :: wordsW (readI l).1.2.2.2.2 := by
            intro h
            obtain ⟨q1, q2, q3, q4⟩ := hv h
            have e1 : a = (numL (readI l).1.1.toNat).length := by rw [q1] at xa; simp only at xa; omega
            rw [← e1] at q2 q3 q4
            have e2 : c = (numL (readI l).1.2.1.toNat).length := by rw [q2] at yc; simp only at yc; omega
            rw [← e2] at q3 q4
            have e3 : d = (numL (readI l).1.2.2.1.toNat).length := by rw [q3] at zd; simp only at zd; omega
            rw [← e3] at q4
            exact ⟨e1, e2, e3, by rw [q1], by rw [q2], by rw [q3], q4⟩
          by_cases he : ((a + c + d : Nat) : Int) = ((S b).size : Int)
          · refine evT he (fail (fun h => ?_))
            have := (good h).2.2.2.2.2.2
            rw [S_size] at he
            rw [List.drop_eq_nil_of_le (by omega)] at this
            cases this
          · refine evF he ?_
            rw [S_size] at he
            rw [wsucc (a + c + d) (by omega)]
            refine evT (by omega) (evT (by rw [S_size]; omega) ?_)
            have hex : (S b).extract (((a + c + d + 1 : Nat) : Int)).toNat (S b).size = S (b.drop (a + c + d + 1)) := by
              rw [S_extract, S_size, Int.toNat_natCast, List.take_of_length_le (by rw [List.length_drop]; omega)]
            rw [hex]
            obtain ⟨r, hr, hr1, hr2⟩ := rtake_ev (b.drop (a + c + d + 1)) (by rw [List.length_drop]; omega)
            refine evBind hr (evT (by omega) (evT (by rw [S_size]; omega) ?_))
            rw [bt_S, Int.toNat_natCast]
            have hb := rbytesI_ev (takeNum b).1 (takeNum (b.drop a)).1 (takeNum (b.drop (a + c))).1 (((b.getD (a + c + d) 0).toNat : Int) == 1) r.1 (by omega)
            refine evBind hb ?_
            have j0t : Ev (fun k => ravelinref18_Read.j0 k (p : Int) true (takeNum b).1 (takeNum (b.drop a)).1 (takeNum (b.drop (a + c))).1 (((b.getD (a + c + d) 0).toNat : Int) == 1) r.1) (0, 0, 0, false, ([] : List S39), 0, 10) := Ev.step (fun k => ravelinref18_Read.j0.eq_2 ..) (evT rfl (evSome _))
            by_cases hrd : (readI l).2.2 = 0
            · obtain ⟨e1, e2, e3, g1, g2, g3, g4⟩ := good hrd
              obtain ⟨_, i1, i2, i3, i4⟩ := hin hrd
              have hsh : (((b.getD (a + c + d) 0).toNat : Int) == 1) = (readI l).1.2.2.2.1 := by
                have : b.getD (a + c + d) 0 = (if (readI l).1.2.2.2.1 = true then 1 else 0) := by
                  have h := congrArg (fun z : List UInt8 => z.getD 0 0) g4
                  simp only [List.getD_eq_getElem?_getD, List.getElem?_drop, Nat.add_zero] at h
                  rw [List.getD_eq_getElem?_getD, h]; rfl
                rw [this]
                cases (readI l).1.2.2.2.1 <;> rfl
              have hdrop : b.drop (a + c + d + 1) = wordsW (readI l).1.2.2.2.2 := by rw [← List.drop_drop, g4]; rfl
              have hB : isB (readI l).1.2.2.2.2 = true := isI_B i2
              obtain ⟨f1, f2⟩ := hr2 _ hB hdrop
              rw [hsh, g1, g2, g3, f1]
              have hbb : bytesI (readI l).1.1 (readI l).1.2.1 (readI l).1.2.2.1 (readI l).1.2.2.2.1 (readI l).1.2.2.2.2 = (sealL b, 0) := by unfold bytesI; rw [if_pos i2, ← i1]
              rw [hbb]
              refine evT f2 (evT rfl (evT (by omega) (evT (by rw [S_size]; omega) ?_)))
              rw [S_extract, Nat.sub_zero, List.drop_zero, S_toList, S_toList, Int.toNat_natCast]
              have hne : (sealL b != l.take p) = false := by rw [i3]; simp
              rw [hne]
              refine Ev.step (fun k => ravelinref18_Read.j0.eq_2 ..) (evF (by simp) (evEq (evSome _) ?_))
              conv => rhs; rw [i4]
              rw [hop]; rfl
            · rw [readI_bad hrd ho]
              by_cases c1 : r.2.2 = true
              · refine evT c1 ?_
                by_cases c2 : (bytesI (takeNum b).1 (takeNum (b.drop a)).1 (takeNum (b.drop (a + c))).1 (((b.getD (a + c + d) 0).toNat : Int) == 1) r.1).2 = 0
                · refine evT (decide_eq_true c2) (evT (by omega) (evT (by rw [S_size]; omega) ?_))
                  rw [S_extract, Nat.sub_zero, List.drop_zero, S_toList, S_toList, Int.toNat_natCast]
                  by_cases c3 : (bytesI (takeNum b).1 (takeNum (b.drop a)).1 (takeNum (b.drop (a + c))).1 (((b.getD (a + c + d) 0).toNat : Int) == 1) r.1).1 = l.take p
                  · have := (hof c2 c3).2.2
                    rw [this] at hrd
                    exact absurd rfl hrd
                  · rw [show ((bytesI (takeNum b).1 (takeNum (b.drop a)).1 (takeNum (b.drop (a + c))).1 (((b.getD (a + c + d) 0).toNat : Int) == 1) r.1).1 != l.take p) = true from bne_iff_ne.2 c3]
                    exact j0t
                · exact evF (by simpa using c2) j0t
              · exact evF c1 j0t
        · exact evF z0 (fail (fun h => by
            obtain ⟨q1, q2, q3, q4⟩ := hv h
            have e1 : a = (numL (readI l).1.1.toNat).length := by rw [q1] at xa; simp only at xa; omega
            rw [← e1] at q2 q3
            have e2 : c = (numL (readI l).1.2.1.toNat).length := by rw [q2] at yc; simp only at yc; omega
            rw [← e2] at q3
            rw [q3] at z0; exact z0 rfl))
      · exact evF y0 (fail (fun h => by
          obtain ⟨q1, q2, q3, q4⟩ := hv h
          have e1 : a = (numL (readI l).1.1.toNat).length := by rw [q1] at xa; simp only at xa; omega
          rw [← e1] at q2
          rw [q2] at y0; exact y0 rfl))
    · exact evF x0 (fail (fun h => by rw [(hv h).1] at x0; exact x0 rfl))
  · refine evEq (evF ho (evSome _)) ?_
    unfold readI
    rw [if_neg ho]
    rfl
end Go.Proofs.Ytkmbgihfdfgmgaa.Q
