import Derived.Test.YtkmbgihfdfgmgaaQItemImpl
import Derived.Test.YtkmbgihfdfgmgaaM4
import Derived.Test.YtkmbgihfdfgmgaaM5
import Derived.Test.YtkmbgihfdfgmgaaM6
namespace Go.Proofs.Ytkmbgihfdfgmgaa.P
end Go.Proofs.Ytkmbgihfdfgmgaa.P
namespace Go.Proofs.Ytkmbgihfdfgmgaa.Q
end Go.Proofs.Ytkmbgihfdfgmgaa.Q
namespace Go.Proofs.Ytkmbgihfdfgmgaa.Q
open Go.RowKit Go.Proofs.Ytkmbgihfdfgmgaa.P Go.Proofs.YtkmbgihfdfgmgaaW.PrintWords Go.Proofs.YtkmbgihfdfgmgaaW.PrintLast Go.Proofs.YtkmbgihfdfgmgaaW.PrintMore
set_option linter.unusedVariables false
set_option linter.unusedSimpArgs false
theorem btake_l0 (L : List UInt8) (hz : L.length ≤ 1000000) (n : Int) (hn : n < 9223372036854775808) (f : Nat) : ∀ (a : Nat) (acc : List S39) (i e : Int), a ≤ L.length → L.length - a < f → acc.length ≤ a → 0 ≤ i →
    Ev (fun k => batch_Take.l0 k acc n i (S L) (a : Int) e) ((tkW L f acc n i a e).1, S L, ((tkW L f acc n i a e).2.1 : Int), (tkW L f acc n i a e).2.2) := by
  induction f with
  | zero => intro a acc i e h1 h2; omega
  | succ f ih =>
    intro a acc i e h1 h2 h3 h4
    rw [tkW]
    by_cases hi : i < n
    · rw [if_pos hi]
      have b1 := sT_le L a e h1
      have t1 := sT_ev L (by omega) a h1 e
      generalize sT L a e = x at *
      have b2 := sV_le L x.2.1 x.2.2 b1.2.1
      have t2 := sV_ev L (by omega) x.2.1 b1.2.1 x.2.2
      have b3 := sV_pos (L := L) (a := x.2.1) (e := x.2.2)
      generalize sV L x.2.1 x.2.2 = y at *
      refine Ev.step (fun k => batch_Take.l0.eq_2 ..) (evT hi (evBind t1 (evBind t2 ?_)))
      by_cases hy : y.2.2.2 = 0
      · have b4 := b3 hy
        rw [if_pos hy]
        refine evT hy (evT (by omega) ?_)
        rw [w64 (by omega)]
        exact ih y.2.2.1 _ (i + 1) y.2.2.2 (by omega) (by omega) (by rw [List.length_append]; simp only [List.length_cons, List.length_nil]; omega) (by omega)
      · rw [if_neg hy]
        exact evF hy (evSome _)
    · rw [if_neg hi]
      exact Ev.step (fun k => batch_Take.l0.eq_2 ..) (evF hi (evSome _))
theorem btake_ev (L : List UInt8) (hz : L.length ≤ 1000000) (a : Nat) (h : a ≤ L.length) (e : Int) :
    Ev (fun k => batch_Take.f k (S L) (a : Int) e) ((takeW L a e).1, S L, ((takeW L a e).2.1 : Int), (takeW L a e).2.2) := by
  have b := sN_le L a e h
  refine Ev.congr (fun k => batch_Take.f.eq_1 ..) (evBind (sN_ev L (by omega) a h e) ?_)
  exact btake_l0 L hz _ b.2.2.2 _ _ [] 0 _ b.2.1 (by omega) (by simp) (by omega)
theorem tkW_len (L : List UInt8) (n : Int) (f : Nat) : ∀ (a : Nat) (acc : List S39) (i e : Int), a ≤ L.length → acc.length ≤ a → (tkW L f acc n i a e).1.length ≤ L.length := by
  induction f with
  | zero => intro a acc i e h1 h2; simp only [tkW]; omega
  | succ f ih =>
    intro a acc i e h1 h2
    rw [tkW]
    split
    · have b1 := sT_le L a e h1
      generalize sT L a e = x at *
      have b2 := sV_le L x.2.1 x.2.2 b1.2.1
      have b3 := sV_pos (L := L) (a := x.2.1) (e := x.2.2)
      generalize sV L x.2.1 x.2.2 = y at *
      split
      · rename_i hy
        have b4 := b3 hy
        exact ih _ _ _ _ b2.2.1 (by rw [List.length_append]; simp only [List.length_cons, List.length_nil]; omega)
      · simp only; omega
    · simp only; omega
theorem takeI_len (L : List UInt8) : (takeI L).2.2.2.2.length ≤ L.length := by
  unfold takeI
  split
  · split
    · simp
    · rename_i h
      have b := sN_le L ((sN L (sN L (sN L 0 0).2.1 (sN L 0 0).2.2).2.1 (sN L (sN L 0 0).2.1 (sN L 0 0).2.2).2.2).2.1 + 1) 0 (by omega)
      exact tkW_len L _ _ _ _ _ _ b.2.1 (by simp)
  · simp
theorem itake_ev (L : List UInt8) (hz : L.length ≤ 1000000) : ∃ (a e : Int), Ev (fun k => item_take.f k (S L) 0 0) ((takeI L).1, (takeI L).2.1, (takeI L).2.2.1, (takeI L).2.2.2.1, (takeI L).2.2.2.2, S L, a, e) := by
  have t1 := sN_ev L (by omega) 0 (by omega) 0
  have b1 := sN_le L 0 0 (by omega)
  unfold takeI
  generalize sN L 0 0 = x at *
  have t2 := sN_ev L (by omega) x.2.1 b1.2.1 x.2.2
  have b2 := sN_le L x.2.1 x.2.2 b1.2.1
  generalize sN L x.2.1 x.2.2 = y at *
  have t3 := sN_ev L (by omega) y.2.1 b2.2.1 y.2.2
  have b3 := sN_le L y.2.1 y.2.2 b2.2.1
  generalize sN L y.2.1 y.2.2 = z at *
  by_cases h : z.2.2 = 0
  · rw [if_pos h]
    by_cases h2 : L.length ≤ z.2.1
    · rw [if_pos h2]
      exact ⟨_, _, Ev.congr (fun k => item_take.f.eq_1 ..) (evBind t1 (evBind t2 (evBind t3 (evT h (evT (by simp only [S_size]; omega) (evSome _))))))⟩
    · rw [if_neg h2]
      refine ⟨((takeW L (z.2.1 + 1) 0).2.1 : Int), (takeW L (z.2.1 + 1) 0).2.2, Ev.congr (fun k => item_take.f.eq_1 ..) (evBind t1 (evBind t2 (evBind t3 (evT h (evF (by simp only [S_size]; omega) (evT (by simp only; omega) (evT (by simp only [S_size]; omega) ?_)))))))⟩
      simp only
      rw [h, w64 (by omega), show (z.2.1 : Int) + 1 = ((z.2.1 + 1 : Nat) : Int) by omega]
      refine evBind (btake_ev L hz (z.2.1 + 1) (by omega) 0) (evEq (evSome _) ?_)
      have hb : (bt (S L) (z.2.1 : Int) == 1) = decide (L.getD z.2.1 0 = 1) := by
        rw [bt_S, Int.toNat_natCast]
        by_cases h1 : L.getD z.2.1 0 = 1
        · rw [h1]; rfl
        · rw [decide_eq_false h1]
          exact beq_false_of_ne (fun hh => h1 (byte_one.1 hh))
      rw [hb]
  · rw [if_neg h]
    exact ⟨_, _, Ev.congr (fun k => item_take.f.eq_1 ..) (evBind t1 (evBind t2 (evBind t3 (evF h (evSome _)))))⟩
def bytesT (x : Int × Int × Int × Bool × List S39) : List UInt8 × Int := bytesI x.1 x.2.1 x.2.2.1 x.2.2.2.1 x.2.2.2.2
/-- What is read at the front. -/
def readI (l : List UInt8) : (Int × Int × Int × Bool × List S39) × Int × Int :=
  if (openS l).2.2 = 0 then
    (if (bytesT (takeI (openS l).1)).2 = 0 ∧ (bytesT (takeI (openS l).1)).1 = l.take (openS l).2.1.toNat then (takeI (openS l).1, (openS l).2.1, 0) else ((0, 0, 0, false, []), 0, 10))
  else ((0, 0, 0, false, []), 0, (openS l).2.2)
def flatI (r : (Int × Int × Int × Bool × List S39) × Int × Int) : Int × Int × Int × Bool × List S39 × Int × Int := (r.1.1, r.1.2.1, r.1.2.2.1, r.1.2.2.2.1, r.1.2.2.2.2, r.2.1, r.2.2)
theorem read_ev (l : List UInt8) (hz : l.length ≤ 1000000) : Ev (fun k => item_Read.f k (S l)) (flatI (readI l)) := by
  refine Ev.congr (fun k => item_Read.f.eq_1 ..) (evBind (open_ev l (by omega)) ?_)
  unfold readI
  by_cases h : (openS l).2.2 = 0
  · rw [if_pos h]
    have ho := openS_ok h
    refine evT h ?_
    obtain ⟨a, e, ht⟩ := itake_ev (openS l).1 (by omega)
    refine evBind ht ?_
    have hl := takeI_len (openS l).1
    generalize takeI (openS l).1 = x at *
    refine evBind (ibytes_ev x.1 x.2.1 x.2.2.1 x.2.2.2.1 x.2.2.2.2 (by omega)) ?_
    show Ev (fun n => if (bytesT x).2 = 0 then _ else _) _
    by_cases h2 : (bytesT x).2 = 0
    · refine evT h2 (evT (by show 0 ≤ (openS l).2.1; omega) (evT (by rw [S_size]; show (openS l).2.1 ≤ _; omega) ?_))
      rw [S_extract, Nat.sub_zero, List.drop_zero, S_toList, S_toList]
      show Ev (fun n => if (bytesT x).1 = l.take (openS l).2.1.toNat then _ else _) _
      by_cases h3 : (bytesT x).1 = l.take (openS l).2.1.toNat
      · refine evEq (evT h3 (evSome _)) ?_
        rw [if_pos (And.intro h2 h3)]
        rfl
      · refine evEq (evF h3 (evSome _)) ?_
        rw [if_neg (fun hh : _ ∧ _ => h3 hh.2)]
        rfl
    · refine evEq (evF h2 (evSome _)) ?_
      rw [if_neg (fun hh : _ ∧ _ => h2 hh.1)]
      rfl
  · rw [if_neg h]
    exact evF h (evSome _)
/-! Alike -/
theorem write_ext {a b : S39} (h0 : a.f0.data.toList = b.f0.data.toList) (h1 : a.f1 = b.f1) (h2 : a.f2.data.toList = b.f2.data.toList) : a = b := by
  obtain ⟨a0, a1, a2⟩ := a
  obtain ⟨b0, b1, b2⟩ := b
  simp only at h0 h1 h2
  rw [← S_of a0, ← S_of b0, ← S_of a2, ← S_of b2, h0, h1, h2]
theorem eqW_l0 (a b : List S39) (hl : a.length = b.length) (hz : a.length ≤ 4611686018427387904) (d : Nat) : ∀ i : Nat, i ≤ a.length → a.length - i = d →
    ∃ r, Ev (fun k => api_Write_34.l0 k a b (a.length : Int) (i : Int)) r ∧ (r = true ↔ a.drop i = b.drop i) := by
  induction d with
  | zero =>
    intro i hi hd
    refine ⟨true, Ev.step (fun k => api_Write_34.l0.eq_2 ..) (evF (by omega) (evSome _)), ?_⟩
    rw [List.drop_eq_nil_of_le (by omega), List.drop_eq_nil_of_le (by omega)]
    simp
  | succ d ih =>
    intro i hi hd
    have hi2 : i < a.length := by omega
    have hi3 : i < b.length := by omega
    obtain ⟨r, hr, hr2⟩ := ih (i + 1) (by omega) (by omega)
    have e : wrap64 ((i : Int) + 1) = ((i + 1 : Nat) : Int) := by rw [w64 (by omega)]; omega
    rw [getD_cons hi2, getD_cons hi3]
    by_cases hc : a.getD i z39 = b.getD i z39
    · refine ⟨r, Ev.step (fun k => api_Write_34.l0.eq_2 ..) (evT (by omega) (evT (by omega) (evT (by omega) (evT (by omega) ?_)))), ?_⟩
      · rw [rd_at, rd_at, hc, e]
        exact evF (by simp) hr
      · rw [hr2, hc]; simp
    · refine ⟨false, Ev.step (fun k => api_Write_34.l0.eq_2 ..) (evT (by omega) (evT (by omega) (evT (by omega) (evT (by omega) ?_)))), ?_⟩
      · rw [rd_at, rd_at]
        generalize a.getD i z39 = x at *
        generalize b.getD i z39 = y at *
        refine evT ?_ (evSome _)
        rw [toL, toL, toL, toL]
        by_cases h0 : x.f0.data.toList = y.f0.data.toList
        · by_cases h1 : x.f1 = y.f1
          · by_cases h2 : x.f2.data.toList = y.f2.data.toList
            · exact absurd (write_ext h0 h1 h2) hc
            · rw [beq_false_of_ne h2]; simp
          · rw [beq_false_of_ne h1]; simp
        · rw [beq_false_of_ne h0]; simp
      · simp only [Bool.false_eq_true, List.cons.injEq, false_iff]
        exact fun hh => hc hh.1
theorem same_ev (lv n t : Int) (sh : Bool) (a : List S39) (lv' n' t' : Int) (sh' : Bool) (b : List S39) (hz : a.length ≤ 4611686018427387904) :
    ∃ r, Ev (fun k => item_Same.f k lv n t sh a lv' n' t' sh' b) r ∧ (r = true ↔ (lv, n, t, sh, a) = (lv', n', t', sh', b)) := by
  by_cases h1 : lv = lv'
  · by_cases h2 : n = n'
    · by_cases h3 : t = t'
      · by_cases h4 : sh = sh'
        · by_cases hl : a.length = b.length
          · obtain ⟨r, hr, hr2⟩ := eqW_l0 a b hl hz _ 0 (by omega) rfl
            refine ⟨r, Ev.congr (fun k => item_Same.f.eq_1 ..) (evT h1 (evT h2 (evT h3 (evT (by simp [h4]) (evBind (Ev.congr (fun k => api_Write_34.f.eq_1 ..) (evT (by omega) hr)) (evSome _)))))), ?_⟩
            rw [hr2]
            simp [h1, h2, h3, h4]
          · refine ⟨false, Ev.congr (fun k => item_Same.f.eq_1 ..) (evT h1 (evT h2 (evT h3 (evT (by simp [h4]) (evBind (Ev.congr (fun k => api_Write_34.f.eq_1 ..) (evF (by omega) (evSome _))) (evSome _)))))), ?_⟩
            simp only [Bool.false_eq_true, Prod.mk.injEq, false_iff]
            rintro ⟨_, _, _, _, rfl⟩
            exact hl rfl
        · refine ⟨false, Ev.congr (fun k => item_Same.f.eq_1 ..) (evT h1 (evT h2 (evT h3 (evF (by simp [h4]) (evSome _))))), ?_⟩
          simp [h4]
      · refine ⟨false, Ev.congr (fun k => item_Same.f.eq_1 ..) (evT h1 (evT h2 (evF h3 (evSome _)))), ?_⟩
        simp [h3]
    · refine ⟨false, Ev.congr (fun k => item_Same.f.eq_1 ..) (evT h1 (evF h2 (evSome _))), ?_⟩
      simp [h2]
  · refine ⟨false, Ev.congr (fun k => item_Same.f.eq_1 ..) (evF h1 (evSome _)), ?_⟩
    simp [h1]
end Go.Proofs.Ytkmbgihfdfgmgaa.Q
