import Derived.Test.YthohfmfgijckhaaQBlockImpl
import Derived.Test.YthohfmfgijckhaaM8
import Derived.Test.YthohfmfgijckhaaM11
import Derived.Test.YthohfmfgijckhaaM6
import Derived.Test.YthohfmfgijckhaaM10
namespace Go.Proofs.Ythohfmfgijckhaa.P
end Go.Proofs.Ythohfmfgijckhaa.P
namespace Go.Proofs.Ythohfmfgijckhaa.Q
end Go.Proofs.Ythohfmfgijckhaa.Q
namespace Go.Proofs.Ythohfmfgijckhaa.Q
open Go.RowKit Go.Proofs.Ythohfmfgijckhaa.P Go.Proofs.YthohfmfgijckhaaW.PrintWords Go.Proofs.YthohfmfgijckhaaW.PrintLast Go.Proofs.YthohfmfgijckhaaW.PrintMore
set_option linter.unusedVariables false
set_option linter.unusedSimpArgs false
theorem rblock_l1 (l : List S45) (hl : l.length ≤ 1000000000) (hall : l.all isE = true) (d : Nat) : ∀ (i : Nat) (acc ahead : List UInt8), i ≤ l.length → l.length - i = d → acc.length ≤ 70 * i → ahead.length ≤ 13 →
    Ev (fun k => ravelinref6_Block.l1 k l (S acc) (S ahead) (i : Int)) (S (sealL (acc ++ wordsB ahead (l.drop i))), 0) := by
  induction d with
  | zero =>
    intro i acc ahead hil hd ha hh
    refine Ev.step (fun k => ravelinref6_Block.l1.eq_2 ..) (evF (by omega) ?_)
    rw [List.drop_eq_nil_of_le (by omega)]
    simp only [wordsB, List.append_nil]
    exact evBind (rseal_ev acc (by omega)) (evSome _)
  | succ d ih =>
    intro i acc ahead hil hd ha hh
    have hi : i < l.length := by omega
    refine Ev.step (fun k => ravelinref6_Block.l1.eq_2 ..) (evT (by omega) (evT (by omega) ?_))
    rw [rd_at, words_drop ahead l i hi]
    have he := all_get hall i hi
    generalize l.getD i z45 = x at he ⊢
    have h1 := isF_iff.1 he
    have hr := row_le (ahead := ahead) he
    have hs := shared_le ahead (ky x)
    have e0 : x.f0 = S (ky x) := (S_of _).symm
    have e3 : x.f3 = S (vl x) := (S_of _).symm
    rw [e0, e3]
    have hc := shared_comm (ky x) ahead
    have hsh := rshared_ev (ky x) ahead (by omega)
    rw [hc] at hsh
    refine evBind hsh (evBind (rnum_ev _ (by omega)) ?_)
    simp only [rowB, List.length_append] at hr
    have hd0 : ((ky x).drop (sharedL ahead (ky x))).length ≤ 13 := by rw [List.length_drop]; omega
    rw [S_size, S_size, Int.toNat_natCast]
    refine evT (by omega) (evT (by omega) (evT (by rw [S_size]; omega) ?_))
    rw [S_extract, S_size, List.take_of_length_le (by rw [List.length_drop]; exact Nat.le_refl _)]
    refine evBind (rtext_ev _ (by omega)) ?_
    rw [S_append, S_size, S_size]
    refine evT (by rw [List.length_append]; omega) (evBind (rTail_ev _ _ _ _ (by omega) (by omega)) ?_)
    rw [S_append, S_size, S_size]
    refine evT (by simp only [List.length_append]; omega) ?_
    rw [S_append, w64 (by omega), show (i : Int) + 1 = ((i + 1 : Nat) : Int) by omega]
    refine evEq (ih (i + 1) _ (ky x) (by omega) (by omega) (by simp only [List.length_append]; omega) (by omega)) ?_
    simp only [rowB, List.append_assoc]
theorem rblock_l0 (l : List S45) (hl : l.length ≤ 1000000000) (d : Nat) : ∀ i : Nat, l.length - i = d → (l.take i).all isE = true →
    Ev (fun k => ravelinref6_Block.l0 k l (i : Int)) (if (l.drop i).all isE = true then (if l = [] then (S [], 10) else if sortedB l = true then (S (sealL (wordsB [] l)), 0) else (S [], 16)) else (S [], 10)) := by
  induction d with
  | zero =>
    intro i hd ht
    have hall : l.all isE = true := by rw [List.take_of_length_le (by omega)] at ht; exact ht
    refine Ev.step (fun k => ravelinref6_Block.l0.eq_2 ..) (evF (by omega) ?_)
    rw [List.drop_eq_nil_of_le (by omega)]
    rw [if_pos (by rfl)]
    by_cases h : l = []
    · rw [if_pos h]
      subst h
      exact evT rfl (evSome _)
    · have hp : 0 < l.length := List.length_pos_iff.2 h
      rw [if_neg h]
      refine evF (by omega) (evBind (rsorted_ev l (by omega)) ?_)
      by_cases hs : sortedB l = true
      · rw [if_pos hs]
        exact evT hs (rblock_l1 l hl hall _ 0 [] [] (by omega) rfl (by simp) (by simp))
      · rw [if_neg hs]
        exact evF hs (evSome _)
  | succ d ih =>
    intro i hd ht
    have hi : i < l.length := by omega
    refine Ev.step (fun k => ravelinref6_Block.l0.eq_2 ..) (evT (by omega) (evT (by omega) ?_))
    rw [rd_at, drop_cons l z45 i hi, List.all_cons]
    refine evConst (ris_ev _ _ _ _) ?_
    by_cases he : isE (l.getD i z45) = true
    · refine evT he ?_
      rw [w64 (by omega), show (i : Int) + 1 = ((i + 1 : Nat) : Int) by omega, he, Bool.true_and]
      refine ih (i + 1) (by omega) ?_
      rw [List.all_eq_true] at ht ⊢
      intro x hx
      rw [List.take_succ_eq_append_getElem hi, List.mem_append] at hx
      rcases hx with hx | hx
      · exact ht x hx
      · rw [List.mem_singleton] at hx
        subst hx
        rw [List.getD_eq_getElem?_getD, List.getElem?_eq_getElem hi] at he
        exact he
    · refine evF he (evEq (evSome _) ?_)
      rw [Bool.not_eq_true] at he
      rw [he, Bool.false_and, if_neg (by simp)]
      rfl
theorem rblock_ev (l : List S45) (hl : l.length ≤ 1000000000) : Ev (fun k => ravelinref6_Block.f k l) (S (makeB l).1, (makeB l).2) := by
  refine Ev.congr (fun k => ravelinref6_Block.f.eq_1 ..) (evEq (rblock_l0 l hl _ 0 rfl (by rfl)) ?_)
  rw [List.drop_zero]
  unfold makeB
  by_cases h : l = []
  · subst h; rfl
  · rw [if_neg h, if_neg h]
    repeat' split
    all_goals rfl
theorem ext_end (L : List UInt8) (i : Nat) : (S L).extract i L.length = S (L.drop i) := by
  rw [S_extract, List.take_of_length_le (by rw [List.length_drop]; exact Nat.le_refl _)]
/-! What the reference reads -/
def finB (s : List UInt8) (r : List S45) : List S45 × Int := if makeB r = (s, 0) then (r, 0) else ([], 10)
theorem finB_bad {s : List UInt8} {r : List S45} (h : ¬ r.all isE = true) : finB s r = ([], 10) := by
  unfold finB
  rw [if_neg]
  intro hm
  exact h (makeB_ok (l := r) (by rw [hm])).2.1
theorem finB_ev (s : List UInt8) (r : List S45) (hr : r.length ≤ 1000000000) : Ev (fun k => (ravelinref6_Block.f k r).bind fun b => (if b.2 = 0 then (if b.1.toList = (S s).toList then (some (r, (0 : Int))) else (some (([] : List S45), (10 : Int)))) else (some (([] : List S45), (10 : Int))))) (finB s r) := by
  refine evBind (rblock_ev r hr) ?_
  unfold finB
  simp only
  by_cases h2 : (makeB r).2 = 0
  · refine evT h2 ?_
    by_cases h3 : (makeB r).1 = s
    · rw [if_pos (Prod.ext h3 h2)]
      exact evT (by rw [h3]) (evSome _)
    · rw [if_neg (fun h => h3 (congrArg Prod.fst h))]
      exact evF (by rw [S_toList, S_toList]; exact h3) (evSome _)
  · rw [if_neg (fun h => h2 (congrArg Prod.snd h))]
    exact evF h2 (evSome _)
theorem rread_l0 (s L : List UInt8) (hz : L.length ≤ 1000000) (m : Nat) : ∀ (a : Nat) (acc : List S45) (last : List UInt8), a ≤ L.length → L.length - a ≤ m → acc.length ≤ a → last.length ≤ a →
    Ev (fun k => ravelinref6_ReadBlock.l0 k (S s) (S L) acc (S last) (a : Int)) (match takeB m last (L.drop a) with | some r => finB s (acc ++ r) | none => ([], 10)) := by
  induction m with
  | zero =>
    intro a acc last h1 h2 h3 h4
    obtain rfl : a = L.length := by omega
    rw [List.drop_length]
    simp only [takeB, if_true, List.append_nil]
    exact Ev.step (fun k => ravelinref6_ReadBlock.l0.eq_2 ..) (evF (by rw [S_size]; omega) (finB_ev s acc (by omega)))
  | succ m ih =>
    intro a acc last h1 h2 h3 h4
    by_cases ha : a = L.length
    · subst ha
      rw [List.drop_length]
      simp only [takeB, if_true, List.append_nil]
      exact Ev.step (fun k => ravelinref6_ReadBlock.l0.eq_2 ..) (evF (by rw [S_size]; omega) (finB_ev s acc (by omega)))
    · have hlt : a < L.length := by omega
      have hne : ¬ L.drop a = [] := by
        intro hn
        have := congrArg List.length hn
        rw [List.length_drop, List.length_nil] at this
        omega
      have b1 := takeNum_bounds (L.drop a)
      rw [List.length_drop] at b1
      have hj : Ev (fun k => ravelinref6_ReadBlock.j1 k (S s) (S L) acc (S last) (a : Int) (takeNum (L.drop a)).1 (takeNum (L.drop a)).2.1 true) (([] : List S45), (10 : Int)) :=
        Ev.step (fun k => ravelinref6_ReadBlock.j1.eq_2 ..) (evT rfl (evSome _))
      rw [takeB, if_neg hne]
      refine Ev.step (fun k => ravelinref6_ReadBlock.l0.eq_2 ..) (evT (by rw [S_size]; omega) (evT (by omega) (evT (by rw [S_size]; omega) ?_)))
      rw [S_extract, S_size, Int.toNat_natCast, List.take_of_length_le (by rw [List.length_drop]; exact Nat.le_refl _)]
      refine evBind (rtakeNum_ev _ (by rw [List.length_drop]; omega)) ?_
      by_cases e1 : (takeNum (L.drop a)).2.2 = 0
      · refine evT e1 ?_
        by_cases e2 : (takeNum (L.drop a)).1 ≤ last.length
        · rw [decide_eq_false (by rw [S_size]; omega)]
          have hi : (takeNum (L.drop a)).2.1 = (((takeNum (L.drop a)).2.1.toNat : Nat) : Int) := by omega
          refine Ev.step (fun k => ravelinref6_ReadBlock.j1.eq_2 ..) (evF (by simp) ?_)
          rw [w64 (n := (a : Int) + (takeNum (L.drop a)).2.1) (by omega)]
          refine evT (by omega) (evT (by rw [S_size]; omega) ?_)
          rw [S_extract, S_size, show ((a : Int) + (takeNum (L.drop a)).2.1).toNat = a + (takeNum (L.drop a)).2.1.toNat by omega, List.take_of_length_le (by rw [List.length_drop]; exact Nat.le_refl _)]
          have b2 := takeText_bounds (L.drop (a + (takeNum (L.drop a)).2.1.toNat))
          rw [List.length_drop] at b2
          refine evBind (rtakeText_ev _ (by rw [List.length_drop]; omega)) ?_
          by_cases e3 : (takeText (L.drop (a + (takeNum (L.drop a)).2.1.toNat))).2.2 = 0
          · refine evT e3 ?_
            simp only [tr]
            have ht : last.take ((takeNum (L.drop a)).1.toNat) = last.take (takeNum (L.drop a)).1.toNat := rfl
            rw [S_extract, S_append, List.drop_zero, Nat.sub_zero, S_size, S_size]
            refine evT (by omega) (evT (by omega) (evT (by rw [S_size, List.length_take]; omega) ?_))
            simp only [w64 (n := (a : Int) + (takeNum (L.drop a)).2.1 + (takeText (L.drop (a + (takeNum (L.drop a)).2.1.toNat))).2.1) (by omega)]
            refine evT (by omega) (evT (by omega) ?_)
            rw [show ((a : Int) + (takeNum (L.drop a)).2.1 + (takeText (L.drop (a + (takeNum (L.drop a)).2.1.toNat))).2.1).toNat = a + ((takeNum (L.drop a)).2.1.toNat + (takeText (L.drop (a + (takeNum (L.drop a)).2.1.toNat))).2.1.toNat) by omega, ext_end]
            refine evBind (rtail_ev _ _ (by rw [List.length_drop]; omega)) ?_
            have hrow := rowT_at last L a _ _ _ rfl rfl rfl
            have hin := takeText_in (L.drop (a + (takeNum (L.drop a)).2.1.toNat))
            generalize hi2 : (takeNum (L.drop a)).2.1.toNat = i at *
            generalize hT : takeText (L.drop (a + i)) = T at *
            generalize hD : a + (i + T.2.1.toNat) = D at *
            have b3 := takeNum_bounds (L.drop D)
            rw [List.length_drop] at b3
            by_cases e4 : (takeNum (L.drop D)).2.2 = 0
            · rw [if_pos e4, tailE_val, List.drop_drop]
              have b4 := takeVal_bounds (L.drop (D + (takeNum (L.drop D)).2.1.toNat))
              rw [List.length_drop] at b4
              by_cases e5 : (takeVal (L.drop (D + (takeNum (L.drop D)).2.1.toNat))).2.2.2 = 0
              · have hrow2 : rowT last (L.drop a) = some (last.take (takeNum (L.drop a)).1.toNat ++ T.1, (takeNum (L.drop D)).1, (takeVal (L.drop (D + (takeNum (L.drop D)).2.1.toNat))).1, (takeVal (L.drop (D + (takeNum (L.drop D)).2.1.toNat))).2.1, i + T.2.1.toNat + (takeNum (L.drop D)).2.1.toNat + (takeVal (L.drop (D + (takeNum (L.drop D)).2.1.toNat))).2.2.1.toNat) := by
                  rw [hrow, if_pos ⟨e1, e2, e3, e4, e5⟩, show D + (takeNum (L.drop D)).2.1.toNat - a = i + T.2.1.toNat + (takeNum (L.drop D)).2.1.toNat by omega]
                have hp := rowT_pos hrow2
                rw [List.length_drop] at hp
                rw [if_pos e5, hrow2]
                simp only [Option.bind_some]
                unfold finE
                by_cases e6 : isF (last.take (takeNum (L.drop a)).1.toNat ++ T.1) (takeNum (L.drop D)).1 (takeVal (L.drop (D + (takeNum (L.drop D)).2.1.toNat))).1 (takeVal (L.drop (D + (takeNum (L.drop D)).2.1.toNat))).2.1 = true
                · rw [if_pos e6]
                  refine evT rfl (evT (by omega) ?_)
                  simp only [tr6]
                  rw [w64 (by omega), show (a : Int) + (takeNum (L.drop a)).2.1 + T.2.1 + ((takeNum (L.drop D)).2.1 + (takeVal (L.drop (D + (takeNum (L.drop D)).2.1.toNat))).2.2.1) = ((a + (i + T.2.1.toNat + (takeNum (L.drop D)).2.1.toNat + (takeVal (L.drop (D + (takeNum (L.drop D)).2.1.toNat))).2.2.1.toNat) : Nat) : Int) by omega]
                  refine evEq (ih _ _ _ (by omega) (by omega) (by rw [List.length_append]; simp; omega) (by rw [List.length_append, List.length_take]; omega)) ?_
                  rw [List.drop_drop]
                  cases takeB m (last.take (takeNum (L.drop a)).1.toNat ++ T.1) (L.drop (a + (i + T.2.1.toNat + (takeNum (L.drop D)).2.1.toNat + (takeVal (L.drop (D + (takeNum (L.drop D)).2.1.toNat))).2.2.1.toNat))) with
                  | none => rfl
                  | some r => simp only [Option.map_some, List.append_assoc, List.singleton_append]; rfl
                · rw [if_neg e6]
                  refine evF (by simp [tr6]) (evEq (evSome _) ?_)
                  cases takeB m (last.take (takeNum (L.drop a)).1.toNat ++ T.1) ((L.drop a).drop (i + T.2.1.toNat + (takeNum (L.drop D)).2.1.toNat + (takeVal (L.drop (D + (takeNum (L.drop D)).2.1.toNat))).2.2.1.toNat)) with
                  | none => rfl
                  | some r =>
                    simp only [Option.map_some]
                    rw [finB_bad]
                    intro hall
                    rw [List.all_append, List.all_cons, Bool.and_eq_true, Bool.and_eq_true] at hall
                    exact e6 hall.2.1
              · rw [if_neg e5]
                refine evF (by simpa [tr6, badE] using e5) (evEq (evSome _) ?_)
                rw [hrow, if_neg (fun h => e5 h.2.2.2.2)]
                rfl
            · rw [if_neg e4]
              refine evF (by simpa [tr6, badE] using e4) (evEq (evSome _) ?_)
              rw [hrow, if_neg (fun h => e4 h.2.2.2.1)]
              rfl
          · refine evF e3 (evEq (evSome _) ?_)
            have hrow : rowT last (L.drop a) = none := by
              unfold rowT
              simp only [List.drop_drop]
              rw [if_neg (fun h => e3 h.2.2.1)]
            rw [hrow]; rfl
        · rw [decide_eq_true (by rw [S_size]; omega)]
          refine evEq hj ?_
          have hrow : rowT last (L.drop a) = none := by
            unfold rowT
            simp only
            rw [if_neg (fun h => e2 h.2.1)]
          rw [hrow]; rfl
      · refine evF e1 (evEq hj ?_)
        have hrow : rowT last (L.drop a) = none := by
          unfold rowT
          simp only
          rw [if_neg (fun h => e1 h.1)]
        rw [hrow]; rfl
theorem rbread_ev (l : List UInt8) (hz : l.length ≤ 1000000) : Ev (fun k => ravelinref6_ReadBlock.f k (S l)) (readB l) := by
  refine Ev.congr (fun k => ravelinref6_ReadBlock.f.eq_1 ..) (evBind (ropen_ev l (by omega)) ?_)
  rw [S_size]
  unfold readB
  by_cases h0 : (openS l).2.2 = 0
  · have hk := openS_ok h0
    rw [if_pos h0]
    refine evT h0 ?_
    by_cases h1 : (openS l).2.1 < (l.length : Int)
    · rw [if_pos h1]
      exact evF (by simp only [tr4]; omega) (evSome _)
    · rw [if_neg h1]
      refine evT (by simp only [tr4]; omega) (evEq (rread_l0 l (openS l).1 (by omega) (openS l).1.length 0 [] [] (by omega) (by omega) (by simp) (by simp)) ?_)
      rw [List.drop_zero]
      simp only [List.nil_append, finB, Nat.sub_zero]
      rfl
  · rw [if_neg h0]
    exact evF h0 (evSome _)
/-! Rows that are one -/
theorem same_l0 (l : List S45) (hl : l.length ≤ 9223372036854775807) (d : Nat) : ∀ i : Nat, l.length - i = d → Ev (fun k => ravelinref6_Same.l0 k l l (i : Int)) true := by
  induction d with
  | zero => intro i hi; exact Ev.step (fun k => ravelinref6_Same.l0.eq_2 ..) (evF (by omega) (evSome _))
  | succ d ih =>
    intro i hi
    refine Ev.step (fun k => ravelinref6_Same.l0.eq_2 ..) (evT (by omega) (evT (by omega) (evT (by omega) (evF (by simp) ?_))))
    rw [w64 (by omega), show (i : Int) + 1 = ((i + 1 : Nat) : Int) by omega]
    exact ih (i + 1) (by omega)
theorem same_ev (l : List S45) (hl : l.length ≤ 9223372036854775807) : Ev (fun k => ravelinref6_Same.f k l l) true :=
  Ev.congr (fun k => ravelinref6_Same.f.eq_1 ..) (evT rfl (same_l0 l hl _ 0 rfl))
end Go.Proofs.Ythohfmfgijckhaa.Q
