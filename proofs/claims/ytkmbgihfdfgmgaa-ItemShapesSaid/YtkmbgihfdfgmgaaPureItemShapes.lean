/- Proved: the law ItemShapes is true of every three numbers, whether shut, every two bytes. -/
import Derived.Test.YtkmbgihfdfgmgaaQKnown18
import Derived.Test.YtkmbgihfdfgmgaaPx19
namespace Go.Proofs.Ytkmbgihfdfgmgaa.P
end Go.Proofs.Ytkmbgihfdfgmgaa.P
namespace Go.Proofs.Ytkmbgihfdfgmgaa.Q
end Go.Proofs.Ytkmbgihfdfgmgaa.Q
namespace Go.Proofs.Ytkmbgihfdfgmgaa.Pure
open Go.RowKit Go.Proofs.Ytkmbgihfdfgmgaa.P Go.Proofs.YtkmbgihfdfgmgaaW.PrintWords Go.Proofs.YtkmbgihfdfgmgaaW.PrintLast Go.Proofs.YtkmbgihfdfgmgaaW.PrintMore Go.Proofs.Ytkmbgihfdfgmgaa.Q
set_option linter.unusedVariables false
set_option linter.unusedSimpArgs false
def okR (lv n t : Int) : Bool := (decide (0 ≤ lv) && decide (lv ≤ 5)) && ((decide (1 ≤ n) && decide (n ≤ 1000000)) && (decide (0 ≤ t) && decide (t ≤ 1000000)))
def shapeB (sh : Bool) (ws : List S39) : Bool := if (sh || ws.isEmpty) = true then sh && ws.isEmpty else shortB ws && isB ws
theorem isI_split (lv n t : Int) (sh : Bool) (ws : List S39) : isI lv n t sh ws = (okR lv n t && shapeB sh ws) := by
  unfold isI okR shapeB
  simp only [Bool.and_assoc]
def rowsK (w : Nat) : List S39 := (List.range w).map fun j => mkW [UInt8.ofNat (97 + j)] false [118]
def zeroK (k : Nat) : List S39 := [mkW (List.replicate k 0) false []]
theorem shapeA : ∀ w : Fin 11, ∀ sh : Bool, shapeB sh (rowsK w.val) = (if sh = true then decide (w.val = 0) else (decide (1 ≤ w.val) && decide (w.val ≤ 8))) := by decide +kernel
theorem shapeZ : ∀ k : Fin 16, shapeB false (zeroK k.val) = (decide (1 ≤ k.val) && decide (k.val ≤ 12)) := by decide +kernel
theorem shapes_j2 (lv n t : Int) (sh : Bool) (ws zs : List S39) (hw : ws.length ≤ 100) (hz : zs.length ≤ 100) :
    Ev (fun k => ravelinlaw18_ItemShapes.j2 k (isI lv n t sh ws) (isI lv n t false zs) lv n t sh ws lv n t false zs) true := by
  refine Ev.step (fun k => ravelinlaw18_ItemShapes.j2.eq_2 ..) (evBind (ibytes_ev lv n t sh ws (by omega)) (evBind (is_ev lv n t sh ws (by omega)) (evT (by simp) (evT ?_ (evBind (is_ev lv n t false zs (by omega)) (evEq (evSome _) (by simp)))))))
  unfold bytesI
  cases isI lv n t sh ws <;> simp
theorem okR_no {lv n t : Int} (h : ¬ (0 ≤ lv ∧ lv ≤ 5 ∧ 1 ≤ n ∧ n ≤ 1000000 ∧ 0 ≤ t ∧ t ≤ 1000000)) (sh : Bool) (ws : List S39) : isI lv n t sh ws = false := by
  rw [isI_split]
  have : okR lv n t = false := by
    cases hc : okR lv n t with
    | false => rfl
    | true =>
      unfold okR at hc
      simp only [Bool.and_eq_true, decide_eq_true_eq] at hc
      exact absurd ⟨hc.1.1, hc.1.2, hc.2.1.1, hc.2.1.2, hc.2.2.1, hc.2.2.2⟩ h
  rw [this, Bool.false_and]
theorem okR_yes {lv n t : Int} (h : 0 ≤ lv ∧ lv ≤ 5 ∧ 1 ≤ n ∧ n ≤ 1000000 ∧ 0 ≤ t ∧ t ≤ 1000000) (sh : Bool) (ws : List S39) : isI lv n t sh ws = shapeB sh ws := by
  rw [isI_split]
  have : okR lv n t = true := by
    unfold okR
    simp only [Bool.and_eq_true, decide_eq_true_eq]
    exact ⟨⟨h.1, h.2.1⟩, ⟨h.2.2.1, h.2.2.2.1⟩, h.2.2.2.2⟩
  rw [this, Bool.true_and]
theorem zeros (k : Nat) : strOfNums (List.replicate k 0) = S (List.replicate k 0) := by
  rw [← strOf']
  congr 1
  simp [nm]
theorem shapes_j1 (lv n t : Int) (sh : Bool) (ws : List S39) (hw : ws.length ≤ 100) (u : Nat) (hu : u ≤ 255) :
    Ev (fun k => ravelinlaw18_ItemShapes.j1 k lv n t (u : Int) (isI lv n t sh ws) lv n t sh ws) true := by
  have e : wrap64 (Int.tmod (u : Int) 16) = ((u % 16 : Nat) : Int) := by
    rw [Int.tmod_eq_emod_of_nonneg (by omega), w64 (by omega)]; omega
  have hm : u % 16 < 16 := Nat.mod_lt _ (by omega)
  refine Ev.step (fun k => ravelinlaw18_ItemShapes.j1.eq_2 ..) ?_
  rw [e, Int.toNat_natCast, zeros]
  generalize u % 16 = m at *
  refine evT (by omega) (evT (by omega) (evConst rfl ?_))
  have E := shapes_j2 lv n t sh ws (zeroK m) hw (by simp [zeroK])
  by_cases h : 0 ≤ lv ∧ lv ≤ 5 ∧ 1 ≤ n ∧ n ≤ 1000000 ∧ 0 ≤ t ∧ t ≤ 1000000
  · rw [okR_yes h false (zeroK m), shapeZ ⟨m, hm⟩] at E
    refine evT h.1 (evT (by omega) (evT h.2.2.1 (evT h.2.2.2.1 (evT h.2.2.2.2.1 (evT h.2.2.2.2.2 ?_)))))
    by_cases h1 : 1 ≤ m
    · rw [decide_eq_true h1, Bool.true_and] at E
      refine evT (by omega) ?_
      rw [show decide ((m : Int) ≤ 12) = decide (m ≤ 12) by rw [decide_eq_decide]; omega]
      exact E
    · rw [decide_eq_false h1, Bool.false_and] at E
      exact evF (by omega) E
  · rw [okR_no h false (zeroK m)] at E
    by_cases h1 : lv ≥ 0
    · refine evT h1 ?_
      by_cases h2 : lv < 6
      · refine evT h2 ?_
        by_cases h3 : n ≥ 1
        · refine evT h3 ?_
          by_cases h4 : n ≤ 1000000
          · refine evT h4 ?_
            by_cases h5 : t ≥ 0
            · refine evT h5 ?_
              by_cases h6 : t ≤ 1000000
              · exact absurd ⟨h1, by omega, h3, h4, h5, h6⟩ h
              · exact evF h6 E
            · exact evF h5 E
          · exact evF h4 E
        · exact evF h3 E
      · exact evF h2 E
    · exact evF h1 E
theorem one_byte (i : Nat) (h : i ≤ 100) : strOfNums (([(wrap64 (97 + (i : Int))) % 256] : List Int)) = S [UInt8.ofNat (97 + i)] := by
  rw [← strOf']
  congr 1
  simp only [nm, List.map_cons, List.map_nil]
  rw [w64 (by omega), show (97 : Int) + (i : Int) = ((97 + i : Nat) : Int) by omega, byte_mod]
theorem shapes_l0 (lv n t : Int) (sh : Bool) (u w : Nat) (hu : u ≤ 255) (hw : w ≤ 10) (d : Nat) : ∀ i : Nat, i ≤ w → w - i = d →
    Ev (fun k => ravelinlaw18_ItemShapes.l0 k lv n t sh (u : Int) (w : Int) (i : Int) lv n t sh (rowsK i)) true := by
  induction d with
  | zero =>
    intro i hi hd
    obtain rfl : i = w := by omega
    refine Ev.step (fun k => ravelinlaw18_ItemShapes.l0.eq_2 ..) (evF (by omega) ?_)
    have E := shapes_j1 lv n t sh (rowsK i) (by simp [rowsK]; omega) u hu
    by_cases h : 0 ≤ lv ∧ lv ≤ 5 ∧ 1 ≤ n ∧ n ≤ 1000000 ∧ 0 ≤ t ∧ t ≤ 1000000
    · rw [okR_yes h sh (rowsK i), shapeA ⟨i, by omega⟩ sh] at E
      refine evT h.1 (evT (by omega) (evT h.2.2.1 (evT h.2.2.2.1 (evT h.2.2.2.2.1 (evT h.2.2.2.2.2 ?_)))))
      cases sh with
      | true =>
        refine evT rfl ?_
        by_cases h0 : i = 0
        · subst h0
          exact evT rfl E
        · simp only [if_true, decide_eq_false h0] at E
          exact evF (by omega) E
      | false =>
        refine evF (by simp) ?_
        simp only [Bool.false_eq_true, if_false] at E
        by_cases h1 : 1 ≤ i
        · rw [decide_eq_true h1, Bool.true_and] at E
          refine evT (by omega) ?_
          rw [show decide ((i : Int) ≤ 8) = decide (i ≤ 8) by rw [decide_eq_decide]; omega]
          exact E
        · rw [decide_eq_false h1, Bool.false_and] at E
          exact evF (by omega) E
    · rw [okR_no h sh (rowsK i)] at E
      by_cases h1 : lv ≥ 0
      · refine evT h1 ?_
        by_cases h2 : lv < 6
        · refine evT h2 ?_
          by_cases h3 : n ≥ 1
          · refine evT h3 ?_
            by_cases h4 : n ≤ 1000000
            · refine evT h4 ?_
              by_cases h5 : t ≥ 0
              · refine evT h5 ?_
                by_cases h6 : t ≤ 1000000
                · exact absurd ⟨h1, by omega, h3, h4, h5, h6⟩ h
                · exact evF h6 E
              · exact evF h5 E
            · exact evF h4 E
          · exact evF h3 E
        · exact evF h2 E
      · exact evF h1 E
  | succ d ih =>
    intro i hi hd
    refine Ev.step (fun k => ravelinlaw18_ItemShapes.l0.eq_2 ..) (evT (by omega) (evT (by simp [rowsK]; omega) ?_))
    have e : rowsK i ++ [(⟨S [UInt8.ofNat (97 + i)], false, (⟨#[118]⟩ : ByteArray)⟩ : S39)] = rowsK (i + 1) := by
      simp only [rowsK, List.range_succ, List.map_append, List.map_cons, List.map_nil]
      rfl
    rw [one_byte i (by omega), e, w64 (by omega), show (i : Int) + 1 = ((i + 1 : Nat) : Int) by omega]
    exact ih (i + 1) (by omega) (by omega)
theorem ItemShapes : ravelinlaw18_ItemShapes.Pure := by
  intro lv n t sh a b _ _ _ ha hb
  have ha2 := wf_u8 ha
  have hb2 := wf_u8 hb
  obtain ⟨w, rfl⟩ : ∃ v : Nat, a = (v : Int) := ⟨a.toNat, by omega⟩
  obtain ⟨u, rfl⟩ : ∃ v : Nat, b = (v : Int) := ⟨b.toNat, by omega⟩
  refine Ev.rounds (Ev.congr (fun k => ravelinlaw18_ItemShapes.f.eq_1 ..) (evBind known18 (evT rfl ?_)))
  have e : wrap64 (Int.tmod (w : Int) 11) = ((w % 11 : Nat) : Int) := by
    rw [Int.tmod_eq_emod_of_nonneg (by omega), w64 (by omega)]; omega
  rw [e]
  exact shapes_l0 lv n t sh u (w % 11) (by omega) (by omega) _ 0 (by omega) rfl
end Go.Proofs.Ytkmbgihfdfgmgaa.Pure
