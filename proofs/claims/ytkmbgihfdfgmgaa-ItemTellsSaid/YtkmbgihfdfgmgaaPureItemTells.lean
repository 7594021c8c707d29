/- The statement's part that speaks of no program: items, their bytes and what is read are the document's. -/
import Derived.Test.YtkmbgihfdfgmgaaQItemRef
import Derived.Test.YtkmbgihfdfgmgaaQKnown18
import Derived.Test.YtkmbgihfdfgmgaaPx18
import Derived.Test.YtkmbgihfdfgmgaaM6
namespace Go.Proofs.Ytkmbgihfdfgmgaa.P
end Go.Proofs.Ytkmbgihfdfgmgaa.P
namespace Go.Proofs.Ytkmbgihfdfgmgaa.Q
end Go.Proofs.Ytkmbgihfdfgmgaa.Q
namespace Go.Proofs.Ytkmbgihfdfgmgaa.Pure
open Go.RowKit Go.Proofs.Ytkmbgihfdfgmgaa.P Go.Proofs.YtkmbgihfdfgmgaaW.PrintWords Go.Proofs.YtkmbgihfdfgmgaaW.PrintLast Go.Proofs.YtkmbgihfdfgmgaaW.PrintMore Go.Proofs.Ytkmbgihfdfgmgaa.Q
set_option linter.unusedVariables false
set_option linter.unusedSimpArgs false
theorem bytesI_01 (lv n t : Int) (sh : Bool) (ws : List S39) : (bytesI lv n t sh ws).2 = 0 ∨ (bytesI lv n t sh ws).2 = 10 := by
  unfold bytesI
  split
  · exact .inl rfl
  · exact .inr rfl
theorem same_both {r r' : Bool} {p : Prop} (h : r = true ↔ p) (h' : r' = true ↔ p) : r = r' := by
  cases r <;> cases r' <;> simp_all
theorem self_true {r : Bool} {α : Type} {x : α} (h : r = true ↔ x = x) : r = true := h.2 rfl
theorem tells_j1 (lv n t : Int) (sh : Bool) (l : List S39) (lv' n' t' : Int) (sh' : Bool) (l' : List S39) (hl : l.length ≤ 12) (s : List UInt8) (hs : s.length ≤ 600) :
    Ev (fun k => ravelinlaw18_ItemTells.j1 k (S (bytesI lv n t sh l).1) (bytesI lv n t sh l).2 (S (bytesI lv n t sh l).1) (decide ((bytesI lv n t sh l).2 = 0)) (flatI (readI s)).2.2.2.2.2.1 (flatI (readI s)).2.2.2.2.2.2 (flatI (readI s)).2.2.2.2.2.1 (flatI (readI s)).2.2.2.2.2.2 lv n t sh l lv' n' t' sh' l' (flatI (readI s)).1 (flatI (readI s)).2.1 (flatI (readI s)).2.2.1 (flatI (readI s)).2.2.2.1 (flatI (readI s)).2.2.2.2.1 (flatI (readI s)).1 (flatI (readI s)).2.1 (flatI (readI s)).2.2.1 (flatI (readI s)).2.2.2.1 (flatI (readI s)).2.2.2.2.1 lv n t sh l) true := by
  obtain ⟨r1, s1, e1⟩ := same_ev lv n t sh l lv' n' t' sh' l' (by omega)
  obtain ⟨r2, s2, e2⟩ := rsameI_ev lv n t sh l lv' n' t' sh' l' (by omega)
  obtain ⟨r4, s4, e4⟩ := rsameI_ev lv n t sh l lv n t sh l (by omega)
  have hlen : (flatI (readI s)).2.2.2.2.1.length ≤ 4611686018427387904 := by
    show (readI s).1.2.2.2.2.length ≤ _
    unfold readI
    split
    · rename_i ho
      have := openS_ok ho
      have := takeI_len (openS s).1
      split
      · show (takeI (openS s).1).2.2.2.2.length ≤ _; omega
      · exact Nat.zero_le _
    · exact Nat.zero_le _
  obtain ⟨r3, s3, e3⟩ := rsameI_ev (flatI (readI s)).1 (flatI (readI s)).2.1 (flatI (readI s)).2.2.1 (flatI (readI s)).2.2.2.1 (flatI (readI s)).2.2.2.2.1 (flatI (readI s)).1 (flatI (readI s)).2.1 (flatI (readI s)).2.2.1 (flatI (readI s)).2.2.2.1 (flatI (readI s)).2.2.2.2.1 hlen
  rw [self_true e3] at s3
  rw [self_true e4] at s4
  have h12 := same_both e1 e2
  refine Ev.step (fun k => ravelinlaw18_ItemTells.j1.eq_2 ..) (evBind (is_ev lv n t sh l (by omega)) (evBind (risI_ev lv n t sh l (by omega)) (evT (by simp) (evBind s1 (evBind s2 (evT (by rw [h12]; simp) (evT rfl (evT ?_ ?_)))))))) 
  · rcases bytesI_01 lv n t sh l with h | h <;> rw [h] <;> rfl
  · rcases bytesI_01 lv n t sh l with h | h
    · exact evT h (evBind s3 (evT rfl (evT rfl (evT rfl (evBind s4 (evSome _))))))
    · exact evF (by rw [h]; decide) (evT h (evBind s3 (evT rfl (evT rfl (evT rfl (evBind s4 (evSome _)))))))
theorem ItemTells : ravelinlaw18_ItemTells.Pure := by
  intro lv n t sh l lv' n' t' sh' l' s _ _ _ hl _ _ _ _ hl' _ hs
  have no : Ev (fun k => ravelinlaw18_ItemTells.j0 k s true lv n t sh l lv' n' t' sh' l') true := Ev.step (fun k => ravelinlaw18_ItemTells.j0.eq_2 ..) (evT rfl (evSome _))
  obtain ⟨b1, h1, c1⟩ := few18_ev lv n t sh l hl
  obtain ⟨b2, h2, c2⟩ := few18_ev lv' n' t' sh' l' hl'
  refine Ev.rounds (Ev.congr (fun k => ravelinlaw18_ItemTells.f.eq_1 ..) (evBind known18 (evT rfl (evBind h1 ?_))))
  by_cases d1 : b1 = true
  · refine evT d1 (evBind h2 ?_)
    by_cases d2 : b2 = true
    · refine evT d2 ?_
      by_cases d3 : (s.size : Int) > 600
      · rw [decide_eq_true d3]; exact no
      · rw [decide_eq_false d3]
        have hl2 := c1 d1
        obtain ⟨L, rfl⟩ : ∃ L, s = S L := ⟨s.data.toList, (S_of s).symm⟩
        rw [S_size] at d3
        obtain ⟨r4, s4, e4⟩ := rsameI_ev lv n t sh l lv n t sh l (by omega)
        rw [self_true e4] at s4
        have j1 := tells_j1 lv n t sh l lv' n' t' sh' l' hl2 L (by omega)
        refine Ev.step (fun k => ravelinlaw18_ItemTells.j0.eq_2 ..) (evF (by simp) (evBind (ibytes_ev lv n t sh l (by omega)) (evBind (rbytesI_ev lv n t sh l (by omega)) (evBind (read_ev L (by omega)) (evBind (rreadI_ev L (by omega)) (evT (by simp only [List.length_nil]; omega) (evConst rfl ?_)))))))
        rw [List.nil_append]
        refine evConst (show item_Copy.f lv n t sh l = some (lv, n, t, sh, l) from ?_) (evBind s4 (evT rfl ?_))
        · unfold item_Copy.f api_Write_29.f
          rw [if_pos (by omega)]; rfl
        · by_cases h0 : ((l.length : Nat) : Int) > 0
          · exact evT h0 (evT h0 j1)
          · exact evF h0 j1
    · exact evF d2 no
  · exact evF d1 no
end Go.Proofs.Ytkmbgihfdfgmgaa.Pure
