/- Proved: the law ItemRows is true of every row of items. -/
import Derived.Test.YtkmbgihfdfgmgaaQKnown18
import Derived.Test.YtkmbgihfdfgmgaaPx10
namespace Go.Proofs.Ytkmbgihfdfgmgaa.P
end Go.Proofs.Ytkmbgihfdfgmgaa.P
namespace Go.Proofs.Ytkmbgihfdfgmgaa.Q
end Go.Proofs.Ytkmbgihfdfgmgaa.Q
namespace Go.Proofs.Ytkmbgihfdfgmgaa.Pure
open Go.RowKit Go.Proofs.Ytkmbgihfdfgmgaa.P Go.Proofs.YtkmbgihfdfgmgaaW.PrintWords Go.Proofs.YtkmbgihfdfgmgaaW.PrintLast Go.Proofs.YtkmbgihfdfgmgaaW.PrintMore Go.Proofs.Ytkmbgihfdfgmgaa.Q
set_option linter.unusedVariables false
set_option linter.unusedSimpArgs false
def isX (x : S24) : Bool := isI x.f0 x.f1 x.f2 x.f3 x.f4
def itB (x : S24) : List UInt8 := sealL (payI x.f0 x.f1 x.f2 x.f3 x.f4)
def itsB : List S24 → List UInt8
  | [] => []
  | x :: t => itB x ++ itsB t
theorem itsB_append (a b : List S24) : itsB (a ++ b) = itsB a ++ itsB b := by
  induction a with
  | nil => rfl
  | cons x t ih => simp only [List.cons_append, itsB, ih, List.append_assoc]
theorem itB_len {x : S24} (h : isX x = true) : 5 ≤ (itB x).length ∧ (itB x).length ≤ 620 := by
  have hp := payI_len h
  have hs := sealL_len (payI x.f0 x.f1 x.f2 x.f3 x.f4)
  have h1 := numL_le (n := (payI x.f0 x.f1 x.f2 x.f3 x.f4).length) (by omega)
  have h2 := numL_len (payI x.f0 x.f1 x.f2 x.f3 x.f4).length
  unfold itB
  omega
theorem itsB_len : ∀ {m : List S24}, (∀ x ∈ m, isX x = true) → (itsB m).length ≤ 620 * m.length
  | [], _ => by simp [itsB]
  | x :: t, h => by
    have h1 := (itB_len (h x List.mem_cons_self)).2
    have h2 := itsB_len (m := t) (fun y hy => h y (List.mem_cons_of_mem _ hy))
    simp only [itsB, List.length_append, List.length_cons]
    omega
theorem readI_bytes {lv n t : Int} {sh : Bool} {ws : List S39} (h : isI lv n t sh ws = true) (r : List UInt8) : readI (sealL (payI lv n t sh ws) ++ r) = ((lv, n, t, sh, ws), ((sealL (payI lv n t sh ws)).length : Int), 0) := by
  have hp := payI_len h
  have e := openS_seal (s := payI lv n t sh ws) (by omega) r
  have hb : bytesT (lv, n, t, sh, ws) = (sealL (payI lv n t sh ws), 0) := by
    show bytesI lv n t sh ws = _
    unfold bytesI
    rw [if_pos h]
  unfold readI
  rw [e]
  simp only
  rw [takeI_pay h, hb, if_pos trivial, Int.toNat_natCast, List.take_left, if_pos ⟨rfl, rfl⟩]
theorem rows_l1 (m : List S24) (rest : List S24) : ∀ done : List S24, m = done ++ rest → m.length ≤ 12 → (∀ x ∈ m, isX x = true) →
    Ev (fun k => ravelinlaw18_ItemRows.l1 k (S (itsB m)) m ((itsB done).length : Int) (done.length : Int)) true := by
  induction rest with
  | nil =>
    intro done hm hl h
    rw [List.append_nil] at hm
    subst hm
    have hb := itsB_len h
    refine Ev.step (fun k => ravelinlaw18_ItemRows.l1.eq_2 ..) (evF (by omega) (evT (by omega) (evT (by rw [S_size]; omega) ?_)))
    rw [S_extract, S_size, Int.toNat_natCast, List.drop_length, List.take_nil]
    exact evBind (read_ev [] (by simp)) (evT rfl (evSome _))
  | cons x t ih =>
    intro done hm hl h
    have hx : isX x = true := h x (by rw [hm]; simp)
    have hxl := itB_len hx
    have l1 : m.length = done.length + (t.length + 1) := by rw [hm, List.length_append]; rfl
    have e : itsB m = itsB done ++ (itB x ++ itsB t) := by rw [hm, itsB_append]; rfl
    have l2 : (itsB m).length = (itsB done).length + ((itB x).length + (itsB t).length) := by rw [e, List.length_append, List.length_append]
    have hb := itsB_len h
    have er : rd_T24 m (done.length : Int) = x := by
      unfold rd_T24
      rw [Int.toNat_natCast, hm]
      simp [List.getD_eq_getElem?_getD]
    refine Ev.step (fun k => ravelinlaw18_ItemRows.l1.eq_2 ..) (evT (by omega) (evT (by omega) (evT (by rw [S_size]; omega) ?_)))
    have ex : (S (itsB m)).extract (((itsB done).length : Int)).toNat (S (itsB m)).size = S (itB x ++ itsB t) := by
      rw [S_extract, S_size, Int.toNat_natCast, List.take_of_length_le (by rw [List.length_drop]; omega), e, List.drop_left]
    rw [ex, er]
    refine evBind (read_ev _ (by rw [List.length_append]; omega)) ?_
    have rr : readI (itB x ++ itsB t) = ((x.f0, x.f1, x.f2, x.f3, x.f4), ((itB x).length : Int), 0) := readI_bytes hx (itsB t)
    rw [rr]
    simp only [flatI]
    obtain ⟨r, hr, hr2⟩ := same_ev x.f0 x.f1 x.f2 x.f3 x.f4 x.f0 x.f1 x.f2 x.f3 x.f4 (by have := (isI_num hx).2.2.2.1; omega)
    obtain rfl : r = true := hr2.2 rfl
    refine evT trivial (evF (by omega) (evT (by omega) (evBind hr (evT rfl ?_))))
    have next := ih (done ++ [x]) (by rw [hm]; simp) hl h
    have a1 : ((itsB (done ++ [x])).length : Int) = wrap64 (((itsB done).length : Int) + ((itB x).length : Int)) := by
      rw [itsB_append, List.length_append, w64 (by omega)]
      simp [itsB]
    have a2 : ((done ++ [x]).length : Int) = wrap64 ((done.length : Int) + 1) := by
      rw [List.length_append, w64 (by omega)]
      simp
    rw [a1, a2] at next
    exact next
theorem rows_l0 (l : List S24) (hl : l.length ≤ 12) (hw : ∀ x ∈ l, x.f4.length ≤ 9223372036854775807) (d : Nat) : ∀ (i : Nat) (m : List S24), i ≤ l.length → l.length - i = d → m.length ≤ i → (∀ x ∈ m, isX x = true) →
    Ev (fun k => ravelinlaw18_ItemRows.l0 k l (S (itsB m)) m (i : Int)) true := by
  induction d with
  | zero =>
    intro i m hi hd h1 h
    refine Ev.step (fun k => ravelinlaw18_ItemRows.l0.eq_2 ..) (evF (by omega) ?_)
    exact rows_l1 m m [] rfl (by omega) h
  | succ d ih =>
    intro i m hi hd h1 h
    have hi2 : i < l.length := by omega
    have hb := itsB_len h
    have hmem : l.getD i z24 ∈ l := by
      rw [List.getD_eq_getElem?_getD, List.getElem?_eq_getElem hi2]; exact List.getElem_mem hi2
    have er : rd_T24 l (i : Int) = l.getD i z24 := by unfold rd_T24; rw [Int.toNat_natCast]
    have hx4 := hw _ hmem
    refine Ev.step (fun k => ravelinlaw18_ItemRows.l0.eq_2 ..) (evT (by omega) (evT (by omega) ?_))
    rw [er, w64 (by omega), show (i : Int) + 1 = ((i + 1 : Nat) : Int) by omega]
    generalize l.getD i z24 = x at *
    obtain ⟨b, hb1, hb2⟩ := few18_ev x.f0 x.f1 x.f2 x.f3 x.f4 hx4
    refine evBind hb1 ?_
    cases b with
    | false => exact evF (by simp) (evSome _)
    | true =>
      have hx12 := hb2 rfl
      refine evT rfl (evBind (ibytes_ev _ _ _ _ _ (by omega)) ?_)
      unfold bytesI
      cases hx : isI x.f0 x.f1 x.f2 x.f3 x.f4 with
      | false => exact evF (by simp) (ih (i + 1) m (by omega) (by omega) (by omega) h)
      | true =>
        have hxl : 5 ≤ (sealL (payI x.f0 x.f1 x.f2 x.f3 x.f4)).length ∧ (sealL (payI x.f0 x.f1 x.f2 x.f3 x.f4)).length ≤ 620 := itB_len hx
        refine evT rfl (evT (by simp only [S_size, if_true]; omega) (evT (by omega) ?_))
        have e2 : itsB m ++ sealL (payI x.f0 x.f1 x.f2 x.f3 x.f4) = itsB (m ++ [x]) := by rw [itsB_append]; simp [itsB, itB]
        simp only [if_true]
        rw [S_append, e2]
        exact ih (i + 1) (m ++ [x]) (by omega) (by omega) (by simp; omega) (fun y hy => by
          rcases List.mem_append.1 hy with hy | hy
          · exact h y hy
          · simp at hy; subst hy; exact hx)
theorem ItemRows : ravelinlaw18_ItemRows.Pure := by
  intro l _ hw
  refine Ev.rounds (Ev.congr (fun k => ravelinlaw18_ItemRows.f.eq_1 ..) (evBind known18 (evT rfl ?_)))
  by_cases h : (l.length : Int) > 12
  · exact evT h (evSome _)
  · exact evF h (rows_l0 l (by omega) (fun x hx => (hw x hx).2.2.2.2.1) _ 0 [] (by omega) rfl (by simp) (by simp))
end Go.Proofs.Ytkmbgihfdfgmgaa.Pure
