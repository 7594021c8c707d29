/- Proved: the law EntryRows is true of every row of entries. -/
import Derived.Test.YtggmgenofmfdpaaQKnown6
import Derived.Test.YtggmgenofmfdpaaPx32
namespace Go.Proofs.Ytggmgenofmfdpaa.P
end Go.Proofs.Ytggmgenofmfdpaa.P
namespace Go.Proofs.Ytggmgenofmfdpaa.Q
end Go.Proofs.Ytggmgenofmfdpaa.Q
namespace Go.Proofs.Ytggmgenofmfdpaa.Pure
open Go.RowKit Go.Proofs.Ytggmgenofmfdpaa.P Go.Proofs.YtggmgenofmfdpaaW.PrintWords Go.Proofs.YtggmgenofmfdpaaW.PrintLast Go.Proofs.YtggmgenofmfdpaaW.PrintMore Go.Proofs.Ytggmgenofmfdpaa.Q
set_option linter.unusedVariables false
set_option linter.unusedSimpArgs false
def okE (e : S23) : Bool := isF (ky e) e.f1 e.f2 (vl e)
def rowE (e : S23) : List UInt8 := rowL (ky e) e.f1 e.f2 (vl e)
def rowsL : List S23 → List UInt8
  | [] => []
  | e :: t => rowE e ++ rowsL t
theorem rowsL_append (a b : List S23) : rowsL (a ++ b) = rowsL a ++ rowsL b := by
  induction a with
  | nil => rfl
  | cons e t ih => simp only [List.cons_append, rowsL, ih, List.append_assoc]
theorem rowsL_len (m : List S23) (h : ∀ e ∈ m, okE e = true) : (rowsL m).length ≤ 60 * m.length := by
  induction m with
  | nil => simp [rowsL]
  | cons e t ih =>
    have h1 : (rowE e).length ≤ 60 := (row_len (h e (by simp))).2
    have h2 := ih (fun x hx => h x (by simp [hx]))
    simp only [rowsL, List.length_append, List.length_cons]
    omega
theorem bytesE_ev (e : S23) : Ev (fun k => entry_Bytes.f k e.f0 e.f1 e.f2 e.f3) (S (bytesF (ky e) e.f1 e.f2 (vl e))) := by
  have := bytes_ev6 (ky e) e.f1 e.f2 (vl e)
  unfold ky vl at this
  rw [S_of, S_of] at this
  exact this
theorem ext_pre (pre R : List UInt8) : (S (pre ++ R)).extract ((pre.length : Nat) : Int).toNat (S (pre ++ R)).size = S R := by
  rw [S_extract, S_size, Int.toNat_natCast, List.drop_left, List.length_append, List.take_of_length_le (by omega)]
theorem rows_l1 (rest : List S23) : ∀ (done m : List S23), m = done ++ rest → m.length ≤ 60 → (∀ e ∈ m, okE e = true) →
    Ev (fun k => ravelinlaw6_EntryRows.l1 k (S (rowsL m)) m ((rowsL done).length : Int) (done.length : Int)) true := by
  induction rest with
  | nil =>
    intro done m hm hl h
    have len := rowsL_len m h
    have e : rowsL m = rowsL done ++ rowsL [] := by rw [hm, rowsL_append]
    have ex := ext_pre (rowsL done) (rowsL [])
    rw [← e] at ex
    have l1 : m.length = done.length := by rw [hm, List.length_append]; rfl
    have l2 : (rowsL m).length = (rowsL done).length := by rw [e, List.length_append]; rfl
    refine Ev.step (fun k => ravelinlaw6_EntryRows.l1.eq_2 ..) ?_
    rw [ex]
    refine evF (by omega) (evT (by omega) (evT (by rw [S_size]; omega) (evBind (read_ev _ (by simp [rowsL])) (evT (by rw [S_size]; omega) (evEq (evSome _) rfl)))))
  | cons x t ih =>
    intro done m hm hl h
    have len := rowsL_len m h
    have hx : okE x = true := h x (by rw [hm]; simp)
    have e : rowsL m = rowsL done ++ (rowE x ++ rowsL t) := by rw [hm, rowsL_append]; rfl
    have ex := ext_pre (rowsL done) (rowE x ++ rowsL t)
    rw [← e] at ex
    have l1 : m.length = done.length + (t.length + 1) := by rw [hm, List.length_append]; rfl
    have l2 : (rowsL m).length = (rowsL done).length + ((rowE x).length + (rowsL t).length) := by rw [e, List.length_append, List.length_append]
    have r := row_len hx
    have r' : 4 ≤ (rowE x).length ∧ (rowE x).length ≤ 60 := r
    have er : rd_T23 m (done.length : Int) = x := by
      unfold rd_T23
      rw [Int.toNat_natCast, hm]
      simp [List.getD_eq_getElem?_getD]
    refine Ev.step (fun k => ravelinlaw6_EntryRows.l1.eq_2 ..) ?_
    rw [ex, er]
    refine evT (by omega) (evT (by omega) (evT (by rw [S_size]; omega) (evBind (read_ev _ (by rw [List.length_append]; omega)) ?_)))
    have rr : readE (rowE x ++ rowsL t) = (ky x, x.f1, x.f2, vl x, ((rowE x).length : Int), 0) := readE_row hx (rowsL t)
    rw [rr]
    refine evT rfl (evF ?_ (evT (by omega) (evF ?_ ?_)))
    · show ¬ (((rowE x).length : Int) < 1)
      omega
    · simp [tr6, S_toList, toL, ky, vl, S_of]
    · have next := ih (done ++ [x]) m (by rw [hm]; simp) hl h
      have a1 : ((rowsL (done ++ [x])).length : Int) = wrap64 (((rowsL done).length : Int) + ((rowE x).length : Int)) := by
        rw [rowsL_append, List.length_append, w64 (by omega)]
        simp [rowsL]
      have a2 : ((done ++ [x]).length : Int) = wrap64 ((done.length : Int) + 1) := by
        rw [List.length_append, w64 (by omega)]
        simp
      rw [a1, a2] at next
      exact next
theorem rows_l0 (l : List S23) (hl : l.length ≤ 60) (n : Nat) : ∀ (i : Nat) (m : List S23), l.length - i = n → m.length ≤ i → m.length + (l.length - i) ≤ 60 → (∀ e ∈ m, okE e = true) →
    Ev (fun k => ravelinlaw6_EntryRows.l0 k l (S (rowsL m)) m (i : Int)) true := by
  induction n with
  | zero =>
    intro i m hi h1 h2 h
    refine Ev.step (fun k => ravelinlaw6_EntryRows.l0.eq_2 ..) (evF (by omega) ?_)
    exact rows_l1 m [] m rfl (by omega) h
  | succ n ih =>
    intro i m hi h1 h2 h
    have len := rowsL_len m h
    have er : rd_T23 l (i : Int) = l.getD i z23 := by unfold rd_T23; rw [Int.toNat_natCast]
    refine Ev.step (fun k => ravelinlaw6_EntryRows.l0.eq_2 ..) ?_
    rw [er, w64 (by omega), show (i : Int) + 1 = ((i + 1 : Nat) : Int) by omega]
    generalize l.getD i z23 = x
    refine evT (by omega) (evT (by omega) (evConst (is_ev _ _ _ _) ?_))
    by_cases hx : okE x = true
    · refine evT hx (evBind (bytesE_ev x) ?_)
      have r : 4 ≤ (rowE x).length ∧ (rowE x).length ≤ 60 := row_len hx
      have hb : bytesF (ky x) x.f1 x.f2 (vl x) = rowE x := bytesF_some hx
      rw [hb, S_append, S_size, S_size]
      refine evT (by omega) (evT (by omega) ?_)
      have e2 : rowsL m ++ rowE x = rowsL (m ++ [x]) := by rw [rowsL_append]; simp [rowsL]
      rw [e2]
      exact ih (i + 1) (m ++ [x]) (by omega) (by simp; omega) (by simp; omega) (fun y hy => by
        rcases List.mem_append.1 hy with hy | hy
        · exact h y hy
        · simp at hy; subst hy; exact hx)
    · exact evF hx (ih (i + 1) m (by omega) (by omega) (by omega) h)
theorem EntryRows : ravelinlaw6_EntryRows.Pure := by
  intro l hl _
  refine Ev.rounds (Ev.congr (fun k => ravelinlaw6_EntryRows.f.eq_1 ..) (evBind known6 (evT rfl (evBind (few_ev l hl) ?_))))
  by_cases h1 : fewB l = true
  · exact evT h1 (rows_l0 l (few_len h1) _ 0 [] rfl (by simp) (by have := few_len h1; simp; omega) (by simp))
  · exact evF h1 (evSome _)
end Go.Proofs.Ytggmgenofmfdpaa.Pure
