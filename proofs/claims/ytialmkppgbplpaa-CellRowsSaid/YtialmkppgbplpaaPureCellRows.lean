/- Proved: the law CellRows is true of every row of texts, every row of numbers. -/
import Derived.Test.YtialmkppgbplpaaQKnown3
import Derived.Test.YtialmkppgbplpaaPx9
namespace Go.Proofs.Ytialmkppgbplpaa.P
end Go.Proofs.Ytialmkppgbplpaa.P
namespace Go.Proofs.Ytialmkppgbplpaa.Q
end Go.Proofs.Ytialmkppgbplpaa.Q
namespace Go.Proofs.Ytialmkppgbplpaa.Pure
open Go.RowKit Go.Proofs.Ytialmkppgbplpaa.P Go.Proofs.YtialmkppgbplpaaW.PrintWords Go.Proofs.YtialmkppgbplpaaW.PrintLast Go.Proofs.YtialmkppgbplpaaW.PrintMore Go.Proofs.Ytialmkppgbplpaa.Q
set_option linter.unusedVariables false
set_option linter.unusedSimpArgs false
theorem wf_u32 {n : Int} (h : (Lit.int .u32 n).wf = true) : 0 ≤ n ∧ n ≤ 4294967295 := by
  simp only [Lit.wf, IntKind.min, IntKind.max, IntKind.signed, IntKind.bits, Bool.and_eq_true, decide_eq_true_eq] at h
  simpa using h
theorem mx_max (a b : Nat) : mx (a : Int) (b : Int) = ((max a b : Nat) : Int) := by unfold mx; split <;> omega
def textAt (l : List ByteArray) (i : Nat) : List UInt8 := if i < l.length then textL (l.getD i ByteArray.empty).data.toList else []
def numAt (ns : List Int) (i : Nat) : List UInt8 := if i < ns.length then numL (ns.getD i 0).toNat else []
def rowsFrom (l : List ByteArray) (ns : List Int) : Nat → Nat → List UInt8
  | _, 0 => []
  | i, d + 1 => textAt l i ++ (numAt ns i ++ rowsFrom l ns (i + 1) d)
theorem num_at {ns : List Int} (hw : ∀ y ∈ ns, (Lit.int .u32 y).wf = true) {i : Nat} (h : i < ns.length) : wrap64 (rd ns (i : Int)) = ns.getD i 0 ∧ 0 ≤ ns.getD i 0 ∧ ns.getD i 0 ≤ 4294967295 := by
  have b : 0 ≤ ns.getD i 0 ∧ ns.getD i 0 ≤ 4294967295 := by
    rw [List.getD_eq_getElem?_getD, List.getElem?_eq_getElem h, Option.getD_some]
    exact wf_u32 (hw _ (List.getElem_mem _))
  refine ⟨?_, b⟩
  unfold rd
  rw [Int.toNat_natCast, w64 (by omega)]
theorem rows_l0 (l : List ByteArray) (ns : List Int) (hl : l.length ≤ 12) (hn : ns.length ≤ 12) (hw : ∀ y ∈ ns, (Lit.int .u32 y).wf = true) (d : Nat) : ∀ (i : Nat) (acc : List UInt8), i + d = max l.length ns.length → acc.length ≤ 200 * i →
    ((∀ j, i ≤ j → j < l.length → (l.getD j ByteArray.empty).size ≤ 100) → Ev (fun k => ravelinlaw3_CellRows.l1 k l ns (S (acc ++ rowsFrom l ns i d)) 0 0) true) → Ev (fun k => ravelinlaw3_CellRows.l0 k l ns (S acc) (i : Int)) true := by
  induction d with
  | zero =>
    intro i acc hi ha h
    have := h (fun j h1 h2 => by omega)
    rw [rowsFrom, List.append_nil] at this
    refine Ev.step (fun k => ravelinlaw3_CellRows.l0.eq_2 ..) ?_
    rw [mx_max]
    exact evF (by omega) this
  | succ d ih =>
    intro i acc hi ha h
    refine Ev.step (fun k => ravelinlaw3_CellRows.l0.eq_2 ..) ?_
    rw [mx_max]
    refine evT (by omega) ?_
    by_cases h1 : i < l.length
    · refine evT (by omega) (evT (by omega) ?_)
      have e : rdOf ByteArray.empty l (i : Int) = l.getD i ByteArray.empty := by unfold rdOf; rw [Int.toNat_natCast]
      rw [e]
      obtain ⟨s, hs⟩ : ∃ s, l.getD i ByteArray.empty = S s := ⟨_, (S_of _).symm⟩
      have et : textAt l i = textL s := by unfold textAt; rw [if_pos h1, hs]; rfl
      rw [hs, S_size]
      by_cases h2 : (s.length : Int) > 100
      · exact evT h2 (evSome _)
      have lt : (textL s).length ≤ 109 := by have := numL_le (n := s.length) (by omega); simp only [textL, List.length_append]; omega
      refine evF h2 (evBind (text_ev s (by omega)) ?_)
      rw [S_append, S_size, S_size, S_size]
      have h' : (∀ j, i + 1 ≤ j → j < l.length → (l.getD j ByteArray.empty).size ≤ 100) → Ev (fun k => ravelinlaw3_CellRows.l1 k l ns (S ((acc ++ textL s) ++ (numAt ns i ++ rowsFrom l ns (i + 1) d))) 0 0) true := fun hj => by
        have := h (fun j a b => by
          rcases Nat.lt_or_ge i j with c | c
          · exact hj j (by omega) b
          · obtain rfl : j = i := by omega
            rw [hs, S_size]; omega)
        rw [rowsFrom, et] at this
        rw [List.append_assoc]
        exact this
      refine evT (by omega) ?_
      by_cases h3 : i < ns.length
      · have b := num_at hw h3
        have ln := numL_le (n := (ns.getD i 0).toNat) (by omega)
        rw [b.1]
        refine evT (by omega) (evBind (num_ev _ (by omega)) ?_)
        rw [S_append, S_size]
        refine evT (by simp only [List.length_append]; omega) ?_
        rw [w64 (by omega), show (i : Int) + 1 = ((i + 1 : Nat) : Int) by omega]
        refine ih (i + 1) _ (by omega) (by simp only [List.length_append]; omega) (fun hj => ?_)
        have := h' hj
        rw [numAt, if_pos h3, ← List.append_assoc] at this
        exact this
      · refine evF (by omega) ?_
        rw [w64 (by omega), show (i : Int) + 1 = ((i + 1 : Nat) : Int) by omega]
        refine ih (i + 1) _ (by omega) (by simp only [List.length_append]; omega) (fun hj => ?_)
        have := h' hj
        rw [numAt, if_neg h3, List.nil_append] at this
        exact this
    · have h3 : i < ns.length := by omega
      have b := num_at hw h3
      have ln := numL_le (n := (ns.getD i 0).toNat) (by omega)
      rw [b.1]
      refine evF (by omega) (evT (by omega) (evT (by omega) (evBind (num_ev _ (by omega)) ?_)))
      rw [S_append, S_size, S_size]
      refine evT (by omega) ?_
      rw [w64 (by omega), show (i : Int) + 1 = ((i + 1 : Nat) : Int) by omega]
      refine ih (i + 1) _ (by omega) (by simp only [List.length_append]; omega) (fun hj => ?_)
      have := h (fun j a c => by omega)
      rw [rowsFrom, textAt, if_neg h1, numAt, if_pos h3, List.nil_append, ← List.append_assoc] at this
      exact this
theorem ext_pre (pre R : List UInt8) : (S (pre ++ R)).extract ((pre.length : Nat) : Int).toNat (S (pre ++ R)).size = S R := by
  rw [S_extract, S_size, Int.toNat_natCast, List.drop_left, List.length_append, List.take_of_length_le (by omega)]
theorem rows_j3 (l : List ByteArray) (ns : List Int) (hn : ns.length ≤ 12) (hw : ∀ y ∈ ns, (Lit.int .u32 y).wf = true) (i : Nat) (hi : i ≤ 12) (pre R T : List UInt8) (hT : T.length ≤ 10000) (e : T = pre ++ (numAt ns i ++ R))
    (next : ∀ p, T = p ++ R → Ev (fun k => ravelinlaw3_CellRows.l1 k l ns (S T) (p.length : Int) ((i + 1 : Nat) : Int)) true) : Ev (fun k => ravelinlaw3_CellRows.j3 k l ns (S T) (pre.length : Int) (i : Int)) true := by
  refine Ev.step (fun k => ravelinlaw3_CellRows.j3.eq_2 ..) ?_
  rw [w64 (show -9223372036854775808 ≤ (i : Int) + 1 ∧ (i : Int) + 1 ≤ 9223372036854775807 by omega), show (i : Int) + 1 = ((i + 1 : Nat) : Int) by omega]
  have hp : pre.length ≤ T.length := by rw [e, List.length_append]; omega
  by_cases h : i < ns.length
  · have b := num_at hw h
    have ln := numL_le (n := (ns.getD i 0).toNat) (by omega)
    rw [numAt, if_pos h] at e
    have hR : (numL (ns.getD i 0).toNat ++ R).length ≤ 10000 := by rw [e, List.length_append] at hT; omega
    have ex := ext_pre pre (numL (ns.getD i 0).toNat ++ R)
    rw [← e] at ex
    rw [ex, b.1]
    refine evT (by omega) (evT (by omega) (evT (by rw [S_size]; omega) (evBind (takeNum_ev _ (by omega)) ?_)))
    rw [takeNum_num (by omega)]
    dsimp only
    refine evT rfl (evT (by omega) (evT (by omega) ?_))
    rw [w64 (by omega), show (pre.length : Int) + ((numL (ns.getD i 0).toNat).length : Int) = ((pre ++ numL (ns.getD i 0).toNat).length : Int) by rw [List.length_append]; omega]
    exact next _ (by rw [List.append_assoc]; exact e)
  · rw [numAt, if_neg h, List.nil_append] at e
    exact evF (by omega) (next pre e)
theorem rows_l1 (l : List ByteArray) (ns : List Int) (hl : l.length ≤ 12) (hn : ns.length ≤ 12) (hw : ∀ y ∈ ns, (Lit.int .u32 y).wf = true) (hs : ∀ j, 0 ≤ j → j < l.length → (l.getD j ByteArray.empty).size ≤ 100) (T : List UInt8) (hT : T.length ≤ 10000) (d : Nat) :
    ∀ (i : Nat) (pre : List UInt8), i + d = max l.length ns.length → T = pre ++ rowsFrom l ns i d → Ev (fun k => ravelinlaw3_CellRows.l1 k l ns (S T) (pre.length : Int) (i : Int)) true := by
  induction d with
  | zero =>
    intro i pre hi e
    refine Ev.step (fun k => ravelinlaw3_CellRows.l1.eq_2 ..) ?_
    have ex := ext_pre pre (rowsFrom l ns i 0)
    rw [← e] at ex
    rw [mx_max, ex]
    have hp : pre.length = T.length := by rw [e, rowsFrom, List.append_nil]
    refine evF (by omega) (evT (by omega) (evT (by rw [S_size]; omega) (evBind (takeNum_ev _ (by rw [rowsFrom]; simp)) (evT (by rw [S_size]; omega) (evEq (evSome _) ?_)))))
    rw [rowsFrom]
    rfl
  | succ d ih =>
    intro i pre hi e
    have next : ∀ p, T = p ++ rowsFrom l ns (i + 1) d → Ev (fun k => ravelinlaw3_CellRows.l1 k l ns (S T) (p.length : Int) ((i + 1 : Nat) : Int)) true := fun p hp => ih (i + 1) p (by omega) hp
    have hp : pre.length ≤ T.length := by rw [e, List.length_append]; omega
    refine Ev.step (fun k => ravelinlaw3_CellRows.l1.eq_2 ..) ?_
    rw [mx_max]
    refine evT (by omega) ?_
    by_cases h1 : i < l.length
    · have e1 : rdOf ByteArray.empty l (i : Int) = l.getD i ByteArray.empty := by unfold rdOf; rw [Int.toNat_natCast]
      have sz := hs i (by omega) h1
      obtain ⟨s, hs⟩ : ∃ s, l.getD i ByteArray.empty = S s := ⟨_, (S_of _).symm⟩
      have et : textAt l i = textL s := by unfold textAt; rw [if_pos h1, hs]; rfl
      rw [hs, S_size] at sz
      rw [rowsFrom, et] at e
      have hR : (textL s ++ (numAt ns i ++ rowsFrom l ns (i + 1) d)).length ≤ 10000 := by rw [e, List.length_append] at hT; omega
      have ex := ext_pre pre (textL s ++ (numAt ns i ++ rowsFrom l ns (i + 1) d))
      rw [← e] at ex
      have lt : (textL s).length ≤ 109 := by have := numL_le (n := s.length) (by omega); simp only [textL, List.length_append]; omega
      rw [ex, e1, hs]
      refine evT (by omega) (evT (by omega) (evT (by rw [S_size]; omega) (evBind (takeText_ev _ (by omega)) ?_)))
      rw [takeText_text (by omega)]
      simp only [tr]
      refine evT trivial (evT (by omega) (evT trivial ?_))
      rw [w64 (by omega), show (pre.length : Int) + ((textL s).length : Int) = ((pre ++ textL s).length : Int) by rw [List.length_append]; omega]
      exact rows_j3 l ns hn hw i (by omega) _ (rowsFrom l ns (i + 1) d) T hT (by rw [List.append_assoc]; exact e) next
    · rw [rowsFrom, textAt, if_neg h1, List.nil_append] at e
      exact evF (by omega) (rows_j3 l ns hn hw i (by omega) _ (rowsFrom l ns (i + 1) d) T hT e next)
theorem rows_len (l : List ByteArray) (ns : List Int) (hw : ∀ y ∈ ns, (Lit.int .u32 y).wf = true) (hs : ∀ j, 0 ≤ j → j < l.length → (l.getD j ByteArray.empty).size ≤ 100) (d : Nat) : ∀ i : Nat, (rowsFrom l ns i d).length ≤ 200 * d := by
  induction d with
  | zero => intro i; rw [rowsFrom]; simp
  | succ d ih =>
    intro i
    have h1 : (textAt l i).length ≤ 109 := by
      unfold textAt
      split
      · rename_i h
        have := hs i (by omega) h
        rw [size_data] at this
        have := numL_le (n := (l.getD i ByteArray.empty).data.toList.length) (by omega)
        simp only [textL, List.length_append]; omega
      · simp
    have h2 : (numAt ns i).length ≤ 9 := by
      unfold numAt
      split
      · rename_i h
        exact numL_le (by have := num_at hw h; omega)
      · simp
    have := ih (i + 1)
    rw [rowsFrom, List.length_append, List.length_append]
    omega
theorem CellRows : ravelinlaw3_CellRows.Pure := by
  intro l ns _ _ _ hw
  refine Ev.rounds (Ev.congr (fun k => ravelinlaw3_CellRows.f.eq_1 ..) (evBind known3 (evT rfl ?_)))
  have yes : Ev (fun k => ravelinlaw3_CellRows.j0 k l ns true) true := Ev.step (fun k => ravelinlaw3_CellRows.j0.eq_2 ..) (evT rfl (evSome _))
  by_cases h1 : (l.length : Int) > 12
  · exact evT h1 yes
  refine evF h1 ?_
  by_cases h2 : (ns.length : Int) > 12
  · rw [decide_eq_true h2]; exact yes
  rw [decide_eq_false h2]
  refine Ev.step (fun k => ravelinlaw3_CellRows.j0.eq_2 ..) (evF (by simp) ?_)
  refine rows_l0 l ns (by omega) (by omega) hw (max l.length ns.length) 0 [] (by omega) (by simp) (fun hs => ?_)
  have len := rows_len l ns hw hs (max l.length ns.length) 0
  exact rows_l1 l ns (by omega) (by omega) hw hs _ (by rw [List.nil_append]; omega) (max l.length ns.length) 0 [] (by omega) rfl
end Go.Proofs.Ytialmkppgbplpaa.Pure
