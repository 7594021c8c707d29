import Derived.Test.YtjcpdbekdimceaaQCellSpec
import Derived.Test.YtjcpdbekdimceaaQOrder
import Derived.Test.YtjcpdbekdimceaaM0
namespace Go.Proofs.Ytjcpdbekdimceaa.P
end Go.Proofs.Ytjcpdbekdimceaa.P
namespace Go.Proofs.Ytjcpdbekdimceaa.Q
end Go.Proofs.Ytjcpdbekdimceaa.Q
namespace Go.Proofs.Ytjcpdbekdimceaa.Q
open Go.RowKit Go.Proofs.Ytjcpdbekdimceaa.P Go.Proofs.YtjcpdbekdimceaaW.PrintWords Go.Proofs.YtjcpdbekdimceaaW.PrintLast Go.Proofs.YtjcpdbekdimceaaW.PrintMore
set_option linter.unusedVariables false
set_option linter.unusedSimpArgs false

/-! Entries: their key, their value as lists of bytes -/
def ky (e : S39) : List UInt8 := e.f0.data.toList
def vl (e : S39) : List UInt8 := e.f3.data.toList
def lessF (x : List UInt8) (s : Int) (y : List UInt8) (t : Int) : Bool := Op.bytesLess x y || (x == y && decide (t < s))
def lessE (a b : S39) : Bool := lessF (ky a) a.f1 (ky b) b.f1
theorem lessF_iff {x y : List UInt8} {s t : Int} : lessF x s y t = true ↔ Op.bytesLess x y = true ∨ (x = y ∧ t < s) := by
  simp [lessF]
theorem lessF_irrefl (x : List UInt8) (s : Int) : lessF x s x s = false := by simp [lessF, lt_irrefl]
theorem lessF_trans {x y z : List UInt8} {s t u : Int} (h1 : lessF x s y t = true) (h2 : lessF y t z u = true) : lessF x s z u = true := by
  rw [lessF_iff] at *
  rcases h1 with h1 | ⟨rfl, h1⟩
  · rcases h2 with h2 | ⟨rfl, h2⟩
    · exact .inl (lt_trans h1 h2)
    · exact .inl h1
  · rcases h2 with h2 | ⟨rfl, h2⟩
    · exact .inl h2
    · exact .inr ⟨rfl, by omega⟩
theorem lessF_tri (x y : List UInt8) (s t : Int) : lessF x s y t = true ∨ (x = y ∧ s = t) ∨ lessF y t x s = true := by
  simp only [lessF_iff]
  rcases lt_tri x y with h | h | h
  · exact .inl (.inl h)
  · subst h
    rcases Int.lt_trichotomy s t with h | h | h
    · exact .inr (.inr (.inr ⟨rfl, h⟩))
    · exact .inr (.inl ⟨rfl, h⟩)
    · exact .inl (.inr ⟨rfl, h⟩)
  · exact .inr (.inr (.inl h))
theorem lessF_asymm {x y : List UInt8} {s t : Int} (h : lessF x s y t = true) : lessF y t x s = false := by
  cases hb : lessF y t x s with
  | false => rfl
  | true => have := lessF_trans h hb; rw [lessF_irrefl] at this; cases this
def sortedB : List S39 → Bool
  | a :: b :: t => lessE a b && sortedB (b :: t)
  | _ => true
theorem drop_cons {α : Type} (l : List α) (d : α) (i : Nat) (h : i < l.length) : l.drop i = l.getD i d :: l.drop (i + 1) := by
  rw [List.drop_eq_getElem_cons h]
  simp [List.getD_eq_getElem?_getD, List.getElem?_eq_getElem h]
theorem sortedB_drop (l : List S39) (i : Nat) (h : i + 1 < l.length) : sortedB (l.drop i) = (lessE (l.getD i z39) (l.getD (i + 1) z39) && sortedB (l.drop (i + 1))) := by
  rw [drop_cons l z39 i (by omega), drop_cons l z39 (i + 1) h]
  rfl
theorem sortedB_last (l : List S39) (i : Nat) (h : l.length ≤ i + 1) : sortedB (l.drop i) = true := by
  rcases Nat.lt_or_ge i l.length with h1 | h1
  · rw [drop_cons l z39 i h1, List.drop_eq_nil_of_le h]; rfl
  · rw [List.drop_eq_nil_of_le h1]; rfl
theorem sorted_from {l : List S39} (h : sortedB l = true) (i : Nat) : sortedB (l.drop i) = true := by
  induction i with
  | zero => exact h
  | succ i ih =>
    rcases Nat.lt_or_ge (i + 1) l.length with h1 | h1
    · rw [sortedB_drop l i h1, Bool.and_eq_true] at ih
      exact ih.2
    · exact sortedB_last l (i + 1) (by omega)
theorem sorted_next {l : List S39} (h : sortedB l = true) (i : Nat) (hi : i + 1 < l.length) : lessE (l.getD i z39) (l.getD (i + 1) z39) = true := by
  have := sorted_from h i
  rw [sortedB_drop l i hi, Bool.and_eq_true] at this
  exact this.1
theorem sorted_lt {l : List S39} (h : sortedB l = true) {i j : Nat} (hij : i < j) (hj : j < l.length) : lessE (l.getD i z39) (l.getD j z39) = true := by
  induction j with
  | zero => omega
  | succ j ih =>
    rcases Nat.lt_or_ge i j with h1 | h1
    · exact lessF_trans (ih h1 (by omega)) (sorted_next h j hj)
    · obtain rfl : i = j := by omega
      exact sorted_next h i hj
/-! What may be -/
def isW (k : List UInt8) (d : Bool) (v : List UInt8) : Bool := decide (1 ≤ k.length) && decide (k.length ≤ 13) && decide (v.length ≤ 24) && (!d || v.isEmpty)
def isF (k : List UInt8) (s : Int) (d : Bool) (v : List UInt8) : Bool := decide (1 ≤ s) && decide (s ≤ 1000000) && isW k d v
def valL (d : Bool) (v : List UInt8) : List UInt8 := if d = true then [1] else 0 :: textL v
def rowL (k : List UInt8) (s : Int) (d : Bool) (v : List UInt8) : List UInt8 := textL k ++ (numL s.toNat ++ valL d v)
def bytesF (k : List UInt8) (s : Int) (d : Bool) (v : List UInt8) : List UInt8 := if isF k s d v = true then rowL k s d v else []
theorem isF_iff {k : List UInt8} {s : Int} {d : Bool} {v : List UInt8} : isF k s d v = true ↔ 1 ≤ s ∧ s ≤ 1000000 ∧ 1 ≤ k.length ∧ k.length ≤ 13 ∧ v.length ≤ 24 ∧ (d = true → v = []) := by
  unfold isF isW
  cases d <;> simp [and_assoc]
/-! What is read -/
def finE (k : List UInt8) (s : Int) (d : Bool) (v : List UInt8) (n : Int) : List UInt8 × Int × Bool × List UInt8 × Int × Int := if isF k s d v = true then (k, s, d, v, n, 0) else ([], 0, false, [], 0, 10)
def badE (e : Int) : List UInt8 × Int × Bool × List UInt8 × Int × Int := ([], 0, false, [], 0, e)
def tailE (k : List UInt8) (s : Int) (n : Int) : List UInt8 → List UInt8 × Int × Bool × List UInt8 × Int × Int
  | [] => badE 12
  | c :: t => if c = 0 then (if (takeText t).2.2 = 0 then finE k s false (takeText t).1 (n + 1 + (takeText t).2.1) else badE (takeText t).2.2)
    else if c = 1 then finE k s true [] (n + 1) else badE 10
def readE (l : List UInt8) : List UInt8 × Int × Bool × List UInt8 × Int × Int :=
  if (takeText l).2.2 = 0 then
    (if (takeNum (l.drop (takeText l).2.1.toNat)).2.2 = 0 then
      tailE (takeText l).1 (takeNum (l.drop (takeText l).2.1.toNat)).1 ((takeText l).2.1 + (takeNum (l.drop (takeText l).2.1.toNat)).2.1) ((l.drop (takeText l).2.1.toNat).drop (takeNum (l.drop (takeText l).2.1.toNat)).2.1.toNat)
    else badE (takeNum (l.drop (takeText l).2.1.toNat)).2.2)
  else badE (takeText l).2.2
theorem valL_tail {k : List UInt8} {s n : Int} {d : Bool} {v : List UInt8} (h : isF k s d v = true) (r : List UInt8) : tailE k s n (valL d v ++ r) = (k, s, d, v, n + (valL d v).length, 0) := by
  have h1 := isF_iff.1 h
  cases d with
  | true =>
    obtain rfl := h1.2.2.2.2.2 rfl
    simp [valL, tailE, finE, h]
  | false =>
    have e := takeText_text (s := v) (by omega) r
    simp only [valL, tailE, Bool.false_eq_true, if_false, List.cons_append, if_true]
    rw [e]
    simp only [if_true, finE, h, List.length_cons, Prod.mk.injEq, true_and, and_true]
    omega
theorem readE_row {k : List UInt8} {s : Int} {d : Bool} {v : List UInt8} (h : isF k s d v = true) (r : List UInt8) : readE (rowL k s d v ++ r) = (k, s, d, v, ((rowL k s d v).length : Int), 0) := by
  have h1 := isF_iff.1 h
  have e1 : takeText (rowL k s d v ++ r) = (k, ((textL k).length : Int), 0) := by
    rw [rowL, List.append_assoc]; exact takeText_text (by omega) _
  have e2 : (rowL k s d v ++ r).drop (textL k).length = numL s.toNat ++ (valL d v ++ r) := by
    rw [rowL, List.append_assoc, List.drop_left, List.append_assoc]
  have e3 : takeNum (numL s.toNat ++ (valL d v ++ r)) = ((s.toNat : Int), ((numL s.toNat).length : Int), 0) := takeNum_num (by omega) _
  unfold readE
  rw [e1]
  simp only [Int.toNat_natCast, if_true]
  rw [e2, e3]
  simp only [Int.toNat_natCast, if_true]
  rw [List.drop_left, Int.toNat_of_nonneg (by omega), valL_tail h]
  simp only [rowL, List.length_append, Prod.mk.injEq, true_and, and_true]
  omega
theorem readE_cut {k : List UInt8} {s : Int} {d : Bool} {v : List UInt8} (h : isF k s d v = true) {i : Nat} (hi : i < (rowL k s d v).length) : readE ((rowL k s d v).take i) = badE 12 := by
  have h1 := isF_iff.1 h
  unfold readE
  by_cases c1 : i < (textL k).length
  · have e : takeText ((rowL k s d v).take i) = ([], 0, 12) := by
      rw [rowL, List.take_append_of_le_length (by omega)]; exact takeText_cut (by omega) c1
    rw [e]; rfl
  · have e0 : (rowL k s d v).take i = textL k ++ (numL s.toNat ++ valL d v).take (i - (textL k).length) := by
      rw [rowL, List.take_append, List.take_of_length_le (by omega)]
    rw [e0, takeText_text (by omega)]
    simp only [Int.toNat_natCast, if_true]
    rw [List.drop_left]
    rw [rowL, List.length_append, List.length_append] at hi
    by_cases c2 : i - (textL k).length < (numL s.toNat).length
    · rw [List.take_append_of_le_length (by omega), takeNum_cut (by omega) c2]; rfl
    · rw [List.take_append, List.take_of_length_le (by omega), takeNum_num (by omega)]
      simp only [Int.toNat_natCast, if_true]
      rw [List.drop_left]
      have c3 : i - (textL k).length - (numL s.toNat).length < (valL d v).length := by omega
      generalize i - (textL k).length - (numL s.toNat).length = j at c3
      cases j with
      | zero => rfl
      | succ j =>
        cases d with
        | true => simp [valL] at c3
        | false =>
          simp only [valL, Bool.false_eq_true, if_false, List.take_succ_cons, tailE, if_true]
          rw [takeText_cut (by omega) (by simpa [valL] using c3)]
          rfl
theorem row_inj {k k' : List UInt8} {s s' : Int} {d d' : Bool} {v v' : List UInt8} (h : isF k s d v = true) (h' : isF k' s' d' v' = true) (e : rowL k s d v = rowL k' s' d' v') : k = k' ∧ s = s' ∧ d = d' ∧ v = v' := by
  have h1 := readE_row h []
  have h2 := readE_row h' []
  rw [e] at h1
  rw [h1] at h2
  simp only [Prod.mk.injEq] at h2
  exact ⟨h2.1, h2.2.1, h2.2.2.1, h2.2.2.2.1⟩
theorem row_len {k : List UInt8} {s : Int} {d : Bool} {v : List UInt8} (h : isF k s d v = true) : 4 ≤ (rowL k s d v).length ∧ (rowL k s d v).length ≤ 60 := by
  have h1 := isF_iff.1 h
  have a := numL_le (n := k.length) (by omega)
  have a0 := numL_len k.length
  have b := numL_le (n := s.toNat) (by omega)
  have b0 := numL_len s.toNat
  have c := numL_le (n := v.length) (by omega)
  have b1 := be_len (k := 3) (n := s.toNat) (by omega)
  have a1 := be_len (k := 1) (n := k.length) (by omega)
  have c1 := be_len (k := 1) (n := v.length) (by omega)
  have b2 := be_ge (n := s.toNat) (by omega)
  have c0 := numL_len v.length
  have e : 1 ≤ (valL d v).length ∧ (valL d v).length ≤ 3 + v.length := by
    cases d with
    | true => simp [valL]; omega
    | false => simp only [valL, textL, Bool.false_eq_true, if_false, List.length_cons, List.length_append]; omega
  simp only [rowL, textL, List.length_append]
  omega
/-- What is taken of what was written: deleted or not, the value, how many bytes, what is wrong. -/
def takeVal : List UInt8 → Bool × List UInt8 × Int × Int
  | [] => (false, [], 0, 12)
  | c :: t => if c = 0 then (false, (takeText t).1, 1 + (takeText t).2.1, (takeText t).2.2) else if c = 1 then (true, [], 1, 0) else (false, [], 1, 10)
theorem tailE_val (k : List UInt8) (s n : Int) (l : List UInt8) : tailE k s n l = if (takeVal l).2.2.2 = 0 then finE k s (takeVal l).1 (takeVal l).2.1 (n + (takeVal l).2.2.1) else badE (takeVal l).2.2.2 := by
  cases l with
  | nil => simp [tailE, takeVal]
  | cons c t =>
    simp only [tailE, takeVal]
    by_cases c0 : c = 0
    · simp only [if_pos c0, ← Int.add_assoc]
    · by_cases c1 : c = 1
      · simp [c1]
      · simp [c0, c1]
theorem takeVal_val {d : Bool} {v : List UInt8} (hv : v.length < 9223372036854775808) (h : d = true → v = []) (r : List UInt8) : takeVal (valL d v ++ r) = (d, v, ((valL d v).length : Int), 0) := by
  cases d with
  | true =>
    obtain rfl := h rfl
    simp [valL, takeVal]
  | false =>
    have e := takeText_text (s := v) hv r
    simp only [valL, takeVal, Bool.false_eq_true, if_false, List.cons_append, if_true]
    rw [e]
    simp only [List.length_cons, Prod.mk.injEq, true_and, and_true]
    omega
theorem takeVal_bounds (l : List UInt8) : 0 ≤ (takeVal l).2.2.1 ∧ (takeVal l).2.2.1 ≤ l.length ∧ 0 ≤ (takeVal l).2.2.2 ∧ (takeVal l).2.2.2 ≤ 12 := by
  cases l with
  | nil => simp [takeVal]
  | cons c t =>
    have := takeText_bounds t
    simp only [takeVal, List.length_cons]
    repeat' split
    all_goals (simp <;> omega)
end Go.Proofs.Ytjcpdbekdimceaa.Q
