import Derived.Test.YtjcpdbekdimceaaQBase
namespace Go.Proofs.Ytjcpdbekdimceaa.P
end Go.Proofs.Ytjcpdbekdimceaa.P
namespace Go.Proofs.Ytjcpdbekdimceaa.Q
end Go.Proofs.Ytjcpdbekdimceaa.Q
namespace Go.Proofs.Ytjcpdbekdimceaa.Q
open Go.RowKit Go.Proofs.Ytjcpdbekdimceaa.P Go.Proofs.YtjcpdbekdimceaaW.PrintWords Go.Proofs.YtjcpdbekdimceaaW.PrintLast Go.Proofs.YtjcpdbekdimceaaW.PrintMore
set_option linter.unusedVariables false
set_option linter.unusedSimpArgs false

/-- A number's bytes, the highest first, no 0 ahead. -/
def be (n : Nat) : List UInt8 := if h : n = 0 then [] else be (n / 256) ++ [UInt8.ofNat n]
  termination_by n
  decreasing_by omega
theorem be_zero : be 0 = [] := by rw [be]; simp
theorem be_pos {n : Nat} (h : 0 < n) : be n = be (n / 256) ++ [UInt8.ofNat n] := by rw [be, dif_neg (by omega)]
def val (l : List UInt8) : Nat := l.foldl (fun a b => a * 256 + b.toNat) 0
theorem val_snoc (l : List UInt8) (b : UInt8) : val (l ++ [b]) = val l * 256 + b.toNat := by simp [val, List.foldl_append]
theorem val_from (l : List UInt8) : ∀ a : Nat, l.foldl (fun a b => a * 256 + b.toNat) a = a * 256 ^ l.length + val l := by
  induction l with
  | nil => intro a; simp [val]
  | cons b l ih =>
    intro a
    have h0 : val (b :: l) = (0 * 256 + b.toNat) * 256 ^ l.length + val l := ih _
    rw [h0]
    simp only [List.foldl_cons]
    rw [ih]
    rw [List.length_cons, Nat.pow_succ, Nat.add_mul, Nat.zero_mul, Nat.zero_add, Nat.mul_assoc, Nat.mul_comm 256]
    omega
theorem val_cons (b : UInt8) (l : List UInt8) : val (b :: l) = b.toNat * 256 ^ l.length + val l := by
  have h : val (b :: l) = (0 * 256 + b.toNat) * 256 ^ l.length + val l := val_from l _
  rw [h, Nat.zero_mul, Nat.zero_add]
theorem val_append (a b : List UInt8) : val (a ++ b) = val a * 256 ^ b.length + val b := by
  unfold val
  rw [List.foldl_append, val_from]
  rfl
theorem val_nil : val [] = 0 := rfl
theorem val_lt (l : List UInt8) : val l < 256 ^ l.length := by
  induction l with
  | nil => simp [val]
  | cons b l ih =>
    rw [val_cons, List.length_cons, Nat.pow_succ]
    have hb : b.toNat ≤ 255 := by have := b.toNat_lt; omega
    have := Nat.mul_le_mul_right (256 ^ l.length) hb
    omega
theorem val_be (n : Nat) : val (be n) = n := by
  induction n using Nat.strongRecOn with
  | _ n ih =>
    by_cases h : n = 0
    · subst h; rw [be_zero]; rfl
    · rw [be_pos (by omega), val_snoc, ih (n / 256) (by omega)]
      simp
      omega
theorem be_len {k : Nat} : ∀ {n : Nat}, n < 256 ^ k → (be n).length ≤ k := by
  induction k with
  | zero => intro n h; have : n = 0 := by simpa using h
            subst this; rw [be_zero]; simp
  | succ k ih =>
    intro n h
    by_cases h0 : n = 0
    · subst h0; rw [be_zero]; simp
    · rw [be_pos (by omega), List.length_append]
      have : n / 256 < 256 ^ k := by rw [Nat.pow_succ] at h; omega
      have := ih this
      simp
      omega
theorem be_head (n : Nat) : (be n).head? ≠ some 0 := by
  induction n using Nat.strongRecOn with
  | _ n ih =>
    by_cases h : n = 0
    · subst h; rw [be_zero]; simp
    · rw [be_pos (by omega)]
      by_cases h2 : n / 256 = 0
      · rw [h2, be_zero]
        simp only [List.nil_append, List.head?_cons, ne_eq, Option.some.injEq]
        intro h3
        have := congrArg UInt8.toNat h3
        simp at this
        omega
      · have := ih (n / 256) (by omega)
        rw [be_pos (by omega)] at this ⊢
        simpa [List.head?_append] using this
theorem val_pos {b : UInt8} {l : List UInt8} (h : b ≠ 0) : 0 < val (b :: l) := by
  rw [val_cons]
  have hb : 0 < b.toNat := by
    rcases Nat.eq_zero_or_pos b.toNat with h0 | h0
    · exact absurd (UInt8.toNat_inj.1 (by simpa using h0)) h
    · exact h0
  have := Nat.mul_le_mul_right (256 ^ l.length) (show 1 ≤ b.toNat from hb)
  have : 0 < 256 ^ l.length := Nat.pow_pos (by omega)
  omega
theorem be_val_aux (n : Nat) : ∀ l : List UInt8, l.length = n → l.head? ≠ some 0 → be (val l) = l := by
  induction n with
  | zero => intro l hl _; have : l = [] := by simpa using hl
            subst this; rw [val_nil, be_zero]
  | succ n ih =>
    intro l hl hh
    rcases List.eq_nil_or_concat l with rfl | ⟨t, b, rfl⟩
    · simp at hl
    · rw [List.concat_eq_append] at *
      have hp : 0 < val (t ++ [b]) := by
        cases t with
        | nil => exact val_pos (by simpa using hh)
        | cons c t => exact val_pos (by simpa using hh)
      rw [be_pos hp, val_snoc]
      have e1 : (val t * 256 + b.toNat) / 256 = val t := by have := b.toNat_lt; omega
      have e2 : UInt8.ofNat (val t * 256 + b.toNat) = b := by
        apply UInt8.toNat_inj.1
        simp
      have e3 : be (val t) = t := by
        cases t with
        | nil => rw [val_nil, be_zero]
        | cons c t => exact ih _ (by simpa using hl) (by simpa using hh)
      rw [e1, e2, e3]
theorem be_val {l : List UInt8} (h : l.head? ≠ some 0) : be (val l) = l := be_val_aux _ l rfl h
theorem be_ge {n : Nat} (h : 0 < n) : 0 < (be n).length ∧ 256 ^ ((be n).length - 1) ≤ n := by
  induction n using Nat.strongRecOn with
  | _ n ih =>
    rw [be_pos h, List.length_append]
    refine ⟨by simp, ?_⟩
    by_cases h2 : n / 256 = 0
    · rw [h2, be_zero]; simp; omega
    · obtain ⟨i1, i2⟩ := ih (n / 256) (by omega) (by omega)
      obtain ⟨m, hm⟩ : ∃ m, (be (n / 256)).length = m + 1 := ⟨(be (n / 256)).length - 1, by omega⟩
      rw [hm] at i2 ⊢
      simp only [Nat.add_sub_cancel, List.length_cons, List.length_nil] at i2 ⊢
      rw [Nat.pow_succ]
      omega
/-- Num's bytes. -/
def numL (n : Nat) : List UInt8 := UInt8.ofNat (be n).length :: be n
def textL (s : List UInt8) : List UInt8 := numL s.length ++ s
theorem be8 {n : Nat} (h : n < 9223372036854775808) : (be n).length ≤ 8 := be_len (k := 8) (by omega)
theorem numL_len (n : Nat) : (numL n).length = (be n).length + 1 := by simp [numL]
theorem numL_le {n : Nat} (h : n < 9223372036854775808) : (numL n).length ≤ 9 := by have := be8 h; rw [numL_len]; omega
theorem len_byte {n : Nat} (h : n < 9223372036854775808) : (UInt8.ofNat (be n).length).toNat = (be n).length := by
  have := be8 h
  simp
  omega

/-! What is taken -/
def takeNum : List UInt8 → Int × Int × Int
  | [] => (0, 0, 12)
  | b :: t => if 8 < b.toNat then (0, 0, 10) else if t.length < b.toNat then (0, 0, 12) else if 0 < b.toNat ∧ t.head? = some 0 then (0, 0, 10)
    else if 9223372036854775808 ≤ val (t.take b.toNat) then (0, 0, 10) else ((val (t.take b.toNat) : Nat), (b.toNat : Int) + 1, 0)
def takeText (l : List UInt8) : List UInt8 × Int × Int :=
  if (takeNum l).2.2 = 0 then (if (takeNum l).1 > (l.length : Int) - (takeNum l).2.1 then ([], 0, 12) else ((l.drop (takeNum l).2.1.toNat).take (takeNum l).1.toNat, (takeNum l).2.1 + (takeNum l).1, 0))
  else ([], 0, (takeNum l).2.2)
theorem takeNum_num {n : Nat} (h : n < 9223372036854775808) (r : List UInt8) : takeNum (numL n ++ r) = ((n : Int), ((numL n).length : Int), 0) := by
  have h8 := be8 h
  have e : (be n ++ r).take (be n).length = be n := by simp
  simp only [numL, List.cons_append, takeNum, len_byte h]
  rw [if_neg (by omega), if_neg (by simp), if_neg, e, val_be, if_neg (by omega)]
  · simp
  · rintro ⟨h1, h2⟩
    have hh := be_head n
    cases hb : be n with
    | nil => rw [hb] at h1; simp at h1
    | cons c t => rw [hb] at h2 hh; exact hh h2
theorem takeNum_inv {l : List UInt8} {a k : Int} (h : takeNum l = (a, k, 0)) : ∃ (n : Nat) (r : List UInt8), n < 9223372036854775808 ∧ l = numL n ++ r ∧ a = n ∧ k = (numL n).length := by
  cases l with
  | nil => simp [takeNum] at h
  | cons b t =>
    simp only [takeNum] at h
    split at h
    · simp at h
    · split at h
      · simp at h
      · split at h
        · simp at h
        · split at h
          · simp at h
          · rename_i h1 h2 h3 h4
            simp only [Prod.mk.injEq, and_true] at h
            have hh : (t.take b.toNat).head? ≠ some 0 := by
              intro hc
              apply h3
              rcases Nat.eq_zero_or_pos b.toNat with h0 | h0
              · rw [h0] at hc; simp at hc
              · refine ⟨h0, ?_⟩
                rw [List.head?_take] at hc
                rw [if_neg (by omega)] at hc
                exact hc
            have hl : (t.take b.toNat).length = b.toNat := by rw [List.length_take]; omega
            refine ⟨val (t.take b.toNat), t.drop b.toNat, by omega, ?_, h.1.symm, ?_⟩
            · rw [numL, be_val hh, hl]
              simp
            · rw [numL_len, be_val hh, hl, ← h.2]
              simp
theorem takeNum_cut {n : Nat} (h : n < 9223372036854775808) {i : Nat} (hi : i < (numL n).length) : takeNum ((numL n).take i) = (0, 0, 12) := by
  have h8 := be8 h
  rw [numL_len] at hi
  cases i with
  | zero => simp [takeNum]
  | succ i =>
    simp only [numL, List.take_succ_cons, takeNum, len_byte h]
    rw [if_neg (by omega), if_pos]
    rw [List.length_take]
    omega
theorem takeNum_bounds (l : List UInt8) : 0 ≤ (takeNum l).1 ∧ (takeNum l).1 < 9223372036854775808 ∧ 0 ≤ (takeNum l).2.1 ∧ (takeNum l).2.1 ≤ 9 ∧ (takeNum l).2.1 ≤ l.length ∧ 0 ≤ (takeNum l).2.2 ∧ (takeNum l).2.2 ≤ 12 := by
  cases l with
  | nil => simp [takeNum]
  | cons b t =>
    simp only [takeNum]
    repeat' split
    all_goals (simp <;> omega)
theorem takeNum_zero {l : List UInt8} (h : (takeNum l).2.2 ≠ 0) : (takeNum l).1 = 0 ∧ (takeNum l).2.1 = 0 ∧ ((takeNum l).2.2 = 10 ∨ (takeNum l).2.2 = 12) := by
  cases l with
  | nil => simp [takeNum]
  | cons b t =>
    simp only [takeNum] at h ⊢
    repeat' split
    all_goals simp_all
theorem takeText_text {s : List UInt8} (h : s.length < 9223372036854775808) (r : List UInt8) : takeText (textL s ++ r) = (s, ((textL s).length : Int), 0) := by
  have e : takeNum (textL s ++ r) = ((s.length : Int), ((numL s.length).length : Int), 0) := by
    rw [textL, List.append_assoc]; exact takeNum_num h _
  unfold takeText
  rw [e]
  simp only [if_true]
  rw [if_neg]
  · simp only [Int.toNat_natCast, Prod.mk.injEq, and_true]
    refine ⟨?_, by simp [textL]⟩
    rw [textL, List.append_assoc, List.drop_left, List.take_left]
  · simp [textL]; omega
theorem takeText_cut {s : List UInt8} (h : s.length < 9223372036854775808) {i : Nat} (hi : i < (textL s).length) : takeText ((textL s).take i) = ([], 0, 12) := by
  unfold takeText
  rw [textL] at hi ⊢
  rw [List.length_append] at hi
  by_cases hc : i < (numL s.length).length
  · rw [List.take_append_of_le_length (by omega), takeNum_cut h hc]
    simp
  · rw [List.take_append, List.take_of_length_le (by omega), takeNum_num h]
    simp only [if_true]
    rw [if_pos]
    simp
    omega
theorem takeText_inv {l s : List UInt8} {k : Int} (h : takeText l = (s, k, 0)) : s.length < 9223372036854775808 ∧ k = (textL s).length ∧ ∃ r, l = textL s ++ r := by
  unfold takeText at h
  split at h
  · rename_i h0
    obtain ⟨n, r, h1, h2, h3, h4⟩ := takeNum_inv (l := l) (a := (takeNum l).1) (k := (takeNum l).2.1) (by rw [← h0])
    split at h
    · simp at h
    · rename_i hg
      simp only [Prod.mk.injEq, and_true] at h
      obtain ⟨hs, hk⟩ := h
      rw [h3, h4] at hg hs hk
      rw [h2] at hs hg
      simp only [Int.toNat_natCast, List.drop_left, List.length_append] at hs hg
      have hl : s.length = n := by rw [← hs, List.length_take]; omega
      refine ⟨by omega, ?_, r.drop n, ?_⟩
      · rw [← hk, textL, List.length_append, hl]; simp
      · rw [textL, hl, h2, List.append_assoc, ← hs, List.take_append_drop]
  · simp only [Prod.mk.injEq] at h
    exact absurd h.2.2 (by assumption)
theorem takeText_bounds (l : List UInt8) : (takeText l).2.1 ≤ l.length ∧ 0 ≤ (takeText l).2.1 ∧ 0 ≤ (takeText l).2.2 ∧ (takeText l).2.2 ≤ 12 ∧ ((takeText l).1.length : Int) ≤ l.length := by
  have := takeNum_bounds l
  unfold takeText
  split
  · split
    · simp
    · simp; omega
  · simp; omega
/-! Order -/
theorem less_len : ∀ {a b : List UInt8}, a.length = b.length → Op.bytesLess a b = decide (val a < val b)
  | [], [], _ => by simp [Op.bytesLess, val]
  | x :: a, y :: b, h => by
    have hl : a.length = b.length := by simpa using h
    simp only [Op.bytesLess]
    rw [less_len hl, val_cons, val_cons, hl]
    have ha := val_lt a
    have hb := val_lt b
    rw [hl] at ha
    rcases Nat.lt_trichotomy x.toNat y.toNat with h1 | h1 | h1
    · have : x < y := UInt8.lt_iff_toNat_lt.2 h1
      have := Nat.mul_le_mul_right (256 ^ b.length) (show x.toNat + 1 ≤ y.toNat from h1)
      rw [Nat.add_mul] at this
      simp [*]
      omega
    · have hx : x = y := UInt8.toNat_inj.1 h1
      subst hx
      simp
    · have h2 : ¬ x < y := by rw [UInt8.lt_iff_toNat_lt]; omega
      have h3 : ¬ x = y := by rintro rfl; omega
      have := Nat.mul_le_mul_right (256 ^ b.length) (show y.toNat + 1 ≤ x.toNat from h1)
      rw [Nat.add_mul] at this
      have h4 : (x == y) = false := by simp [h3]
      have h5 : decide (x < y) = false := by simp [h2]
      rw [h4, h5]
      simp
      omega
theorem be_mono {n m : Nat} (h : n ≤ m) : (be n).length ≤ (be m).length := by
  by_cases h0 : m = 0
  · subst h0; have : n = 0 := by omega
    subst this; simp
  · have h1 := val_lt (be m)
    rw [val_be] at h1
    exact be_len (by omega)
theorem less_num {n m : Nat} (hn : n < 9223372036854775808) (hm : m < 9223372036854775808) : Op.bytesLess (numL n) (numL m) = decide (n < m) := by
  have ln := len_byte hn
  have lm := len_byte hm
  simp only [numL, Op.bytesLess]
  rcases Nat.lt_trichotomy (be n).length (be m).length with h | h | h
  · have h1 : UInt8.ofNat (be n).length < UInt8.ofNat (be m).length := UInt8.lt_iff_toNat_lt.2 (by omega)
    have : n < m := by
      rcases Nat.lt_or_ge n m with h2 | h2
      · exact h2
      · have := be_mono h2; omega
    simp [h1, this]
  · rw [h, less_len h, val_be, val_be]
    have : ¬ UInt8.ofNat (be m).length < UInt8.ofNat (be m).length := by rw [UInt8.lt_iff_toNat_lt]; omega
    simp
  · have h1 : ¬ UInt8.ofNat (be n).length < UInt8.ofNat (be m).length := by rw [UInt8.lt_iff_toNat_lt]; omega
    have h3 : ¬ UInt8.ofNat (be n).length = UInt8.ofNat (be m).length := by intro h3; have := congrArg UInt8.toNat h3; omega
    have : ¬ n < m := by
      intro h2
      have := be_mono (Nat.le_of_lt h2)
      omega
    simp only [h1, h3, this, decide_false, Bool.false_or, beq_iff_eq, Bool.false_and]
    simp [h3]
end Go.Proofs.Ytjcpdbekdimceaa.Q
