import Derived.Test.YthohfmfgijckhaaQSealSpec
import Derived.Test.YthohfmfgijckhaaQEntrySpec
import Derived.Test.YthohfmfgijckhaaM0
namespace Go.Proofs.Ythohfmfgijckhaa.P
end Go.Proofs.Ythohfmfgijckhaa.P
namespace Go.Proofs.Ythohfmfgijckhaa.Q
end Go.Proofs.Ythohfmfgijckhaa.Q
namespace Go.Proofs.Ythohfmfgijckhaa.Q
open Go.RowKit Go.Proofs.Ythohfmfgijckhaa.P Go.Proofs.YthohfmfgijckhaaW.PrintWords Go.Proofs.YthohfmfgijckhaaW.PrintLast Go.Proofs.YthohfmfgijckhaaW.PrintMore
set_option linter.unusedVariables false
set_option linter.unusedSimpArgs false

/-! How far two texts are alike -/
def sharedL : List UInt8 → List UInt8 → Nat
  | a :: x, b :: y => if a = b then sharedL x y + 1 else 0
  | _, _ => 0
theorem shared_le : ∀ a b : List UInt8, sharedL a b ≤ a.length ∧ sharedL a b ≤ b.length
  | [], _ => by simp [sharedL]
  | _ :: _, [] => by simp [sharedL]
  | a :: x, b :: y => by
    have := shared_le x y
    simp only [sharedL, List.length_cons]
    split <;> omega
theorem shared_comm : ∀ a b : List UInt8, sharedL a b = sharedL b a
  | [], [] => rfl
  | [], _ :: _ => rfl
  | _ :: _, [] => rfl
  | a :: x, b :: y => by
    simp only [sharedL]
    rw [shared_comm x y]
    by_cases h : a = b
    · rw [if_pos h, if_pos h.symm]
    · rw [if_neg h, if_neg (fun e => h e.symm)]
theorem shared_take : ∀ a b : List UInt8, a.take (sharedL a b) = b.take (sharedL a b)
  | [], _ => by simp [sharedL]
  | _ :: _, [] => by simp [sharedL]
  | a :: x, b :: y => by
    simp only [sharedL]
    split
    · rename_i h
      subst h
      rw [List.take_succ_cons, List.take_succ_cons, shared_take x y]
    · simp
theorem shared_self : ∀ a : List UInt8, sharedL a a = a.length
  | [] => rfl
  | a :: x => by simp [sharedL, shared_self x]
theorem shared_ne : ∀ a b : List UInt8, sharedL a b < a.length → sharedL a b < b.length → a.getD (sharedL a b) 0 ≠ b.getD (sharedL a b) 0
  | [], _, h, _ => by simp at h
  | _ :: _, [], _, h => by simp at h
  | a :: x, b :: y, h1, h2 => by
    simp only [sharedL] at h1 h2 ⊢
    split at h1
    · rename_i h
      rw [if_pos h] at h2 ⊢
      simp only [List.length_cons] at h1 h2
      simpa using shared_ne x y (by omega) (by omega)
    · rename_i h
      rw [if_neg h]
      simpa using h
theorem shared_step {a b : List UInt8} {n : Nat} (hn : n ≤ sharedL a b) (h1 : n < a.length) (h2 : n < b.length) : a.getD n 0 = b.getD n 0 ↔ n < sharedL a b := by
  constructor
  · intro h
    rcases Nat.lt_or_ge n (sharedL a b) with h3 | h3
    · exact h3
    · have : n = sharedL a b := by omega
      subst this
      exact absurd h (shared_ne a b h1 h2)
  · intro h
    have h3 := congrArg (fun l => l.getD n 0) (shared_take a b)
    simpa [List.getD_eq_getElem?_getD, List.getElem?_take, h] using h3
theorem shared_glue (a b : List UInt8) : a.take (sharedL a b) ++ b.drop (sharedL a b) = b := by rw [shared_take, List.take_append_drop]

/-! Entries' bytes, each by the one ahead -/
def isE (e : S45) : Bool := isF (ky e) e.f1 e.f2 (vl e)
def rowB (ahead : List UInt8) (e : S45) : List UInt8 :=
  numL (sharedL ahead (ky e)) ++ (textL ((ky e).drop (sharedL ahead (ky e))) ++ (numL e.f1.toNat ++ valL e.f2 (vl e)))
def wordsB : List UInt8 → List S45 → List UInt8
  | _, [] => []
  | ahead, e :: t => rowB ahead e ++ wordsB (ky e) t
def makeB (l : List S45) : List UInt8 × Int :=
  if l = [] then ([], 10) else if l.all isE = true then (if sortedB l = true then (sealL (wordsB [] l), 0) else ([], 16)) else ([], 10)

/-- A row at the front: its key, number, whether deleted, value; how many bytes. -/
def rowT (ahead l : List UInt8) : Option (List UInt8 × Int × Bool × List UInt8 × Nat) :=
  let a := takeNum l
  let i := a.2.1.toNat
  let b := takeText (l.drop i)
  let j := i + b.2.1.toNat
  let c := takeNum (l.drop j)
  let m := j + c.2.1.toNat
  let d := takeVal (l.drop m)
  if a.2.2 = 0 ∧ a.1 ≤ ahead.length ∧ b.2.2 = 0 ∧ c.2.2 = 0 ∧ d.2.2.2 = 0 then some (ahead.take a.1.toNat ++ b.1, c.1, d.1, d.2.1, m + d.2.2.1.toNat) else none
theorem rowT_at (ahead L : List UInt8) (a i D E : Nat) (hi : (takeNum (L.drop a)).2.1.toNat = i) (hD : a + (i + (takeText (L.drop (a + i))).2.1.toNat) = D) (hE : D + (takeNum (L.drop D)).2.1.toNat = E) :
    rowT ahead (L.drop a) = if (takeNum (L.drop a)).2.2 = 0 ∧ (takeNum (L.drop a)).1 ≤ ahead.length ∧ (takeText (L.drop (a + i))).2.2 = 0 ∧ (takeNum (L.drop D)).2.2 = 0 ∧ (takeVal (L.drop E)).2.2.2 = 0 then
      some (ahead.take (takeNum (L.drop a)).1.toNat ++ (takeText (L.drop (a + i))).1, (takeNum (L.drop D)).1, (takeVal (L.drop E)).1, (takeVal (L.drop E)).2.1, E - a + (takeVal (L.drop E)).2.2.1.toNat) else none := by
  subst hi
  subst hD
  subst hE
  unfold rowT
  simp only [List.drop_drop, Nat.add_assoc, Nat.add_sub_cancel_left]
theorem rowT_pos {ahead l k v : List UInt8} {s : Int} {d : Bool} {n : Nat} (h : rowT ahead l = some (k, s, d, v, n)) : 4 ≤ n ∧ n ≤ l.length := by
  unfold rowT at h
  simp only at h
  split at h
  · rename_i hc
    obtain ⟨h1, h2, h3, h4, h5⟩ := hc
    simp only [Option.some.injEq, Prod.mk.injEq] at h
    obtain ⟨_, _, _, _, hn⟩ := h
    have b1 := takeNum_bounds l
    obtain ⟨_, _, q1, q2, q3, q4⟩ := takeNum_inv (l := l) (a := (takeNum l).1) (k := (takeNum l).2.1) (by rw [← h1])
    have q5 := numL_len
    generalize hi : (takeNum l).2.1.toNat = i at h3 h4 h5 hn
    have b2 := takeText_bounds (l.drop i)
    obtain ⟨_, r1, _⟩ := takeText_inv (l := l.drop i) (s := (takeText (l.drop i)).1) (k := (takeText (l.drop i)).2.1) (by rw [← h3])
    rw [List.length_drop] at b2
    generalize hj : i + (takeText (l.drop i)).2.1.toNat = j at h4 h5 hn
    have b3 := takeNum_bounds (l.drop j)
    obtain ⟨_, _, s1, s2, s3, s4⟩ := takeNum_inv (l := l.drop j) (a := (takeNum (l.drop j)).1) (k := (takeNum (l.drop j)).2.1) (by rw [← h4])
    rw [List.length_drop] at b3
    generalize hm : j + (takeNum (l.drop j)).2.1.toNat = m at h5 hn
    have b4 := takeVal_bounds (l.drop m)
    rw [List.length_drop] at b4
    have b5 : 1 ≤ (takeVal (l.drop m)).2.2.1 := by
      cases hd : l.drop m with
      | nil => rw [hd] at h5; simp [takeVal] at h5
      | cons c t =>
        have := takeText_bounds t
        simp only [takeVal]
        repeat' split
        all_goals (simp <;> omega)
    rw [textL, List.length_append] at r1
    rw [q5] at q4 s4 r1
    omega
  · cases h
theorem rowT_row {ahead : List UInt8} {e : S45} (ha : ahead.length < 9223372036854775808) (h : isE e = true) (r : List UInt8) : rowT ahead (rowB ahead e ++ r) = some (ky e, e.f1, e.f2, vl e, (rowB ahead e).length) := by
  have h1 := isF_iff.1 h
  have hs := shared_le ahead (ky e)
  have e1 : takeNum (rowB ahead e ++ r) = (((sharedL ahead (ky e) : Nat) : Int), ((numL (sharedL ahead (ky e))).length : Int), 0) := by
    rw [rowB, List.append_assoc]; exact takeNum_num (by omega) _
  have d1 : (rowB ahead e ++ r).drop (numL (sharedL ahead (ky e))).length = textL ((ky e).drop (sharedL ahead (ky e))) ++ (numL e.f1.toNat ++ (valL e.f2 (vl e) ++ r)) := by
    rw [rowB, List.append_assoc, List.drop_left, List.append_assoc, List.append_assoc]
  have e2 := takeText_text (s := (ky e).drop (sharedL ahead (ky e))) (by rw [List.length_drop]; omega) (numL e.f1.toNat ++ (valL e.f2 (vl e) ++ r))
  have d2 : (rowB ahead e ++ r).drop ((numL (sharedL ahead (ky e))).length + (textL ((ky e).drop (sharedL ahead (ky e)))).length) = numL e.f1.toNat ++ (valL e.f2 (vl e) ++ r) := by
    rw [← List.drop_drop, d1, List.drop_left]
  have e3 := takeNum_num (n := e.f1.toNat) (by omega) (valL e.f2 (vl e) ++ r)
  have d3 : (rowB ahead e ++ r).drop ((numL (sharedL ahead (ky e))).length + (textL ((ky e).drop (sharedL ahead (ky e)))).length + (numL e.f1.toNat).length) = valL e.f2 (vl e) ++ r := by
    rw [← List.drop_drop, d2, List.drop_left]
  have e4 := takeVal_val (d := e.f2) (v := vl e) (by omega) h1.2.2.2.2.2 r
  unfold rowT
  simp only [e1, Int.toNat_natCast, d1, e2, d2, e3, d3, e4]
  rw [if_pos ⟨trivial, by omega, trivial, trivial, trivial⟩, shared_glue, Int.toNat_of_nonneg (by omega)]
  simp only [rowB, List.length_append, Option.some.injEq, Prod.mk.injEq, true_and]
  omega
def mkE (k : List UInt8) (s : Int) (d : Bool) (v : List UInt8) : S45 := ⟨S k, s, d, S v⟩
theorem mkE_of (e : S45) : mkE (ky e) e.f1 e.f2 (vl e) = e := by
  obtain ⟨a, b, c, d⟩ := e
  simp only [mkE, ky, vl, S_of]
theorem mkE_ky (k : List UInt8) (s : Int) (d : Bool) (v : List UInt8) : ky (mkE k s d v) = k := rfl
/-- All rows; none: they are no rows. -/
def takeB : Nat → List UInt8 → List UInt8 → Option (List S45)
  | 0, _, l => if l = [] then some [] else none
  | m + 1, ahead, l => if l = [] then some [] else (rowT ahead l).bind fun x => (takeB m x.1 (l.drop x.2.2.2.2)).map (mkE x.1 x.2.1 x.2.2.1 x.2.2.2.1 :: ·)
theorem takeB_words : ∀ (m : Nat) (ahead : List UInt8) (l : List S45), ahead.length < 9223372036854775808 → l.all isE = true → (wordsB ahead l).length ≤ m → takeB m ahead (wordsB ahead l) = some l
  | 0, ahead, l, ha, h, hm => by
    cases l with
    | nil => simp [takeB, wordsB]
    | cons e t => simp only [wordsB, rowB, List.length_append, numL_len] at hm; omega
  | m + 1, ahead, l, ha, h, hm => by
    cases l with
    | nil => simp [takeB, wordsB]
    | cons e t =>
      simp only [List.all_cons, Bool.and_eq_true] at h
      have h1 := isF_iff.1 h.1
      have hr := rowT_row ha h.1 (wordsB (ky e) t)
      have hp := rowT_pos hr
      simp only [wordsB, List.length_append] at hm
      have hne : ¬ wordsB ahead (e :: t) = [] := by
        intro hn
        have := congrArg List.length hn
        simp only [wordsB, List.length_append, List.length_nil] at this
        omega
      rw [takeB, if_neg hne]
      simp only [wordsB]
      rw [hr]
      simp only [Option.bind_some]
      rw [List.drop_left, takeB_words m (ky e) t (by omega) h.2 (by omega)]
      simp [mkE_of]
theorem takeB_len : ∀ (m : Nat) (ahead l : List UInt8) (r : List S45), takeB m ahead l = some r → r.length ≤ l.length
  | 0, ahead, l, r, h => by
    unfold takeB at h
    split at h
    · simp only [Option.some.injEq] at h
      subst h; simp
    · cases h
  | m + 1, ahead, l, r, h => by
    unfold takeB at h
    split at h
    · simp only [Option.some.injEq] at h
      subst h; simp
    · rw [Option.bind_eq_some_iff] at h
      obtain ⟨⟨k, s, d, v, n⟩, hx, h⟩ := h
      rw [Option.map_eq_some_iff] at h
      obtain ⟨r2, hr2, rfl⟩ := h
      have hp := rowT_pos hx
      have := takeB_len m _ _ _ hr2
      simp only [List.length_drop] at this
      simp only [List.length_cons]
      omega
/-- What is read: entries, or what is wrong. -/
def readB (l : List UInt8) : List S45 × Int :=
  if (openS l).2.2 = 0 then
    (if (openS l).2.1 < l.length then ([], 13)
    else match takeB (openS l).1.length [] (openS l).1 with
      | some r => if makeB r = (l, 0) then (r, 0) else ([], 10)
      | none => ([], 10))
  else ([], (openS l).2.2)
theorem makeB_ok {l : List S45} (h : (makeB l).2 = 0) : l ≠ [] ∧ l.all isE = true ∧ sortedB l = true ∧ (makeB l).1 = sealL (wordsB [] l) := by
  unfold makeB at h ⊢
  by_cases h1 : l = []
  · rw [if_pos h1] at h; cases h
  · rw [if_neg h1] at h ⊢
    by_cases h2 : l.all isE = true
    · rw [if_pos h2] at h ⊢
      by_cases h3 : sortedB l = true
      · rw [if_pos h3]; exact ⟨h1, h2, h3, rfl⟩
      · rw [if_neg h3] at h; cases h
    · rw [if_neg h2] at h; cases h
theorem row_le {ahead : List UInt8} {e : S45} (h : isE e = true) : (rowB ahead e).length ≤ 70 ∧ 4 ≤ (rowB ahead e).length := by
  have h1 := isF_iff.1 h
  have hs := shared_le ahead (ky e)
  have a := be_len (k := 1) (n := sharedL ahead (ky e)) (by omega)
  have b := be_len (k := 1) (n := ((ky e).drop (sharedL ahead (ky e))).length) (by rw [List.length_drop]; omega)
  have c := be_len (k := 3) (n := e.f1.toNat) (by omega)
  have d := be_len (k := 1) (n := (vl e).length) (by omega)
  have c2 := be_ge (n := e.f1.toNat) (by omega)
  have v : 1 ≤ (valL e.f2 (vl e)).length ∧ (valL e.f2 (vl e)).length ≤ 3 + (vl e).length := by
    cases e.f2 with
    | true => simp [valL]; omega
    | false => simp only [valL, textL, Bool.false_eq_true, if_false, List.length_cons, List.length_append, numL_len]; omega
  simp only [rowB, textL, List.length_append, numL_len, List.length_drop] at *
  omega
theorem words_le : ∀ (ahead : List UInt8) (l : List S45), l.all isE = true → (wordsB ahead l).length ≤ 70 * l.length ∧ 4 * l.length ≤ (wordsB ahead l).length
  | _, [], _ => by simp [wordsB]
  | ahead, e :: t, h => by
    simp only [List.all_cons, Bool.and_eq_true] at h
    have h1 := row_le (ahead := ahead) h.1
    have h2 := words_le (ky e) t h.2
    simp only [wordsB, List.length_append, List.length_cons]
    omega
theorem readB_make {l : List S45} (h : (makeB l).2 = 0) (hl : l.length < 1000000000) : readB (makeB l).1 = (l, 0) := by
  obtain ⟨h1, h2, h3, h4⟩ := makeB_ok h
  have hw := words_le [] l h2
  have e := openS_seal (s := wordsB [] l) (by omega) []
  rw [List.append_nil] at e
  have hm : makeB l = (sealL (wordsB [] l), 0) := Prod.ext h4 h
  rw [h4]
  unfold readB
  rw [e]
  simp only [if_true]
  rw [if_neg (by omega), takeB_words _ _ _ (by simp) h2 (Nat.le_refl _)]
  simp only [hm, if_true]
theorem readB_ok {l : List UInt8} {r : List S45} (h : readB l = (r, 0)) : makeB r = (l, 0) := by
  unfold readB at h
  split at h
  · split at h
    · simp at h
    · split at h
      · rename_i x _
        split at h
        · rename_i hx
          simp only [Prod.mk.injEq, and_true] at h
          rw [← h]; exact hx
        · simp at h
      · simp at h
  · rename_i hn
    simp only [Prod.mk.injEq] at h
    exact absurd h.2 hn
theorem readB_len (l : List UInt8) : (readB l).1.length ≤ l.length := by
  unfold readB
  split
  · rename_i h0
    have hk := openS_ok h0
    split
    · simp
    · split
      · rename_i r hr
        have := takeB_len _ _ _ _ hr
        split
        · simp only; omega
        · simp
      · simp
  · simp
theorem readB_err {l : List UInt8} (h : (readB l).2 ≠ 0) : (readB l).1 = [] := by
  unfold readB at h ⊢
  repeat' split
  all_goals simp_all
end Go.Proofs.Ythohfmfgijckhaa.Q
