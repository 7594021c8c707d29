import Derived.Test.YtjcpdbekdimceaaQEntrySpec
namespace Go.Proofs.Ytjcpdbekdimceaa.P
end Go.Proofs.Ytjcpdbekdimceaa.P
namespace Go.Proofs.Ytjcpdbekdimceaa.Q
end Go.Proofs.Ytjcpdbekdimceaa.Q
namespace Go.Proofs.Ytjcpdbekdimceaa.Q
open Go.RowKit Go.Proofs.Ytjcpdbekdimceaa.P Go.Proofs.YtjcpdbekdimceaaW.PrintWords Go.Proofs.YtjcpdbekdimceaaW.PrintLast Go.Proofs.YtjcpdbekdimceaaW.PrintMore
set_option linter.unusedVariables false
set_option linter.unusedSimpArgs false

/-! Sorted rows: what they hold of a key and a number -/
theorem sorted_pw : ∀ {l : List S39}, sortedB l = true → l.Pairwise (fun a b => lessE a b = true)
  | [], _ => List.Pairwise.nil
  | [a], _ => List.pairwise_singleton _ _
  | a :: b :: t, h => by
    have h' := h
    simp only [sortedB, Bool.and_eq_true] at h'
    have ih := sorted_pw h'.2
    refine List.Pairwise.cons (fun x hx => ?_) ih
    rcases List.mem_cons.1 hx with rfl | hx
    · exact h'.1
    · exact lessF_trans h'.1 ((List.pairwise_cons.1 ih).1 x hx)
theorem pw_sorted : ∀ {l : List S39}, l.Pairwise (fun a b => lessE a b = true) → sortedB l = true
  | [], _ => rfl
  | [a], _ => rfl
  | a :: b :: t, h => by
    have h1 := List.pairwise_cons.1 h
    simp only [sortedB, Bool.and_eq_true]
    exact ⟨h1.1 b List.mem_cons_self, pw_sorted h1.2⟩
theorem less_ne {a b : S39} (h : lessE a b = true) : ¬ (ky a = ky b ∧ a.f1 = b.f1) := by
  rintro ⟨h1, h2⟩
  unfold lessE at h
  rw [h1, h2, lessF_irrefl] at h
  cases h
def hit (k : List UInt8) (s : Int) (e : S39) : Bool := ky e == k && e.f1 == s
theorem hit_iff {k : List UInt8} {s : Int} {e : S39} : hit k s e = true ↔ ky e = k ∧ e.f1 = s := by simp [hit]
def lookE (l : List S39) (k : List UInt8) (s : Int) : Option S39 := l.find? (hit k s)
theorem look_nil (k : List UInt8) (s : Int) : lookE [] k s = none := rfl
theorem look_cons (x : S39) (l : List S39) (k : List UInt8) (s : Int) : lookE (x :: l) k s = if hit k s x = true then some x else lookE l k s := by
  unfold lookE
  rw [List.find?_cons]
  cases hit k s x <;> rfl
theorem look_append (a b : List S39) (k : List UInt8) (s : Int) : lookE (a ++ b) k s = (lookE a k s).or (lookE b k s) := List.find?_append
theorem look_self (x : S39) (l : List S39) : lookE (x :: l) (ky x) x.f1 = some x := by rw [look_cons, if_pos (hit_iff.2 ⟨rfl, rfl⟩)]
theorem look_mem {l : List S39} {k : List UInt8} {s : Int} {e : S39} (h : lookE l k s = some e) : e ∈ l ∧ ky e = k ∧ e.f1 = s := ⟨List.mem_of_find?_eq_some h, hit_iff.1 (List.find?_some h)⟩
theorem look_none {l : List S39} {k : List UInt8} {s : Int} (h : ∀ e ∈ l, ¬ (ky e = k ∧ e.f1 = s)) : lookE l k s = none := by
  unfold lookE
  rw [List.find?_eq_none]
  intro e he hh
  exact h e he (hit_iff.1 hh)
theorem look_isSome {l : List S39} {e : S39} (h : e ∈ l) : ∃ x, lookE l (ky e) e.f1 = some x := by
  cases hx : lookE l (ky e) e.f1 with
  | some x => exact ⟨x, rfl⟩
  | none =>
    unfold lookE at hx
    rw [List.find?_eq_none] at hx
    exact absurd (hit_iff.2 ⟨rfl, rfl⟩) (hx e h)
theorem behind_none {x : S39} {l : List S39} (h : ∀ y ∈ l, lessE x y = true) {k : List UInt8} {s : Int} (hk : ky x = k ∧ x.f1 = s) : lookE l k s = none :=
  look_none (fun e he hh => less_ne (h e he) ⟨hk.1.trans hh.1.symm, hk.2.trans hh.2.symm⟩)
theorem sorted_uniq : ∀ {a b : List S39}, a.Pairwise (fun a b => lessE a b = true) → b.Pairwise (fun a b => lessE a b = true) → (∀ k s, lookE a k s = lookE b k s) → a = b
  | [], [], _, _, _ => rfl
  | [], y :: t, _, _, h => by have := h (ky y) y.f1; rw [look_self] at this; cases this
  | x :: a, [], _, _, h => by have := h (ky x) x.f1; rw [look_self] at this; cases this
  | x :: a, y :: t, ha, hb, h => by
    have h1 := List.pairwise_cons.1 ha
    have h2 := List.pairwise_cons.1 hb
    have hx := look_mem ((h (ky x) x.f1).symm.trans (look_self x a))
    have hy := look_mem ((h (ky y) y.f1).trans (look_self y t))
    have e : x = y := by
      rcases List.mem_cons.1 hx.1 with e | e
      · exact e
      · rcases List.mem_cons.1 hy.1 with e' | e'
        · exact e'.symm
        · have a1 := h2.1 x e
          have a2 := h1.1 y e'
          have a3 := lessF_asymm (show lessF (ky y) y.f1 (ky x) x.f1 = true from a1)
          exact absurd (show lessF (ky x) x.f1 (ky y) y.f1 = true from a2) (by rw [a3]; simp)
    subst e
    rw [sorted_uniq h1.2 h2.2 (fun k s => ?_)]
    by_cases hh : ky x = k ∧ x.f1 = s
    · rw [behind_none h1.1 hh, behind_none h2.1 hh]
    · have := h k s
      rw [look_cons, look_cons, if_neg (fun h' => hh (hit_iff.1 h')), if_neg (fun h' => hh (hit_iff.1 h'))] at this
      exact this
/-! One entry put in, all rows put in -/
def ins : List S39 → S39 → List S39
  | [], e => [e]
  | x :: t, e => if lessE e x = true then e :: x :: t else if ky x = ky e ∧ x.f1 = e.f1 then x :: t else x :: ins t e
theorem mem_ins {l : List S39} {e y : S39} (h : y ∈ ins l e) : y = e ∨ y ∈ l := by
  induction l with
  | nil => exact .inl (List.mem_singleton.1 h)
  | cons x t ih =>
    unfold ins at h
    split at h
    · exact List.mem_cons.1 h
    · split at h
      · exact .inr h
      · rcases List.mem_cons.1 h with h | h
        · exact .inr (List.mem_cons.2 (.inl h))
        · rcases ih h with h | h
          · exact .inl h
          · exact .inr (List.mem_cons.2 (.inr h))
theorem ins_pw {l : List S39} (e : S39) (h : l.Pairwise (fun a b => lessE a b = true)) : (ins l e).Pairwise (fun a b => lessE a b = true) := by
  induction l with
  | nil => exact List.pairwise_singleton _ _
  | cons x t ih =>
    have h1 := List.pairwise_cons.1 h
    unfold ins
    split
    · rename_i hlt
      refine List.Pairwise.cons (fun y hy => ?_) h
      rcases List.mem_cons.1 hy with rfl | hy
      · exact hlt
      · exact lessF_trans hlt (h1.1 y hy)
    · rename_i hlt
      split
      · exact h
      · rename_i hne
        refine List.Pairwise.cons (fun y hy => ?_) (ih h1.2)
        rcases mem_ins hy with rfl | hy
        · rcases lessF_tri (ky y) (ky x) y.f1 x.f1 with h3 | h3 | h3
          · exact absurd h3 hlt
          · exact absurd ⟨h3.1.symm, h3.2.symm⟩ hne
          · exact h3
        · exact h1.1 y hy
theorem ins_length (l : List S39) (e : S39) : (ins l e).length ≤ l.length + 1 := by
  induction l with
  | nil => exact Nat.le_refl _
  | cons x t ih =>
    unfold ins
    split
    · simp
    · split
      · simp
      · simp only [List.length_cons]; omega
theorem look_ins {l : List S39} (e : S39) (h : l.Pairwise (fun a b => lessE a b = true)) (k : List UInt8) (s : Int) : lookE (ins l e) k s = (lookE l k s).or (lookE [e] k s) := by
  induction l with
  | nil => rfl
  | cons x t ih =>
    have h1 := List.pairwise_cons.1 h
    unfold ins
    split
    · rename_i hlt
      rw [look_cons e (x :: t), look_cons e []]
      by_cases hh : hit k s e = true
      · rw [if_pos hh, if_pos hh, behind_none (x := e) (l := x :: t) (fun y hy => ?_) (hit_iff.1 hh)]
        · rfl
        · rcases List.mem_cons.1 hy with rfl | hy
          · exact hlt
          · exact lessF_trans hlt (h1.1 y hy)
      · rw [if_neg hh, if_neg hh, look_nil, Option.or_none]
    · split
      · rename_i heq
        by_cases hh : hit k s e = true
        · have h2 := hit_iff.1 hh
          rw [look_cons x t, if_pos (hit_iff.2 ⟨heq.1.trans h2.1, heq.2.trans h2.2⟩)]; rfl
        · rw [look_cons e [], if_neg hh, look_nil, Option.or_none]
      · rw [look_cons x, look_cons x t, ih h1.2]
        by_cases hh : hit k s x = true
        · rw [if_pos hh, if_pos hh]; rfl
        · rw [if_neg hh, if_neg hh]
def insAll (l row : List S39) : List S39 := row.foldl ins l
theorem insAll_pw (row : List S39) : ∀ {l : List S39}, l.Pairwise (fun a b => lessE a b = true) → (insAll l row).Pairwise (fun a b => lessE a b = true) := by
  induction row with
  | nil => exact fun h => h
  | cons e t ih => exact fun h => ih (ins_pw e h)
theorem insAll_length (row : List S39) : ∀ (l : List S39), (insAll l row).length ≤ l.length + row.length := by
  induction row with
  | nil => exact fun l => Nat.le_refl _
  | cons e t ih =>
    intro l
    have h1 := ih (ins l e)
    have h2 := ins_length l e
    have h3 : (insAll l (e :: t)) = insAll (ins l e) t := rfl
    rw [h3, List.length_cons]
    omega
theorem look_insAll (row : List S39) (k : List UInt8) (s : Int) : ∀ {l : List S39}, l.Pairwise (fun a b => lessE a b = true) → lookE (insAll l row) k s = (lookE l k s).or (lookE row k s) := by
  induction row with
  | nil => intro l h; rw [look_nil, Option.or_none]; rfl
  | cons e t ih =>
    intro l h
    have h3 : (insAll l (e :: t)) = insAll (ins l e) t := rfl
    rw [h3, ih (ins_pw e h), look_ins e h, Option.or_assoc, ← look_append]
    rfl
def mergeL (a : List S39) (rows : List (List S39)) : List S39 := rows.foldl insAll a
theorem mergeL_pw (rows : List (List S39)) : ∀ {l : List S39}, l.Pairwise (fun a b => lessE a b = true) → (mergeL l rows).Pairwise (fun a b => lessE a b = true) := by
  induction rows with
  | nil => exact fun h => h
  | cons r t ih => exact fun h => ih (insAll_pw r h)
theorem look_mergeL (rows : List (List S39)) (k : List UInt8) (s : Int) : ∀ {l : List S39}, l.Pairwise (fun a b => lessE a b = true) → lookE (mergeL l rows) k s = (lookE l k s).or (lookE rows.flatten k s) := by
  induction rows with
  | nil => intro l h; rw [List.flatten_nil, look_nil, Option.or_none]; rfl
  | cons r t ih =>
    intro l h
    have h3 : (mergeL l (r :: t)) = mergeL (insAll l r) t := rfl
    rw [h3, ih (insAll_pw r h), look_insAll r k s h, Option.or_assoc, List.flatten_cons, look_append]
end Go.Proofs.Ytjcpdbekdimceaa.Q
