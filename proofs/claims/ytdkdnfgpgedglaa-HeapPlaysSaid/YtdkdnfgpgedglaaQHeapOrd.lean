import Derived.Test.YtdkdnfgpgedglaaQHeapIns
namespace Go.Proofs.Ytdkdnfgpgedglaa.P
end Go.Proofs.Ytdkdnfgpgedglaa.P
namespace Go.Proofs.Ytdkdnfgpgedglaa.Q
end Go.Proofs.Ytdkdnfgpgedglaa.Q
namespace Go.Proofs.Ytdkdnfgpgedglaa.Q
open Go.RowKit Go.Proofs.Ytdkdnfgpgedglaa.P Go.Proofs.YtdkdnfgpgedglaaW.PrintWords Go.Proofs.YtdkdnfgpgedglaaW.PrintLast Go.Proofs.YtdkdnfgpgedglaaW.PrintMore
set_option linter.unusedVariables false
set_option linter.unusedSimpArgs false
/-- Of a key and a number. -/
def KS (x y : S29) : Prop := ky x = ky y ∧ x.f1 = y.f1
def UN (l : List S29) : Prop := l.Pairwise (fun x y => ¬ KS x y)
theorem un_all : ∀ {l : List S29}, UN l → ∀ a ∈ l, ∀ b ∈ l, KS a b → a = b
  | [], _, a, ha, _, _, _ => by cases ha
  | x :: t, h, a, ha, b, hb, hk => by
    have h1 := List.pairwise_cons.1 h
    rcases List.mem_cons.1 ha with ea | ha'
    · rcases List.mem_cons.1 hb with eb | hb'
      · rw [ea, eb]
      · rw [ea] at hk; exact absurd hk (h1.1 b hb')
    · rcases List.mem_cons.1 hb with eb | hb'
      · rw [eb] at hk; exact absurd ⟨hk.1.symm, hk.2.symm⟩ (h1.1 a ha')
      · exact un_all h1.2 a ha' b hb' hk
theorem look_perm {a b : List S29} (h : UN a) (hp : ∀ e, e ∈ a ↔ e ∈ b) (k : List UInt8) (s : Int) : lookE a k s = lookE b k s := by
  cases ha : lookE a k s with
  | none =>
    symm
    refine look_none (fun e he hh => ?_)
    obtain ⟨x, hx⟩ := look_isSome ((hp e).2 he)
    rw [hh.1, hh.2, ha] at hx; cases hx
  | some x =>
    have h1 := look_mem ha
    obtain ⟨y, hy⟩ := look_isSome ((hp x).1 h1.1)
    have h2 := look_mem hy
    have : x = y := un_all h x h1.1 y ((hp y).2 h2.1) ⟨h2.2.1.symm, h2.2.2.symm⟩
    subst this
    rw [h1.2.1, h1.2.2] at hy
    exact hy.symm
def rot (l : List S29) (k : Nat) : List S29 := l.drop k ++ l.take k
theorem rot_length (l : List S29) (k : Nat) (hk : k ≤ l.length) : (rot l k).length = l.length := by
  unfold rot; simp only [List.length_append, List.length_drop, List.length_take]; omega
theorem rot_mem (l : List S29) (k : Nat) (e : S29) : e ∈ l ↔ e ∈ rot l k := by
  unfold rot
  have h : e ∈ l ↔ e ∈ l.take k ++ l.drop k := by rw [List.take_append_drop]
  rw [h, List.mem_append, List.mem_append]
  exact Or.comm
theorem rot_get (l : List S29) (k i : Nat) (hk : k < l.length) (hi : i < l.length) : (rot l k).getD i z29 = l.getD ((i + k) % l.length) z29 := by
  unfold rot
  rw [List.getD_eq_getElem?_getD, List.getD_eq_getElem?_getD]
  congr 1
  rcases Nat.lt_or_ge i (l.length - k) with h | h
  · rw [List.getElem?_append_left (by rw [List.length_drop]; exact h), List.getElem?_drop, Nat.mod_eq_of_lt (by omega), Nat.add_comm]
  · rw [List.getElem?_append_right (by rw [List.length_drop]; exact h), List.length_drop, List.getElem?_take_of_lt (by omega)]
    rw [Nat.mod_eq_sub_mod (by omega), Nat.mod_eq_of_lt (by omega)]
    congr 1
    omega
/-- The same, in whatever order. -/
theorem orders_eq {l : List S29} (h : UN l) (k : Nat) : putAll [] (rot l k) = putAll [] l := by
  refine sorted_uniq (good_all _ good_nil).1 (good_all _ good_nil).1 (fun key s => ?_)
  rw [look_putAll _ key s List.Pairwise.nil, look_putAll _ key s List.Pairwise.nil]
  congr 1
  refine (look_perm (h.filter _) (fun e => ?_) key s).symm
  rw [List.mem_filter, List.mem_filter, rot_mem l k e]
theorem un_of {l : List S29} (h : ∀ i, i < l.length → ∀ j, j < i → ¬ KS (l.getD j z29) (l.getD i z29)) : UN l := by
  unfold UN
  rw [List.pairwise_iff_getElem]
  intro i j hi hj hij hk
  refine h j hj i hij ?_
  rw [List.getD_eq_getElem?_getD, List.getD_eq_getElem?_getD, List.getElem?_eq_getElem hi, List.getElem?_eq_getElem hj]
  exact hk
theorem take_putAll {l : List S29} {q : Nat} (h : q < l.length) : putAll [] (l.take (q + 1)) = putE (putAll [] (l.take q)) (l.getD q z29) := by
  rw [List.take_succ_eq_append_getElem h, putAll_snoc]
  rw [List.getD_eq_getElem?_getD, List.getElem?_eq_getElem h]; rfl
theorem less_at {l : List S29} (h : PW l) {i : Nat} (hi : i + 1 < l.length) : lessF (l.getD i z29).f0.data.toList (l.getD i z29).f1 (l.getD (i + 1) z29).f0.data.toList (l.getD (i + 1) z29).f1 = true :=
  sorted_next (pw_sorted h) i hi
end Go.Proofs.Ytdkdnfgpgedglaa.Q
