import Derived.Test.YtjcpdbekdimceaaQMergeSpec
import Derived.Test.YtjcpdbekdimceaaQMergeSee
import Derived.Test.YtjcpdbekdimceaaQMergeRows
import Derived.Test.YtjcpdbekdimceaaQMergeImpl
import Derived.Test.YtjcpdbekdimceaaQKnown11
import Derived.Test.YtjcpdbekdimceaaM6
namespace Go.Proofs.Ytjcpdbekdimceaa.P
end Go.Proofs.Ytjcpdbekdimceaa.P
namespace Go.Proofs.Ytjcpdbekdimceaa.Q
end Go.Proofs.Ytjcpdbekdimceaa.Q
namespace Go.Proofs.Ytjcpdbekdimceaa.Q
open Go.RowKit Go.Proofs.Ytjcpdbekdimceaa.P Go.Proofs.YtjcpdbekdimceaaW.PrintWords Go.Proofs.YtjcpdbekdimceaaW.PrintLast Go.Proofs.YtjcpdbekdimceaaW.PrintMore
set_option linter.unusedVariables false
set_option linter.unusedSimpArgs false
/-! Rows of unlike keys -/
def eK (c r : Nat) : S39 := ⟨S [UInt8.ofNat (97 + c)], (c : Int) + 1 + 100 * (r : Int), false, ⟨#[]⟩⟩
theorem eK_ky (c r : Nat) : ky (eK c r) = [UInt8.ofNat (97 + c)] := rfl
theorem k1_less {c d : Nat} (hc : c < 26) (hd : d < 26) : Op.bytesLess [UInt8.ofNat (97 + c)] [UInt8.ofNat (97 + d)] = decide (c < d) := by
  have h0 : Op.bytesLess [] [] = false := rfl
  rw [Op.bytesLess, h0, Bool.and_false, Bool.or_false]
  refine decide_eq_decide.2 ?_
  rw [UInt8.lt_iff_toNat_lt]
  simp [Nat.mod_eq_of_lt (show 97 + c < 256 by omega), Nat.mod_eq_of_lt (show 97 + d < 256 by omega)]
theorem k1_eq {c d : Nat} (hc : c < 26) (hd : d < 26) : ([UInt8.ofNat (97 + c)] = [UInt8.ofNat (97 + d)]) ↔ c = d := by
  rw [List.cons.injEq]
  rw [← UInt8.toNat_inj]
  simp [Nat.mod_eq_of_lt (show 97 + c < 256 by omega), Nat.mod_eq_of_lt (show 97 + d < 256 by omega)]
theorem eK_less {c d r s : Nat} (hc : c < 26) (hd : d < 26) : lessE (eK c r) (eK d s) = true ↔ c < d ∨ (c = d ∧ s < r) := by
  unfold lessE
  rw [lessF_iff, eK_ky, eK_ky, k1_less hc hd, decide_eq_true_iff, k1_eq hc hd]
  show c < d ∨ (c = d ∧ (d : Int) + 1 + 100 * (s : Int) < (c : Int) + 1 + 100 * (r : Int)) ↔ _
  constructor
  · rintro (h | ⟨h1, h2⟩)
    · exact .inl h
    · exact .inr ⟨h1, by omega⟩
  · rintro (h | ⟨h1, h2⟩)
    · exact .inl h
    · exact .inr ⟨h1, by omega⟩
/-- One row's entries, of the keys ahead of m. -/
def rowK (u : Nat → Bool) (r : Nat) : Nat → List S39
  | 0 => []
  | m + 1 => rowK u r m ++ (if u m = true then [eK m r] else [])
theorem rowK_mem (u : Nat → Bool) (r : Nat) : ∀ (m : Nat) (e : S39), e ∈ rowK u r m ↔ ∃ c, c < m ∧ u c = true ∧ e = eK c r
  | 0, e => by simp [rowK]
  | m + 1, e => by
    have ih := rowK_mem u r m e
    rw [rowK, List.mem_append, ih]
    constructor
    · rintro (⟨c, h1, h2, h3⟩ | h)
      · exact ⟨c, by omega, h2, h3⟩
      · split at h
        · rename_i hu
          exact ⟨m, by omega, hu, List.mem_singleton.1 h⟩
        · cases h
    · rintro ⟨c, h1, h2, h3⟩
      rcases Nat.lt_or_ge c m with h4 | h4
      · exact .inl ⟨c, h4, h2, h3⟩
      · obtain rfl : c = m := by omega
        exact .inr (by rw [if_pos h2, h3]; exact List.mem_singleton.2 rfl)
theorem rowK_pw (u : Nat → Bool) (r : Nat) : ∀ (m : Nat), m ≤ 26 → (rowK u r m).Pairwise (fun a b => lessE a b = true)
  | 0, _ => List.Pairwise.nil
  | m + 1, h => by
    rw [rowK, List.pairwise_append]
    refine ⟨rowK_pw u r m (by omega), ?_, fun a ha b hb => ?_⟩
    · split
      · exact List.pairwise_singleton _ _
      · exact List.Pairwise.nil
    · obtain ⟨c, h1, _, rfl⟩ := (rowK_mem u r m a).1 ha
      split at hb
      · rw [List.mem_singleton.1 hb]; exact (eK_less (by omega) (by omega)).2 (.inl h1)
      · cases hb
theorem rowK_len (u : Nat → Bool) (r : Nat) : ∀ m : Nat, (rowK u r m).length ≤ m
  | 0 => Nat.le_refl _
  | m + 1 => by
    have := rowK_len u r m
    rw [rowK, List.length_append]
    split
    · simp only [List.length_cons, List.length_nil]; omega
    · simp only [List.length_nil]; omega
/-! The one row -/
def gK (u0 u1 : Nat → Bool) (c : Nat) : List S39 := (if u1 c = true then [eK c 1] else []) ++ (if u0 c = true then [eK c 0] else [])
def mT (u0 u1 : Nat → Bool) : Nat → Nat → List S39
  | _, 0 => []
  | c, m + 1 => gK u0 u1 c ++ mT u0 u1 (c + 1) m
theorem gK_mem {u0 u1 : Nat → Bool} {c : Nat} {e : S39} : e ∈ gK u0 u1 c ↔ (u0 c = true ∧ e = eK c 0) ∨ (u1 c = true ∧ e = eK c 1) := by
  unfold gK
  rw [List.mem_append]
  cases u0 c <;> cases u1 c <;> simp [or_comm]
theorem mT_mem (u0 u1 : Nat → Bool) : ∀ (m c : Nat) (e : S39), e ∈ mT u0 u1 c m ↔ ∃ d, c ≤ d ∧ d < c + m ∧ ((u0 d = true ∧ e = eK d 0) ∨ (u1 d = true ∧ e = eK d 1))
  | 0, c, e => by
    rw [mT]
    exact ⟨(fun h => by cases h), fun ⟨d, h1, h2, _⟩ => by omega⟩
  | m + 1, c, e => by
    have ih := mT_mem u0 u1 m (c + 1) e
    rw [mT, List.mem_append, ih, gK_mem]
    constructor
    · rintro (h | ⟨d, h1, h2, h3⟩)
      · exact ⟨c, by omega, by omega, h⟩
      · exact ⟨d, by omega, by omega, h3⟩
    · rintro ⟨d, h1, h2, h3⟩
      rcases Nat.eq_or_lt_of_le h1 with h4 | h4
      · subst h4; exact .inl h3
      · exact .inr ⟨d, by omega, by omega, h3⟩
theorem gK_pw (u0 u1 : Nat → Bool) {c : Nat} (hc : c < 26) : (gK u0 u1 c).Pairwise (fun a b => lessE a b = true) := by
  unfold gK
  have h : lessE (eK c 1) (eK c 0) = true := (eK_less hc hc).2 (.inr ⟨rfl, by omega⟩)
  cases u0 c <;> cases u1 c <;> simp [h]
theorem mT_pw (u0 u1 : Nat → Bool) : ∀ (m c : Nat), c + m ≤ 26 → (mT u0 u1 c m).Pairwise (fun a b => lessE a b = true)
  | 0, _, _ => List.Pairwise.nil
  | m + 1, c, h => by
    rw [mT, List.pairwise_append]
    refine ⟨gK_pw u0 u1 (by omega), mT_pw u0 u1 m (c + 1) (by omega), fun a ha b hb => ?_⟩
    obtain ⟨d, h1, h2, h3⟩ := (mT_mem u0 u1 m (c + 1) b).1 hb
    rcases gK_mem.1 ha with ⟨_, rfl⟩ | ⟨_, rfl⟩ <;> rcases h3 with ⟨_, rfl⟩ | ⟨_, rfl⟩ <;> exact (eK_less (by omega) (by omega)).2 (.inl (by omega))
theorem un_all : ∀ {l : List S39}, l.Pairwise (fun x y => ¬ (ky x = ky y ∧ x.f1 = y.f1)) → ∀ a ∈ l, ∀ b ∈ l, (ky a = ky b ∧ a.f1 = b.f1) → a = b
  | [], _, a, ha, _, _, _ => by cases ha
  | x :: t, h, a, ha, b, hb, hk => by
    have h1 := List.pairwise_cons.1 h
    rcases List.mem_cons.1 ha with ea | ha'
    · rcases List.mem_cons.1 hb with eb | hb'
      · rw [ea, eb]
      · rw [ea] at hk; exact absurd hk (h1.1 b hb')
    · rcases List.mem_cons.1 hb with eb | hb'
      · rw [eb] at hk; exact absurd ⟨hk.1.symm, hk.2.symm⟩ (h1.1 a ha')
      · exact un_all h1.2 a ha' b hb' hk
theorem look_perm {a b : List S39} (h : a.Pairwise (fun x y => ¬ (ky x = ky y ∧ x.f1 = y.f1))) (hp : ∀ e, e ∈ a ↔ e ∈ b) (k : List UInt8) (s : Int) : lookE a k s = lookE b k s := by
  cases ha : lookE a k s with
  | none =>
    symm
    refine look_none (fun e he hh => ?_)
    obtain ⟨x, hx⟩ := look_isSome ((hp e).2 he)
    rw [hh.1, hh.2, ha] at hx; cases hx
  | some x =>
    have h1 := look_mem ha
    obtain ⟨y, hy⟩ := look_isSome ((hp x).1 h1.1)
    have h2 := look_mem hy
    have : x = y := un_all h x h1.1 y ((hp y).2 h2.1) ⟨h2.2.1.symm, h2.2.2.symm⟩
    subst this
    rw [h1.2.1, h1.2.2] at hy
    exact hy.symm
theorem merge_keys (u0 u1 : Nat → Bool) : mergeL [] [rowK u0 0 26, rowK u1 1 26] = mT u0 u1 0 26 := by
  refine sorted_uniq (mergeL_pw _ List.Pairwise.nil) (mT_pw u0 u1 26 0 (by omega)) (fun k s => ?_)
  rw [look_mergeL _ k s List.Pairwise.nil, look_nil, Option.none_or]
  symm
  refine look_perm ((mT_pw u0 u1 26 0 (by omega)).imp (fun h => less_ne h)) (fun e => ?_) k s
  rw [mT_mem, List.flatten_cons, List.flatten_cons, List.flatten_nil, List.append_nil, List.mem_append, rowK_mem, rowK_mem]
  constructor
  · rintro ⟨d, _, h2, h3⟩
    rcases h3 with ⟨h3, h4⟩ | ⟨h3, h4⟩
    · exact .inl ⟨d, by omega, h3, h4⟩
    · exact .inr ⟨d, by omega, h3, h4⟩
  · rintro (⟨d, h1, h3, h4⟩ | ⟨d, h1, h3, h4⟩)
    · exact ⟨d, by omega, by omega, .inl ⟨h3, h4⟩⟩
    · exact ⟨d, by omega, by omega, .inr ⟨h3, h4⟩⟩
theorem rowK_sorted (u : Nat → Bool) (r : Nat) : sortedB (rowK u r 26) = true := pw_sorted (rowK_pw u r 26 (Nat.le_refl _))
theorem gK_len (u0 u1 : Nat → Bool) (c : Nat) : (gK u0 u1 c).length = (if u0 c = true then 1 else 0) + (if u1 c = true then 1 else 0) := by
  unfold gK
  cases u0 c <;> cases u1 c <;> rfl
theorem mT_snoc (u0 u1 : Nat → Bool) : ∀ (m c : Nat), mT u0 u1 c (m + 1) = mT u0 u1 c m ++ gK u0 u1 (c + m)
  | 0, c => by simp [mT]
  | m + 1, c => by
    rw [mT, mT_snoc u0 u1 m (c + 1), ← List.append_assoc, ← mT]
    rw [show c + 1 + m = c + (m + 1) by omega]
theorem mT_len (u0 u1 : Nat → Bool) : ∀ m : Nat, (mT u0 u1 0 m).length = (rowK u0 0 m).length + (rowK u1 1 m).length
  | 0 => rfl
  | m + 1 => by
    rw [mT_snoc, List.length_append, mT_len u0 u1 m, gK_len, rowK, rowK, List.length_append, List.length_append, Nat.zero_add]
    cases u0 m <;> cases u1 m <;> simp <;> omega
/-! What is seen -/
def inS (u0 u1 : Nat → Bool) (q : Int) (c : Nat) : Bool := (u0 c && decide ((c : Int) + 1 ≤ q)) || (u1 c && decide ((c : Int) + 101 ≤ q))
def sT (u0 u1 : Nat → Bool) (q : Int) : Nat → Nat → Nat
  | _, 0 => 0
  | c, m + 1 => (if inS u0 u1 q c = true then 1 else 0) + sT u0 u1 q (c + 1) m
theorem sT_snoc (u0 u1 : Nat → Bool) (q : Int) : ∀ (m c : Nat), sT u0 u1 q c (m + 1) = sT u0 u1 q c m + (if inS u0 u1 q (c + m) = true then 1 else 0)
  | 0, c => by simp [sT]
  | m + 1, c => by
    show (if inS u0 u1 q c = true then 1 else 0) + sT u0 u1 q (c + 1) (m + 1) = ((if inS u0 u1 q c = true then 1 else 0) + sT u0 u1 q (c + 1) m) + _
    rw [sT_snoc u0 u1 q m (c + 1), show c + 1 + m = c + (m + 1) by omega]
    omega
theorem sT_le (u0 u1 : Nat → Bool) (q : Int) : ∀ (m c : Nat), sT u0 u1 q c m ≤ m
  | 0, c => Nat.le_refl _
  | m + 1, c => by
    have := sT_le u0 u1 q m (c + 1)
    rw [sT]; split <;> omega
theorem vis_keys (u0 u1 : Nat → Bool) (q : Int) : ∀ (m c : Nat), c + m ≤ 26 → (visL none (mT u0 u1 c m) q).length = sT u0 u1 q c m
  | 0, _, _ => rfl
  | m + 1, c, h => by
    have ih := vis_keys u0 u1 q m (c + 1) (by omega)
    have hne : ∀ r, ∀ y u, mT u0 u1 (c + 1) m = y :: u → ky y ≠ ky (eK c r) := by
      intro r y u hy
      obtain ⟨d, h1, h2, h3⟩ := (mT_mem u0 u1 m (c + 1) y).1 (by rw [hy]; exact List.mem_cons_self)
      rcases h3 with ⟨_, rfl⟩ | ⟨_, rfl⟩ <;> (rw [eK_ky, eK_ky, Ne, k1_eq (by omega) (by omega)]; omega)
    have s0 : (eK c 0).f1 = (c : Int) + 1 := by show (c : Int) + 1 + 100 * ((0 : Nat) : Int) = _; omega
    have s1 : (eK c 1).f1 = (c : Int) + 101 := by show (c : Int) + 1 + 100 * ((1 : Nat) : Int) = _; omega
    have n1 : seen none (eK c 1) q = decide ((c : Int) + 101 ≤ q) := by unfold seen; rw [s1, show (eK c 1).f2 = false from rfl]; simp
    have n0 : seen none (eK c 0) q = decide ((c : Int) + 1 ≤ q) := by unfold seen; rw [s0, show (eK c 0).f2 = false from rfl]; simp
    have n2 : seen (some (eK c 1)) (eK c 0) q = (decide ((c : Int) + 1 ≤ q) && decide (q < (c : Int) + 101)) := by unfold seen; simp only [s0, s1, show (eK c 0).f2 = false from rfl, show ky (eK c 1) = ky (eK c 0) from rfl]; simp
    rw [mT, sT, ← ih]
    unfold gK inS
    cases h0 : u0 c <;> cases h1 : u1 c
    · simp
    · simp only [if_true, Bool.false_eq_true, if_false, List.append_nil, List.singleton_append, visL, vis_rest q _ _ (hne 1), List.length_append, n1, Bool.false_and, Bool.false_or, Bool.true_and]
      by_cases hq : (c : Int) + 101 ≤ q
      · rw [decide_eq_true hq]; rfl
      · rw [decide_eq_false hq]; rfl
    · simp only [if_true, Bool.false_eq_true, if_false, List.nil_append, List.singleton_append, visL, vis_rest q _ _ (hne 0), List.length_append, n0, Bool.false_and, Bool.or_false, Bool.true_and]
      by_cases hq : (c : Int) + 1 ≤ q
      · rw [decide_eq_true hq]; rfl
      · rw [decide_eq_false hq]; rfl
    · simp only [if_true, List.cons_append, List.nil_append, visL, vis_rest q _ _ (hne 0), List.length_append, n1, n2, Bool.true_and]
      by_cases hq : (c : Int) + 101 ≤ q
      · rw [decide_eq_true hq, decide_eq_true (show (c : Int) + 1 ≤ q by omega), decide_eq_false (show ¬ q < (c : Int) + 101 by omega)]
        simp
      · by_cases hq0 : (c : Int) + 1 ≤ q
        · rw [decide_eq_false hq, decide_eq_true hq0, decide_eq_true (show q < (c : Int) + 101 by omega)]
          simp
        · rw [decide_eq_false hq, decide_eq_false hq0]
          simp
end Go.Proofs.Ytjcpdbekdimceaa.Q
