import Derived.Test.YtdkdnfgpgedglaaQHeapOrd
namespace Go.Proofs.Ytdkdnfgpgedglaa.P
end Go.Proofs.Ytdkdnfgpgedglaa.P
namespace Go.Proofs.Ytdkdnfgpgedglaa.Q
end Go.Proofs.Ytdkdnfgpgedglaa.Q
namespace Go.Proofs.Ytdkdnfgpgedglaa.Q
open Go.RowKit Go.Proofs.Ytdkdnfgpgedglaa.P Go.Proofs.YtdkdnfgpgedglaaW.PrintWords Go.Proofs.YtdkdnfgpgedglaaW.PrintLast Go.Proofs.YtdkdnfgpgedglaaW.PrintMore
set_option linter.unusedVariables false
set_option linter.unusedSimpArgs false
/-! One key with numbers -/
def nE (q : Int) : S29 := ⟨⟨#[107]⟩, q, false, ⟨#[]⟩⟩
theorem nE_ky (q : Int) : ky (nE q) = [107] := rfl
theorem nE_ok {q : Int} (h : 1 ≤ q ∧ q ≤ 256) : okE (nE q) = true := by
  refine isF_iff.2 ⟨h.1, ?_, ?_, ?_, ?_, fun h => rfl⟩
  · show q ≤ 1000000; omega
  · show 1 ≤ (1 : Nat); omega
  · show (1 : Nat) ≤ 13; omega
  · show (0 : Nat) ≤ 24; omega
/-- The row of numbers as entries. -/
def nR (l : List Int) : List S29 := l.map (fun s => nE (s + 1))
def nP (l : List Int) : List S29 := putAll [] (nR l)
theorem nP_good (l : List Int) : Good (nP l) := good_all _ good_nil
theorem nP_length (l : List Int) : (nP l).length ≤ l.length := by
  have h := putAll_length (nR l) []
  rw [List.length_nil] at h
  have h2 : (nR l).length = l.length := by simp [nR]
  rw [h2] at h
  show (putAll [] (nR l)).length ≤ _
  omega
theorem nP_snoc (l : List Int) (s : Int) : nP (l ++ [s]) = putE (nP l) (nE (s + 1)) := by
  unfold nP nR
  rw [List.map_append, List.map_singleton, putAll_snoc]
def U8s (l : List Int) : Prop := ∀ y ∈ l, 0 ≤ y ∧ y ≤ 255
theorem nR_ok {l : List Int} (h : U8s l) : (nR l).filter okE = nR l := by
  refine List.filter_eq_self.2 (fun e he => ?_)
  obtain ⟨s, hs, rfl⟩ := List.mem_map.1 he
  have := h s hs
  exact nE_ok ⟨by omega, by omega⟩
theorem nP_look {l : List Int} (h : U8s l) (q : Int) : lookE (nP l) [107] q = lookE (nR l) [107] q := by
  unfold nP
  rw [look_putAll _ _ _ List.Pairwise.nil, nR_ok h, look_nil, Option.none_or]
theorem nP_mem {l : List Int} (h : U8s l) {s : Int} (hs : s ∈ l) : ∃ e ∈ nP l, ky e = [107] ∧ e.f1 = s + 1 := by
  obtain ⟨x, hx⟩ := look_isSome (show nE (s + 1) ∈ nR l from List.mem_map.2 ⟨s, hs, rfl⟩)
  have h1 : lookE (nP l) [107] (s + 1) = some x := (nP_look h (s + 1)).trans hx
  have h2 := look_mem h1
  exact ⟨x, h2.1, h2.2⟩
theorem nP_of {l : List Int} (h : U8s l) {e : S29} (he : e ∈ nP l) : ky e = [107] ∧ ∃ s ∈ l, e.f1 = s + 1 := by
  have key : ∀ (row acc : List S29), PW acc → (∀ x ∈ acc, x ∈ nR l) → (∀ x ∈ row, x ∈ nR l) → ∀ x ∈ putAll acc row, x ∈ nR l := by
    intro row
    induction row with
    | nil => intro acc _ h1 _ x hx; exact h1 x hx
    | cons a t ih =>
      intro acc hp h1 h2 x hx
      refine ih (putE acc a) (putE_pw hp a) (fun y hy => ?_) (fun y hy => h2 y (List.mem_cons_of_mem _ hy)) x hx
      rw [putE_eq hp] at hy
      split at hy
      · rcases mem_ins hy with rfl | hy
        · exact h2 _ List.mem_cons_self
        · exact h1 y hy
      · exact h1 y hy
  have h1 := key (nR l) [] List.Pairwise.nil (fun x hx => by cases hx) (fun x hx => hx) e he
  obtain ⟨s, hs, rfl⟩ := List.mem_map.1 h1
  exact ⟨rfl, s, hs, rfl⟩
theorem nP_put {l : List Int} (h : U8s l) {s : Int} (hs : 0 ≤ s ∧ s ≤ 255) : putB (nP l) (nE (s + 1)) = !decide (s ∈ l) := by
  rw [putB_eq (nP_good l).1, nE_ok ⟨by omega, by omega⟩, Bool.true_and]
  by_cases hm : s ∈ l
  · obtain ⟨e, he, hk, hq⟩ := nP_mem h hm
    obtain ⟨x, hx⟩ := look_isSome he
    rw [hk, hq] at hx
    rw [decide_eq_true hm, show lookE (nP l) (ky (nE (s + 1))) (nE (s + 1)).f1 = some x from hx]; rfl
  · rw [decide_eq_false hm, look_none]
    · rfl
    · intro e he hh
      obtain ⟨_, t, ht, hq⟩ := nP_of h he
      have h3 : e.f1 = s + 1 := hh.2
      have : t = s := by omega
      exact hm (this ▸ ht)
theorem snoc_ind {α : Type} {P : List α → Prop} (h0 : P []) (h1 : ∀ l a, P l → P (l ++ [a])) : ∀ l, P l := by
  intro l
  rw [← List.reverse_reverse l]
  induction l.reverse with
  | nil => exact h0
  | cons a t ih => rw [List.reverse_cons]; exact h1 _ _ ih
/-- The greatest up to ask. -/
def bF (ask : Int) (l : List Int) : Int := l.foldl (fun b s => if s + 1 ≤ ask then max b (s + 1) else b) 0
theorem bF_snoc (ask : Int) (l : List Int) (s : Int) : bF ask (l ++ [s]) = if s + 1 ≤ ask then max (bF ask l) (s + 1) else bF ask l := by simp [bF, List.foldl_append]
theorem bF_is (ask : Int) : ∀ (l : List Int), U8s l → (bF ask l = 0 ∧ ∀ s ∈ l, ¬ s + 1 ≤ ask) ∨ ((∃ s ∈ l, bF ask l = s + 1 ∧ s + 1 ≤ ask) ∧ ∀ s ∈ l, s + 1 ≤ ask → s + 1 ≤ bF ask l) := by
  refine snoc_ind (fun _ => .inl ⟨rfl, fun s hs => by cases hs⟩) (fun l s ih h => ?_)
  · skip
    have hl : U8s l := fun y hy => h y (List.mem_append_left _ hy)
    have hs := h s (List.mem_append_right _ List.mem_cons_self)
    rw [bF_snoc]
    by_cases h1 : s + 1 ≤ ask
    · rw [if_pos h1]
      right
      rcases ih hl with ⟨h2, h3⟩ | ⟨⟨t, ht, h2, h4⟩, h3⟩
      · refine ⟨⟨s, List.mem_append_right _ List.mem_cons_self, by omega, h1⟩, fun y hy hya => ?_⟩
        rcases List.mem_append.1 hy with hy | hy
        · exact absurd hya (h3 y hy)
        · rw [List.mem_singleton] at hy; subst hy; omega
      · refine ⟨?_, fun y hy hya => ?_⟩
        · by_cases h5 : bF ask l ≤ s + 1
          · exact ⟨s, List.mem_append_right _ List.mem_cons_self, by omega, h1⟩
          · exact ⟨t, List.mem_append_left _ ht, by omega, h4⟩
        · rcases List.mem_append.1 hy with hy | hy
          · have := h3 y hy hya; omega
          · rw [List.mem_singleton] at hy; subst hy; omega
    · rw [if_neg h1]
      rcases ih hl with ⟨h2, h3⟩ | ⟨⟨t, ht, h2, h4⟩, h3⟩
      · left
        refine ⟨h2, fun y hy => ?_⟩
        rcases List.mem_append.1 hy with hy | hy
        · exact h3 y hy
        · rw [List.mem_singleton] at hy; subst hy; exact h1
      · right
        refine ⟨⟨t, List.mem_append_left _ ht, h2, h4⟩, fun y hy hya => ?_⟩
        rcases List.mem_append.1 hy with hy | hy
        · exact h3 y hy hya
        · rw [List.mem_singleton] at hy; subst hy; exact absurd hya h1
theorem lessF_same (k : List UInt8) (s t : Int) : lessF k s k t = decide (t < s) := by
  unfold lessF; rw [lt_irrefl]; simp
/-- What Get tells. -/
theorem nP_get {l : List Int} (h : U8s l) (ask : Int) : (getE (nP l) [107] ask).2.1 = bF ask l ∧ (getE (nP l) [107] ask).2.2.2.2 = decide (0 < bF ask l) := by
  unfold getE
  by_cases hp : placeE (nP l) [107] ask < (nP l).length
  · have hmem : (nP l).getD (placeE (nP l) [107] ask) z29 ∈ nP l := by
      rw [List.getD_eq_getElem?_getD, List.getElem?_eq_getElem hp]; exact List.getElem_mem hp
    have hx := nP_of h hmem
    have hge := place_ge (pw_sorted (nP_good l).1) (Nat.le_refl (placeE (nP l) [107] ask)) hp
    rw [if_pos ⟨hp, hx.1⟩]
    rw [hx.1, lessF_same, decide_eq_false_iff_not] at hge
    obtain ⟨x, hxe⟩ : ∃ x, x = (nP l).getD (placeE (nP l) [107] ask) z29 := ⟨_, rfl⟩
    rw [← hxe] at hx hge ⊢
    show x.f1 = bF ask l ∧ true = decide (0 < bF ask l)
    obtain ⟨_, s, hs, hsx⟩ := hx
    have hs0 := h s hs
    rcases bF_is ask l h with ⟨h2, h3⟩ | ⟨⟨t, ht, h2, h4⟩, h3⟩
    · exact absurd (by omega) (h3 s hs)
    · have h5 := h3 s hs (by omega)
      obtain ⟨e, he, hek, heq⟩ := nP_mem h ht
      have ht0 := h t ht
      have h6 : e.f1 ≤ x.f1 := by
        obtain ⟨j, hj, hje⟩ := List.getElem_of_mem he
        have hjd : (nP l).getD j z29 = e := by rw [List.getD_eq_getElem?_getD, List.getElem?_eq_getElem hj]; exact hje
        rcases Nat.lt_or_ge j (placeE (nP l) [107] ask) with h7 | h7
        · have h8 := place_lt h7
          rw [hjd, hek, lessF_same, decide_eq_true_iff] at h8
          omega
        · rcases Nat.eq_or_lt_of_le h7 with h8 | h8
          · rw [← h8, ← hxe] at hjd
            rw [hjd]; exact Int.le_refl _
          · have h9 := sorted_lt (pw_sorted (nP_good l).1) h8 hj
            rw [hjd, ← hxe] at h9
            have hkx : ky x = [107] := (nP_of h (by rw [hxe]; exact hmem)).1
            unfold lessE at h9
            rw [hkx, hek, lessF_same, decide_eq_true_iff] at h9
            omega
      refine ⟨by omega, ?_⟩
      rw [decide_eq_true (by omega)]
  · rw [if_neg (fun hh => hp hh.1)]
    show (0 : Int) = bF ask l ∧ false = decide (0 < bF ask l)
    rcases bF_is ask l h with ⟨h2, h3⟩ | ⟨⟨t, ht, h2, h4⟩, h3⟩
    · rw [h2]; exact ⟨rfl, rfl⟩
    · obtain ⟨e, he, hek, heq⟩ := nP_mem h ht
      obtain ⟨j, hj, hje⟩ := List.getElem_of_mem he
      have hjd : (nP l).getD j z29 = e := by rw [List.getD_eq_getElem?_getD, List.getElem?_eq_getElem hj]; exact hje
      have h8 := place_lt (l := nP l) (key := [107]) (seq := ask) (show j < placeE (nP l) [107] ask by omega)
      rw [hjd, hek, lessF_same, decide_eq_true_iff] at h8
      omega
/-! Which have been met -/
def metA (l : List Int) : Array Value := ((List.range 256).map (fun v : Nat => Value.bool (decide ((v : Int) ∈ l)))).toArray
theorem metA_at (l : List Int) {s : Nat} (hs : s < 256) : (metA l)[s]? = some (.bool (decide ((s : Int) ∈ l))) := by
  simp [metA, hs]
theorem metA_set (l : List Int) {s : Nat} (hs : s < 256) : (metA l).setIfInBounds s (.bool true) = metA (l ++ [(s : Int)]) := by
  apply Array.ext_getElem?
  intro i
  rcases Nat.lt_or_ge i 256 with hi | hi
  · rw [metA_at _ hi]
    by_cases h : s = i
    · subst h
      rw [Array.getElem?_setIfInBounds_self_of_lt (by simp [metA, hs])]
      simp
    · rw [Array.getElem?_setIfInBounds_ne h, metA_at _ hi]
      have : ((i : Int) ∈ l ++ [(s : Int)]) ↔ ((i : Int) ∈ l) := by
        rw [List.mem_append, List.mem_singleton]
        exact ⟨fun h2 => h2.elim id (fun h3 => absurd (by omega) h), .inl⟩
      rw [decide_eq_decide.2 this]
  · rw [Array.getElem?_eq_none (by simp [metA]; omega), Array.getElem?_eq_none (by simp [metA]; omega)]
theorem metA_nil : metA [] = Array.replicate 256 (.bool false) := by
  apply Array.ext_getElem?
  intro i
  rcases Nat.lt_or_ge i 256 with hi | hi
  · rw [metA_at _ hi]; simp [hi]
  · rw [Array.getElem?_eq_none (by simp [metA]; omega), Array.getElem?_eq_none (by simp; omega)]
theorem nP_count {l : List Int} (h : U8s l) {s : Int} (hs : 0 ≤ s ∧ s ≤ 255) : (nP (l ++ [s])).length = if s ∈ l then (nP l).length else (nP l).length + 1 := by
  rw [nP_snoc, putE_length, nP_put h hs]
  by_cases hm : s ∈ l
  · rw [decide_eq_true hm, if_pos hm]; rfl
  · rw [decide_eq_false hm, if_neg hm]; rfl
end Go.Proofs.Ytdkdnfgpgedglaa.Q
