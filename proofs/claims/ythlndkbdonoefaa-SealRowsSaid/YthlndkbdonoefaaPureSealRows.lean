/- Proved: the law SealRows is true of every texts, every place, every byte. -/
import Derived.Test.YthlndkbdonoefaaQKnown4
import Derived.Test.YthlndkbdonoefaaQXor
import Derived.Test.YthlndkbdonoefaaPx6
import Derived.Test.YthlndkbdonoefaaM3
namespace Go.Proofs.Ythlndkbdonoefaa.P
end Go.Proofs.Ythlndkbdonoefaa.P
namespace Go.Proofs.Ythlndkbdonoefaa.Q
end Go.Proofs.Ythlndkbdonoefaa.Q
namespace Go.Proofs.Ythlndkbdonoefaa.Pure
open Go.RowKit Go.Proofs.Ythlndkbdonoefaa.P Go.Proofs.YthlndkbdonoefaaW.PrintWords Go.Proofs.YthlndkbdonoefaaW.PrintLast Go.Proofs.YthlndkbdonoefaaW.PrintMore Go.Proofs.Ythlndkbdonoefaa.Q
set_option linter.unusedVariables false
set_option linter.unusedSimpArgs false
theorem same_l0' (x : List ByteArray) (hx : x.length ≤ 9223372036854775800) (d : Nat) : ∀ i : Nat, i + d = x.length → Ev (fun k => ravelinlaw4_same.l0 k x x (i : Int)) true := by
  induction d with
  | zero =>
    intro i hi
    exact Ev.step (fun k => ravelinlaw4_same.l0.eq_2 ..) (evF (by omega) (evSome _))
  | succ d ih =>
    intro i hi
    refine Ev.step (fun k => ravelinlaw4_same.l0.eq_2 ..) (evT (by omega) (evT (by omega) (evT (by omega) (evT rfl ?_))))
    rw [w64 (by omega), show (i : Int) + 1 = ((i + 1 : Nat) : Int) by omega]
    exact ih (i + 1) (by omega)
theorem same_ev' (x : List ByteArray) (hx : x.length ≤ 9223372036854775800) : Ev (fun k => ravelinlaw4_same.f k x x) true :=
  Ev.congr (fun k => ravelinlaw4_same.f.eq_1 ..) (evT rfl (same_l0' x hx x.length 0 (by omega)))
theorem byte_of {b : Int} (h : 0 ≤ b ∧ b ≤ 255) : ∃ y : UInt8, b = ((y.toNat : Nat) : Int) ∧ (b = 0 ↔ y = 0) := by
  refine ⟨UInt8.ofNat b.toNat, by simp; omega, ?_⟩
  constructor
  · rintro rfl; rfl
  · intro hy
    have := congrArg UInt8.toNat hy
    simp at this
    omega
theorem map_S_of (l : List ByteArray) : ∃ L : List (List UInt8), l = L.map S := ⟨l.map fun s => s.data.toList, by
  rw [List.map_map]
  have : (S ∘ fun s : ByteArray => s.data.toList) = id := by funext s; exact S_of s
  rw [this, List.map_id]⟩
theorem rdOf_S (l : List (List UInt8)) (i : Nat) (h : i < l.length) : rdOf ByteArray.empty (l.map S) (i : Int) = S (l.getD i []) := by
  unfold rdOf
  simp [List.getD_eq_getElem?_getD, h]
/-! A sum of which the last byte is another one -/
def threeL (n : Nat) : List UInt8 := [UInt8.ofNat (n / 16777216), UInt8.ofNat (n / 65536), UInt8.ofNat (n / 256)]
def badL (a : List UInt8) (y : UInt8) : List UInt8 := (numL a.length ++ threeL (sumN a)) ++ ([UInt8.ofNat (sumN a) ^^^ y] ++ a)
theorem seal_parts (a : List UInt8) : sealL a = (numL a.length ++ threeL (sumN a)) ++ ([UInt8.ofNat (sumN a)] ++ a) := by
  simp [sealL, fourL, threeL]
theorem badL_len (a : List UInt8) (y : UInt8) : (badL a y).length = (sealL a).length := by rw [seal_parts]; simp [badL]
theorem pre_len (a : List UInt8) : (numL a.length ++ threeL (sumN a)).length = (sealL a).length - a.length - 1 := by
  rw [sealL_len]; simp [threeL]
theorem openS_bad {a : List UInt8} (h : a.length < 9223372036854775808) {y : UInt8} (hy : y ≠ 0) (r : List UInt8) : ¬ (openS (badL a y ++ r)).2.2 = 0 := by
  have e0 : badL a y ++ r = numL a.length ++ (threeL (sumN a) ++ ([UInt8.ofNat (sumN a) ^^^ y] ++ (a ++ r))) := by simp [badL]
  have e : takeNum (badL a y ++ r) = ((a.length : Int), ((numL a.length).length : Int), 0) := by
    rw [e0]; exact takeNum_num h _
  have d1 : (badL a y ++ r).drop (numL a.length).length = threeL (sumN a) ++ ([UInt8.ofNat (sumN a) ^^^ y] ++ (a ++ r)) := by
    rw [e0, List.drop_left]
  have d2 : (badL a y ++ r).drop ((numL a.length).length + 4) = a ++ r := by
    rw [← List.drop_drop, d1]; rfl
  have hl : ((badL a y ++ r).length : Int) = (numL a.length).length + 4 + a.length + r.length := by
    rw [List.length_append, badL_len, sealL_len]; omega
  unfold openS
  rw [e]
  simp only [Int.toNat_natCast]
  rw [if_neg (by omega), if_pos trivial, if_neg (by omega), if_neg (by omega), d1, d2]
  have t2 : (a ++ r).take a.length = a := by simp
  rw [t2, if_neg ?_]
  · decide
  · intro hf
    have h3 : UInt8.ofNat (sumN a) ^^^ y = UInt8.ofNat (sumN a) := by
      have := congrArg (fun l : List UInt8 => l.getD 3 0) hf
      simpa [threeL, fourL] using this
    exact hy (xor_eq.1 h3)
/-! One behind the other -/
def seals (L : List (List UInt8)) : List UInt8 := (L.map sealL).flatten
theorem allS_seals (r : List UInt8) : ∀ L : List (List UInt8), (∀ a ∈ L, a.length ≤ 100) → allS (seals L ++ r) = (L ++ (allS r).1, (seals L).length + (allS r).2)
  | [], _ => by simp [seals]
  | a :: L, h => by
    have ih := allS_seals r L (fun x hx => h x (List.mem_cons_of_mem _ hx))
    have ha := h a List.mem_cons_self
    have e : seals (a :: L) ++ r = sealL a ++ (seals L ++ r) := by simp [seals]
    rw [e, allS_seal (by omega), ih]
    simp [seals]
    omega
theorem seals_snoc (L : List (List UInt8)) (i : Nat) (h : i < L.length) : seals (L.take (i + 1)) = seals (L.take i) ++ sealL (L.getD i []) := by
  rw [List.take_succ_eq_append_getElem h]
  unfold seals
  rw [List.map_append, List.flatten_append]
  simp [List.getD_eq_getElem?_getD, h]
def piece (L : List (List UInt8)) (k : Nat) (y : UInt8) (i : Nat) : List UInt8 := if i = k ∧ y ≠ 0 then badL (L.getD i []) y else sealL (L.getD i [])
def catR (L : List (List UInt8)) (k : Nat) (y : UInt8) : Nat → List UInt8
  | 0 => []
  | i + 1 => catR L k y i ++ piece L k y i
def fstR (L : List (List UInt8)) (k : Nat) : Nat → Nat
  | 0 => 0
  | i + 1 => if i < k then fstR L k i + (sealL (L.getD i [])).length else fstR L k i
theorem piece_len (L : List (List UInt8)) (k : Nat) (y : UInt8) (i : Nat) : (piece L k y i).length = (sealL (L.getD i [])).length := by
  unfold piece
  split
  · exact badL_len _ _
  · rfl
theorem sealL_le {a : List UInt8} (h : a.length ≤ 100) : (sealL a).length ≤ 113 := by
  rw [sealL_len]
  have := numL_le (n := a.length) (by omega)
  omega
theorem catR_le (L : List (List UInt8)) (k : Nat) (y : UInt8) : ∀ i : Nat, (∀ j, j < i → (L.getD j []).length ≤ 100) → (catR L k y i).length ≤ 113 * i ∧ fstR L k i ≤ 113 * i
  | 0, _ => by simp [catR, fstR]
  | i + 1, h => by
    have ih := catR_le L k y i (fun j hj => h j (by omega))
    have hs := sealL_le (h i (by omega))
    have hp := piece_len L k y i
    rw [catR, fstR, List.length_append]
    constructor
    · omega
    · split <;> omega
theorem catR_seals (L : List (List UInt8)) (k : Nat) (y : UInt8) : ∀ i : Nat, i ≤ L.length → (i ≤ k ∨ y = 0) → catR L k y i = seals (L.take i)
  | 0, _, _ => rfl
  | i + 1, hi, h => by
    have ih := catR_seals L k y i (by omega) (h.imp (fun h => by omega) id)
    have hp : piece L k y i = sealL (L.getD i []) := by
      unfold piece
      rw [if_neg]
      rintro ⟨rfl, h2⟩
      rcases h with h | h
      · omega
      · exact h2 h
    rw [catR, ih, hp, seals_snoc L i (by omega)]
theorem catR_bad (L : List (List UInt8)) (k : Nat) (y : UInt8) (hk : k < L.length) (hy : y ≠ 0) : ∀ i : Nat, k < i → ∃ r, catR L k y i = seals (L.take k) ++ (badL (L.getD k []) y ++ r)
  | 0, h => by omega
  | i + 1, h => by
    by_cases hik : i = k
    · subst hik
      refine ⟨[], ?_⟩
      rw [catR, catR_seals L i y i (by omega) (Or.inl (by omega)), List.append_nil]
      unfold piece
      rw [if_pos ⟨rfl, hy⟩]
    · obtain ⟨r, hr⟩ := catR_bad L k y hk hy i (by omega)
      refine ⟨r ++ piece L k y i, ?_⟩
      rw [catR, hr]
      simp
theorem fstR_seals (L : List (List UInt8)) (k : Nat) (hk : k ≤ L.length) : ∀ i : Nat, i ≤ L.length → fstR L k i = (seals (L.take (min i k))).length
  | 0, _ => by simp [fstR, seals]
  | i + 1, hi => by
    have ih := fstR_seals L k hk i (by omega)
    rw [fstR]
    split
    · rename_i h
      rw [ih, Nat.min_eq_left (by omega), Nat.min_eq_left (by omega), seals_snoc L i (by omega), List.length_append]
    · rw [ih, Nat.min_eq_right (by omega), Nat.min_eq_right (by omega)]
/-! The law's walk -/
theorem rows_j2 (L : List (List UInt8)) (hL : L.length ≤ 12) (k : Nat) (y : UInt8) (i : Nat) (hi : i < L.length) (hp : ∀ j, j < i → (L.getD j []).length ≤ 100) (ha : (L.getD i []).length ≤ 100) (f : Int) {r : Bool}
    (E : Ev (fun K => ravelinlaw4_SealRows.l0 K (L.map S) ((y.toNat : Nat) : Int) (k : Int) (S (catR L k y (i + 1))) f ((i + 1 : Nat) : Int)) r) :
    Ev (fun K => ravelinlaw4_SealRows.j2 K (L.map S) ((y.toNat : Nat) : Int) (k : Int) (S (catR L k y i)) f (i : Int) (S (sealL (L.getD i [])))) r := by
  have hc := (catR_le L k y i hp).1
  have hs := sealL_le ha
  have hw : wrap64 ((i : Int) + 1) = ((i + 1 : Nat) : Int) := by rw [w64 (by omega)]; omega
  refine Ev.step (fun k => ravelinlaw4_SealRows.j2.eq_2 ..) ?_
  rw [S_size, S_size, rdOf_S L i hi, S_size, S_append, hw]
  rw [catR] at E
  by_cases hik : i = k
  · subst hik
    refine evT rfl ?_
    by_cases hy : y = 0
    · subst hy
      have e : piece L i 0 i = sealL (L.getD i []) := by
        unfold piece
        rw [if_neg (fun h => h.2 rfl)]
      rw [e] at E
      exact evT rfl (evT (by omega) E)
    · have hy0 : ¬ ((y.toNat : Nat) : Int) = 0 := by
        intro h
        apply hy
        apply UInt8.toNat_inj.1
        show y.toNat = 0
        omega
      have e : piece L i y i = badL (L.getD i []) y := by
        unfold piece
        rw [if_pos ⟨rfl, hy⟩]
      rw [e] at E
      generalize L.getD i [] = a at *
      have hpre := pre_len a
      have hsl := sealL_len a
      have w1 : wrap64 (((sealL a).length : Int) - (a.length : Int)) = (((sealL a).length - a.length : Nat) : Int) := by rw [w64 (by omega)]; omega
      have w2 : wrap64 ((((sealL a).length - a.length : Nat) : Int) - 1) = (((sealL a).length - a.length - 1 : Nat) : Int) := by rw [w64 (by omega)]; omega
      have x1 : (S (sealL a)).extract 0 ((((sealL a).length - a.length - 1 : Nat) : Int)).toNat = S (numL a.length ++ threeL (sumN a)) := by
        rw [S_extract, Int.toNat_natCast, List.drop_zero, Nat.sub_zero, ← hpre]
        congr 1
        rw [seal_parts, List.take_left]
      have x2 : (S (sealL a)).extract ((((sealL a).length - a.length : Nat) : Int)).toNat (sealL a).length = S a := by
        rw [S_extract, Int.toNat_natCast]
        congr 1
        have e2 : (sealL a).length - a.length = (numL a.length ++ threeL (sumN a)).length + 1 := by omega
        rw [List.take_of_length_le (by rw [List.length_drop]; omega), e2]
        conv => lhs; rw [seal_parts, ← List.drop_drop, List.drop_left]
        rfl
      have x3 : bt (S (sealL a)) ((((sealL a).length - a.length - 1 : Nat) : Int)) = (((UInt8.ofNat (sumN a)).toNat : Nat) : Int) := by
        rw [bt_S, Int.toNat_natCast, ← hpre]
        congr 2
        rw [seal_parts, List.getD_eq_getElem?_getD, List.getElem?_append_right (Nat.le_refl _)]
        simp
      have x4 : strOfNums ([Go.bits .xor .u8 (((UInt8.ofNat (sumN a)).toNat : Nat) : Int) ((y.toNat : Nat) : Int)] : List Int) = S [UInt8.ofNat (sumN a) ^^^ y] := by
        rw [xor_byte]
        exact strOf' [UInt8.ofNat (sumN a) ^^^ y]
      rw [w1, w2, x1, x2, x3]
      refine evF hy0 (evT (by omega) (evT (by rw [List.length_map]; omega) (evT (by omega) (evT (by omega) (evT (by omega) (evConst rfl ?_))))))
      rw [x4, S_append, S_append, S_append, S_size, S_size, S_size, S_size, S_size]
      have e3 : (numL a.length ++ threeL (sumN a) ++ [UInt8.ofNat (sumN a) ^^^ y]) ++ a = badL a y := by simp [badL]
      rw [e3, badL_len]
      refine evT (by simp only [List.length_cons, List.length_nil]; omega) (evT (by omega) (evT (by omega) (evT (by rw [List.length_append]; simp only [List.length_cons, List.length_nil]; omega) (evT (by omega) E))))
  · refine evF (by omega) ?_
    have e : piece L k y i = sealL (L.getD i []) := by
      unfold piece
      rw [if_neg (fun h => hik h.1)]
    rw [e] at E
    exact evT (by omega) E
theorem rows_l0 (L : List (List UInt8)) (hL : L.length ≤ 12) (k : Nat) (hk : k < L.length) (y : UInt8) (d : Nat) : ∀ i : Nat, i ≤ L.length → L.length - i = d → (∀ j, j < i → (L.getD j []).length ≤ 100) →
    Ev (fun K => ravelinlaw4_SealRows.l0 K (L.map S) ((y.toNat : Nat) : Int) (k : Int) (S (catR L k y i)) ((fstR L k i : Nat) : Int) (i : Int)) true := by
  induction d with
  | zero =>
    intro i hi hd hp
    obtain rfl : i = L.length := by omega
    have hc := (catR_le L k y L.length hp).1
    have hall : ∀ a ∈ L, a.length ≤ 100 := by
      intro a ha
      obtain ⟨j, hj, rfl⟩ := List.getElem_of_mem ha
      have := hp j hj
      rw [List.getD_eq_getElem?_getD, List.getElem?_eq_getElem hj] at this
      exact this
    refine Ev.step (fun k => ravelinlaw4_SealRows.l0.eq_2 ..) (evF (by rw [List.length_map]; omega) (evBind (all_ev _ (by omega)) ?_))
    by_cases hy : y = 0
    · subst hy
      have e := catR_seals L k 0 L.length (Nat.le_refl _) (Or.inr rfl)
      rw [List.take_length] at e
      have e2 := allS_seals [] L hall
      have e3 : allS [] = ([], 0) := allS_neg (by decide)
      rw [e3, List.append_nil, List.append_nil] at e2
      rw [e, e2, S_size]
      refine evT rfl (evBind (same_ev' _ (by simp only [List.length_map]; omega)) (evT rfl (evEq (evSome _) ?_)))
      simp
    · have hy0 : ¬ ((y.toNat : Nat) : Int) = 0 := by
        intro h
        apply hy
        apply UInt8.toNat_inj.1
        show y.toNat = 0
        omega
      obtain ⟨r, hr⟩ := catR_bad L k y hk hy L.length hk
      have hkl := hp k hk
      have e2 := allS_seals (badL (L.getD k []) y ++ r) (L.take k) (fun a ha => hall a (List.mem_of_mem_take ha))
      rw [allS_neg (openS_bad (by omega) hy r), List.append_nil] at e2
      have hf := fstR_seals L k (by omega) L.length (Nat.le_refl _)
      rw [Nat.min_eq_right (by omega)] at hf
      rw [hr, e2, hf]
      refine evF hy0 (evT (by omega) (evT (by rw [List.length_map]; omega) ?_))
      rw [Int.toNat_natCast, ← List.map_take]
      refine evBind (same_ev' _ (by rw [List.length_map, List.length_take]; omega)) (evT rfl (evEq (evSome _) ?_))
      simp
  | succ d ih =>
    intro i hi hd hp
    have hi2 : i < L.length := by omega
    refine Ev.step (fun k => ravelinlaw4_SealRows.l0.eq_2 ..) (evT (by rw [List.length_map]; omega) (evT (by omega) ?_))
    rw [rdOf_S L i hi2, S_size]
    by_cases hl : ((L.getD i []).length : Int) > 100
    · exact evT hl (evSome _)
    have ha : (L.getD i []).length ≤ 100 := by omega
    have hs := sealL_le ha
    have hfl := (catR_le L k y i hp).2
    have hp2 : ∀ j, j < i + 1 → (L.getD j []).length ≤ 100 := by
      intro j hj
      by_cases hji : j = i
      · subst hji; exact ha
      · exact hp j (by omega)
    have hgo := ih (i + 1) (by omega) (by omega) hp2
    refine evF hl (evBind (seal_ev _ (by omega)) ?_)
    rw [S_size]
    rw [fstR] at hgo
    by_cases hik : i < k
    · rw [if_pos hik] at hgo
      refine evT (by omega) ?_
      rw [w64 (by omega), show ((fstR L k i : Nat) : Int) + ((sealL (L.getD i [])).length : Int) = ((fstR L k i + (sealL (L.getD i [])).length : Nat) : Int) by omega]
      exact rows_j2 L hL k y i hi2 hp ha _ hgo
    · rw [if_neg hik] at hgo
      exact evF (by omega) (rows_j2 L hL k y i hi2 hp ha _ hgo)
theorem SealRows : ravelinlaw4_SealRows.Pure := by
  intro l a b hl _ ha hb
  obtain ⟨g0, g255⟩ := wf_u8 ha
  obtain ⟨v, rfl⟩ : ∃ v : Nat, a = (v : Int) := ⟨a.toNat, by omega⟩
  obtain ⟨y, rfl, hy⟩ := byte_of (wf_u8 hb)
  obtain ⟨L, rfl⟩ := map_S_of l
  rw [List.length_map] at hl
  refine Ev.rounds (Ev.congr (fun k => ravelinlaw4_SealRows.f.eq_1 ..) (evBind known4 (evT rfl ?_)))
  rw [List.length_map]
  have yes : Ev (fun k => ravelinlaw4_SealRows.j0 k (L.map S) (v : Int) ((y.toNat : Nat) : Int) true) true := Ev.step (fun k => ravelinlaw4_SealRows.j0.eq_2 ..) (evT rfl (evSome _))
  by_cases h1 : (L.length : Int) > 12
  · exact evT h1 yes
  refine evF h1 ?_
  by_cases h0 : L.length = 0
  · rw [h0]; exact yes
  rw [show ((L.length : Int) == 0) = false from beq_false_of_ne (by omega)]
  refine Ev.step (fun k => ravelinlaw4_SealRows.j0.eq_2 ..) (evF (by simp) (evF (by rw [List.length_map]; omega) ?_))
  have er : Int.tmod (wrap64 (v : Int)) ((L.map S).length : Int) = ((v % L.length : Nat) : Int) := by
    rw [List.length_map, w64 (by omega), Int.tmod_eq_emod_of_nonneg (by omega), Int.natCast_emod]
  rw [er]
  exact rows_l0 L (by omega) (v % L.length) (Nat.mod_lt _ (by omega)) y _ 0 (by omega) rfl (fun j hj => by omega)
end Go.Proofs.Ythlndkbdonoefaa.Pure
