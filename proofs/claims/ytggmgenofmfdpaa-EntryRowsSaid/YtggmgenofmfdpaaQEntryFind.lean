import Derived.Test.YtggmgenofmfdpaaQEntryImpl
import Derived.Test.YtggmgenofmfdpaaM4
import Derived.Test.YtggmgenofmfdpaaM9
namespace Go.Proofs.Ytggmgenofmfdpaa.P
end Go.Proofs.Ytggmgenofmfdpaa.P
namespace Go.Proofs.Ytggmgenofmfdpaa.Q
end Go.Proofs.Ytggmgenofmfdpaa.Q
namespace Go.Proofs.Ytggmgenofmfdpaa.Q
open Go.RowKit Go.Proofs.Ytggmgenofmfdpaa.P Go.Proofs.YtggmgenofmfdpaaW.PrintWords Go.Proofs.YtggmgenofmfdpaaW.PrintLast Go.Proofs.YtggmgenofmfdpaaW.PrintMore
set_option linter.unusedVariables false
set_option linter.unusedSimpArgs false
theorem halves_at (p : Nat → Option Bool) (b : Nat → Bool) (n m : Nat) (hp : ∀ i, i < n → p i = some (b i)) (h1 : ∀ i, i < m → b i = false) (h2 : ∀ i, m ≤ i → i < n → b i = true) (d : Nat) :
    ∀ k lo hi : Nat, hi - lo ≤ d → d < k → lo ≤ m → m ≤ hi → hi ≤ n → halves p k lo hi = some (m : Int) := by
  induction d with
  | zero =>
    intro k lo hi a1 a2 a3 a4 a5
    obtain ⟨k, rfl⟩ : ∃ q, k = q + 1 := ⟨k - 1, by omega⟩
    unfold halves
    rw [if_neg (by omega), show lo = m by omega]
  | succ d ih =>
    intro k lo hi a1 a2 a3 a4 a5
    obtain ⟨k, rfl⟩ : ∃ q, k = q + 1 := ⟨k - 1, by omega⟩
    unfold halves
    by_cases hl : lo < hi
    · rw [if_pos hl, hp _ (by omega)]
      simp only [Option.bind_some]
      cases hb : b ((lo + hi) / 2) with
      | true =>
        rw [if_pos rfl]
        have : m ≤ (lo + hi) / 2 := by
          rcases Nat.lt_or_ge ((lo + hi) / 2) m with h | h
          · rw [h1 _ h] at hb; cases hb
          · exact h
        exact ih k lo _ (by omega) (by omega) a3 this (by omega)
      | false =>
        rw [if_neg (by simp)]
        have : (lo + hi) / 2 < m := by
          rcases Nat.lt_or_ge ((lo + hi) / 2) m with h | h
          · exact h
          · rw [h2 _ h (by omega)] at hb; cases hb
        exact ih k _ hi (by omega) (by omega) (by omega) a4 a5
    · rw [if_neg hl, show lo = m by omega]
theorem all_rounds (g : Nat → Nat → Option Bool) (b : Nat → Bool) (n : Nat) (h : ∀ i, i < n → Ev (fun k => g k i) (b i)) : ∃ K, ∀ k, K ≤ k → ∀ i, i < n → g k i = some (b i) := by
  induction n with
  | zero => exact ⟨0, fun k _ i hi => absurd hi (by omega)⟩
  | succ n ih =>
    obtain ⟨K, hK⟩ := ih (fun i hi => h i (by omega))
    obtain ⟨L, hL⟩ := h n (by omega)
    refine ⟨max K L, fun k hk i hi => ?_⟩
    rcases Nat.lt_or_ge i n with h1 | h1
    · exact hK k (by omega) i h1
    · obtain rfl : i = n := by omega
      exact hL k (by omega)
/-- Is it ahead of a key's entry up to a seq? -/
def ahead (key : List UInt8) (seq : Int) (e : S23) : Bool := lessF (ky e) e.f1 key seq
def placeE (l : List S23) (key : List UInt8) (seq : Int) : Nat := (l.takeWhile (ahead key seq)).length
theorem tw_lt (p : S23 → Bool) : ∀ (l : List S23) (i : Nat), i < (l.takeWhile p).length → p (l.getD i z23) = true
  | [], i, h => by simp at h
  | a :: l, i, h => by
    rw [List.takeWhile_cons] at h
    by_cases ha : p a = true
    · rw [if_pos ha] at h
      cases i with
      | zero => simpa using ha
      | succ i => simpa using tw_lt p l i (by simpa using h)
    · rw [if_neg ha] at h; simp at h
theorem tw_at (p : S23 → Bool) : ∀ (l : List S23), (l.takeWhile p).length < l.length → p (l.getD (l.takeWhile p).length z23) = false
  | [], h => by simp at h
  | a :: l, h => by
    rw [List.takeWhile_cons] at h ⊢
    by_cases ha : p a = true
    · rw [if_pos ha] at h ⊢
      simpa using tw_at p l (by simpa using h)
    · rw [if_neg ha] at h ⊢
      simpa using ha
theorem tw_le (p : S23 → Bool) (l : List S23) : (l.takeWhile p).length ≤ l.length := by
  have := List.takeWhile_prefix (l := l) p
  exact this.length_le
theorem place_le (l : List S23) (key : List UInt8) (seq : Int) : placeE l key seq ≤ l.length := tw_le _ l
theorem place_lt {l : List S23} {key : List UInt8} {seq : Int} {i : Nat} (h : i < placeE l key seq) : lessF (ky (l.getD i z23)) (l.getD i z23).f1 key seq = true := tw_lt _ l i h
theorem place_ge {l : List S23} (hs : sortedB l = true) {key : List UInt8} {seq : Int} {i : Nat} (h : placeE l key seq ≤ i) (hi : i < l.length) : lessF (ky (l.getD i z23)) (l.getD i z23).f1 key seq = false := by
  have h0 : lessF (ky (l.getD (placeE l key seq) z23)) (l.getD (placeE l key seq) z23).f1 key seq = false := tw_at _ l (by show placeE l key seq < _; omega)
  rcases Nat.lt_or_ge (placeE l key seq) i with h1 | h1
  · cases hb : lessF (ky (l.getD i z23)) (l.getD i z23).f1 key seq with
    | false => rfl
    | true =>
      have := lessF_trans (sorted_lt hs h1 hi) hb
      rw [this] at h0; cases h0
  · obtain rfl : i = placeE l key seq := by omega
    exact h0
theorem first_ev (l : List S23) (hl : l.length ≤ 1000000000) (hs : sortedB l = true) (key : ByteArray) (seq : Int) : Ev (fun k => entry_First.f k l key seq) ((placeE l key.data.toList seq : Nat) : Int) := by
  obtain ⟨K, hK⟩ := all_rounds (fun k i => firstP k l key seq i) (fun i => !(lessF (ky (l.getD i z23)) (l.getD i z23).f1 key.data.toList seq)) l.length (fun i hi => by
    unfold firstP
    have e : rd_T23 l (i : Int) = l.getD i z23 := by unfold rd_T23; rw [Int.toNat_natCast]
    rw [e]
    exact evBind (less_ev _ _ _ _ _ _ _ _) (evSome _))
  refine ⟨max K (l.length + 1), fun k hk => ?_⟩
  show entry_First.f k l key seq = _
  unfold entry_First.f
  rw [if_pos (by omega)]
  refine halves_at _ _ l.length _ (hK k (by omega)) ?_ ?_ l.length k 0 l.length (by omega) (by omega) (by omega) (place_le _ _ _) (by omega)
  · intro i hi; simp only [place_lt hi, Bool.not_true]
  · intro i h1 h2; simp only [place_ge hs h1 h2, Bool.not_false]
abbrev NE := ByteArray × Int × Bool × ByteArray × Bool
def noneE : NE := (S [], 0, false, S [], false)
def someE (e : S23) : NE := (e.f0, e.f1, e.f2, e.f3, true)
/-- The newest of a key up to a seq. -/
def newestE (l : List S23) (key : List UInt8) (seq : Int) : NE :=
  if sortedB l = true then (if placeE l key seq < l.length ∧ ky (l.getD (placeE l key seq) z23) = key then someE (l.getD (placeE l key seq) z23) else noneE) else noneE
theorem newest_ev (l : List S23) (hl : l.length ≤ 1000000000) (key : ByteArray) (seq : Int) : Ev (fun k => entry_Newest.f k l key seq) (newestE l key.data.toList seq) := by
  refine Ev.congr (fun k => entry_Newest.f.eq_1 ..) (evBind (sorted_ev l (by omega)) ?_)
  unfold newestE
  by_cases hs : sortedB l = true
  · refine evEq (evT hs (evBind (first_ev l hl hs key seq) ?_)) (by rw [if_pos hs])
    have hp := place_le l key.data.toList seq
    by_cases h1 : placeE l key.data.toList seq = l.length
    · refine evEq (evT (by omega) (evSome _)) ?_
      rw [if_neg (by omega)]; rfl
    · refine evF (by omega) (evT (by omega) (evT (by omega) ?_))
      have e : rd_T23 l ((placeE l key.data.toList seq : Nat) : Int) = l.getD (placeE l key.data.toList seq) z23 := by unfold rd_T23; rw [Int.toNat_natCast]
      rw [e, toL, toL]
      by_cases h2 : ky (l.getD (placeE l key.data.toList seq) z23) = key.data.toList
      · refine evEq (evT h2 (evSome _)) ?_
        rw [if_pos ⟨by omega, h2⟩]; rfl
      · refine evEq (evF h2 (evSome _)) ?_
        rw [if_neg (fun h => h2 h.2)]; rfl
  · refine evEq (evF hs (evSome _)) ?_
    rw [if_neg hs]; rfl
theorem lessF_no {x y : List UInt8} {s t : Int} (h : lessF x s y t = true) : ¬ (x = y ∧ s ≤ t) := by
  rw [lessF_iff] at h
  rintro ⟨rfl, h2⟩
  rcases h with h | ⟨_, h⟩
  · rw [lt_irrefl] at h; cases h
  · omega
theorem lessF_le {x y : List UInt8} {s t : Int} (h : lessF x s y t = false) (e : x = y) : s ≤ t := by
  rcases Int.lt_or_le t s with h1 | h1
  · have : lessF x s y t = true := lessF_iff.2 (.inr ⟨e, h1⟩)
    rw [this] at h; cases h
  · exact h1
theorem behind_no {l : List S23} (hs : sortedB l = true) {key : List UInt8} {seq : Int} {i : Nat} (h : placeE l key seq < i) (hi : i < l.length) (hk : ky (l.getD (placeE l key seq) z23) ≠ key) : ky (l.getD i z23) ≠ key := by
  intro he
  have h1 := place_ge hs (Nat.le_refl (placeE l key seq)) (show placeE l key seq < l.length by omega)
  have h2 := sorted_lt hs h hi
  unfold lessE at h2
  rw [he, lessF_iff] at h2
  rcases h2 with h2 | ⟨h2, _⟩
  · have : lessF (ky (l.getD (placeE l key seq) z23)) (l.getD (placeE l key seq) z23).f1 key seq = true := lessF_iff.2 (.inl h2)
    rw [this] at h1; cases h1
  · exact hk h2
theorem rnewest_l0 (l : List S23) (hl : l.length ≤ 1000000000) (hs : sortedB l = true) (key : ByteArray) (seq : Int) (n : Nat) : ∀ i : Nat, l.length - i = n → (placeE l key.data.toList seq < i → ky (l.getD (placeE l key.data.toList seq) z23) ≠ key.data.toList) →
    Ev (fun k => ravelinref6_Newest.l0 k l key seq (i : Int)) (newestE l key.data.toList seq) := by
  induction n with
  | zero =>
    intro i hi hb
    have hp := place_le l key.data.toList seq
    refine Ev.step (fun k => ravelinref6_Newest.l0.eq_2 ..) (evF (by omega) ?_)
    refine Ev.step (fun k => ravelinref6_Newest.j1.eq_2 ..) (evF (by simp) (evEq (evSome _) ?_))
    unfold newestE
    rw [if_pos hs, if_neg]
    · rfl
    · rintro ⟨h1, h2⟩; exact hb (by omega) h2
  | succ n ih =>
    intro i hi hb
    refine Ev.step (fun k => ravelinref6_Newest.l0.eq_2 ..) (evT (by omega) (evBind (rsorted_ev l (by omega)) ?_))
    refine Ev.step (fun k => ravelinref6_Newest.j1.eq_2 ..) (evT hs (evT (by omega) (evT (by omega) ?_)))
    have e : rd_T23 l (i : Int) = l.getD i z23 := by unfold rd_T23; rw [Int.toNat_natCast]
    rw [e, toL, toL, w64 (by omega), show (i : Int) + 1 = ((i + 1 : Nat) : Int) by omega]
    rcases Nat.lt_trichotomy i (placeE l key.data.toList seq) with h1 | h1 | h1
    · have h2 := lessF_no (place_lt h1)
      have next := ih (i + 1) (by omega) (fun h => by omega)
      by_cases h3 : ky (l.getD i z23) = key.data.toList
      · exact evT h3 (evF (fun h4 => h2 ⟨h3, h4⟩) next)
      · exact evF h3 next
    · subst h1
      have h2 := place_ge hs (Nat.le_refl _) (show placeE l key.data.toList seq < l.length by omega)
      by_cases h3 : ky (l.getD (placeE l key.data.toList seq) z23) = key.data.toList
      · refine evT h3 (evT (lessF_le h2 h3) (evEq (evSome _) ?_))
        unfold newestE
        rw [if_pos hs, if_pos ⟨by omega, h3⟩]; rfl
      · exact evF h3 (ih _ (by omega) (fun _ => h3))
    · exact evF (behind_no hs h1 (by omega) (hb h1)) (ih (i + 1) (by omega) (fun _ => hb h1))
theorem rnewest_ev (l : List S23) (hl : l.length ≤ 1000000000) (key : ByteArray) (seq : Int) : Ev (fun k => ravelinref6_Newest.f k l key seq) (newestE l key.data.toList seq) := by
  refine Ev.congr (fun k => ravelinref6_Newest.f.eq_1 ..) ?_
  by_cases hs : sortedB l = true
  · exact rnewest_l0 l hl hs key seq _ 0 rfl (fun h => by omega)
  · have e : newestE l key.data.toList seq = noneE := by unfold newestE; rw [if_neg hs]
    rw [e]
    refine Ev.step (fun k => ravelinref6_Newest.l0.eq_2 ..) ?_
    by_cases h : (0 : Int) < (l.length : Int)
    · refine evT h (evBind (rsorted_ev l (by omega)) ?_)
      exact Ev.step (fun k => ravelinref6_Newest.j1.eq_2 ..) (evF hs (evSome _))
    · refine evF h ?_
      exact Ev.step (fun k => ravelinref6_Newest.j1.eq_2 ..) (evF (by simp) (evSome _))
end Go.Proofs.Ytggmgenofmfdpaa.Q
