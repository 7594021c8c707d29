import Derived.Test.YtdkdnfgpgedglaaQEntrySpec
import Derived.Test.YtdkdnfgpgedglaaPx2
namespace Go.Proofs.Ytdkdnfgpgedglaa.P
end Go.Proofs.Ytdkdnfgpgedglaa.P
namespace Go.Proofs.Ytdkdnfgpgedglaa.Q
end Go.Proofs.Ytdkdnfgpgedglaa.Q
namespace Go.Proofs.Ytdkdnfgpgedglaa.Q
open Go.RowKit Go.Proofs.Ytdkdnfgpgedglaa.P Go.Proofs.YtdkdnfgpgedglaaW.PrintWords Go.Proofs.YtdkdnfgpgedglaaW.PrintLast Go.Proofs.YtdkdnfgpgedglaaW.PrintMore
set_option linter.unusedVariables false
set_option linter.unusedSimpArgs false
theorem isWrite_ev (a : ByteArray) (d : Bool) (v : ByteArray) : entry_IsWrite.f a d v = some (isW a.data.toList d v.data.toList) := by
  unfold entry_IsWrite.f isW
  rw [size_data, size_data, toL]
  generalize a.data.toList = x
  generalize v.data.toList = y
  by_cases h1 : 1 ≤ x.length
  · rw [if_pos (by omega)]
    by_cases h2 : x.length ≤ 13
    · rw [if_pos (by omega)]
      by_cases h3 : y.length ≤ 24
      · rw [if_pos (by omega)]
        cases d <;> cases y <;> simp_all
      · rw [if_neg (by omega)]; simp [h3]
    · rw [if_neg (by omega)]; simp [h2]
  · rw [if_neg (by omega)]; simp [h1]
theorem is_ev (a : ByteArray) (s : Int) (d : Bool) (v : ByteArray) : entry_Is.f a s d v = some (isF a.data.toList s d v.data.toList) := by
  unfold entry_Is.f isF
  rw [isWrite_ev]
  by_cases h1 : 1 ≤ s
  · rw [if_pos (by omega)]
    by_cases h2 : s ≤ 1000000
    · rw [if_pos (by omega)]; simp [h1, h2]
    · rw [if_neg (by omega)]; simp [h2]
  · rw [if_neg (by omega)]; simp [h1]
theorem or_ev (x y : Int) : Ev (fun k => cmp_Or_int.f k [x, y]) (if x = 0 then y else x) := by
  refine Ev.congr (fun k => cmp_Or_int.f.eq_1 ..) ?_
  refine Ev.step (fun k => cmp_Or_int.l0.eq_2 ..) (evT (by simp) (evT (by omega) (evT (by simp) ?_)))
  have e0 : rd [x, y] 0 = x := rfl
  have e1 : rd [x, y] 1 = y := rfl
  rw [e0]
  by_cases h : x = 0
  · rw [if_pos h]
    refine evT h ?_
    rw [w64 (by omega)]
    refine Ev.step (fun k => cmp_Or_int.l0.eq_2 ..) (evT (by simp) (evT (by omega) (evT (by simp) ?_)))
    rw [show (0 : Int) + 1 = 1 from rfl, e1]
    by_cases h2 : y = 0
    · refine evT h2 ?_
      rw [w64 (by omega)]
      exact Ev.step (fun k => cmp_Or_int.l0.eq_2 ..) (evF (by simp) (evEq (evSome _) h2.symm))
    · exact evF h2 (evSome _)
  · rw [if_neg h]
    exact evF h (evSome _)
theorem less_ev (a : ByteArray) (s : Int) (d : Bool) (v : ByteArray) (b : ByteArray) (t : Int) (d' : Bool) (v' : ByteArray) : Ev (fun k => entry_Less.f k a s d v b t d' v') (lessF a.data.toList s b.data.toList t) := by
  refine Ev.congr (fun k => entry_Less.f.eq_1 ..) ?_
  have hc : Ev (fun k => entry_Compare.f k a s d v b t d' v') (if Go.Lib.compareBytes a.data.toList b.data.toList = 0 then (if t < s then -1 else if t > s then 1 else 0) else Go.Lib.compareBytes a.data.toList b.data.toList) := by
    refine Ev.congr (fun k => entry_Compare.f.eq_1 ..) ?_
    refine evConst (show strings_Compare.f a b = some (Go.Lib.compareBytes a.data.toList b.data.toList) from rfl) ?_
    refine evConst (show cmp_Compare_int.f t s = some (if t < s then -1 else if t > s then 1 else 0) from ?_) ?_
    · unfold cmp_Compare_int.f cmp_isNaN_int.f
      simp only [bne_self_eq_false, Option.bind_some, Bool.false_eq_true, if_false]
      split
      · rfl
      · split <;> rfl
    · exact evBind (or_ev _ _) (evSome _)
  refine evBind hc (evEq (evSome _) ?_)
  rw [cmp_tells]
  unfold lessF
  clear hc
  generalize a.data.toList = x
  generalize b.data.toList = y
  cases h1 : Op.bytesLess x y with
  | true => simp
  | false =>
    by_cases h2 : x = y
    · simp only [h2, Bool.false_eq_true, if_false, if_true, Bool.false_or, beq_self_eq_true, Bool.true_and]
      by_cases h3 : t < s
      · simp [h3]
      · by_cases h4 : t > s
        · simp [h3, h4]
        · simp [h3, h4]
    · simp [h2]
theorem halves_at (p : Nat → Option Bool) (b : Nat → Bool) (n m : Nat) (hp : ∀ i, i < n → p i = some (b i)) (h1 : ∀ i, i < m → b i = false) (h2 : ∀ i, m ≤ i → i < n → b i = true) (d : Nat) :
    ∀ k lo hi : Nat, hi - lo ≤ d → d < k → lo ≤ m → m ≤ hi → hi ≤ n → halves p k lo hi = some (m : Int) := by
  induction d with
  | zero =>
    intro k lo hi a1 a2 a3 a4 a5
    obtain ⟨k, rfl⟩ : ∃ q, k = q + 1 := ⟨k - 1, by omega⟩
    unfold halves
    rw [if_neg (by omega), show lo = m by omega]
  | succ d ih =>
    intro k lo hi a1 a2 a3 a4 a5
    obtain ⟨k, rfl⟩ : ∃ q, k = q + 1 := ⟨k - 1, by omega⟩
    unfold halves
    by_cases hl : lo < hi
    · rw [if_pos hl, hp _ (by omega)]
      simp only [Option.bind_some]
      cases hb : b ((lo + hi) / 2) with
      | true =>
        rw [if_pos rfl]
        have : m ≤ (lo + hi) / 2 := by
          rcases Nat.lt_or_ge ((lo + hi) / 2) m with h | h
          · rw [h1 _ h] at hb; cases hb
          · exact h
        exact ih k lo _ (by omega) (by omega) a3 this (by omega)
      | false =>
        rw [if_neg (by simp)]
        have : (lo + hi) / 2 < m := by
          rcases Nat.lt_or_ge ((lo + hi) / 2) m with h | h
          · exact h
          · rw [h2 _ h (by omega)] at hb; cases hb
        exact ih k _ hi (by omega) (by omega) (by omega) a4 a5
    · rw [if_neg hl, show lo = m by omega]
theorem all_rounds (g : Nat → Nat → Option Bool) (b : Nat → Bool) (n : Nat) (h : ∀ i, i < n → Ev (fun k => g k i) (b i)) : ∃ K, ∀ k, K ≤ k → ∀ i, i < n → g k i = some (b i) := by
  induction n with
  | zero => exact ⟨0, fun k _ i hi => absurd hi (by omega)⟩
  | succ n ih =>
    obtain ⟨K, hK⟩ := ih (fun i hi => h i (by omega))
    obtain ⟨L, hL⟩ := h n (by omega)
    refine ⟨max K L, fun k hk i hi => ?_⟩
    rcases Nat.lt_or_ge i n with h1 | h1
    · exact hK k (by omega) i h1
    · obtain rfl : i = n := by omega
      exact hL k (by omega)
/-- Is it ahead of a key's entry up to a seq? -/
def ahead (key : List UInt8) (seq : Int) (e : S29) : Bool := lessF (ky e) e.f1 key seq
def placeE (l : List S29) (key : List UInt8) (seq : Int) : Nat := (l.takeWhile (ahead key seq)).length
theorem tw_lt (p : S29 → Bool) : ∀ (l : List S29) (i : Nat), i < (l.takeWhile p).length → p (l.getD i z29) = true
  | [], i, h => by simp at h
  | a :: l, i, h => by
    rw [List.takeWhile_cons] at h
    by_cases ha : p a = true
    · rw [if_pos ha] at h
      cases i with
      | zero => simpa using ha
      | succ i => simpa using tw_lt p l i (by simpa using h)
    · rw [if_neg ha] at h; simp at h
theorem tw_at (p : S29 → Bool) : ∀ (l : List S29), (l.takeWhile p).length < l.length → p (l.getD (l.takeWhile p).length z29) = false
  | [], h => by simp at h
  | a :: l, h => by
    rw [List.takeWhile_cons] at h ⊢
    by_cases ha : p a = true
    · rw [if_pos ha] at h ⊢
      simpa using tw_at p l (by simpa using h)
    · rw [if_neg ha] at h ⊢
      simpa using ha
theorem tw_le (p : S29 → Bool) (l : List S29) : (l.takeWhile p).length ≤ l.length := by
  have := List.takeWhile_prefix (l := l) p
  exact this.length_le
theorem place_le (l : List S29) (key : List UInt8) (seq : Int) : placeE l key seq ≤ l.length := tw_le _ l
theorem place_lt {l : List S29} {key : List UInt8} {seq : Int} {i : Nat} (h : i < placeE l key seq) : lessF (ky (l.getD i z29)) (l.getD i z29).f1 key seq = true := tw_lt _ l i h
theorem place_ge {l : List S29} (hs : sortedB l = true) {key : List UInt8} {seq : Int} {i : Nat} (h : placeE l key seq ≤ i) (hi : i < l.length) : lessF (ky (l.getD i z29)) (l.getD i z29).f1 key seq = false := by
  have h0 : lessF (ky (l.getD (placeE l key seq) z29)) (l.getD (placeE l key seq) z29).f1 key seq = false := tw_at _ l (by show placeE l key seq < _; omega)
  rcases Nat.lt_or_ge (placeE l key seq) i with h1 | h1
  · cases hb : lessF (ky (l.getD i z29)) (l.getD i z29).f1 key seq with
    | false => rfl
    | true =>
      have := lessF_trans (sorted_lt hs h1 hi) hb
      rw [this] at h0; cases h0
  · obtain rfl : i = placeE l key seq := by omega
    exact h0
theorem first_ev (l : List S29) (hl : l.length ≤ 1000000000) (hs : sortedB l = true) (key : ByteArray) (seq : Int) : Ev (fun k => entry_First.f k l key seq) ((placeE l key.data.toList seq : Nat) : Int) := by
  obtain ⟨K, hK⟩ := all_rounds (fun k i => firstP k l key seq i) (fun i => !(lessF (ky (l.getD i z29)) (l.getD i z29).f1 key.data.toList seq)) l.length (fun i hi => by
    unfold firstP
    have e : rd_T29 l (i : Int) = l.getD i z29 := by unfold rd_T29; rw [Int.toNat_natCast]
    rw [e]
    exact evBind (less_ev _ _ _ _ _ _ _ _) (evSome _))
  refine ⟨max K (l.length + 1), fun k hk => ?_⟩
  show entry_First.f k l key seq = _
  unfold entry_First.f
  rw [if_pos (by omega)]
  refine halves_at _ _ l.length _ (hK k (by omega)) ?_ ?_ l.length k 0 l.length (by omega) (by omega) (by omega) (place_le _ _ _) (by omega)
  · intro i hi; simp only [place_lt hi, Bool.not_true]
  · intro i h1 h2; simp only [place_ge hs h1 h2, Bool.not_false]
abbrev NE := ByteArray × Int × Bool × ByteArray × Bool
def noneE : NE := (S [], 0, false, S [], false)
def someE (e : S29) : NE := (e.f0, e.f1, e.f2, e.f3, true)
/-- The newest of a key up to a seq. -/
def newestE (l : List S29) (key : List UInt8) (seq : Int) : NE :=
  if sortedB l = true then (if placeE l key seq < l.length ∧ ky (l.getD (placeE l key seq) z29) = key then someE (l.getD (placeE l key seq) z29) else noneE) else noneE
end Go.Proofs.Ytdkdnfgpgedglaa.Q
