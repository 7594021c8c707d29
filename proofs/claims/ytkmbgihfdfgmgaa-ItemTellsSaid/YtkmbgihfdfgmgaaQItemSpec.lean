import Derived.Test.YtkmbgihfdfgmgaaQValSpec
import Derived.Test.YtkmbgihfdfgmgaaQSealSpec
import Derived.Test.YtkmbgihfdfgmgaaQSteps
namespace Go.Proofs.Ytkmbgihfdfgmgaa.P
end Go.Proofs.Ytkmbgihfdfgmgaa.P
namespace Go.Proofs.Ytkmbgihfdfgmgaa.Q
end Go.Proofs.Ytkmbgihfdfgmgaa.Q
namespace Go.Proofs.Ytkmbgihfdfgmgaa.Q
open Go.RowKit Go.Proofs.Ytkmbgihfdfgmgaa.P Go.Proofs.YtkmbgihfdfgmgaaW.PrintWords Go.Proofs.YtkmbgihfdfgmgaaW.PrintLast Go.Proofs.YtkmbgihfdfgmgaaW.PrintMore
set_option linter.unusedVariables false
set_option linter.unusedSimpArgs false

/-! Writes, items -/
def wk (w : S39) : List UInt8 := w.f0.data.toList
def wv (w : S39) : List UInt8 := w.f2.data.toList
def mkW (k : List UInt8) (d : Bool) (v : List UInt8) : S39 := ⟨S k, d, S v⟩
theorem mkW_of (w : S39) : mkW (wk w) w.f1 (wv w) = w := by
  obtain ⟨a, b, c⟩ := w
  simp only [mkW, wk, wv, S_of]
def isWr (w : S39) : Bool := isW (wk w) w.f1 (wv w)
def riseB : List UInt8 → List S39 → Bool
  | _, [] => true
  | a, w :: t => isWr w && (Op.bytesLess a (wk w) && riseB (wk w) t)
def isB (l : List S39) : Bool := riseB [] l && decide (l.length ≤ 8)
def rowW (w : S39) : List UInt8 := textL (wk w) ++ valL w.f1 (wv w)
def rowsW : List S39 → List UInt8
  | [] => []
  | w :: t => rowW w ++ rowsW t
def wordsW (l : List S39) : List UInt8 := numL l.length ++ rowsW l
def shortB (l : List S39) : Bool := l.all fun w => decide ((wk w).length ≤ 12)
def isI (lv n t : Int) (sh : Bool) (ws : List S39) : Bool :=
  (decide (0 ≤ lv) && decide (lv ≤ 5)) && ((decide (1 ≤ n) && decide (n ≤ 1000000)) && ((decide (0 ≤ t) && decide (t ≤ 1000000)) &&
    (if (sh || ws.isEmpty) = true then sh && ws.isEmpty else shortB ws && isB ws)))
def payI (lv n t : Int) (sh : Bool) (ws : List S39) : List UInt8 :=
  numL lv.toNat ++ (numL n.toNat ++ (numL t.toNat ++ ((if sh = true then [1] else [0]) ++ wordsW ws)))
def bytesI (lv n t : Int) (sh : Bool) (ws : List S39) : List UInt8 × Int := if isI lv n t sh ws = true then (sealL (payI lv n t sh ws), 0) else ([], 10)
theorem rise_all {a : List UInt8} : ∀ {l : List S39}, riseB a l = true → ∀ w ∈ l, isWr w = true := by
  intro l
  induction l generalizing a with
  | nil => intro _ w hw; cases hw
  | cons x t ih =>
    intro h w hw
    simp only [riseB, Bool.and_eq_true] at h
    rcases List.mem_cons.1 hw with rfl | hw
    · exact h.1
    · exact ih h.2.2 w hw
theorem isWr_iff {w : S39} (h : isWr w = true) : 1 ≤ (wk w).length ∧ (wk w).length ≤ 13 ∧ (wv w).length ≤ 24 ∧ (w.f1 = true → wv w = []) := by
  unfold isWr isW at h
  simp only [Bool.and_eq_true, decide_eq_true_eq] at h
  obtain ⟨⟨⟨h1, h2⟩, h3⟩, h4⟩ := h
  refine ⟨h1, h2, h3, fun hd => ?_⟩
  rw [hd] at h4
  simpa using h4
/-- What an item that is any has. -/
theorem isI_num {lv n t : Int} {sh : Bool} {ws : List S39} (h : isI lv n t sh ws = true) : (0 ≤ lv ∧ lv ≤ 5) ∧ (1 ≤ n ∧ n ≤ 1000000) ∧ (0 ≤ t ∧ t ≤ 1000000) ∧ ws.length ≤ 8 ∧ (∀ w ∈ ws, isWr w = true) := by
  unfold isI at h
  simp only [Bool.and_eq_true, decide_eq_true_eq] at h
  obtain ⟨h1, h2, h3, h4⟩ := h
  refine ⟨h1, h2, h3, ?_⟩
  split at h4
  · simp only [Bool.and_eq_true] at h4
    have : ws = [] := by simpa using h4.2
    subst this
    exact ⟨by simp, by intro w hw; cases hw⟩
  · simp only [Bool.and_eq_true, isB, decide_eq_true_eq] at h4
    exact ⟨h4.2.2, rise_all h4.2.1⟩
theorem rowW_len {w : S39} (h : isWr w = true) : 2 ≤ (rowW w).length ∧ (rowW w).length ≤ 60 := by
  obtain ⟨h1, h2, h3, _⟩ := isWr_iff h
  have a1 := numL_le (n := (wk w).length) (by omega)
  have a2 := numL_len (wk w).length
  have a3 := numL_le (n := (wv w).length) (by omega)
  have a4 := numL_len (wv w).length
  have e : 1 ≤ (valL w.f1 (wv w)).length ∧ (valL w.f1 (wv w)).length ≤ 34 := by
    unfold valL
    split
    · simp
    · simp only [textL, List.length_cons, List.length_append]; omega
  simp only [rowW, textL, List.length_append]
  omega
theorem rowsW_len : ∀ {l : List S39}, (∀ w ∈ l, isWr w = true) → (rowsW l).length ≤ 60 * l.length
  | [], _ => by simp [rowsW]
  | w :: t, h => by
    have h1 := (rowW_len (h w List.mem_cons_self)).2
    have h2 := rowsW_len (l := t) (fun x hx => h x (List.mem_cons_of_mem _ hx))
    simp only [rowsW, List.length_append, List.length_cons]
    omega
theorem payI_len {lv n t : Int} {sh : Bool} {ws : List S39} (h : isI lv n t sh ws = true) : (payI lv n t sh ws).length ≤ 600 := by
  obtain ⟨h1, h2, h3, h4, h5⟩ := isI_num h
  have a1 := numL_le (n := lv.toNat) (by omega)
  have a2 := numL_le (n := n.toNat) (by omega)
  have a3 := numL_le (n := t.toNat) (by omega)
  have a4 := numL_le (n := ws.length) (by omega)
  have a5 := rowsW_len h5
  have a6 : ((if sh = true then [1] else [0] : List UInt8)).length = 1 := by split <;> rfl
  simp only [payI, wordsW, List.length_append, a6]
  omega
/-! What is taken -/
theorem takeVal_pos {l : List UInt8} (h : (takeVal l).2.2.2 = 0) : 1 ≤ (takeVal l).2.2.1 := by
  cases l with
  | nil => simp [takeVal] at h
  | cons c t =>
    have := takeText_bounds t
    simp only [takeVal]
    repeat' split
    all_goals (simp <;> omega)
theorem sV_pos {L : List UInt8} {a : Nat} {e : Int} (h : (sV L a e).2.2.2 = 0) : a + 1 ≤ (sV L a e).2.2.1 := by
  by_cases he : e = 0
  · subst he
    rw [sV_ok] at h ⊢
    have := takeVal_pos h
    simp only
    omega
  · rw [sV_err L a he] at h
    exact absurd h he
def tkW (L : List UInt8) : Nat → List S39 → Int → Int → Nat → Int → List S39 × Nat × Int
  | 0, acc, _, _, a, e => (acc, a, e)
  | f + 1, acc, n, i, a, e =>
    if i < n then
      (if (sV L (sT L a e).2.1 (sT L a e).2.2).2.2.2 = 0 then tkW L f (acc ++ [mkW (sT L a e).1 (sV L (sT L a e).2.1 (sT L a e).2.2).1 (sV L (sT L a e).2.1 (sT L a e).2.2).2.1]) n (i + 1) (sV L (sT L a e).2.1 (sT L a e).2.2).2.2.1 (sV L (sT L a e).2.1 (sT L a e).2.2).2.2.2
      else (acc, (sV L (sT L a e).2.1 (sT L a e).2.2).2.2.1, (sV L (sT L a e).2.1 (sT L a e).2.2).2.2.2))
    else (acc, a, e)
def takeW (L : List UInt8) (a : Nat) (e : Int) : List S39 × Nat × Int := tkW L (L.length + 1) [] (sN L a e).1 0 (sN L a e).2.1 (sN L a e).2.2
def takeI (L : List UInt8) : Int × Int × Int × Bool × List S39 :=
  if (sN L (sN L (sN L 0 0).2.1 (sN L 0 0).2.2).2.1 (sN L (sN L 0 0).2.1 (sN L 0 0).2.2).2.2).2.2 = 0 then
    (if L.length ≤ (sN L (sN L (sN L 0 0).2.1 (sN L 0 0).2.2).2.1 (sN L (sN L 0 0).2.1 (sN L 0 0).2.2).2.2).2.1 then
      ((sN L 0 0).1, (sN L (sN L 0 0).2.1 (sN L 0 0).2.2).1, (sN L (sN L (sN L 0 0).2.1 (sN L 0 0).2.2).2.1 (sN L (sN L 0 0).2.1 (sN L 0 0).2.2).2.2).1, false, [])
    else ((sN L 0 0).1, (sN L (sN L 0 0).2.1 (sN L 0 0).2.2).1, (sN L (sN L (sN L 0 0).2.1 (sN L 0 0).2.2).2.1 (sN L (sN L 0 0).2.1 (sN L 0 0).2.2).2.2).1,
      decide (L.getD (sN L (sN L (sN L 0 0).2.1 (sN L 0 0).2.2).2.1 (sN L (sN L 0 0).2.1 (sN L 0 0).2.2).2.2).2.1 0 = 1),
      (takeW L ((sN L (sN L (sN L 0 0).2.1 (sN L 0 0).2.2).2.1 (sN L (sN L 0 0).2.1 (sN L 0 0).2.2).2.2).2.1 + 1) 0).1))
  else ((sN L 0 0).1, (sN L (sN L 0 0).2.1 (sN L 0 0).2.2).1, (sN L (sN L (sN L 0 0).2.1 (sN L 0 0).2.2).2.1 (sN L (sN L 0 0).2.1 (sN L 0 0).2.2).2.2).1, false, [])
/-! What was put is taken -/
theorem sN_at {L r : List UInt8} {a n : Nat} (h : L.drop a = numL n ++ r) (hn : n < 9223372036854775808) : sN L a 0 = ((n : Int), a + (numL n).length, 0) ∧ L.drop (a + (numL n).length) = r := by
  constructor
  · rw [sN_ok, h, takeNum_num hn]
    simp
  · rw [← List.drop_drop, h, List.drop_left]
theorem sT_at {L r s : List UInt8} {a : Nat} (h : L.drop a = textL s ++ r) (hn : s.length < 9223372036854775808) : sT L a 0 = (s, a + (textL s).length, 0) ∧ L.drop (a + (textL s).length) = r := by
  constructor
  · rw [sT_ok, h, takeText_text hn]
    simp
  · rw [← List.drop_drop, h, List.drop_left]
theorem sV_at {L r v : List UInt8} {d : Bool} {a : Nat} (h : L.drop a = valL d v ++ r) (hn : v.length < 9223372036854775808) (hd : d = true → v = []) : sV L a 0 = (d, v, a + (valL d v).length, 0) ∧ L.drop (a + (valL d v).length) = r := by
  constructor
  · rw [sV_ok, h, takeVal_val hn hd]
    simp
  · rw [← List.drop_drop, h, List.drop_left]
theorem tkW_rows (L r : List UInt8) : ∀ (ws : List S39) (f a : Nat) (acc : List S39) (i n : Int), (∀ w ∈ ws, isWr w = true) → L.drop a = rowsW ws ++ r → ws.length < f → n = i + ws.length → (tkW L f acc n i a 0).1 = acc ++ ws
  | [], f + 1, a, acc, i, n, _, _, _, hn => by
    rw [tkW, if_neg (by simp at hn; omega), List.append_nil]
  | w :: t, f + 1, a, acc, i, n, hw, hd, hf, hn => by
    obtain ⟨h1, h2, h3, h4⟩ := isWr_iff (hw w List.mem_cons_self)
    have e0 : L.drop a = textL (wk w) ++ (valL w.f1 (wv w) ++ (rowsW t ++ r)) := by
      rw [hd]; simp [rowsW, rowW]
    obtain ⟨e1, d1⟩ := sT_at e0 (by omega)
    obtain ⟨e2, d2⟩ := sV_at d1 (by omega) h4
    simp only [List.length_cons] at hn hf
    rw [tkW, if_pos (by omega), e1]
    simp only
    rw [e2]
    simp only
    rw [if_pos trivial, tkW_rows L r t f _ _ _ _ (fun x hx => hw x (List.mem_cons_of_mem _ hx)) d2 (by omega) (by omega), mkW_of]
    simp
  | _, 0, _, _, _, _, _, _, hf, _ => by omega
theorem takeI_pay {lv n t : Int} {sh : Bool} {ws : List S39} (h : isI lv n t sh ws = true) : takeI (payI lv n t sh ws) = (lv, n, t, sh, ws) := by
  obtain ⟨h1, h2, h3, h4, h5⟩ := isI_num h
  generalize hL : payI lv n t sh ws = L
  have e0 : L.drop 0 = numL lv.toNat ++ (numL n.toNat ++ (numL t.toNat ++ ((if sh = true then [1] else [0]) ++ wordsW ws))) := by rw [← hL]; rfl
  obtain ⟨a1, d1⟩ := sN_at e0 (by omega)
  obtain ⟨a2, d2⟩ := sN_at d1 (by omega)
  obtain ⟨a3, d3⟩ := sN_at d2 (by omega)
  unfold takeI
  rw [a1]
  simp only
  rw [a2]
  simp only
  rw [a3]
  simp only
  generalize hp : 0 + (numL lv.toNat).length + (numL n.toNat).length + (numL t.toNat).length = p at *
  have hlen := congrArg List.length d3
  have hone : ((if sh = true then [1] else [0] : List UInt8)).length = 1 := by split <;> rfl
  rw [List.length_drop, List.length_append, hone] at hlen
  have hby : L.getD p 0 = if sh = true then 1 else 0 := by
    have := congrArg (fun l : List UInt8 => l.getD 0 0) d3
    simp only [List.getD_eq_getElem?_getD, List.getElem?_drop, Nat.add_zero] at this
    rw [List.getD_eq_getElem?_getD, this]
    cases sh <;> rfl
  have d4 : L.drop (p + 1) = numL ws.length ++ (rowsW ws ++ []) := by
    rw [← List.drop_drop, d3, List.append_nil]
    cases sh <;> rfl
  obtain ⟨a4, d5⟩ := sN_at d4 (by omega)
  have hw : (takeW L (p + 1) 0).1 = ws := by
    unfold takeW
    rw [a4]
    simp only
    have hl2 := congrArg List.length d4
    rw [List.length_drop, List.length_append] at hl2
    have hr : ∀ l : List S39, (∀ w ∈ l, isWr w = true) → l.length ≤ (rowsW l).length := by
      intro l
      induction l with
      | nil => intro _; simp
      | cons x y ih =>
        intro hx
        have q1 := (rowW_len (hx x List.mem_cons_self)).1
        have q2 := ih (fun z hz => hx z (List.mem_cons_of_mem _ hz))
        simp only [rowsW, List.length_append, List.length_cons]
        omega
    have := hr ws h5
    rw [List.length_append] at hl2
    rw [tkW_rows L [] ws _ _ _ _ _ h5 d5 (by omega) (by omega), List.nil_append]
  rw [if_pos trivial, if_neg (by omega), hw, hby]
  rw [Int.toNat_of_nonneg h1.1, Int.toNat_of_nonneg (by omega : (0 : Int) ≤ n), Int.toNat_of_nonneg h3.1]
  cases sh <;> rfl
end Go.Proofs.Ytkmbgihfdfgmgaa.Q
