import Derived.Test.YtnjbmcjhhadojaaQBatchSpec
import Derived.Test.YtnjbmcjhhadojaaQSealImpl
import Derived.Test.YtnjbmcjhhadojaaM1
import Derived.Test.YtnjbmcjhhadojaaM4
import Derived.Test.YtnjbmcjhhadojaaM2
import Derived.Test.YtnjbmcjhhadojaaM5
namespace Go.Proofs.Ytnjbmcjhhadojaa.P
end Go.Proofs.Ytnjbmcjhhadojaa.P
namespace Go.Proofs.Ytnjbmcjhhadojaa.Q
end Go.Proofs.Ytnjbmcjhhadojaa.Q
namespace Go.Proofs.Ytnjbmcjhhadojaa.Q
open Go.RowKit Go.Proofs.Ytnjbmcjhhadojaa.P Go.Proofs.YtnjbmcjhhadojaaW.PrintWords Go.Proofs.YtnjbmcjhhadojaaW.PrintLast Go.Proofs.YtnjbmcjhhadojaaW.PrintMore
set_option linter.unusedVariables false
set_option linter.unusedSimpArgs false
theorem getD_cons {l : List S49} {i : Nat} (h : i < l.length) : l.drop i = l.getD i z49 :: l.drop (i + 1) := by
  rw [List.drop_eq_getElem_cons h, List.getD_eq_getElem?_getD, List.getElem?_eq_getElem h]; rfl
theorem rd_at (l : List S49) (i : Nat) : rd_T49 l (i : Int) = l.getD i z49 := by
  unfold rd_T49
  rw [Int.toNat_natCast]
theorem bis_l0 (l : List S49) (hl : l.length ≤ 4611686018427387904) (d : Nat) : ∀ (i : Nat) (a : ByteArray), i ≤ l.length → l.length - i = d →
    Ev (fun k => batch_Is.l0 k l a l (l.length : Int) (i : Int)) (riseB a.data.toList (l.drop i) && decide (l.length ≤ 8)) := by
  induction d with
  | zero =>
    intro i a hi hd
    refine Ev.step (fun k => batch_Is.l0.eq_2 ..) (evF (by omega) (evEq (evSome _) ?_))
    rw [List.drop_eq_nil_of_le (by omega), riseB, Bool.true_and, decide_eq_decide]
    omega
  | succ d ih =>
    intro i a hi hd
    have hi2 : i < l.length := by omega
    refine Ev.step (fun k => batch_Is.l0.eq_2 ..) (evT (by omega) (evT (by omega) (evT (by omega) ?_)))
    rw [rd_at, getD_cons hi2, riseB]
    generalize l.getD i z49 = w at *
    refine evConst (isWrite_ev w.f0 w.f1 w.f2) ?_
    show Ev (fun n => if isWr w = true then _ else _) _
    cases h1 : isWr w with
    | false => exact evF (by simp) (evSome _)
    | true =>
      refine evT rfl ?_
      rw [toL, toL]
      show Ev (fun n => if Op.bytesLess a.data.toList (wk w) = true then _ else _) _
      cases h2 : Op.bytesLess a.data.toList (wk w) with
      | false => exact evF (by simp) (evSome _)
      | true =>
        refine evT rfl ?_
        rw [w64 (by omega), show (i : Int) + 1 = ((i + 1 : Nat) : Int) by omega]
        exact evEq (ih (i + 1) w.f0 (by omega) (by omega)) rfl
theorem bis_ev (l : List S49) (hl : l.length ≤ 4611686018427387904) : Ev (fun k => batch_Is.f k l) (isB l) := by
  refine Ev.congr (fun k => batch_Is.f.eq_1 ..) ?_
  exact bis_l0 l hl _ 0 _ (by omega) rfl
theorem words_l0 (l : List S49) (hl : l.length ≤ 8) (hw : ∀ w ∈ l, isWr w = true) (d : Nat) : ∀ (i : Nat) (acc : List UInt8), i ≤ l.length → l.length - i = d → acc.length ≤ 10 + 60 * i →
    Ev (fun k => batch_Words.l0 k (S acc) l (l.length : Int) (i : Int)) (S (acc ++ rowsW (l.drop i))) := by
  induction d with
  | zero =>
    intro i acc hi hd _
    refine Ev.step (fun k => batch_Words.l0.eq_2 ..) (evF (by omega) (evEq (evSome _) ?_))
    rw [List.drop_eq_nil_of_le (by omega), rowsW, List.append_nil]
  | succ d ih =>
    intro i acc hi hd hacc
    have hi2 : i < l.length := by omega
    have hmem : l.getD i z49 ∈ l := by
      rw [List.getD_eq_getElem?_getD, List.getElem?_eq_getElem hi2]; exact List.getElem_mem hi2
    refine Ev.step (fun k => batch_Words.l0.eq_2 ..) (evT (by omega) (evT (by omega) (evT (by omega) ?_)))
    rw [rd_at, getD_cons hi2, rowsW]
    have hx := hw _ hmem
    generalize l.getD i z49 = w at *
    obtain ⟨h1, h2, h3, h4⟩ := isWr_iff hx
    have hr := rowW_len hx
    have t1 := text_ev (wk w) (by omega)
    have t2 := value_ev w.f1 (wv w) (by omega)
    rw [show S (wk w) = w.f0 from S_of _] at t1
    rw [show S (wv w) = w.f2 from S_of _] at t2
    refine evBind t1 (evBind t2 ?_)
    rw [S_append, S_append, S_size, S_size, S_size, S_size]
    have hr2 : (textL (wk w)).length + (valL w.f1 (wv w)).length = (rowW w).length := by rw [rowW, List.length_append]
    refine evT (by omega) (evT (by rw [List.length_append]; omega) ?_)
    rw [w64 (by omega), show (i : Int) + 1 = ((i + 1 : Nat) : Int) by omega]
    refine evEq (ih (i + 1) _ (by omega) (by omega) (by rw [List.length_append, List.length_append]; omega)) ?_
    simp [rowW]
theorem words_ev (l : List S49) (hl : l.length ≤ 8) (hw : ∀ w ∈ l, isWr w = true) : Ev (fun k => batch_Words.f k l) (S (wordsW l)) := by
  have a4 := numL_le (n := l.length) (by omega)
  have n1 := num_ev (l.length : Int) (by omega)
  rw [Int.toNat_natCast] at n1
  refine Ev.congr (fun k => batch_Words.f.eq_1 ..) (evBind n1 ?_)
  exact words_l0 l hl hw _ 0 _ (by omega) rfl (by omega)
theorem btake_l0 (L : List UInt8) (hz : L.length ≤ 1000000) (n : Int) (hn : n < 9223372036854775808) (f : Nat) : ∀ (a : Nat) (acc : List S49) (i e : Int), a ≤ L.length → L.length - a < f → acc.length ≤ a → 0 ≤ i →
    Ev (fun k => batch_Take.l0 k acc n i (S L) (a : Int) e) ((tkW L f acc n i a e).1, S L, ((tkW L f acc n i a e).2.1 : Int), (tkW L f acc n i a e).2.2) := by
  induction f with
  | zero => intro a acc i e h1 h2; omega
  | succ f ih =>
    intro a acc i e h1 h2 h3 h4
    rw [tkW]
    by_cases hi : i < n
    · rw [if_pos hi]
      have b1 := sT_le L a e h1
      have t1 := sT_ev L (by omega) a h1 e
      generalize sT L a e = x at *
      have b2 := sV_le L x.2.1 x.2.2 b1.2.1
      have t2 := sV_ev L (by omega) x.2.1 b1.2.1 x.2.2
      have b3 := sV_pos (L := L) (a := x.2.1) (e := x.2.2)
      generalize sV L x.2.1 x.2.2 = y at *
      refine Ev.step (fun k => batch_Take.l0.eq_2 ..) (evT hi (evBind t1 (evBind t2 ?_)))
      by_cases hy : y.2.2.2 = 0
      · have b4 := b3 hy
        rw [if_pos hy]
        refine evT hy (evT (by omega) ?_)
        rw [w64 (by omega)]
        exact ih y.2.2.1 _ (i + 1) y.2.2.2 (by omega) (by omega) (by rw [List.length_append]; simp only [List.length_cons, List.length_nil]; omega) (by omega)
      · rw [if_neg hy]
        exact evF hy (evSome _)
    · rw [if_neg hi]
      exact Ev.step (fun k => batch_Take.l0.eq_2 ..) (evF hi (evSome _))
theorem btake_ev (L : List UInt8) (hz : L.length ≤ 1000000) (a : Nat) (h : a ≤ L.length) (e : Int) :
    Ev (fun k => batch_Take.f k (S L) (a : Int) e) ((takeW L a e).1, S L, ((takeW L a e).2.1 : Int), (takeW L a e).2.2) := by
  have b := sN_le L a e h
  refine Ev.congr (fun k => batch_Take.f.eq_1 ..) (evBind (sN_ev L (by omega) a h e) ?_)
  exact btake_l0 L hz _ b.2.2.2 _ _ [] 0 _ b.2.1 (by omega) (by simp) (by omega)
theorem write_ext {a b : S49} (h0 : a.f0.data.toList = b.f0.data.toList) (h1 : a.f1 = b.f1) (h2 : a.f2.data.toList = b.f2.data.toList) : a = b := by
  obtain ⟨a0, a1, a2⟩ := a
  obtain ⟨b0, b1, b2⟩ := b
  simp only at h0 h1 h2
  rw [← S_of a0, ← S_of b0, ← S_of a2, ← S_of b2, h0, h1, h2]

/-! A batch's bytes, read and written -/
theorem bbytes_ev (s : Int) (l : List S49) (hl : l.length ≤ 4611686018427387904) : Ev (fun k => batch_Bytes.f k s l) (S (bytesB s l).1, (bytesB s l).2) := by
  refine Ev.congr (fun k => batch_Bytes.f.eq_1 ..) (evBind (bis_ev l hl) ?_)
  have no : Ev (fun k => batch_Bytes.j0 k s l true) (S [], 10) := Ev.step (fun k => batch_Bytes.j0.eq_2 ..) (evT rfl (evSome _))
  unfold bytesB
  cases h : isB l with
  | false => exact evF (by simp) no
  | true =>
    refine evT rfl ?_
    unfold inB
    by_cases h1 : 1 ≤ s
    · refine evF (by omega) ?_
      by_cases h2 : s ≤ 1000000
      · rw [decide_eq_true h1, decide_eq_true h2, decide_eq_false (by omega)]
        simp only [Bool.and_self, if_true]
        have hm := isB_len h
        have hx := isB_all h
        have hp := payB_len s h (by omega)
        have n1 := num_ev s (by omega)
        have a1 := numL_le (n := s.toNat) (by omega)
        have e : (payB s l).length = (numL s.toNat).length + (wordsW l).length := by rw [payB, List.length_append]
        refine Ev.step (fun k => batch_Bytes.j0.eq_2 ..) (evF (by simp) (evBind n1 (evBind (words_ev l hm hx) (evT (by rw [S_size, S_size]; omega) ?_))))
        rw [S_append]
        exact evBind (seal_ev _ (by show (payB s l).length ≤ _; omega)) (evSome _)
      · rw [decide_eq_true h1, decide_eq_false h2, decide_eq_true (by omega)]
        exact no
    · rw [decide_eq_false h1]
      exact evT (by omega) no
def flatB (r : (Int × List S49) × Int × Int) : Int × List S49 × Int × Int := (r.1.1, r.1.2, r.2.1, r.2.2)
theorem bread_ev (l : List UInt8) (hz : l.length ≤ 1000000) : Ev (fun k => batch_Read.f k (S l)) (flatB (readB l)) := by
  refine Ev.congr (fun k => batch_Read.f.eq_1 ..) (evBind (open_ev l (by omega)) ?_)
  unfold readB
  by_cases h : (openS l).2.2 = 0
  · rw [if_pos h]
    have ho := openS_ok h
    have t1 := sN_ev (openS l).1 (by omega) 0 (by omega) 0
    have b1 := sN_le (openS l).1 0 0 (by omega)
    have t2 := btake_ev (openS l).1 (by omega) (sN (openS l).1 0 0).2.1 b1.2.1 (sN (openS l).1 0 0).2.2
    have hl := takeW_len (openS l).1 (sN (openS l).1 0 0).2.1 (sN (openS l).1 0 0).2.2 b1.2.1
    refine evT h (evBind t1 (evBind t2 ?_))
    have hT : takeB (openS l).1 = (((sN (openS l).1 0 0).1, (takeW (openS l).1 (sN (openS l).1 0 0).2.1 (sN (openS l).1 0 0).2.2).1), (takeW (openS l).1 (sN (openS l).1 0 0).2.1 (sN (openS l).1 0 0).2.2).2.2) := rfl
    rw [hT]
    clear hT
    generalize takeW (openS l).1 (sN (openS l).1 0 0).2.1 (sN (openS l).1 0 0).2.2 = t at *
    generalize sN (openS l).1 0 0 = x at *
    refine evBind (bbytes_ev x.1 t.1 (by omega)) ?_
    simp only
    by_cases h1 : t.2.2 = 0
    · refine evT h1 ?_
      by_cases h2 : (bytesB x.1 t.1).2 = 0
      · refine evT h2 (evT (by show 0 ≤ (openS l).2.1; omega) (evT (by rw [S_size]; show (openS l).2.1 ≤ _; omega) ?_))
        rw [S_extract, Nat.sub_zero, List.drop_zero, S_toList, S_toList]
        show Ev (fun n => if (bytesB x.1 t.1).1 = l.take (openS l).2.1.toNat then _ else _) _
        by_cases h3 : (bytesB x.1 t.1).1 = l.take (openS l).2.1.toNat
        · refine evEq (evT h3 (evSome _)) ?_
          rw [if_pos ⟨h1, h2, h3⟩]
          rfl
        · refine evEq (evF h3 (evSome _)) ?_
          rw [if_neg (fun hh : _ ∧ _ ∧ _ => h3 hh.2.2)]
          rfl
      · refine evEq (evF h2 (evSome _)) ?_
        rw [if_neg (fun hh : _ ∧ _ ∧ _ => h2 hh.2.1)]
        rfl
    · refine evEq (evF h1 (evSome _)) ?_
      rw [if_neg (fun hh : _ ∧ _ ∧ _ => h1 hh.1)]
      rfl
  · rw [if_neg h]
    exact evF h (evSome _)
/-! Entries -/
theorem bent_l0 (s : Int) (l : List S49) (hl : l.length ≤ 1000000) (d : Nat) : ∀ (i : Nat) (acc : List S74), i ≤ l.length → l.length - i = d → acc.length ≤ i →
    Ev (fun k => batch_Entries.l0 k s acc l (l.length : Int) (i : Int)) (acc ++ (l.drop i).map (entW s)) := by
  induction d with
  | zero =>
    intro i acc hi hd _
    refine Ev.step (fun k => batch_Entries.l0.eq_2 ..) (evF (by omega) (evEq (evSome _) ?_))
    rw [List.drop_eq_nil_of_le (by omega), List.map_nil, List.append_nil]
  | succ d ih =>
    intro i acc hi hd hacc
    have hi2 : i < l.length := by omega
    refine Ev.step (fun k => batch_Entries.l0.eq_2 ..) (evT (by omega) (evT (by omega) (evT (by omega) (evT (by omega) ?_))))
    rw [rd_at, getD_cons hi2, w64 (by omega), show (i : Int) + 1 = ((i + 1 : Nat) : Int) by omega]
    refine evEq (ih (i + 1) _ (by omega) (by omega) (by rw [List.length_append]; simp only [List.length_cons, List.length_nil]; omega)) ?_
    simp [entW]
theorem bent_ev (s : Int) (l : List S49) (hl : l.length ≤ 1000000) : Ev (fun k => batch_Entries.f k s l) (entB s l) := by
  refine Ev.congr (fun k => batch_Entries.f.eq_1 ..) (evBind (bis_ev l (by omega)) ?_)
  unfold entB
  cases h : isB l with
  | false => exact evF (by simp) (evSome _)
  | true => exact evT rfl (evEq (bent_l0 s l hl _ 0 [] (by omega) rfl (by simp)) (by simp))
/-! The log -/
theorem blog_l0 (L : List UInt8) (hz : L.length ≤ 1000000) (d : Nat) : ∀ (a : Nat) (acc : List S74) (last : Int), a ≤ L.length → L.length - a < d → acc.length ≤ 8 * a → 0 ≤ last ∧ last ≤ 1000000 →
    Ev (fun k => batch_Log.l0 k (S L) acc last (a : Int)) (logB L d acc last a) := by
  induction d with
  | zero => intro a acc last h1 h2; omega
  | succ d ih =>
    intro a acc last h1 h2 h3 h4
    refine Ev.step (fun k => batch_Log.l0.eq_2 ..) (evT (by omega) (evT (by rw [S_size]; omega) ?_))
    rw [S_extract, S_size, Int.toNat_natCast, List.take_of_length_le (by rw [List.length_drop]; omega)]
    refine evBind (bread_ev _ (by rw [List.length_drop]; omega)) ?_
    rw [logB]
    have hok := readB_ok (l := L.drop a)
    rw [List.length_drop] at hok
    generalize readB (L.drop a) = r at *
    simp only [flatB]
    by_cases c : r.2.2 = 0
    · obtain ⟨k1, k2, k3, k4⟩ := hok c
      rw [if_pos c]
      refine evT c ?_
      have he := bent_ev r.1.1 r.1.2 (by omega)
      have hel : (entB r.1.1 r.1.2).length ≤ 8 := by
        unfold entB
        split
        · rw [List.length_map]; omega
        · simp
      have next : Ev (fun k => (batch_Entries.f k r.1.1 r.1.2).bind fun t196 => (if acc.length + t196.length < 2932031007402 then (batch_Log.l0 k (S L) (acc ++ t196) r.1.1 (wrap64 ((a : Int) + r.2.1))) else (none))) (logB L d (acc ++ entB r.1.1 r.1.2) r.1.1 (a + r.2.1.toNat)) := by
        refine evBind he (evT (by omega) ?_)
        rw [w64 (by omega), show (a : Int) + r.2.1 = ((a + r.2.1.toNat : Nat) : Int) by omega]
        exact ih _ _ _ (by omega) (by omega) (by rw [List.length_append]; omega) k4
      by_cases c1 : last > 0
      · refine evT c1 ?_
        rw [w64 (by omega)]
        by_cases c2 : r.1.1 = last + 1
        · rw [if_neg (fun hh : last > 0 ∧ r.1.1 ≠ last + 1 => hh.2 c2)]
          exact evT c2 next
        · rw [if_pos ⟨c1, c2⟩]
          exact evF c2 (evSome _)
      · rw [if_neg (fun hh : last > 0 ∧ r.1.1 ≠ last + 1 => c1 hh.1)]
        exact evF c1 next
    · rw [if_neg c]
      exact evF c (evSome _)
theorem blog_ev (L : List UInt8) (hz : L.length ≤ 1000000) : Ev (fun k => batch_Log.f k (S L)) (logB L (L.length + 1) [] 0 0) :=
  Ev.congr (fun k => batch_Log.f.eq_1 ..) (blog_l0 L hz _ 0 [] 0 (by omega) (by omega) (by simp) (by omega))
/-! The last write of each key, in order -/
theorem neat_l1 (x0 x8 : List S49) (acc : List S49) (x9 x10 : Int) (y : List S49) (hy : y.length ≤ 4611686018427387904) (f0 : ByteArray) (f1 : Bool) (f2 : ByteArray) (r : List S49) (hacc : acc.length < 3518437208883)
    (hYes : (y.any fun o => wk o == f0.data.toList) = true → Ev (fun k => batch_Neat.l0 k x0 acc x8 x9 (wrap64 (x10 + 1))) r)
    (hNo : (y.any fun o => wk o == f0.data.toList) = false → Ev (fun k => batch_Neat.l0 k x0 (acc ++ [⟨f0, f1, f2⟩]) x8 x9 (wrap64 (x10 + 1))) r) (d : Nat) :
    ∀ j : Nat, j ≤ y.length → y.length - j = d → ((y.take j).any fun o => wk o == f0.data.toList) = false → Ev (fun k => batch_Neat.l1 k x0 acc x8 x9 x10 y (y.length : Int) (j : Int) f0 f1 f2) r := by
  induction d with
  | zero =>
    intro j hj hd hb
    rw [List.take_of_length_le (by omega)] at hb
    exact Ev.step (fun k => batch_Neat.l1.eq_2 ..) (evF (by omega) (evT hacc (hNo hb)))
  | succ d ih =>
    intro j hj hd hb
    have hj2 : j < y.length := by omega
    refine Ev.step (fun k => batch_Neat.l1.eq_2 ..) (evT (by omega) (evT (by omega) (evT (by omega) ?_)))
    have e : rd_T49 y (j : Int) = y[j] := by rw [rd_at, List.getD_eq_getElem?_getD, List.getElem?_eq_getElem hj2]; rfl
    rw [e, toL, toL]
    by_cases hc : (y[j]).f0.data.toList = f0.data.toList
    · refine evT hc (hYes ?_)
      rw [List.any_eq_true]
      exact ⟨y[j], List.getElem_mem hj2, by rw [beq_iff_eq]; exact hc⟩
    · refine evF hc ?_
      rw [w64 (by omega), show (j : Int) + 1 = ((j + 1 : Nat) : Int) by omega]
      refine ih (j + 1) (by omega) (by omega) ?_
      rw [List.take_succ_eq_append_getElem hj2, List.any_append, hb, Bool.false_or, List.any_cons, List.any_nil, Bool.or_false]
      exact beq_false_of_ne hc
theorem neat_l0 (l : List S49) (hl : l.length ≤ 1000000) (d : Nat) : ∀ (i : Nat) (acc : List S49), i ≤ l.length → l.length - i = d → acc.length ≤ i →
    Ev (fun k => batch_Neat.l0 k l acc l (l.length : Int) (i : Int)) (acc ++ lastW (l.drop i)) := by
  induction d with
  | zero =>
    intro i acc hi hd _
    refine Ev.step (fun k => batch_Neat.l0.eq_2 ..) (evF (by omega) (evEq (evSome _) ?_))
    rw [List.drop_eq_nil_of_le (by omega), lastW, List.append_nil]
  | succ d ih =>
    intro i acc hi hd hacc
    have hi2 : i < l.length := by omega
    refine Ev.step (fun k => batch_Neat.l0.eq_2 ..) (evT (by omega) (evT (by omega) (evT (by omega) ?_)))
    rw [w64 (by omega), show (i : Int) + 1 = ((i + 1 : Nat) : Int) by omega, rd_at, getD_cons hi2, lastW, Int.toNat_natCast]
    generalize l.getD i z49 = w at *
    refine evT (by omega) (evT (by omega) (evConst rfl ?_))
    refine neat_l1 l l acc _ _ (l.drop (i + 1)) (by rw [List.length_drop]; omega) w.f0 w.f1 w.f2 _ (by omega) ?_ ?_ _ 0 (by omega) rfl (by simp)
    · intro hb
      have hb : ((l.drop (i + 1)).any fun o => wk o == wk w) = true := hb
      rw [if_pos hb, w64 (by omega), show (i : Int) + 1 = ((i + 1 : Nat) : Int) by omega]
      exact ih (i + 1) acc (by omega) (by omega) (by omega)
    · intro hb
      have hb : ((l.drop (i + 1)).any fun o => wk o == wk w) = false := hb
      rw [if_neg (by rw [hb]; simp), w64 (by omega), show (i : Int) + 1 = ((i + 1 : Nat) : Int) by omega]
      refine evEq (ih (i + 1) (acc ++ [w]) (by omega) (by omega) (by rw [List.length_append]; simp only [List.length_cons, List.length_nil]; omega)) ?_
      simp
theorem once_last : ∀ l : List S49, batch_Neat.once (lastW l) = true
  | [] => rfl
  | w :: t => by
    unfold lastW
    split
    · exact once_last t
    · rename_i hb
      simp only [batch_Neat.once, Bool.and_eq_true, List.all_eq_true]
      refine ⟨fun y hy => ?_, once_last t⟩
      rw [bne_iff_ne]
      intro e
      refine hb ?_
      rw [List.any_eq_true]
      exact ⟨y, lastW_mem t y hy, by rw [beq_iff_eq]; exact e.symm⟩
def neatW (l : List S49) : List S49 := batch_Neat.sort (lastW l)
theorem neat_ev (l : List S49) (hl : l.length ≤ 1000000) : Ev (fun k => batch_Neat.f k l) (neatW l) := by
  have h := lastW_len l
  refine Ev.congr (fun k => batch_Neat.f.eq_1 ..) (evBind (neat_l0 l hl _ 0 [] (by omega) rfl (by simp)) ?_)
  refine evT ?_ (evSome _)
  rw [List.nil_append, List.drop_zero]
  unfold batch_Neat.ok
  rw [once_last, Bool.true_and, decide_eq_true_eq]
  omega
end Go.Proofs.Ytnjbmcjhhadojaa.Q
