import Derived.Test.YtnjbmcjhhadojaaQBatchIsRef
import Derived.Test.YtnjbmcjhhadojaaM8
import Derived.Test.YtnjbmcjhhadojaaM9
import Derived.Test.YtnjbmcjhhadojaaM11
import Derived.Test.YtnjbmcjhhadojaaM12
import Derived.Test.YtnjbmcjhhadojaaM13
import Derived.Test.YtnjbmcjhhadojaaM4
import Derived.Test.YtnjbmcjhhadojaaM5
namespace Go.Proofs.Ytnjbmcjhhadojaa.P
end Go.Proofs.Ytnjbmcjhhadojaa.P
namespace Go.Proofs.Ytnjbmcjhhadojaa.Q
end Go.Proofs.Ytnjbmcjhhadojaa.Q
namespace Go.Proofs.Ytnjbmcjhhadojaa.Q
open Go.RowKit Go.Proofs.Ytnjbmcjhhadojaa.P Go.Proofs.YtnjbmcjhhadojaaW.PrintWords Go.Proofs.YtnjbmcjhhadojaaW.PrintLast Go.Proofs.YtnjbmcjhhadojaaW.PrintMore
set_option linter.unusedVariables false
set_option linter.unusedSimpArgs false
theorem wadd (a b : Nat) (h : a + b ≤ 100000000) : wrap64 ((a : Int) + (b : Int)) = ((a + b : Nat) : Int) := by rw [w64 (by omega)]; omega
theorem wsucc (a : Nat) (h : a ≤ 100000000) : wrap64 ((a : Int) + 1) = ((a + 1 : Nat) : Int) := by rw [w64 (by omega)]; omega
/-! The reference's bytes -/
theorem rrow_l0 (l : List S49) (hl : l.length ≤ 8) (hw : ∀ w ∈ l, isWr w = true) (d : Nat) : ∀ (i : Nat) (acc : List UInt8), i ≤ l.length → l.length - i = d → acc.length ≤ 10 + 60 * i →
    Ev (fun k => ravelinref12_Row.l0 k l (S acc) (i : Int)) (S (acc ++ rowsW (l.drop i))) := by
  induction d with
  | zero =>
    intro i acc hi hd _
    refine Ev.step (fun k => ravelinref12_Row.l0.eq_2 ..) (evF (by omega) (evEq (evSome _) ?_))
    rw [List.drop_eq_nil_of_le (by omega), rowsW, List.append_nil]
  | succ d ih =>
    intro i acc hi hd hacc
    have hi2 : i < l.length := by omega
    have hmem : l.getD i z49 ∈ l := by
      rw [List.getD_eq_getElem?_getD, List.getElem?_eq_getElem hi2]; exact List.getElem_mem hi2
    refine Ev.step (fun k => ravelinref12_Row.l0.eq_2 ..) (evT (by omega) (evT (by omega) ?_))
    rw [rd_at, getD_cons hi2, rowsW]
    have hx := hw _ hmem
    generalize l.getD i z49 = w at *
    obtain ⟨h1, h2, h3, h4⟩ := isWr_iff hx
    have hr := rowW_len hx
    have t1 := rtext_ev (wk w) (by omega)
    have t2 := rtext_ev (wv w) (by omega)
    rw [show S (wk w) = w.f0 from S_of _] at t1
    rw [show S (wv w) = w.f2 from S_of _] at t2
    have hr2 : (textL (wk w)).length + (valL w.f1 (wv w)).length = (rowW w).length := by rw [rowW, List.length_append]
    have next := ih (i + 1) (acc ++ rowW w) (by omega) (by omega) (by rw [List.length_append]; omega)
    refine evBind t1 (evT (by rw [S_size, S_size]; omega) ?_)
    rw [S_append, S_size, wsucc i (by omega)]
    cases hd2 : w.f1 with
    | true =>
      rw [show (⟨#[1]⟩ : ByteArray) = S [1] from rfl, S_append]
      have ev : rowW w = textL (wk w) ++ [1] := by rw [rowW, hd2]; rfl
      refine evT rfl (evT (by rw [List.length_append]; omega) (evEq (by rw [ev, ← List.append_assoc] at next; exact next) ?_))
      rw [ev]
      simp
    | false =>
      rw [show (⟨#[0]⟩ : ByteArray) = S [0] from rfl, S_append]
      have ev : rowW w = textL (wk w) ++ ([0] ++ textL (wv w)) := by rw [rowW, hd2]; rfl
      have ev2 := congrArg List.length ev
      rw [List.length_append, List.length_append] at ev2
      refine evF (by simp) (evT (by rw [List.length_append]; omega) (evBind t2 ?_))
      rw [S_append, S_size, S_size]
      refine evT (by rw [List.length_append, List.length_append]; simp at ev2 ⊢; omega) (evEq (by rw [ev, ← List.append_assoc, ← List.append_assoc] at next; exact next) ?_)
      rw [ev]
      simp
theorem rrow_ev (l : List S49) (hl : l.length ≤ 8) (hw : ∀ w ∈ l, isWr w = true) : Ev (fun k => ravelinref12_Row.f k l) (S (wordsW l)) := by
  have a4 := numL_le (n := l.length) (by omega)
  have n1 := rnum_ev (l.length : Int) (by omega)
  rw [Int.toNat_natCast] at n1
  refine Ev.congr (fun k => ravelinref12_Row.f.eq_1 ..) (evBind n1 ?_)
  exact rrow_l0 l hl hw _ 0 _ (by omega) rfl (by omega)
theorem rbytes_ev (s : Int) (l : List S49) (hl : l.length ≤ 4611686018427387904) : Ev (fun k => ravelinref12_Bytes.f k s l) (S (bytesB s l).1, (bytesB s l).2) := by
  refine Ev.congr (fun k => ravelinref12_Bytes.f.eq_1 ..) (evBind (ris_ev l hl) ?_)
  have no : Ev (fun k => ravelinref12_Bytes.j0 k s l true) (S [], 10) := Ev.step (fun k => ravelinref12_Bytes.j0.eq_2 ..) (evT rfl (evSome _))
  unfold bytesB
  cases h : isB l with
  | false => exact evF (by simp) no
  | true =>
    refine evT rfl ?_
    unfold inB
    by_cases h1 : 1 ≤ s
    · refine evF (by omega) ?_
      by_cases h2 : s ≤ 1000000
      · rw [decide_eq_true h1, decide_eq_true h2, decide_eq_false (by omega)]
        simp only [Bool.and_self, if_true]
        have hm := isB_len h
        have hx := isB_all h
        have hp := payB_len s h (by omega)
        have n1 := rnum_ev s (by omega)
        have a1 := numL_le (n := s.toNat) (by omega)
        have e : (payB s l).length = (numL s.toNat).length + (wordsW l).length := by rw [payB, List.length_append]
        refine Ev.step (fun k => ravelinref12_Bytes.j0.eq_2 ..) (evF (by simp) (evBind n1 (evBind (rrow_ev l hm hx) (evT (by rw [S_size, S_size]; omega) ?_))))
        rw [S_append]
        exact evBind (rseal_ev _ (by show (payB s l).length ≤ _; omega)) (evSome _)
      · rw [decide_eq_true h1, decide_eq_false h2, decide_eq_true (by omega)]
        exact no
    · rw [decide_eq_false h1]
      exact evT (by omega) no
/-! What the reference takes -/
theorem rtake_l0 (b : List UInt8) (hz : b.length ≤ 1000000) (n : Int) (hn : n ≤ 8) (d : Nat) : ∀ (i a : Nat) (acc : List S49), (n - i).toNat = d → i ≤ 8 → a ≤ b.length → acc.length ≤ i →
    ∃ r, Ev (fun k => ravelinref12_TakeRow.l0 k (S b) n (a : Int) acc (i : Int)) r ∧ r.1.length ≤ 8 ∧ (∀ ws, (∀ w ∈ ws, isWr w = true) → b.drop a = rowsW ws → n = i + ws.length → r.1 = acc ++ ws ∧ r.2.2 = true) := by
  induction d with
  | zero =>
    intro i a acc hd hi ha hacc
    refine ⟨_, Ev.step (fun k => ravelinref12_TakeRow.l0.eq_2 ..) (evF (by omega) (evSome _)), by simp only; omega, ?_⟩
    intro ws _ _ hn2
    have : ws = [] := List.eq_nil_of_length_eq_zero (by omega)
    subst this
    simp
  | succ d ih =>
    intro i a acc hd hi ha hacc
    have hb := takeText_bounds (b.drop a)
    rw [List.length_drop] at hb
    have t1 := rtakeText_ev (b.drop a) (by rw [List.length_drop]; omega)
    -- what stands there, if it was written
    have hv : ∀ ws, (∀ w ∈ ws, isWr w = true) → b.drop a = rowsW ws → n = i + ws.length → ∃ w t, ws = w :: t ∧ isWr w = true ∧ (∀ x ∈ t, isWr x = true) ∧ takeText (b.drop a) = (wk w, ((textL (wk w)).length : Int), 0) ∧ b.drop (a + (textL (wk w)).length) = valL w.f1 (wv w) ++ rowsW t ∧ n = (i + 1 : Nat) + t.length := by
      intro ws hw hdr hn2
      cases ws with
      | nil => simp at hn2; omega
      | cons w t =>
        have hx := hw w List.mem_cons_self
        obtain ⟨h1, h2, h3, h4⟩ := isWr_iff hx
        have e0 : b.drop a = textL (wk w) ++ (valL w.f1 (wv w) ++ rowsW t) := by rw [hdr]; simp [rowsW, rowW]
        refine ⟨w, t, rfl, hx, fun x hx => hw x (List.mem_cons_of_mem _ hx), by rw [e0, takeText_text (by omega)], ?_, by simp only [List.length_cons] at hn2; omega⟩
        rw [← List.drop_drop, e0, List.drop_left]
    have stop : ∀ (x : ByteArray) (j : Int), Ev (fun k => ravelinref12_TakeRow.j2 k (S b) n (a : Int) acc (i : Int) x j true) ([], 0, false) := fun x j => Ev.step (fun k => ravelinref12_TakeRow.j2.eq_2 ..) (evT rfl (evSome _))
    have E : ∀ {r}, Ev (fun k => if (takeText (b.drop a)).2.2 = 0 then ravelinref12_TakeRow.j2 k (S b) n (a : Int) acc (i : Int) (S (takeText (b.drop a)).1) (takeText (b.drop a)).2.1 ((wrap64 ((a : Int) + (takeText (b.drop a)).2.1)) == ((S b).size : Int)) else ravelinref12_TakeRow.j2 k (S b) n (a : Int) acc (i : Int) (S (takeText (b.drop a)).1) (takeText (b.drop a)).2.1 true) r → Ev (fun k => ravelinref12_TakeRow.l0 k (S b) n (a : Int) acc (i : Int)) r := by
      intro r h
      refine Ev.step (fun k => ravelinref12_TakeRow.l0.eq_2 ..) (evT (by omega) (evT (by omega) (evT (by rw [S_size]; omega) ?_)))
      rw [S_extract, S_size, Int.toNat_natCast, List.take_of_length_le (by rw [List.length_drop]; omega)]
      exact evBind t1 h
    generalize takeText (b.drop a) = x at *
    by_cases hx0 : x.2.2 = 0
    · obtain ⟨j, hj⟩ : ∃ j : Nat, x.2.1 = (j : Int) := ⟨x.2.1.toNat, by omega⟩
      rw [hj] at E hb
      by_cases hend : a + j = b.length
      · refine ⟨([], 0, false), E (evT hx0 ?_), by simp, ?_⟩
        · rw [wadd a j (by omega), S_size, hend, show (((b.length : Nat) : Int) == (b.length : Int)) = true by simp]
          exact stop _ _
        · intro ws h1 h2 h3
          obtain ⟨w, t, _, _, _, h5, h6, _⟩ := hv ws h1 h2 h3
          have := congrArg (fun z : List UInt8 × Int × Int => z.2.1) h5
          simp only [hj] at this
          rw [← show j = (textL (wk w)).length by omega, hend, List.drop_length] at h6
          have h7 := congrArg List.length h6
          rw [List.length_append] at h7
          unfold valL at h7
          split at h7 <;> (simp only [List.length_nil, List.length_cons] at h7; omega)
      · have hlt : a + j < b.length := by omega
        obtain ⟨c, t, hct⟩ : ∃ c t, b.drop (a + j) = c :: t := ⟨b.getD (a + j) 0, b.drop (a + j + 1), by rw [List.drop_eq_getElem_cons hlt]; simp [List.getD_eq_getElem?_getD, List.getElem?_eq_getElem hlt]⟩
        obtain ⟨hbt, _, hdt⟩ := bt_drop hct
        -- what was written goes on
        have hv2 : ∀ ws, (∀ w ∈ ws, isWr w = true) → b.drop a = rowsW ws → n = i + ws.length → ∃ w tl, ws = w :: tl ∧ isWr w = true ∧ (∀ x ∈ tl, isWr x = true) ∧ x.1 = wk w ∧ c :: t = valL w.f1 (wv w) ++ rowsW tl ∧ n = (i + 1 : Nat) + tl.length := by
          intro ws h1 h2 h3
          obtain ⟨w, tl, h4, h5, h6, h7, h8, h9⟩ := hv ws h1 h2 h3
          have h10 := congrArg (fun z : List UInt8 × Int × Int => z.2.1) h7
          simp only [hj] at h10
          rw [← show j = (textL (wk w)).length by omega, hct] at h8
          exact ⟨w, tl, h4, h5, h6, by rw [h7], h8, h9⟩
        have J : ∀ {r}, Ev (fun k => if ((c.toNat : Nat) : Int) = 1 then (if acc.length < 3518437208883 then (ravelinref12_TakeRow.l0 k (S b) n ((a + j + 1 : Nat) : Int) (acc ++ [(⟨S x.1, true, (⟨#[]⟩ : ByteArray)⟩ : S49)]) ((i + 1 : Nat) : Int)) else none) else (ravelinref3_TakeText.f k (S (b.drop (a + j + 1)))).bind fun bt297 => (if bt297.2.2 = 0 then (if acc.length < 3518437208883 then (ravelinref12_TakeRow.l0 k (S b) n (wrap64 (((a + j + 1 : Nat) : Int) + bt297.2.1)) (acc ++ [(⟨S x.1, false, bt297.1⟩ : S49)]) ((i + 1 : Nat) : Int)) else none) else (some (([] : List S49), 0, false)))) r → Ev (fun k => ravelinref12_TakeRow.l0 k (S b) n (a : Int) acc (i : Int)) r := by
          intro r h
          refine E (evT hx0 ?_)
          rw [wadd a j (by omega), S_size, beq_false_of_ne (show ((a + j : Nat) : Int) ≠ (b.length : Int) by omega)]
          refine Ev.step (fun k => ravelinref12_TakeRow.j2.eq_2 ..) (evF (by simp) ?_)
          rw [wadd a j (by omega), S_size, hbt, wsucc (a + j) (by omega), wsucc i (by omega)]
          refine evT (by omega) (evT (by omega) ?_)
          by_cases hc : ((c.toNat : Nat) : Int) = 1
          · refine evT hc ?_
            exact Ev.congr (fun k => by rw [if_pos hc]) h
          · refine evF hc (evT (by omega) (evT (by omega) ?_))
            rw [S_extract, Int.toNat_natCast, List.take_of_length_le (by rw [List.length_drop]; omega)]
            exact Ev.congr (fun k => by rw [if_neg hc]) h
        by_cases hc : c = 1
        · obtain ⟨r, hr, hr1, hr2⟩ := ih (i + 1) (a + j + 1) (acc ++ [(⟨S x.1, true, (⟨#[]⟩ : ByteArray)⟩ : S49)]) (by omega) (by omega) (by omega) (by rw [List.length_append]; simp only [List.length_cons, List.length_nil]; omega)
          refine ⟨r, J (evT (byte_one.2 hc) (evT (by omega) hr)), hr1, ?_⟩
          intro ws h1 h2 h3
          obtain ⟨w, tl, h4, h5, h6, h7, h8, h9⟩ := hv2 ws h1 h2 h3
          cases hw1 : w.f1 with
          | false => rw [hw1, hc] at h8; simp [valL] at h8
          | true =>
            have hw2 := (isWr_iff h5).2.2.2 hw1
            rw [hw1, hc] at h8
            simp only [valL, if_true, List.cons_append, List.nil_append, List.cons.injEq, true_and] at h8
            obtain ⟨h10, h11⟩ := hr2 tl h6 (by rw [hdt, h8]) h9
            refine ⟨?_, h11⟩
            rw [h10, h4, h7]
            have : (⟨S (wk w), true, (⟨#[]⟩ : ByteArray)⟩ : S49) = w := by
              have := mkW_of w
              rw [hw1, hw2] at this
              exact this
            rw [this]
            simp
        · have hc1 : ¬ ((c.toNat : Nat) : Int) = 1 := fun h => hc (byte_one.1 h)
          have hb3 := takeText_bounds (b.drop (a + j + 1))
          rw [List.length_drop] at hb3
          have t3 := rtakeText_ev (b.drop (a + j + 1)) (by rw [List.length_drop]; omega)
          have hv3 : ∀ ws, (∀ w ∈ ws, isWr w = true) → b.drop a = rowsW ws → n = i + ws.length → ∃ w tl, ws = w :: tl ∧ (∀ x ∈ tl, isWr x = true) ∧ mkW x.1 false (wv w) = w ∧ takeText (b.drop (a + j + 1)) = (wv w, ((textL (wv w)).length : Int), 0) ∧ b.drop (a + j + 1 + (textL (wv w)).length) = rowsW tl ∧ n = (i + 1 : Nat) + tl.length := by
            intro ws h1 h2 h3
            obtain ⟨w, tl, h4, h5, h6, h7, h8, h9⟩ := hv2 ws h1 h2 h3
            cases hw1 : w.f1 with
            | true => rw [hw1] at h8; simp [valL] at h8; exact absurd h8.1 hc
            | false =>
              rw [hw1] at h8
              simp only [valL, Bool.false_eq_true, if_false, List.cons_append, List.cons.injEq] at h8
              have hl := (isWr_iff h5).2.2.1
              have h10 := mkW_of w
              rw [hw1] at h10
              refine ⟨w, tl, h4, h6, by rw [h7]; exact h10, by rw [hdt, h8.2, takeText_text (by omega)], ?_, h9⟩
              rw [← List.drop_drop, hdt, h8.2, List.drop_left]
          generalize takeText (b.drop (a + j + 1)) = y at *
          by_cases hy : y.2.2 = 0
          · obtain ⟨m, hm⟩ : ∃ m : Nat, y.2.1 = (m : Int) := ⟨y.2.1.toNat, by omega⟩
            obtain ⟨r, hr, hr1, hr2⟩ := ih (i + 1) (a + j + 1 + m) (acc ++ [(⟨S x.1, false, S y.1⟩ : S49)]) (by omega) (by omega) (by omega) (by rw [List.length_append]; simp only [List.length_cons, List.length_nil]; omega)
            refine ⟨r, J (evF hc1 (evBind t3 (evT hy (evT (by omega) ?_)))), hr1, ?_⟩
            · show Ev (fun k => ravelinref12_TakeRow.l0 k (S b) n (wrap64 (((a + j + 1 : Nat) : Int) + y.2.1)) _ _) r
              rw [hm, wadd (a + j + 1) m (by omega)]
              exact hr
            · intro ws h1 h2 h3
              obtain ⟨w, tl, h4, h6, h7, h8, h9, h10⟩ := hv3 ws h1 h2 h3
              have h11 := congrArg (fun z : List UInt8 × Int × Int => z.2.1) h8
              simp only [hm] at h11
              rw [← show m = (textL (wv w)).length by omega] at h9
              obtain ⟨h12, h13⟩ := hr2 tl h6 h9 h10
              refine ⟨?_, h13⟩
              rw [h12, h4, show y.1 = wv w by rw [h8], show (⟨S x.1, false, S (wv w)⟩ : S49) = w from h7]
              simp
          · refine ⟨([], 0, false), J (evF hc1 (evBind t3 (evF hy (evSome _)))), by simp, ?_⟩
            intro ws h1 h2 h3
            obtain ⟨w, tl, _, _, _, h8, _⟩ := hv3 ws h1 h2 h3
            rw [h8] at hy
            exact absurd rfl hy
    · refine ⟨([], 0, false), E (evF hx0 (stop _ _)), by simp, ?_⟩
      intro ws h1 h2 h3
      obtain ⟨w, t, _, _, _, h5, _⟩ := hv ws h1 h2 h3
      rw [h5] at hx0
      exact absurd rfl hx0
theorem rtake_ev (b : List UInt8) (hz : b.length ≤ 1000000) : ∃ r, Ev (fun k => ravelinref12_TakeRow.f k (S b)) r ∧ r.1.length ≤ 8 ∧ (∀ ws, isB ws = true → b = wordsW ws → r.1 = ws ∧ r.2.2 = true) := by
  have hb := takeNum_bounds b
  have t1 := rtakeNum_ev b (by omega)
  have hv : ∀ ws, isB ws = true → b = wordsW ws → takeNum b = ((ws.length : Int), ((numL ws.length).length : Int), 0) ∧ b.drop (numL ws.length).length = rowsW ws := by
    intro ws h1 h2
    have := isB_len h1
    rw [h2]
    exact ⟨takeNum_num (by omega) _, by rw [wordsW, List.drop_left]⟩
  generalize takeNum b = x at *
  have stop : Ev (fun k => ravelinref12_TakeRow.j0 k (S b) x.1 x.2.1 true) ([], 0, false) := Ev.step (fun k => ravelinref12_TakeRow.j0.eq_2 ..) (evT rfl (evSome _))
  by_cases h : x.2.2 = 0
  · by_cases h8 : x.1 > 8
    · refine ⟨([], 0, false), Ev.congr (fun k => ravelinref12_TakeRow.f.eq_1 ..) (evBind t1 (evT h (by rw [decide_eq_true h8]; exact stop))), by simp, ?_⟩
      intro ws h1 h2
      obtain ⟨h3, _⟩ := hv ws h1 h2
      have := isB_len h1
      rw [h3] at h8
      simp only at h8
      omega
    · obtain ⟨a, ha⟩ : ∃ a : Nat, x.2.1 = (a : Int) := ⟨x.2.1.toNat, by omega⟩
      obtain ⟨r, hr, hr1, hr2⟩ := rtake_l0 b hz x.1 (by omega) _ 0 a [] rfl (by omega) (by omega) (by simp)
      refine ⟨r, Ev.congr (fun k => ravelinref12_TakeRow.f.eq_1 ..) (evBind t1 (evT h ?_)), hr1, ?_⟩
      · rw [decide_eq_false h8, ha]
        exact Ev.step (fun k => ravelinref12_TakeRow.j0.eq_2 ..) (evF (by simp) hr)
      · intro ws h1 h2
        obtain ⟨h3, h4⟩ := hv ws h1 h2
        have h5 := congrArg (fun z : Int × Int × Int => z.2.1) h3
        simp only [ha] at h5
        rw [← show a = (numL ws.length).length by omega] at h4
        have := hr2 ws (isB_all h1) h4 (by rw [h3]; simp)
        simpa using this
  · refine ⟨([], 0, false), Ev.congr (fun k => ravelinref12_TakeRow.f.eq_1 ..) (evBind t1 (evF h stop)), by simp, ?_⟩
    intro ws h1 h2
    obtain ⟨h3, _⟩ := hv ws h1 h2
    rw [h3] at h
    exact absurd rfl h
theorem sealL_inj {a b : List UInt8} (ha : a.length < 9223372036854775808) (hb : b.length < 9223372036854775808) (h : sealL a = sealL b) : a = b := by
  have h1 := openS_seal ha []
  have h2 := openS_seal hb []
  rw [List.append_nil] at h1 h2
  rw [h, h2] at h1
  exact (congrArg (fun z : List UInt8 × Int × Int => z.1) h1).symm
/-- What is read at the front is what was written: the batch is told by the sealed bytes. -/
theorem readB_of {l : List UInt8} (ho : (openS l).2.2 = 0) {s : Int} {w : List S49} (h2 : (bytesB s w).2 = 0) (h3 : (bytesB s w).1 = l.take (openS l).2.1.toNat) : (openS l).1 = payB s w ∧ isB w = true ∧ inB s = true ∧ readB l = ((s, w), (openS l).2.1, 0) := by
  obtain ⟨hB, hI⟩ := bytesB_zero h2
  have hp := payB_len s hB (inB_iff.1 hI).2
  obtain ⟨k1, k2, r, k3⟩ := openS_inv (l := l) (s := (openS l).1) (k := (openS l).2.1) (by rw [← ho])
  have e : l.take (openS l).2.1.toNat = sealL (openS l).1 := by
    have k4 := congrArg (List.take (sealL (openS l).1).length) k3
    rw [List.take_left] at k4
    rw [k2, Int.toNat_natCast]
    exact k4
  rw [bytesB_some hB hI] at h3
  simp only at h3
  rw [e] at h3
  have e2 := sealL_inj (by omega) k1 h3
  refine ⟨e2.symm, hB, hI, ?_⟩
  have h4 := readB_bytes hB hI r
  rw [e2, ← k3] at h4
  rw [h4, k2]
theorem readB_inv {l : List UInt8} (h : (readB l).2.2 = 0) : (openS l).2.2 = 0 ∧ (openS l).1 = payB (readB l).1.1 (readB l).1.2 ∧ isB (readB l).1.2 = true ∧ inB (readB l).1.1 = true := by
  have hc := h
  unfold readB at hc
  by_cases c1 : (openS l).2.2 = 0
  · rw [if_pos c1] at hc
    by_cases c2 : (takeB (openS l).1).2 = 0 ∧ (bytesB (takeB (openS l).1).1.1 (takeB (openS l).1).1.2).2 = 0 ∧ (bytesB (takeB (openS l).1).1.1 (takeB (openS l).1).1.2).1 = l.take (openS l).2.1.toNat
    · obtain ⟨k1, k2, k3, k4⟩ := readB_of c1 c2.2.1 c2.2.2
      rw [k4]
      exact ⟨c1, k1, k2, k3⟩
    · rw [if_neg c2] at hc
      cases hc
  · rw [if_neg c1] at hc
    exact absurd hc c1
theorem readB_bad {l : List UInt8} (h : (readB l).2.2 ≠ 0) (ho : (openS l).2.2 = 0) : readB l = ((0, []), 0, 10) := by
  unfold readB at h ⊢
  rw [if_pos ho] at h ⊢
  split at h
  · exact absurd rfl h
  · rename_i hc
    rw [if_neg hc]
theorem rread_ev (l : List UInt8) (hz : l.length ≤ 1000000) : Ev (fun k => ravelinref12_Read.f k (S l)) (flatB (readB l)) := by
  refine Ev.congr (fun k => ravelinref12_Read.f.eq_1 ..) (evBind (ropen_ev l (by omega)) ?_)
  by_cases ho : (openS l).2.2 = 0
  · have hok := openS_ok ho
    refine evT ho ?_
    have hb := takeNum_bounds (openS l).1
    have t1 := rtakeNum_ev (openS l).1 (by omega)
    -- what was written is taken
    have hv : (readB l).2.2 = 0 → takeNum (openS l).1 = ((readB l).1.1, ((numL (readB l).1.1.toNat).length : Int), 0) ∧ (openS l).1.drop (numL (readB l).1.1.toNat).length = wordsW (readB l).1.2 := by
      intro hr
      obtain ⟨_, h1, h2, h3⟩ := readB_inv hr
      have h4 := inB_iff.1 h3
      rw [h1]
      refine ⟨?_, by rw [payB, List.drop_left]⟩
      rw [payB, takeNum_num (by omega), Int.toNat_of_nonneg (by omega)]
    refine evBind t1 ?_
    by_cases hx : (takeNum (openS l).1).2.2 = 0
    · obtain ⟨a, ha⟩ : ∃ a : Nat, (takeNum (openS l).1).2.1 = (a : Int) := ⟨(takeNum (openS l).1).2.1.toNat, by omega⟩
      refine evT hx (evT (by omega) (evT (by show (takeNum (openS l).1).2.1 ≤ ((S (openS l).1).size : Int); rw [S_size]; omega) ?_))
      rw [ha]
      show Ev (fun n => (ravelinref12_TakeRow.f n ((S (openS l).1).extract ((a : Int)).toNat (S (openS l).1).size)).bind _) _
      rw [S_extract, S_size, Int.toNat_natCast, List.take_of_length_le (by rw [List.length_drop]; omega)]
      obtain ⟨r, hr, hr1, hr2⟩ := rtake_ev ((openS l).1.drop a) (by rw [List.length_drop]; omega)
      refine evBind hr (evBind (rbytes_ev _ _ (by omega)) ?_)
      have good : (readB l).2.2 = 0 → r.1 = (readB l).1.2 ∧ r.2.2 = true ∧ (takeNum (openS l).1).1 = (readB l).1.1 ∧ a = (numL (readB l).1.1.toNat).length := by
        intro h
        obtain ⟨h1, h2⟩ := hv h
        have h3 := congrArg (fun z : Int × Int × Int => z.2.1) h1
        simp only [ha] at h3
        have h4 : a = (numL (readB l).1.1.toNat).length := by omega
        rw [← h4] at h2
        obtain ⟨h5, h6⟩ := hr2 _ (readB_inv h).2.2.1 h2
        exact ⟨h5, h6, by rw [h1], h4⟩
      by_cases hrd : (readB l).2.2 = 0
      · obtain ⟨g1, g2, g3, _⟩ := good hrd
        obtain ⟨_, h1, h2, h3⟩ := readB_inv hrd
        obtain ⟨k1, k2, r2, k3⟩ := openS_inv (l := l) (s := (openS l).1) (k := (openS l).2.1) (by rw [← ho])
        rw [g1, g3, bytesB_some h2 h3]
        have e : l.take (openS l).2.1.toNat = sealL (payB (readB l).1.1 (readB l).1.2) := by
          have k4 := congrArg (List.take (sealL (openS l).1).length) k3
          rw [List.take_left] at k4
          rw [k2, Int.toNat_natCast, ← h1]
          exact k4
        have e2 : readB l = ((readB l).1, (openS l).2.1, 0) := by
          have := (readB_of ho (s := (readB l).1.1) (w := (readB l).1.2) (by rw [bytesB_some h2 h3]) (by rw [bytesB_some h2 h3, e])).2.2.2
          exact this
        refine evT g2 (evT rfl (evT (by show 0 ≤ (openS l).2.1; omega) (evT (by rw [S_size]; show (openS l).2.1 ≤ _; omega) (evT ?_ ?_))))
        · rw [S_extract, Nat.sub_zero, List.drop_zero, S_toList, S_toList]
          show sealL _ = l.take (openS l).2.1.toNat
          rw [e]
        · refine evEq (evSome _) ?_
          conv => rhs; rw [e2]
          rfl
      · have bad := readB_bad hrd ho
        rw [bad]
        by_cases c1 : r.2.2 = true
        · refine evT c1 ?_
          by_cases c2 : (bytesB (takeNum (openS l).1).1 r.1).2 = 0
          · refine evT c2 (evT (by show 0 ≤ (openS l).2.1; omega) (evT (by rw [S_size]; show (openS l).2.1 ≤ _; omega) (evF ?_ (evSome _))))
            rw [S_extract, Nat.sub_zero, List.drop_zero, S_toList, S_toList]
            intro c3
            have := (readB_of ho c2 c3).2.2.2
            rw [this] at hrd
            exact hrd rfl
          · exact evF c2 (evSome _)
        · exact evF c1 (evSome _)
    · refine evF hx ?_
      have hrd : (readB l).2.2 ≠ 0 := fun h => by rw [(hv h).1] at hx; exact hx rfl
      rw [readB_bad hrd ho]
      exact evSome _
  · refine evEq (evF ho (evSome _)) ?_
    unfold readB
    rw [if_neg ho]
    rfl
theorem rent_l0 (s : Int) (l : List S49) (hl : l.length ≤ 1000000) (d : Nat) : ∀ (i : Nat) (acc : List S74), i ≤ l.length → l.length - i = d → acc.length ≤ i →
    Ev (fun k => ravelinref12_Entries.l0 k s l acc (i : Int)) (acc ++ (if isB l = true then (l.drop i).map (entW s) else [])) := by
  induction d with
  | zero =>
    intro i acc hi hd _
    refine Ev.step (fun k => ravelinref12_Entries.l0.eq_2 ..) (evF (by omega) (evEq (evSome _) ?_))
    rw [List.drop_eq_nil_of_le (by omega), List.map_nil, ite_self, List.append_nil]
  | succ d ih =>
    intro i acc hi hd hacc
    have hi2 : i < l.length := by omega
    refine Ev.step (fun k => ravelinref12_Entries.l0.eq_2 ..) (evT (by omega) (evBind (ris_ev l (by omega)) ?_))
    have next := fun x => ih (i + 1) (acc ++ [x]) (by omega) (by omega) (by rw [List.length_append]; simp only [List.length_cons, List.length_nil]; omega)
    cases h : isB l with
    | false => exact evF (by simp) (evEq (evSome _) (by simp))
    | true =>
      rw [h] at next
      refine evT rfl (evT (by omega) (evT (by omega) ?_))
      rw [rd_at, getD_cons hi2, w64 (by omega), show (i : Int) + 1 = ((i + 1 : Nat) : Int) by omega]
      refine evEq (next _) ?_
      simp [entW]
theorem rent_ev (s : Int) (l : List S49) (hl : l.length ≤ 1000000) : Ev (fun k => ravelinref12_Entries.f k s l) (entB s l) := by
  refine Ev.congr (fun k => ravelinref12_Entries.f.eq_1 ..) (evEq (rent_l0 s l hl _ 0 [] (by omega) rfl (by simp)) ?_)
  unfold entB
  simp
theorem rlog_l0 (L : List UInt8) (hz : L.length ≤ 1000000) (d : Nat) : ∀ (a : Nat) (acc : List S74) (last : Int), a ≤ L.length → L.length - a < d → acc.length ≤ 8 * a → last ≤ 1000000 → (a = 0 ∧ last = 0 ∨ 0 < a ∧ 0 < last) →
    Ev (fun k => ravelinref12_Log.l0 k (S L) acc last (a : Int)) (logB L d acc last a) := by
  induction d with
  | zero => intro a acc last h1 h2; omega
  | succ d ih =>
    intro a acc last h1 h2 h3 h4 h5
    refine Ev.step (fun k => ravelinref12_Log.l0.eq_2 ..) ?_
    by_cases hend : a = L.length
    · refine evF (by rw [S_size]; omega) (evEq (evSome _) ?_)
      rw [logB, hend, List.drop_length, if_neg (by rw [readB_nil]; decide)]
    · refine evT (by rw [S_size]; omega) (evT (by omega) (evT (by rw [S_size]; omega) ?_))
      rw [S_extract, S_size, Int.toNat_natCast, List.take_of_length_le (by rw [List.length_drop]; omega)]
      refine evBind (rread_ev _ (by rw [List.length_drop]; omega)) ?_
      rw [logB]
      have hok := readB_ok (l := L.drop a)
      have hin := readB_inv (l := L.drop a)
      rw [List.length_drop] at hok
      generalize readB (L.drop a) = r at *
      simp only [flatB]
      by_cases c : r.2.2 = 0
      · obtain ⟨k1, k2, k3, k4⟩ := hok c
        have k5 := inB_iff.1 (hin c).2.2.2
        rw [if_pos c]
        refine evT c ?_
        have he := rent_ev r.1.1 r.1.2 (by omega)
        have hel : (entB r.1.1 r.1.2).length ≤ 8 := by
          unfold entB
          split
          · rw [List.length_map]; omega
          · simp
        have next : Ev (fun k => (ravelinref12_Entries.f k r.1.1 r.1.2).bind fun t196 => (if acc.length + t196.length < 2932031007402 then (ravelinref12_Log.l0 k (S L) (acc ++ t196) r.1.1 (wrap64 ((a : Int) + r.2.1))) else (none))) (logB L d (acc ++ entB r.1.1 r.1.2) r.1.1 (a + r.2.1.toNat)) := by
          refine evBind he (evT (by omega) ?_)
          rw [w64 (by omega), show (a : Int) + r.2.1 = ((a + r.2.1.toNat : Nat) : Int) by omega]
          exact ih _ _ _ (by omega) (by omega) (by rw [List.length_append]; omega) (by omega) (.inr (by omega))
        by_cases c1 : a = 0
        · have c3 : ¬ (last > 0 ∧ r.1.1 ≠ last + 1) := by omega
          rw [if_neg c3]
          exact evF (by omega) next
        · refine evT (by omega) ?_
          rw [w64 (by omega)]
          by_cases c2 : r.1.1 = last + 1
          · have c3 : ¬ (last > 0 ∧ r.1.1 ≠ last + 1) := by omega
            rw [if_neg c3]
            exact evT c2 next
          · have c3 : last > 0 ∧ r.1.1 ≠ last + 1 := by omega
            rw [if_pos c3]
            exact evF c2 (evSome _)
      · rw [if_neg c]
        exact evF c (evSome _)
theorem rlog_ev (L : List UInt8) (hz : L.length ≤ 1000000) : Ev (fun k => ravelinref12_Log.f k (S L)) (logB L (L.length + 1) [] 0 0) :=
  Ev.congr (fun k => ravelinref12_Log.f.eq_1 ..) (rlog_l0 L hz _ 0 [] 0 (by omega) (by omega) (by simp) (by omega) (.inl ⟨rfl, rfl⟩))
/-! One row is like itself -/
theorem rsameW_l0 (a : List S49) (hz : a.length ≤ 1000000) (d : Nat) : ∀ i : Nat, i ≤ a.length → a.length - i = d → Ev (fun k => ravelinref12_Same.l0 k a a (i : Int)) true := by
  induction d with
  | zero => intro i hi hd; exact Ev.step (fun k => ravelinref12_Same.l0.eq_2 ..) (evF (by omega) (evSome _))
  | succ d ih =>
    intro i hi hd
    refine Ev.step (fun k => ravelinref12_Same.l0.eq_2 ..) (evT (by omega) (evT (by omega) (evT (by omega) (evF (by simp) ?_))))
    rw [w64 (by omega), show (i : Int) + 1 = ((i + 1 : Nat) : Int) by omega]
    exact ih (i + 1) (by omega) (by omega)
theorem rsameW_ev (a : List S49) (hz : a.length ≤ 1000000) : Ev (fun k => ravelinref12_Same.f k a a) true :=
  Ev.congr (fun k => ravelinref12_Same.f.eq_1 ..) (evT rfl (rsameW_l0 a hz _ 0 (by omega) rfl))
theorem rsameE_l0 (a : List S74) (hz : a.length ≤ 100000000) (d : Nat) : ∀ i : Nat, i ≤ a.length → a.length - i = d → Ev (fun k => ravelinref6_Same.l0 k a a (i : Int)) true := by
  induction d with
  | zero => intro i hi hd; exact Ev.step (fun k => ravelinref6_Same.l0.eq_2 ..) (evF (by omega) (evSome _))
  | succ d ih =>
    intro i hi hd
    refine Ev.step (fun k => ravelinref6_Same.l0.eq_2 ..) (evT (by omega) (evT (by omega) (evT (by omega) (evF (by simp) ?_))))
    rw [w64 (by omega), show (i : Int) + 1 = ((i + 1 : Nat) : Int) by omega]
    exact ih (i + 1) (by omega) (by omega)
theorem rsameE_ev (a : List S74) (hz : a.length ≤ 100000000) : Ev (fun k => ravelinref6_Same.f k a a) true :=
  Ev.congr (fun k => ravelinref6_Same.f.eq_1 ..) (evT rfl (rsameE_l0 a hz _ 0 (by omega) rfl))
/-! A write put into a row in order, in place of the one of its key -/
def keepW (w : S49) (l : List S49) : List S49 := l.filter fun o => !(wk o == wk w)
def withW (w : S49) : List S49 → List S49
  | [] => [w]
  | x :: t => if Op.bytesLess (wk x) (wk w) = true then x :: withW w t else w :: keepW w (x :: t)
theorem rwith_done (w : S49) (x0 : List S49) (hl : x0.length ≤ 1000000) (d : Nat) : ∀ (i : Nat) (acc : List S49), i ≤ x0.length → x0.length - i = d → acc.length ≤ i + 1 →
    Ev (fun k => ravelinref12_With.l0 k x0 acc true (i : Int) w.f0 w.f1 w.f2) (acc ++ keepW w (x0.drop i)) := by
  induction d with
  | zero =>
    intro i acc hi hd _
    refine Ev.step (fun k => ravelinref12_With.l0.eq_2 ..) (evF (by omega) (evT rfl (evEq (evSome _) ?_)))
    rw [List.drop_eq_nil_of_le (by omega)]
    simp [keepW]
  | succ d ih =>
    intro i acc hi hd hacc
    have hi2 : i < x0.length := by omega
    refine Ev.step (fun k => ravelinref12_With.l0.eq_2 ..) (evT (by omega) (evT rfl (Ev.step (fun k => ravelinref12_With.j1.eq_2 ..) (evF (by simp) (evT (by omega) (evT (by omega) ?_))))))
    rw [rd_at, getD_cons hi2, w64 (by omega), show (i : Int) + 1 = ((i + 1 : Nat) : Int) by omega, toL, toL]
    generalize x0.getD i z49 = y at *
    show Ev (fun n => if wk y = wk w then _ else _) _
    by_cases h : wk y = wk w
    · refine evT h (evEq (ih (i + 1) acc (by omega) (by omega) (by omega)) ?_)
      simp [keepW, h]
    · refine evF h (evT (by omega) (evEq (ih (i + 1) (acc ++ [y]) (by omega) (by omega) (by rw [List.length_append]; simp only [List.length_cons, List.length_nil]; omega)) ?_))
      simp [keepW, h]
theorem rwith_l0 (w : S49) (x0 : List S49) (hl : x0.length ≤ 1000000) (d : Nat) : ∀ (i : Nat) (acc : List S49), i ≤ x0.length → x0.length - i = d → acc.length ≤ i →
    Ev (fun k => ravelinref12_With.l0 k x0 acc false (i : Int) w.f0 w.f1 w.f2) (acc ++ withW w (x0.drop i)) := by
  induction d with
  | zero =>
    intro i acc hi hd _
    refine Ev.step (fun k => ravelinref12_With.l0.eq_2 ..) (evF (by omega) (evF (by simp) (evT (by omega) (evEq (evSome _) ?_))))
    rw [List.drop_eq_nil_of_le (by omega)]
    rfl
  | succ d ih =>
    intro i acc hi hd hacc
    have hi2 : i < x0.length := by omega
    refine Ev.step (fun k => ravelinref12_With.l0.eq_2 ..) (evT (by omega) (evF (by simp) (evT (by omega) ?_)))
    have done := fun acc2 => rwith_done w x0 hl d (i + 1) acc2 (by omega) (by omega)
    rw [rd_at, getD_cons hi2, withW, toL, toL]
    have hg : rd_T49 x0 (i : Int) = x0.getD i z49 := rd_at x0 i
    generalize x0.getD i z49 = y at *
    show Ev (fun n => ravelinref12_With.j1 n x0 acc false (i : Int) (!Op.bytesLess (wk y) (wk w)) w.f0 w.f1 w.f2) _
    refine Ev.step (fun k => ravelinref12_With.j1.eq_2 ..) ?_
    rw [hg, wsucc i (by omega), toL, toL]
    cases hb : Op.bytesLess (wk y) (wk w) with
    | true =>
      have hne : wk y ≠ wk w := lt_ne hb
      refine evF (by simp) (evT (by omega) (evT (by omega) ?_))
      show Ev (fun n => if wk y = wk w then _ else _) _
      refine evF hne (evT (by omega) (evEq (ih (i + 1) (acc ++ [y]) (by omega) (by omega) (by rw [List.length_append]; simp only [List.length_cons, List.length_nil]; omega)) ?_))
      simp
    | false =>
      refine evT rfl (evT (by omega) (evConst rfl (evT (by omega) (evT (by omega) ?_))))
      show Ev (fun n => if wk y = wk w then _ else _) _
      by_cases h : wk y = wk w
      · refine evT h (evEq (done _ (by rw [List.length_append]; simp only [List.length_cons, List.length_nil]; omega)) ?_)
        simp [keepW, h]
      · refine evF h (evT (by rw [List.length_append]; simp only [List.length_cons, List.length_nil]; omega) (evEq (done _ (by rw [List.length_append, List.length_append]; simp only [List.length_cons, List.length_nil]; omega)) ?_))
        simp [keepW, h]
theorem rwith_ev (w : S49) (x0 : List S49) (hl : x0.length ≤ 1000000) : Ev (fun k => ravelinref12_With.f k x0 w.f0 w.f1 w.f2) (withW w x0) :=
  Ev.congr (fun k => ravelinref12_With.f.eq_1 ..) (rwith_l0 w x0 hl _ 0 [] (by omega) rfl (by simp))
theorem withW_perm (w : S49) : ∀ l : List S49, (withW w l).Perm (keepW w l ++ [w])
  | [] => List.Perm.refl _
  | x :: t => by
    unfold withW
    split
    · rename_i hb
      have hne : wk x ≠ wk w := lt_ne hb
      have e : keepW w (x :: t) = x :: keepW w t := by simp [keepW, hne]
      rw [e, List.cons_append]
      exact (withW_perm w t).cons x
    · exact (List.perm_append_singleton w _).symm
theorem withW_sorted (w : S49) : ∀ l : List S49, l.Pairwise (fun a b => batch_Neat.lt b a = false) → (withW w l).Pairwise (fun a b => batch_Neat.lt b a = false)
  | [], _ => by simp [withW]
  | x :: t, h => by
    have h1 := List.pairwise_cons.1 h
    unfold withW
    split
    · rename_i hb
      refine List.pairwise_cons.2 ⟨fun b hb2 => ?_, withW_sorted w t h1.2⟩
      have hm := (withW_perm w t).mem_iff.1 hb2
      rcases List.mem_append.1 hm with hm | hm
      · exact h1.1 b (List.mem_filter.1 hm).1
      · rw [List.mem_singleton.1 hm]
        exact lt_asymm hb
    · rename_i hb
      have hb : batch_Neat.lt x w = false := Bool.eq_false_iff.2 hb
      refine List.pairwise_cons.2 ⟨fun b hb2 => ?_, h.sublist List.filter_sublist⟩
      have hm := (List.mem_filter.1 hb2).1
      rcases List.mem_cons.1 hm with rfl | hm
      · exact hb
      · exact batch_Neat.lt_ntrans (h1.1 b hm) hb
theorem lastW_snoc (w : S49) : ∀ l : List S49, lastW (l ++ [w]) = keepW w (lastW l) ++ [w]
  | [] => by simp [lastW, keepW]
  | x :: t => by
    have ih := lastW_snoc w t
    rw [List.cons_append, lastW, lastW, ih, List.any_append]
    by_cases h1 : (t.any fun o => wk o == wk x) = true
    · rw [h1, Bool.true_or, if_pos rfl, if_pos rfl]
    · have h1 := Bool.eq_false_iff.2 h1
      rw [h1, Bool.false_or]
      by_cases h2 : wk w = wk x
      · rw [if_pos (by simp [h2]), if_neg (by simp)]
        simp [keepW, h2]
      · have h3 : ¬ wk x = wk w := fun h => h2 h.symm
        rw [if_neg (by simp [h2]), if_neg (by simp)]
        simp [keepW, h3]
theorem neatW_snoc (w : S49) (l : List S49) : withW w (neatW l) = neatW (l ++ [w]) := by
  unfold neatW
  refine batch_Neat.unique (once_last _) ?_ (withW_sorted w _ (batch_Neat.sort_sorted _))
  rw [lastW_snoc]
  refine (withW_perm w _).trans (List.Perm.append_right _ ?_)
  exact (batch_Neat.sort_perm _).filter _
theorem neatW_len (l : List S49) : (neatW l).length ≤ l.length := by
  unfold neatW
  rw [(batch_Neat.sort_perm _).length_eq]
  exact lastW_len l
theorem rneat_l0 (l : List S49) (hl : l.length ≤ 1000000) (d : Nat) : ∀ i : Nat, i ≤ l.length → l.length - i = d → Ev (fun k => ravelinref12_Neat.l0 k l (neatW (l.take i)) (i : Int)) (neatW l) := by
  induction d with
  | zero =>
    intro i hi hd
    refine Ev.step (fun k => ravelinref12_Neat.l0.eq_2 ..) (evF (by omega) (evEq (evSome _) ?_))
    rw [List.take_of_length_le (by omega)]
  | succ d ih =>
    intro i hi hd
    have hi2 : i < l.length := by omega
    have hn := neatW_len (l.take i)
    rw [List.length_take] at hn
    refine Ev.step (fun k => ravelinref12_Neat.l0.eq_2 ..) (evT (by omega) (evT (by omega) (evBind (rwith_ev _ _ (by omega)) ?_)))
    have e : l.take i ++ [rd_T49 l (i : Int)] = l.take (i + 1) := by
      rw [rd_at, List.getD_eq_getElem?_getD, List.getElem?_eq_getElem hi2, List.take_succ_eq_append_getElem hi2]
      rfl
    rw [neatW_snoc, e, w64 (by omega), show (i : Int) + 1 = ((i + 1 : Nat) : Int) by omega]
    exact ih (i + 1) (by omega) (by omega)
theorem rneat_ev (l : List S49) (hl : l.length ≤ 1000000) : Ev (fun k => ravelinref12_Neat.f k l) (neatW l) :=
  Ev.congr (fun k => ravelinref12_Neat.f.eq_1 ..) (rneat_l0 l hl _ 0 (by omega) rfl)
end Go.Proofs.Ytnjbmcjhhadojaa.Q
