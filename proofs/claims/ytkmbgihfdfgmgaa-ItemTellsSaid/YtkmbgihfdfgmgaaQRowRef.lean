import Derived.Test.YtkmbgihfdfgmgaaQItemRead
import Derived.Test.YtkmbgihfdfgmgaaM8
import Derived.Test.YtkmbgihfdfgmgaaM9
import Derived.Test.YtkmbgihfdfgmgaaM10
namespace Go.Proofs.Ytkmbgihfdfgmgaa.P
end Go.Proofs.Ytkmbgihfdfgmgaa.P
namespace Go.Proofs.Ytkmbgihfdfgmgaa.Q
end Go.Proofs.Ytkmbgihfdfgmgaa.Q
namespace Go.Proofs.Ytkmbgihfdfgmgaa.Q
open Go.RowKit Go.Proofs.Ytkmbgihfdfgmgaa.P Go.Proofs.YtkmbgihfdfgmgaaW.PrintWords Go.Proofs.YtkmbgihfdfgmgaaW.PrintLast Go.Proofs.YtkmbgihfdfgmgaaW.PrintMore
set_option linter.unusedVariables false
set_option linter.unusedSimpArgs false
theorem isB_len {l : List S39} (h : isB l = true) : l.length ≤ 8 := by
  unfold isB at h
  simp only [Bool.and_eq_true, decide_eq_true_eq] at h
  exact h.2
theorem isB_all {l : List S39} (h : isB l = true) : ∀ w ∈ l, isWr w = true := by
  unfold isB at h
  simp only [Bool.and_eq_true] at h
  exact rise_all h.1
theorem risWrite_ev (a : ByteArray) (d : Bool) (v : ByteArray) : ravelinref6_IsWrite.f a d v = some (isW a.data.toList d v.data.toList) := by
  unfold ravelinref6_IsWrite.f isW
  rw [size_data, size_data, toL]
  generalize a.data.toList = x
  generalize v.data.toList = y
  by_cases h1 : 1 ≤ x.length
  · rw [if_pos (by omega)]
    by_cases h2 : x.length ≤ 13
    · rw [if_pos (by omega)]
      by_cases h3 : y.length ≤ 24
      · rw [if_pos (by omega)]
        cases d <;> cases y <;> simp_all
      · rw [if_neg (by omega)]; simp [h3]
    · rw [if_neg (by omega)]; simp [h2]
  · rw [if_neg (by omega)]; simp [h1]
/-- The key ahead of place i. -/
def aheadK (l : List S39) (i : Nat) : List UInt8 := if i = 0 then [] else wk (l.getD (i - 1) z39)
theorem ris_l0 (l : List S39) (hl : l.length ≤ 4611686018427387904) (d : Nat) : ∀ i : Nat, i ≤ l.length → l.length - i = d →
    Ev (fun k => ravelinref12_Is.l0 k l (i : Int)) (riseB (aheadK l i) (l.drop i) && decide (l.length ≤ 8)) := by
  induction d with
  | zero =>
    intro i hi hd
    refine Ev.step (fun k => ravelinref12_Is.l0.eq_2 ..) (evF (by omega) (evEq (evSome _) ?_))
    rw [List.drop_eq_nil_of_le (by omega), riseB, Bool.true_and, decide_eq_decide]
    omega
  | succ d ih =>
    intro i hi hd
    have hi2 : i < l.length := by omega
    have next := ih (i + 1) (by omega) (by omega)
    have ea : aheadK l (i + 1) = wk (l.getD i z39) := rfl
    rw [ea] at next
    refine Ev.step (fun k => ravelinref12_Is.l0.eq_2 ..) (evT (by omega) (evT (by omega) ?_))
    rw [rd_at, getD_cons hi2, riseB, w64 (n := (i : Int) + 1) (by omega), show (i : Int) + 1 = ((i + 1 : Nat) : Int) by omega]
    generalize l.getD i z39 = w at *
    refine evConst (risWrite_ev w.f0 w.f1 w.f2) ?_
    show Ev (fun n => if isWr w = true then _ else _) _
    cases h1 : isWr w with
    | false => exact evF (by simp) (evSome _)
    | true =>
      refine evT rfl ?_
      by_cases h0 : (i : Int) > 0
      · refine evT h0 ?_
        rw [w64 (by omega), show (i : Int) - 1 = ((i - 1 : Nat) : Int) by omega]
        refine evT (by omega) (evT (by omega) ?_)
        rw [rd_at, toL, toL]
        have e2 : aheadK l i = (l.getD (i - 1) z39).f0.data.toList := if_neg (by omega)
        rw [e2]
        show Ev (fun n => if Op.bytesLess _ (wk w) = true then _ else _) _
        cases h2 : Op.bytesLess (l.getD (i - 1) z39).f0.data.toList (wk w) with
        | false => exact evF (by simp) (evSome _)
        | true => exact evT rfl (evEq next (by simp))
      · refine evF h0 (evEq next ?_)
        have e2 : aheadK l i = [] := if_pos (by omega)
        have e3 : Op.bytesLess [] (wk w) = true := by
          have := (isWr_iff h1).1
          cases hk : wk w with
          | nil => rw [hk] at this; simp at this
          | cons c t => rfl
        rw [e2, e3, Bool.true_and, Bool.true_and]
theorem ris_ev (l : List S39) (hl : l.length ≤ 4611686018427387904) : Ev (fun k => ravelinref12_Is.f k l) (isB l) := by
  refine Ev.congr (fun k => ravelinref12_Is.f.eq_1 ..) ?_
  exact ris_l0 l hl _ 0 (by omega) rfl
theorem wadd (a b : Nat) (h : a + b ≤ 100000000) : wrap64 ((a : Int) + (b : Int)) = ((a + b : Nat) : Int) := by rw [w64 (by omega)]; omega
theorem wsucc (a : Nat) (h : a ≤ 100000000) : wrap64 ((a : Int) + 1) = ((a + 1 : Nat) : Int) := by rw [w64 (by omega)]; omega
theorem rrow_l0 (l : List S39) (hl : l.length ≤ 8) (hw : ∀ w ∈ l, isWr w = true) (d : Nat) : ∀ (i : Nat) (acc : List UInt8), i ≤ l.length → l.length - i = d → acc.length ≤ 10 + 60 * i →
    Ev (fun k => ravelinref12_Row.l0 k l (S acc) (i : Int)) (S (acc ++ rowsW (l.drop i))) := by
  induction d with
  | zero =>
    intro i acc hi hd _
    refine Ev.step (fun k => ravelinref12_Row.l0.eq_2 ..) (evF (by omega) (evEq (evSome _) ?_))
    rw [List.drop_eq_nil_of_le (by omega), rowsW, List.append_nil]
  | succ d ih =>
    intro i acc hi hd hacc
    have hi2 : i < l.length := by omega
    have hmem : l.getD i z39 ∈ l := by
      rw [List.getD_eq_getElem?_getD, List.getElem?_eq_getElem hi2]; exact List.getElem_mem hi2
    refine Ev.step (fun k => ravelinref12_Row.l0.eq_2 ..) (evT (by omega) (evT (by omega) ?_))
    rw [rd_at, getD_cons hi2, rowsW]
    have hx := hw _ hmem
    generalize l.getD i z39 = w at *
    obtain ⟨h1, h2, h3, h4⟩ := isWr_iff hx
    have hr := rowW_len hx
    have t1 := rtext_ev (wk w) (by omega)
    have t2 := rtext_ev (wv w) (by omega)
    rw [show S (wk w) = w.f0 from S_of _] at t1
    rw [show S (wv w) = w.f2 from S_of _] at t2
    have hr2 : (textL (wk w)).length + (valL w.f1 (wv w)).length = (rowW w).length := by rw [rowW, List.length_append]
    have next := ih (i + 1) (acc ++ rowW w) (by omega) (by omega) (by rw [List.length_append]; omega)
    refine evBind t1 (evT (by rw [S_size, S_size]; omega) ?_)
    rw [S_append, S_size, wsucc i (by omega)]
    cases hd2 : w.f1 with
    | true =>
      rw [show (⟨#[1]⟩ : ByteArray) = S [1] from rfl, S_append]
      have ev : rowW w = textL (wk w) ++ [1] := by rw [rowW, hd2]; rfl
      refine evT rfl (evT (by rw [List.length_append]; omega) (evEq (by rw [ev, ← List.append_assoc] at next; exact next) ?_))
      rw [ev]
      simp
    | false =>
      rw [show (⟨#[0]⟩ : ByteArray) = S [0] from rfl, S_append]
      have ev : rowW w = textL (wk w) ++ ([0] ++ textL (wv w)) := by rw [rowW, hd2]; rfl
      have ev2 := congrArg List.length ev
      rw [List.length_append, List.length_append] at ev2
      refine evF (by simp) (evT (by rw [List.length_append]; omega) (evBind t2 ?_))
      rw [S_append, S_size, S_size]
      refine evT (by rw [List.length_append, List.length_append]; simp at ev2 ⊢; omega) (evEq (by rw [ev, ← List.append_assoc, ← List.append_assoc] at next; exact next) ?_)
      rw [ev]
      simp
theorem rrow_ev (l : List S39) (hl : l.length ≤ 8) (hw : ∀ w ∈ l, isWr w = true) : Ev (fun k => ravelinref12_Row.f k l) (S (wordsW l)) := by
  have a4 := numL_le (n := l.length) (by omega)
  have n1 := rnum_ev (l.length : Int) (by omega)
  rw [Int.toNat_natCast] at n1
  refine Ev.congr (fun k => ravelinref12_Row.f.eq_1 ..) (evBind n1 ?_)
  exact rrow_l0 l hl hw _ 0 _ (by omega) rfl (by omega)
theorem rtake_l0 (b : List UInt8) (hz : b.length ≤ 1000000) (n : Int) (hn : n ≤ 8) (d : Nat) : ∀ (i a : Nat) (acc : List S39), (n - i).toNat = d → i ≤ 8 → a ≤ b.length → acc.length ≤ i →
    ∃ r, Ev (fun k => ravelinref12_TakeRow.l0 k (S b) n (a : Int) acc (i : Int)) r ∧ r.1.length ≤ 8 ∧ (∀ ws, (∀ w ∈ ws, isWr w = true) → b.drop a = rowsW ws → n = i + ws.length → r.1 = acc ++ ws ∧ r.2.2 = true) := by
  induction d with
  | zero =>
    intro i a acc hd hi ha hacc
    refine ⟨_, Ev.step (fun k => ravelinref12_TakeRow.l0.eq_2 ..) (evF (by omega) (evSome _)), by simp only; omega, ?_⟩
    intro ws _ _ hn2
    have : ws = [] := List.eq_nil_of_length_eq_zero (by omega)
    subst this
    simp
  | succ d ih =>
    intro i a acc hd hi ha hacc
    have hb := takeText_bounds (b.drop a)
    rw [List.length_drop] at hb
    have t1 := rtakeText_ev (b.drop a) (by rw [List.length_drop]; omega)
    -- what stands there, if it was written
    have hv : ∀ ws, (∀ w ∈ ws, isWr w = true) → b.drop a = rowsW ws → n = i + ws.length → ∃ w t, ws = w :: t ∧ isWr w = true ∧ (∀ x ∈ t, isWr x = true) ∧ takeText (b.drop a) = (wk w, ((textL (wk w)).length : Int), 0) ∧ b.drop (a + (textL (wk w)).length) = valL w.f1 (wv w) ++ rowsW t ∧ n = (i + 1 : Nat) + t.length := by
      intro ws hw hdr hn2
      cases ws with
      | nil => simp at hn2; omega
      | cons w t =>
        have hx := hw w List.mem_cons_self
        obtain ⟨h1, h2, h3, h4⟩ := isWr_iff hx
        have e0 : b.drop a = textL (wk w) ++ (valL w.f1 (wv w) ++ rowsW t) := by rw [hdr]; simp [rowsW, rowW]
        refine ⟨w, t, rfl, hx, fun x hx => hw x (List.mem_cons_of_mem _ hx), by rw [e0, takeText_text (by omega)], ?_, by simp only [List.length_cons] at hn2; omega⟩
        rw [← List.drop_drop, e0, List.drop_left]
    have stop : ∀ (x : ByteArray) (j : Int), Ev (fun k => ravelinref12_TakeRow.j2 k (S b) n (a : Int) acc (i : Int) x j true) ([], 0, false) := fun x j => Ev.step (fun k => ravelinref12_TakeRow.j2.eq_2 ..) (evT rfl (evSome _))
    have E : ∀ {r}, Ev (fun k => if (takeText (b.drop a)).2.2 = 0 then ravelinref12_TakeRow.j2 k (S b) n (a : Int) acc (i : Int) (S (takeText (b.drop a)).1) (takeText (b.drop a)).2.1 ((wrap64 ((a : Int) + (takeText (b.drop a)).2.1)) == ((S b).size : Int)) else ravelinref12_TakeRow.j2 k (S b) n (a : Int) acc (i : Int) (S (takeText (b.drop a)).1) (takeText (b.drop a)).2.1 true) r → Ev (fun k => ravelinref12_TakeRow.l0 k (S b) n (a : Int) acc (i : Int)) r := by
      intro r h
      refine Ev.step (fun k => ravelinref12_TakeRow.l0.eq_2 ..) (evT (by omega) (evT (by omega) (evT (by rw [S_size]; omega) ?_)))
      rw [S_extract, S_size, Int.toNat_natCast, List.take_of_length_le (by rw [List.length_drop]; omega)]
      exact evBind t1 h
    generalize takeText (b.drop a) = x at *
    by_cases hx0 : x.2.2 = 0
    · obtain ⟨j, hj⟩ : ∃ j : Nat, x.2.1 = (j : Int) := ⟨x.2.1.toNat, by omega⟩
      rw [hj] at E hb
      by_cases hend : a + j = b.length
      · refine ⟨([], 0, false), E (evT hx0 ?_), by simp, ?_⟩
        · rw [wadd a j (by omega), S_size, hend, show (((b.length : Nat) : Int) == (b.length : Int)) = true by simp]
          exact stop _ _
        · intro ws h1 h2 h3
          obtain ⟨w, t, _, _, _, h5, h6, _⟩ := hv ws h1 h2 h3
          have := congrArg (fun z : List UInt8 × Int × Int => z.2.1) h5
          simp only [hj] at this
          rw [← show j = (textL (wk w)).length by omega, hend, List.drop_length] at h6
          have h7 := congrArg List.length h6
          rw [List.length_append] at h7
          unfold valL at h7
          split at h7 <;> (simp only [List.length_nil, List.length_cons] at h7; omega)
      · have hlt : a + j < b.length := by omega
        obtain ⟨c, t, hct⟩ : ∃ c t, b.drop (a + j) = c :: t := ⟨b.getD (a + j) 0, b.drop (a + j + 1), by rw [List.drop_eq_getElem_cons hlt]; simp [List.getD_eq_getElem?_getD, List.getElem?_eq_getElem hlt]⟩
        obtain ⟨hbt, _, hdt⟩ := bt_drop hct
        -- what was written goes on
        have hv2 : ∀ ws, (∀ w ∈ ws, isWr w = true) → b.drop a = rowsW ws → n = i + ws.length → ∃ w tl, ws = w :: tl ∧ isWr w = true ∧ (∀ x ∈ tl, isWr x = true) ∧ x.1 = wk w ∧ c :: t = valL w.f1 (wv w) ++ rowsW tl ∧ n = (i + 1 : Nat) + tl.length := by
          intro ws h1 h2 h3
          obtain ⟨w, tl, h4, h5, h6, h7, h8, h9⟩ := hv ws h1 h2 h3
          have h10 := congrArg (fun z : List UInt8 × Int × Int => z.2.1) h7
          simp only [hj] at h10
          rw [← show j = (textL (wk w)).length by omega, hct] at h8
          exact ⟨w, tl, h4, h5, h6, by rw [h7], h8, h9⟩
        have J : ∀ {r}, Ev (fun k => if ((c.toNat : Nat) : Int) = 1 then (if acc.length < 3518437208883 then (ravelinref12_TakeRow.l0 k (S b) n ((a + j + 1 : Nat) : Int) (acc ++ [(⟨S x.1, true, (⟨#[]⟩ : ByteArray)⟩ : S39)]) ((i + 1 : Nat) : Int)) else none) else (ravelinref3_TakeText.f k (S (b.drop (a + j + 1)))).bind fun bt297 => (if bt297.2.2 = 0 then (if acc.length < 3518437208883 then (ravelinref12_TakeRow.l0 k (S b) n (wrap64 (((a + j + 1 : Nat) : Int) + bt297.2.1)) (acc ++ [(⟨S x.1, false, bt297.1⟩ : S39)]) ((i + 1 : Nat) : Int)) else none) else (some (([] : List S39), 0, false)))) r → Ev (fun k => ravelinref12_TakeRow.l0 k (S b) n (a : Int) acc (i : Int)) r := by
          intro r h
          refine E (evT hx0 ?_)
          rw [wadd a j (by omega), S_size, beq_false_of_ne (show ((a + j : Nat) : Int) ≠ (b.length : Int) by omega)]
          refine Ev.step (fun k => ravelinref12_TakeRow.j2.eq_2 ..) (evF (by simp) ?_)
          rw [wadd a j (by omega), S_size, hbt, wsucc (a + j) (by omega), wsucc i (by omega)]
          refine evT (by omega) (evT (by omega) ?_)
          by_cases hc : ((c.toNat : Nat) : Int) = 1
          · refine evT hc ?_
            exact Ev.congr (fun k => by rw [if_pos hc]) h
          · refine evF hc (evT (by omega) (evT (by omega) ?_))
            rw [S_extract, Int.toNat_natCast, List.take_of_length_le (by rw [List.length_drop]; omega)]
            exact Ev.congr (fun k => by rw [if_neg hc]) h
        by_cases hc : c = 1
        · obtain ⟨r, hr, hr1, hr2⟩ := ih (i + 1) (a + j + 1) (acc ++ [(⟨S x.1, true, (⟨#[]⟩ : ByteArray)⟩ : S39)]) (by omega) (by omega) (by omega) (by rw [List.length_append]; simp only [List.length_cons, List.length_nil]; omega)
          refine ⟨r, J (evT (byte_one.2 hc) (evT (by omega) hr)), hr1, ?_⟩
          intro ws h1 h2 h3
          obtain ⟨w, tl, h4, h5, h6, h7, h8, h9⟩ := hv2 ws h1 h2 h3
          cases hw1 : w.f1 with
          | false => rw [hw1, hc] at h8; simp [valL] at h8
          | true =>
            have hw2 := (isWr_iff h5).2.2.2 hw1
            rw [hw1, hc] at h8
            simp only [valL, if_true, List.cons_append, List.nil_append, List.cons.injEq, true_and] at h8
            obtain ⟨h10, h11⟩ := hr2 tl h6 (by rw [hdt, h8]) h9
            refine ⟨?_, h11⟩
            rw [h10, h4, h7]
            have : (⟨S (wk w), true, (⟨#[]⟩ : ByteArray)⟩ : S39) = w := by
              have := mkW_of w
              rw [hw1, hw2] at this
              exact this
            rw [this]
            simp
        · have hc1 : ¬ ((c.toNat : Nat) : Int) = 1 := fun h => hc (byte_one.1 h)
          have hb3 := takeText_bounds (b.drop (a + j + 1))
          rw [List.length_drop] at hb3
          have t3 := rtakeText_ev (b.drop (a + j + 1)) (by rw [List.length_drop]; omega)
          have hv3 : ∀ ws, (∀ w ∈ ws, isWr w = true) → b.drop a = rowsW ws → n = i + ws.length → ∃ w tl, ws = w :: tl ∧ (∀ x ∈ tl, isWr x = true) ∧ mkW x.1 false (wv w) = w ∧ takeText (b.drop (a + j + 1)) = (wv w, ((textL (wv w)).length : Int), 0) ∧ b.drop (a + j + 1 + (textL (wv w)).length) = rowsW tl ∧ n = (i + 1 : Nat) + tl.length := by
            intro ws h1 h2 h3
            obtain ⟨w, tl, h4, h5, h6, h7, h8, h9⟩ := hv2 ws h1 h2 h3
            cases hw1 : w.f1 with
            | true => rw [hw1] at h8; simp [valL] at h8; exact absurd h8.1 hc
            | false =>
              rw [hw1] at h8
              simp only [valL, Bool.false_eq_true, if_false, List.cons_append, List.cons.injEq] at h8
              have hl := (isWr_iff h5).2.2.1
              have h10 := mkW_of w
              rw [hw1] at h10
              refine ⟨w, tl, h4, h6, by rw [h7]; exact h10, by rw [hdt, h8.2, takeText_text (by omega)], ?_, h9⟩
              rw [← List.drop_drop, hdt, h8.2, List.drop_left]
          generalize takeText (b.drop (a + j + 1)) = y at *
          by_cases hy : y.2.2 = 0
          · obtain ⟨m, hm⟩ : ∃ m : Nat, y.2.1 = (m : Int) := ⟨y.2.1.toNat, by omega⟩
            obtain ⟨r, hr, hr1, hr2⟩ := ih (i + 1) (a + j + 1 + m) (acc ++ [(⟨S x.1, false, S y.1⟩ : S39)]) (by omega) (by omega) (by omega) (by rw [List.length_append]; simp only [List.length_cons, List.length_nil]; omega)
            refine ⟨r, J (evF hc1 (evBind t3 (evT hy (evT (by omega) ?_)))), hr1, ?_⟩
            · show Ev (fun k => ravelinref12_TakeRow.l0 k (S b) n (wrap64 (((a + j + 1 : Nat) : Int) + y.2.1)) _ _) r
              rw [hm, wadd (a + j + 1) m (by omega)]
              exact hr
            · intro ws h1 h2 h3
              obtain ⟨w, tl, h4, h6, h7, h8, h9, h10⟩ := hv3 ws h1 h2 h3
              have h11 := congrArg (fun z : List UInt8 × Int × Int => z.2.1) h8
              simp only [hm] at h11
              rw [← show m = (textL (wv w)).length by omega] at h9
              obtain ⟨h12, h13⟩ := hr2 tl h6 h9 h10
              refine ⟨?_, h13⟩
              rw [h12, h4, show y.1 = wv w by rw [h8], show (⟨S x.1, false, S (wv w)⟩ : S39) = w from h7]
              simp
          · refine ⟨([], 0, false), J (evF hc1 (evBind t3 (evF hy (evSome _)))), by simp, ?_⟩
            intro ws h1 h2 h3
            obtain ⟨w, tl, _, _, _, h8, _⟩ := hv3 ws h1 h2 h3
            rw [h8] at hy
            exact absurd rfl hy
    · refine ⟨([], 0, false), E (evF hx0 (stop _ _)), by simp, ?_⟩
      intro ws h1 h2 h3
      obtain ⟨w, t, _, _, _, h5, _⟩ := hv ws h1 h2 h3
      rw [h5] at hx0
      exact absurd rfl hx0
theorem rtake_ev (b : List UInt8) (hz : b.length ≤ 1000000) : ∃ r, Ev (fun k => ravelinref12_TakeRow.f k (S b)) r ∧ r.1.length ≤ 8 ∧ (∀ ws, isB ws = true → b = wordsW ws → r.1 = ws ∧ r.2.2 = true) := by
  have hb := takeNum_bounds b
  have t1 := rtakeNum_ev b (by omega)
  have hv : ∀ ws, isB ws = true → b = wordsW ws → takeNum b = ((ws.length : Int), ((numL ws.length).length : Int), 0) ∧ b.drop (numL ws.length).length = rowsW ws := by
    intro ws h1 h2
    have := isB_len h1
    rw [h2]
    exact ⟨takeNum_num (by omega) _, by rw [wordsW, List.drop_left]⟩
  generalize takeNum b = x at *
  have stop : Ev (fun k => ravelinref12_TakeRow.j0 k (S b) x.1 x.2.1 true) ([], 0, false) := Ev.step (fun k => ravelinref12_TakeRow.j0.eq_2 ..) (evT rfl (evSome _))
  by_cases h : x.2.2 = 0
  · by_cases h8 : x.1 > 8
    · refine ⟨([], 0, false), Ev.congr (fun k => ravelinref12_TakeRow.f.eq_1 ..) (evBind t1 (evT h (by rw [decide_eq_true h8]; exact stop))), by simp, ?_⟩
      intro ws h1 h2
      obtain ⟨h3, _⟩ := hv ws h1 h2
      have := isB_len h1
      rw [h3] at h8
      simp only at h8
      omega
    · obtain ⟨a, ha⟩ : ∃ a : Nat, x.2.1 = (a : Int) := ⟨x.2.1.toNat, by omega⟩
      obtain ⟨r, hr, hr1, hr2⟩ := rtake_l0 b hz x.1 (by omega) _ 0 a [] rfl (by omega) (by omega) (by simp)
      refine ⟨r, Ev.congr (fun k => ravelinref12_TakeRow.f.eq_1 ..) (evBind t1 (evT h ?_)), hr1, ?_⟩
      · rw [decide_eq_false h8, ha]
        exact Ev.step (fun k => ravelinref12_TakeRow.j0.eq_2 ..) (evF (by simp) hr)
      · intro ws h1 h2
        obtain ⟨h3, h4⟩ := hv ws h1 h2
        have h5 := congrArg (fun z : Int × Int × Int => z.2.1) h3
        simp only [ha] at h5
        rw [← show a = (numL ws.length).length by omega] at h4
        have := hr2 ws (isB_all h1) h4 (by rw [h3]; simp)
        simpa using this
  · refine ⟨([], 0, false), Ev.congr (fun k => ravelinref12_TakeRow.f.eq_1 ..) (evBind t1 (evF h stop)), by simp, ?_⟩
    intro ws h1 h2
    obtain ⟨h3, _⟩ := hv ws h1 h2
    rw [h3] at h
    exact absurd rfl h
theorem sealL_inj {a b : List UInt8} (ha : a.length < 9223372036854775808) (hb : b.length < 9223372036854775808) (h : sealL a = sealL b) : a = b := by
  have h1 := openS_seal ha []
  have h2 := openS_seal hb []
  rw [List.append_nil] at h1 h2
  rw [h, h2] at h1
  exact (congrArg (fun z : List UInt8 × Int × Int => z.1) h1).symm
end Go.Proofs.Ytkmbgihfdfgmgaa.Q
