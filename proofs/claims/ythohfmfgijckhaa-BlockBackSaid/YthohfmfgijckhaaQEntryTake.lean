import Derived.Test.YthohfmfgijckhaaQEntryImpl
import Derived.Test.YthohfmfgijckhaaM4
import Derived.Test.YthohfmfgijckhaaM10
namespace Go.Proofs.Ythohfmfgijckhaa.P
end Go.Proofs.Ythohfmfgijckhaa.P
namespace Go.Proofs.Ythohfmfgijckhaa.Q
end Go.Proofs.Ythohfmfgijckhaa.Q
namespace Go.Proofs.Ythohfmfgijckhaa.Q
open Go.RowKit Go.Proofs.Ythohfmfgijckhaa.P Go.Proofs.YthohfmfgijckhaaW.PrintWords Go.Proofs.YthohfmfgijckhaaW.PrintLast Go.Proofs.YthohfmfgijckhaaW.PrintMore
set_option linter.unusedVariables false
set_option linter.unusedSimpArgs false
theorem tText_ev (l : List UInt8) (hz : l.length ≤ 140737488351232) (a : Nat) (h : a ≤ l.length) :
    Ev (fun k => entry_Taker_Text.f k (S l) (a : Int) 0) (S (takeText (l.drop a)).1, S l, (a : Int) + (takeText (l.drop a)).2.1, (takeText (l.drop a)).2.2) := by
  have hb := takeText_bounds (l.drop a)
  rw [List.length_drop] at hb
  refine Ev.congr (fun k => entry_Taker_Text.f.eq_1 ..) (evT rfl (evT (by omega) (evT (by rw [S_size]; omega) ?_)))
  rw [S_extract, S_size, Int.toNat_natCast, List.take_of_length_le (by rw [List.length_drop]; omega)]
  refine evBind (takeText_ev _ (by rw [List.length_drop]; omega)) (evEq (evSome _) ?_)
  simp only [tr]
  rw [w64 (by omega)]
theorem tNum_ev (l : List UInt8) (hz : l.length ≤ 140737488351232) (a : Nat) (h : a ≤ l.length) :
    Ev (fun k => entry_Taker_Num.f k (S l) (a : Int) 0) ((takeNum (l.drop a)).1, S l, (a : Int) + (takeNum (l.drop a)).2.1, (takeNum (l.drop a)).2.2) := by
  have hb := takeNum_bounds (l.drop a)
  rw [List.length_drop] at hb
  refine Ev.congr (fun k => entry_Taker_Num.f.eq_1 ..) (evT rfl (evT (by omega) (evT (by rw [S_size]; omega) ?_)))
  rw [S_extract, S_size, Int.toNat_natCast, List.take_of_length_le (by rw [List.length_drop]; omega)]
  refine evBind (takeNum_ev _ (by rw [List.length_drop]; omega)) (evEq (evSome _) ?_)
  rw [w64 (by omega)]
theorem tText_err (s : ByteArray) (a e : Int) (h : e ≠ 0) : Ev (fun k => entry_Taker_Text.f k s a e) (S [], s, a, e) :=
  Ev.congr (fun k => entry_Taker_Text.f.eq_1 ..) (evF h (evSome _))
theorem tNum_err (s : ByteArray) (a e : Int) (h : e ≠ 0) : Ev (fun k => entry_Taker_Num.f k s a e) (0, s, a, e) :=
  Ev.congr (fun k => entry_Taker_Num.f.eq_1 ..) (evF h (evSome _))
theorem tValue_err (s : ByteArray) (a e : Int) (h : e ≠ 0) : Ev (fun k => entry_Taker_Value.f k s a e) (false, S [], s, a, e) :=
  Ev.congr (fun k => entry_Taker_Value.f.eq_1 ..) (evF h (evSome _))
theorem byte_zero {c : UInt8} : ((c.toNat : Nat) : Int) = 0 ↔ c = 0 := by
  constructor
  · intro h; exact UInt8.toNat_inj.1 (by rw [show (0 : UInt8).toNat = 0 from rfl]; omega)
  · rintro rfl; rfl
theorem byte_one {c : UInt8} : ((c.toNat : Nat) : Int) = 1 ↔ c = 1 := by
  constructor
  · intro h; exact UInt8.toNat_inj.1 (by rw [show (1 : UInt8).toNat = 1 from rfl]; omega)
  · rintro rfl; rfl
theorem bt_drop {l t : List UInt8} {c : UInt8} {a : Nat} (h : l.drop a = c :: t) : bt (S l) (a : Int) = ((c.toNat : Nat) : Int) ∧ a < l.length ∧ l.drop (a + 1) = t := by
  have hl := congrArg List.length h
  rw [List.length_drop, List.length_cons] at hl
  refine ⟨?_, by omega, ?_⟩
  · rw [bt_S, Int.toNat_natCast]
    have h2 := congrArg (fun x => x.getD 0 0) h
    simp only [List.getD_cons_zero, List.getD_eq_getElem?_getD, List.getElem?_drop, Nat.add_zero] at h2
    rw [List.getD_eq_getElem?_getD, h2]; simp
  · rw [← List.drop_drop, h]; rfl
theorem tValue_ev (l : List UInt8) (hz : l.length ≤ 140737488351232) (a : Nat) (h : a ≤ l.length) :
    Ev (fun k => entry_Taker_Value.f k (S l) (a : Int) 0) ((takeVal (l.drop a)).1, S (takeVal (l.drop a)).2.1, S l, (a : Int) + (takeVal (l.drop a)).2.2.1, (takeVal (l.drop a)).2.2.2) := by
  refine Ev.congr (fun k => entry_Taker_Value.f.eq_1 ..) (evT rfl ?_)
  rw [S_size]
  cases hd : l.drop a with
  | nil =>
    have hl := congrArg List.length hd
    rw [List.length_drop, List.length_nil] at hl
    refine evT (by omega) (evEq (evSome _) ?_)
    simp [takeVal, S]
  | cons c t =>
    obtain ⟨h1, h2, h3⟩ := bt_drop hd
    refine evF (by omega) (evT (by omega) (evT (by omega) ?_))
    rw [h1]
    by_cases c0 : c = 0
    · refine evT (byte_zero.2 c0) ?_
      rw [w64 (by omega), show (a : Int) + 1 = ((a + 1 : Nat) : Int) by omega]
      refine evBind (tText_ev l hz (a + 1) (by omega)) (evEq (evSome _) ?_)
      rw [h3]
      simp only [takeVal, if_pos c0, Prod.mk.injEq, true_and, and_true]
      omega
    · refine evF (fun hh => c0 (byte_zero.1 hh)) ?_
      by_cases c1 : c = 1
      · refine evT (byte_one.2 c1) (evEq (evSome _) ?_)
        rw [w64 (by omega)]
        simp [takeVal, c1, S]
      · refine evF (fun hh => c1 (byte_one.1 hh)) (evEq (evSome _) ?_)
        rw [w64 (by omega)]
        simp [takeVal, c0, c1, S]
def tr6 (x : List UInt8 × Int × Bool × List UInt8 × Int × Int) : ByteArray × Int × Bool × ByteArray × Int × Int := (S x.1, x.2.1, x.2.2.1, S x.2.2.2.1, x.2.2.2.2.1, x.2.2.2.2.2)
theorem badE_tr (e : Int) : ((⟨#[]⟩ : ByteArray), (0 : Int), false, (⟨#[]⟩ : ByteArray), (0 : Int), e) = tr6 (badE e) := rfl
theorem fin_ev (k : List UInt8) (s : Int) (d : Bool) (v : List UInt8) (n : Int) :
    Ev (fun _ => (entry_Is.f (S k) s d (S v)).bind fun b => (if b = true then some (S k, s, d, S v, n, (0 : Int)) else some ((⟨#[]⟩ : ByteArray), (0 : Int), false, (⟨#[]⟩ : ByteArray), (0 : Int), (10 : Int)))) (tr6 (finE k s d v n)) := by
  refine evConst (is_ev _ _ _ _) ?_
  simp only [S_data]
  by_cases h : isF k s d v = true
  · refine evT h (evEq (evSome _) ?_)
    rw [finE, if_pos h]; rfl
  · refine evF h (evEq (evSome _) ?_)
    rw [finE, if_neg h]; rfl
theorem rtail_ev (k : List UInt8) (l : List UInt8) (hz : l.length ≤ 140737488351232) : Ev (fun q => ravelinref6_tail.f q (S k) (S l))
    (tr6 (if (takeNum l).2.2 = 0 then tailE k (takeNum l).1 (takeNum l).2.1 (l.drop (takeNum l).2.1.toNat) else badE (takeNum l).2.2)) := by
  have b1 := takeNum_bounds l
  refine Ev.congr (fun q => ravelinref6_tail.f.eq_1 ..) (evBind (rtakeNum_ev l hz) ?_)
  rw [S_size]
  by_cases h1 : (takeNum l).2.2 = 0
  · refine evEq (evT h1 ?_) (by rw [if_pos h1])
    cases hd : l.drop (takeNum l).2.1.toNat with
    | nil =>
      have hl := congrArg List.length hd
      rw [List.length_drop, List.length_nil] at hl
      exact evT (by omega) (evSome _)
    | cons c t =>
      obtain ⟨h2, h3, h4⟩ := bt_drop hd
      have ht := congrArg List.length h4
      rw [List.length_drop] at ht
      rw [Int.toNat_of_nonneg b1.2.2.1] at h2
      refine evF (by omega) (evT (by omega) (evT (by omega) ?_))
      rw [h2]
      refine Ev.step (fun q => ravelinref6_tail.j0.eq_2 ..) ?_
      rw [w64 (n := (takeNum l).2.1 + 1) (by omega), S_size]
      by_cases c0 : c = 0
      · refine evT (byte_zero.2 c0) (evT (by omega) (evT (by omega) ?_))
        rw [S_extract, show ((takeNum l).2.1 + 1).toNat = (takeNum l).2.1.toNat + 1 by omega, h4, List.take_of_length_le (by omega)]
        refine evBind (rtakeText_ev t (by omega)) ?_
        have b2 := takeText_bounds t
        by_cases h5 : (takeText t).2.2 = 0
        · refine evEq (evT h5 (fin_ev k (takeNum l).1 false (takeText t).1 _)) ?_
          simp only [tailE, if_pos c0, if_pos h5]
          congr 1
          rw [show wrap64 (wrap64 ((takeNum l).2.1 + (tr (takeText t)).2.1) + 1) = (takeNum l).2.1 + 1 + (takeText t).2.1 from ?_]
          simp only [tr]
          rw [w64 (n := (takeNum l).2.1 + (takeText t).2.1) (by omega), w64 (by omega)]
          omega
        · refine evEq (evF h5 (evSome _)) ?_
          simp only [tailE, if_pos c0, if_neg h5]
          rfl
      · refine evF (fun hh => c0 (byte_zero.1 hh)) ?_
        by_cases c1 : c = 1
        · refine evEq (evT (byte_one.2 c1) (fin_ev k (takeNum l).1 true [] _)) ?_
          simp only [tailE, if_neg c0, if_pos c1]
        · refine evEq (evF (fun hh => c1 (byte_one.1 hh)) (evSome _)) ?_
          simp only [tailE, if_neg c0, if_neg c1]
          rfl
  · refine evEq (evF h1 (evSome _)) ?_
    rw [if_neg h1]; rfl
theorem finE_shift (k : List UInt8) (s : Int) (d : Bool) (v : List UInt8) (n m : Int) : finE k s d v (m + n) = if (finE k s d v n).2.2.2.2.2 = 0 then (k, s, d, v, m + (finE k s d v n).2.2.2.2.1, 0) else badE (finE k s d v n).2.2.2.2.2 := by
  unfold finE
  cases isF k s d v <;> rfl
theorem tailE_shift (k : List UInt8) (s n m : Int) (l : List UInt8) : tailE k s (m + n) l = if (tailE k s n l).2.2.2.2.2 = 0 then ((tailE k s n l).1, (tailE k s n l).2.1, (tailE k s n l).2.2.1, (tailE k s n l).2.2.2.1, m + (tailE k s n l).2.2.2.2.1, 0) else badE (tailE k s n l).2.2.2.2.2 := by
  rw [tailE_val, tailE_val]
  by_cases h : (takeVal l).2.2.2 = 0
  · rw [if_pos h, if_pos h, Int.add_assoc, finE_shift]
    unfold finE
    cases isF k s (takeVal l).1 (takeVal l).2.1 <;> rfl
  · rw [if_neg h, if_neg h]
    simp [badE, h]
theorem tailE_le (k : List UInt8) (s n : Int) (l : List UInt8) (h : 0 ≤ n) : 0 ≤ (tailE k s n l).2.2.2.2.1 ∧ (tailE k s n l).2.2.2.2.1 ≤ n + l.length := by
  have := takeVal_bounds l
  rw [tailE_val]
  unfold finE badE
  repeat' split
  all_goals (simp <;> omega)
end Go.Proofs.Ythohfmfgijckhaa.Q
