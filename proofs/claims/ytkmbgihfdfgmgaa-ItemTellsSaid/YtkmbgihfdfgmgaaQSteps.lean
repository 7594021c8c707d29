import Derived.Test.YtkmbgihfdfgmgaaQValSpec
import Derived.Test.YtkmbgihfdfgmgaaQCellTakeText
import Derived.Test.YtkmbgihfdfgmgaaQCellText
import Derived.Test.YtkmbgihfdfgmgaaM3
import Derived.Test.YtkmbgihfdfgmgaaM0
import Derived.Test.YtkmbgihfdfgmgaaM1
namespace Go.Proofs.Ytkmbgihfdfgmgaa.P
end Go.Proofs.Ytkmbgihfdfgmgaa.P
namespace Go.Proofs.Ytkmbgihfdfgmgaa.Q
end Go.Proofs.Ytkmbgihfdfgmgaa.Q
namespace Go.Proofs.Ytkmbgihfdfgmgaa.Q
open Go.RowKit Go.Proofs.Ytkmbgihfdfgmgaa.P Go.Proofs.YtkmbgihfdfgmgaaW.PrintWords Go.Proofs.YtkmbgihfdfgmgaaW.PrintLast Go.Proofs.YtkmbgihfdfgmgaaW.PrintMore
set_option linter.unusedVariables false
set_option linter.unusedSimpArgs false
theorem isWrite_ev (a : ByteArray) (d : Bool) (v : ByteArray) : entry_IsWrite.f a d v = some (isW a.data.toList d v.data.toList) := by
  unfold entry_IsWrite.f isW
  rw [size_data, size_data, toL]
  generalize a.data.toList = x
  generalize v.data.toList = y
  by_cases h1 : 1 ≤ x.length
  · rw [if_pos (by omega)]
    by_cases h2 : x.length ≤ 13
    · rw [if_pos (by omega)]
      by_cases h3 : y.length ≤ 24
      · rw [if_pos (by omega)]
        cases d <;> cases y <;> simp_all
      · rw [if_neg (by omega)]; simp [h3]
    · rw [if_neg (by omega)]; simp [h2]
  · rw [if_neg (by omega)]; simp [h1]
theorem value_ev (d : Bool) (v : List UInt8) (h : v.length ≤ 140737488351232) : Ev (fun k => entry_Value.f k d (S v)) (S (valL d v)) := by
  refine Ev.congr (fun k => entry_Value.f.eq_1 ..) ?_
  cases d with
  | true => exact evT rfl (evSome _)
  | false =>
    refine evF (by simp) (evBind (text_ev v h) ?_)
    have h1 := numL_le (n := v.length) (by omega)
    rw [S_size, show (⟨#[0]⟩ : ByteArray) = S [0] from rfl, S_append]
    exact evT (by simp only [textL, List.length_append]; omega) (evSome _)
theorem tText_ev (l : List UInt8) (hz : l.length ≤ 140737488351232) (a : Nat) (h : a ≤ l.length) :
    Ev (fun k => entry_Taker_Text.f k (S l) (a : Int) 0) (S (takeText (l.drop a)).1, S l, (a : Int) + (takeText (l.drop a)).2.1, (takeText (l.drop a)).2.2) := by
  have hb := takeText_bounds (l.drop a)
  rw [List.length_drop] at hb
  refine Ev.congr (fun k => entry_Taker_Text.f.eq_1 ..) (evT rfl (evT (by omega) (evT (by rw [S_size]; omega) ?_)))
  rw [S_extract, S_size, Int.toNat_natCast, List.take_of_length_le (by rw [List.length_drop]; omega)]
  refine evBind (takeText_ev _ (by rw [List.length_drop]; omega)) (evEq (evSome _) ?_)
  simp only [tr]
  rw [w64 (by omega)]
theorem tNum_ev (l : List UInt8) (hz : l.length ≤ 140737488351232) (a : Nat) (h : a ≤ l.length) :
    Ev (fun k => entry_Taker_Num.f k (S l) (a : Int) 0) ((takeNum (l.drop a)).1, S l, (a : Int) + (takeNum (l.drop a)).2.1, (takeNum (l.drop a)).2.2) := by
  have hb := takeNum_bounds (l.drop a)
  rw [List.length_drop] at hb
  refine Ev.congr (fun k => entry_Taker_Num.f.eq_1 ..) (evT rfl (evT (by omega) (evT (by rw [S_size]; omega) ?_)))
  rw [S_extract, S_size, Int.toNat_natCast, List.take_of_length_le (by rw [List.length_drop]; omega)]
  refine evBind (takeNum_ev _ (by rw [List.length_drop]; omega)) (evEq (evSome _) ?_)
  rw [w64 (by omega)]
theorem tText_err (s : ByteArray) (a e : Int) (h : e ≠ 0) : Ev (fun k => entry_Taker_Text.f k s a e) (S [], s, a, e) :=
  Ev.congr (fun k => entry_Taker_Text.f.eq_1 ..) (evF h (evSome _))
theorem tNum_err (s : ByteArray) (a e : Int) (h : e ≠ 0) : Ev (fun k => entry_Taker_Num.f k s a e) (0, s, a, e) :=
  Ev.congr (fun k => entry_Taker_Num.f.eq_1 ..) (evF h (evSome _))
theorem tValue_err (s : ByteArray) (a e : Int) (h : e ≠ 0) : Ev (fun k => entry_Taker_Value.f k s a e) (false, S [], s, a, e) :=
  Ev.congr (fun k => entry_Taker_Value.f.eq_1 ..) (evF h (evSome _))
theorem byte_zero {c : UInt8} : ((c.toNat : Nat) : Int) = 0 ↔ c = 0 := by
  constructor
  · intro h; exact UInt8.toNat_inj.1 (by rw [show (0 : UInt8).toNat = 0 from rfl]; omega)
  · rintro rfl; rfl
theorem byte_one {c : UInt8} : ((c.toNat : Nat) : Int) = 1 ↔ c = 1 := by
  constructor
  · intro h; exact UInt8.toNat_inj.1 (by rw [show (1 : UInt8).toNat = 1 from rfl]; omega)
  · rintro rfl; rfl
theorem bt_drop {l t : List UInt8} {c : UInt8} {a : Nat} (h : l.drop a = c :: t) : bt (S l) (a : Int) = ((c.toNat : Nat) : Int) ∧ a < l.length ∧ l.drop (a + 1) = t := by
  have hl := congrArg List.length h
  rw [List.length_drop, List.length_cons] at hl
  refine ⟨?_, by omega, ?_⟩
  · rw [bt_S, Int.toNat_natCast]
    have h2 := congrArg (fun x => x.getD 0 0) h
    simp only [List.getD_cons_zero, List.getD_eq_getElem?_getD, List.getElem?_drop, Nat.add_zero] at h2
    rw [List.getD_eq_getElem?_getD, h2]; simp
  · rw [← List.drop_drop, h]; rfl
theorem tValue_ev (l : List UInt8) (hz : l.length ≤ 140737488351232) (a : Nat) (h : a ≤ l.length) :
    Ev (fun k => entry_Taker_Value.f k (S l) (a : Int) 0) ((takeVal (l.drop a)).1, S (takeVal (l.drop a)).2.1, S l, (a : Int) + (takeVal (l.drop a)).2.2.1, (takeVal (l.drop a)).2.2.2) := by
  refine Ev.congr (fun k => entry_Taker_Value.f.eq_1 ..) (evT rfl ?_)
  rw [S_size]
  cases hd : l.drop a with
  | nil =>
    have hl := congrArg List.length hd
    rw [List.length_drop, List.length_nil] at hl
    refine evT (by omega) (evEq (evSome _) ?_)
    simp [takeVal, S]
  | cons c t =>
    obtain ⟨h1, h2, h3⟩ := bt_drop hd
    refine evF (by omega) (evT (by omega) (evT (by omega) ?_))
    rw [h1]
    by_cases c0 : c = 0
    · refine evT (byte_zero.2 c0) ?_
      rw [w64 (by omega), show (a : Int) + 1 = ((a + 1 : Nat) : Int) by omega]
      refine evBind (tText_ev l hz (a + 1) (by omega)) (evEq (evSome _) ?_)
      rw [h3]
      simp only [takeVal, if_pos c0, Prod.mk.injEq, true_and, and_true]
      omega
    · refine evF (fun hh => c0 (byte_zero.1 hh)) ?_
      by_cases c1 : c = 1
      · refine evT (byte_one.2 c1) (evEq (evSome _) ?_)
        rw [w64 (by omega)]
        simp [takeVal, c1, S]
      · refine evF (fun hh => c1 (byte_one.1 hh)) (evEq (evSome _) ?_)
        rw [w64 (by omega)]
        simp [takeVal, c0, c1, S]
/-! The taker's steps, behind an error too: what is taken, how far, what is wrong -/
theorem takeText_zero {l : List UInt8} (h : (takeText l).2.2 ≠ 0) : (takeText l).1 = [] := by
  unfold takeText at h ⊢
  by_cases h1 : (takeNum l).2.2 = 0
  · rw [if_pos h1] at h ⊢
    by_cases h2 : (takeNum l).1 > (l.length : Int) - (takeNum l).2.1
    · rw [if_pos h2]
    · rw [if_neg h2] at h
      exact absurd rfl h
  · rw [if_neg h1]
theorem takeText_in (l : List UInt8) : ((takeText l).1.length : Int) ≤ (takeText l).2.1 := by
  by_cases hz : (takeText l).2.2 = 0
  · obtain ⟨_, h2, _⟩ := takeText_inv (l := l) (s := (takeText l).1) (k := (takeText l).2.1) (by rw [← hz])
    rw [textL, List.length_append] at h2
    omega
  · have := takeText_bounds l
    rw [takeText_zero hz, List.length_nil]
    omega
def sN (L : List UInt8) (a : Nat) (e : Int) : Int × Nat × Int := if e = 0 then ((takeNum (L.drop a)).1, a + (takeNum (L.drop a)).2.1.toNat, (takeNum (L.drop a)).2.2) else (0, a, e)
def sT (L : List UInt8) (a : Nat) (e : Int) : List UInt8 × Nat × Int := if e = 0 then ((takeText (L.drop a)).1, a + (takeText (L.drop a)).2.1.toNat, (takeText (L.drop a)).2.2) else ([], a, e)
def sV (L : List UInt8) (a : Nat) (e : Int) : Bool × List UInt8 × Nat × Int := if e = 0 then ((takeVal (L.drop a)).1, (takeVal (L.drop a)).2.1, a + (takeVal (L.drop a)).2.2.1.toNat, (takeVal (L.drop a)).2.2.2) else (false, [], a, e)
theorem sN_ok (L : List UInt8) (a : Nat) : sN L a 0 = ((takeNum (L.drop a)).1, a + (takeNum (L.drop a)).2.1.toNat, (takeNum (L.drop a)).2.2) := rfl
theorem sT_ok (L : List UInt8) (a : Nat) : sT L a 0 = ((takeText (L.drop a)).1, a + (takeText (L.drop a)).2.1.toNat, (takeText (L.drop a)).2.2) := rfl
theorem sV_ok (L : List UInt8) (a : Nat) : sV L a 0 = ((takeVal (L.drop a)).1, (takeVal (L.drop a)).2.1, a + (takeVal (L.drop a)).2.2.1.toNat, (takeVal (L.drop a)).2.2.2) := rfl
theorem sN_err (L : List UInt8) (a : Nat) {e : Int} (h : e ≠ 0) : sN L a e = (0, a, e) := if_neg h
theorem sT_err (L : List UInt8) (a : Nat) {e : Int} (h : e ≠ 0) : sT L a e = ([], a, e) := if_neg h
theorem sV_err (L : List UInt8) (a : Nat) {e : Int} (h : e ≠ 0) : sV L a e = (false, [], a, e) := if_neg h
theorem sN_le (L : List UInt8) (a : Nat) (e : Int) (h : a ≤ L.length) : a ≤ (sN L a e).2.1 ∧ (sN L a e).2.1 ≤ L.length ∧ 0 ≤ (sN L a e).1 ∧ (sN L a e).1 < 9223372036854775808 := by
  have := takeNum_bounds (L.drop a)
  rw [List.length_drop] at this
  unfold sN
  split <;> simp <;> omega
theorem sT_le (L : List UInt8) (a : Nat) (e : Int) (h : a ≤ L.length) : a ≤ (sT L a e).2.1 ∧ (sT L a e).2.1 ≤ L.length ∧ (sT L a e).1.length + a ≤ (sT L a e).2.1 := by
  unfold sT
  split
  · have hb := takeText_bounds (L.drop a)
    rw [List.length_drop] at hb
    by_cases hz : (takeText (L.drop a)).2.2 = 0
    · obtain ⟨_, h2, _⟩ := takeText_inv (l := L.drop a) (s := (takeText (L.drop a)).1) (k := (takeText (L.drop a)).2.1) (by rw [← hz])
      rw [textL, List.length_append] at h2
      simp only
      omega
    · have h3 : (takeText (L.drop a)).1 = [] := takeText_zero hz
      simp only [h3, List.length_nil]
      omega
  · simp; omega
theorem sV_le (L : List UInt8) (a : Nat) (e : Int) (h : a ≤ L.length) : a ≤ (sV L a e).2.2.1 ∧ (sV L a e).2.2.1 ≤ L.length ∧ (sV L a e).2.1.length ≤ L.length := by
  have := takeVal_bounds (L.drop a)
  rw [List.length_drop] at this
  have h2 : (takeVal (L.drop a)).2.1.length ≤ (L.drop a).length := by
    cases hd : L.drop a with
    | nil => simp [takeVal]
    | cons c t =>
      have := takeText_bounds t
      simp only [takeVal, List.length_cons]
      repeat' split
      all_goals (simp <;> omega)
  rw [List.length_drop] at h2
  unfold sV
  split <;> simp <;> omega
theorem sN_ev (L : List UInt8) (hz : L.length ≤ 140737488351232) (a : Nat) (h : a ≤ L.length) (e : Int) :
    Ev (fun k => entry_Taker_Num.f k (S L) (a : Int) e) ((sN L a e).1, S L, ((sN L a e).2.1 : Int), (sN L a e).2.2) := by
  by_cases he : e = 0
  · subst he
    have := takeNum_bounds (L.drop a)
    refine evEq (tNum_ev L hz a h) ?_
    rw [sN_ok]
    simp only [Prod.mk.injEq, true_and, and_true]
    omega
  · rw [sN_err L a he]
    exact tNum_err _ _ _ he
theorem sT_ev (L : List UInt8) (hz : L.length ≤ 140737488351232) (a : Nat) (h : a ≤ L.length) (e : Int) :
    Ev (fun k => entry_Taker_Text.f k (S L) (a : Int) e) (S (sT L a e).1, S L, ((sT L a e).2.1 : Int), (sT L a e).2.2) := by
  by_cases he : e = 0
  · subst he
    have := takeText_bounds (L.drop a)
    refine evEq (tText_ev L hz a h) ?_
    rw [sT_ok]
    simp only [Prod.mk.injEq, true_and, and_true]
    omega
  · rw [sT_err L a he]
    exact tText_err _ _ _ he
theorem sV_ev (L : List UInt8) (hz : L.length ≤ 140737488351232) (a : Nat) (h : a ≤ L.length) (e : Int) :
    Ev (fun k => entry_Taker_Value.f k (S L) (a : Int) e) ((sV L a e).1, S (sV L a e).2.1, S L, ((sV L a e).2.2.1 : Int), (sV L a e).2.2.2) := by
  by_cases he : e = 0
  · subst he
    have := takeVal_bounds (L.drop a)
    refine evEq (tValue_ev L hz a h) ?_
    rw [sV_ok]
    simp only [Prod.mk.injEq, true_and, and_true]
    omega
  · rw [sV_err L a he]
    exact tValue_err _ _ _ he
end Go.Proofs.Ytkmbgihfdfgmgaa.Q
