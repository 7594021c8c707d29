import Derived.Test.YtmbedgopceigaaaQTabD
import Derived.Test.YtmbedgopceigaaaM1
import Derived.Test.YtmbedgopceigaaaM2
namespace Go.Proofs.Ytmbedgopceigaaa.Q
open Go.RowKit Go.Lib Go.Proofs Go.Proofs.Ytmbedgopceigaaa.P Go.Proofs.YtmbedgopceigaaaW.PrintWords Go.Proofs.YtmbedgopceigaaaW.PrintLast Go.Proofs.YtmbedgopceigaaaW.PrintMore
set_option linter.unusedVariables false
set_option linter.unusedSimpArgs false
/-! What sheet.formed, sheet.apart tell -/
theorem rdT (l : List S32) (i : Nat) (h : i < l.length) : rd_T32 l (i : Int) = l[i] := by
  unfold rd_T32
  rw [Int.toNat_natCast, List.getD_eq_getElem?_getD, List.getElem?_eq_getElem h]; rfl
theorem wsuccT (i n : Nat) (h : i < n) (hn : n ≤ 1000000) : wrap64 ((i : Int) + 1) = ((i + 1 : Nat) : Int) := by unfold wrap64; omega
def keyB (s : ByteArray) : Bool := !(decide (s.data.toList = [])) && decide ((s.size : Int) ≤ 13)
def isT (t : S32) : Bool := decide (1 ≤ t.f0) && decide (t.f0 ≤ 1000000) && (decide (t.f1 = 0) || decide (t.f1 = 1)) && keyB t.f2 && keyB t.f3 && !(Op.bytesLess t.f3.data.toList t.f2.data.toList) && decide (1 ≤ t.f4)
theorem key_f (s : ByteArray) : sheet_key.f s = some (keyB s) := by
  unfold sheet_key.f keyB
  rw [toL]
  by_cases h : s.data.toList = ([] : List UInt8)
  · rw [if_pos h, decide_eq_true h]; rfl
  · rw [if_neg h, decide_eq_false h]; rfl
theorem is_f (t : S32) : sheet_is.f t.f0 t.f1 t.f2 t.f3 t.f4 = some (isT t) := by
  unfold sheet_is.f isT
  rw [key_f, key_f]
  simp only [Option.bind_some, toL]
  by_cases h0 : 1 ≤ t.f0
  · by_cases h1 : t.f0 ≤ 1000000
    · rw [if_pos h0, if_pos h1, decide_eq_true h0, decide_eq_true h1]
      by_cases h2 : t.f1 = 0
      · rw [if_pos h2, decide_eq_true h2]
        cases keyB t.f2 <;> cases keyB t.f3 <;> cases Op.bytesLess t.f3.data.toList t.f2.data.toList <;> rfl
      · rw [if_neg h2, decide_eq_false h2]
        by_cases h3 : t.f1 = 1
        · rw [if_pos h3, decide_eq_true h3]
          cases keyB t.f2 <;> cases keyB t.f3 <;> cases Op.bytesLess t.f3.data.toList t.f2.data.toList <;> rfl
        · rw [if_neg h3, decide_eq_false h3]; rfl
    · rw [if_pos h0, if_neg h1, decide_eq_false h1]; simp
  · rw [if_neg h0, decide_eq_false h0]; simp
def betB (n : Int) : Bool := decide (0 ≤ n) && decide (n ≤ 1000000)
theorem bet_f (n : Int) : sheet_between.f n = some (betB n) := by
  unfold sheet_between.f betB
  by_cases h : 0 ≤ n
  · rw [if_pos h, decide_eq_true h]; rfl
  · rw [if_neg h, decide_eq_false h]; rfl
/-- Tables that may be, their IDs rising. -/
def ris : Int → List S32 → Bool
  | _, [] => true
  | a, t :: r => isT t && decide (a < t.f0) && ris t.f0 r
def formedB (G : List Int) (C : List S32) (lg sq : Int) : Bool := ris 0 C && (decide (G.length ≤ 40) && decide (C.length ≤ 40) && betB lg && betB sq)
theorem formed_l0 (C : List S32) (hC : C.length ≤ 1000000) (G : List Int) (lg sq : Int) : ∀ (n i : Nat) (a : Int), i + n = C.length →
    Ev (fun k => sheet_formed.l0 k a C (C.length : Int) (i : Int) G C lg sq) (ris a (C.drop i) && (decide (G.length ≤ 40) && decide (C.length ≤ 40) && betB lg && betB sq))
  | 0, i, a, h => by
    refine Ev.step (fun k => sheet_formed.l0.eq_2 ..) (evF (by omega) ?_)
    rw [List.drop_of_length_le (by omega)]
    simp only [ris, Bool.true_and, bet_f, Option.bind_some]
    by_cases h1 : G.length ≤ 40
    · by_cases h2 : C.length ≤ 40
      · refine evT (by omega) (evT (by omega) ?_)
        rw [decide_eq_true h1, decide_eq_true h2]
        cases betB lg <;> cases betB sq <;> exact evSome _
      · refine evT (by omega) (evF (by omega) ?_)
        rw [decide_eq_false h2]; simp only [Bool.and_false, Bool.false_and]; exact evSome _
    · refine evF (by omega) ?_
      rw [decide_eq_false h1]; simp only [Bool.and_false, Bool.false_and]; exact evSome _
  | n + 1, i, a, h => by
    have hi : i < C.length := by omega
    have hd : C.drop i = C[i] :: C.drop (i + 1) := List.drop_eq_getElem_cons hi
    refine Ev.step (fun k => sheet_formed.l0.eq_2 ..) (evT (by omega) (evT (by omega) (evT (by omega) ?_)))
    rw [rdT C i hi, is_f, hd]
    simp only [Option.bind_some, ris]
    cases hq : isT C[i] with
    | false => simp only [Bool.false_and]; exact evF (by decide) (evSome _)
    | true =>
      refine evT rfl ?_
      by_cases h1 : C[i].f0 ≤ a
      · rw [decide_eq_false (show ¬ a < C[i].f0 by omega)]
        simp only [Bool.and_false, Bool.false_and]
        exact evT h1 (evSome _)
      · rw [decide_eq_true (show a < C[i].f0 by omega)]
        simp only [Bool.true_and]
        refine evF h1 ?_
        rw [wsuccT i C.length hi hC]
        exact formed_l0 C hC G lg sq n (i + 1) _ (by omega)
theorem formed_ev (G : List Int) (C : List S32) (lg sq : Int) (hC : C.length ≤ 1000000) : Ev (fun k => sheet_formed.f k G C lg sq) (formedB G C lg sq) :=
  formed_l0 C hC G lg sq C.length 0 0 (by omega)
def meetT (a b : S32) : Bool := !(decide (a.f1 = 0)) && !(decide (b.f1 = 0)) && !(Op.bytesLess b.f3.data.toList a.f2.data.toList) && !(Op.bytesLess a.f3.data.toList b.f2.data.toList)
def apG : List S32 → List S32 → Bool
  | _, [] => true
  | p, t :: r => p.all (fun b => !(meetT t b)) && apG (p ++ [t]) r
def apartB (l : List S32) : Bool := apG [] l
theorem apG_iff : ∀ {p r : List S32}, apG p r = true ↔ r.Pairwise (fun b a => meetT a b = false) ∧ ∀ b ∈ p, ∀ a ∈ r, meetT a b = false
  | p, [] => by simp [apG]
  | p, t :: r => by
    rw [apG, Bool.and_eq_true, apG_iff, List.pairwise_cons, List.all_eq_true]
    simp only [List.mem_append, List.mem_cons, List.not_mem_nil, or_false, Bool.not_eq_true']
    constructor
    · rintro ⟨h1, h2, h3⟩
      refine ⟨⟨fun a ha => h3 t (.inr rfl) a ha, h2⟩, fun b hb a ha => ?_⟩
      rcases ha with rfl | ha
      · exact h1 b hb
      · exact h3 b (.inl hb) a ha
    · rintro ⟨⟨h1, h2⟩, h3⟩
      refine ⟨fun b hb => h3 b hb t (.inl rfl), h2, fun b hb a ha => ?_⟩
      rcases hb with hb | rfl
      · exact h3 b hb a (.inr ha)
      · exact h1 a ha
theorem apart_iff {l : List S32} : apartB l = true ↔ l.Pairwise (fun b a => meetT a b = false) := by
  unfold apartB
  rw [apG_iff]
  simp
theorem apart_l1 (l : List S32) (hl : l.length ≤ 1000000) (i : Nat) (hi : i < l.length) (r : Bool) (hn : Ev (fun k => sheet_apart.l0 k l l (l.length : Int) ((i + 1 : Nat) : Int)) r) : ∀ (n q : Nat), q + n = i →
    Ev (fun k => sheet_apart.l1 k l l (l.length : Int) (i : Int) (l.take i) ((l.take i).length : Int) (q : Int) l[i].f0 l[i].f1 l[i].f2 l[i].f3 l[i].f4) (((l.take i).drop q).all (fun b => !(meetT l[i] b)) && r)
  | 0, q, h => by
    have hlt : (l.take i).length = i := by rw [List.length_take]; omega
    refine Ev.step (fun k => sheet_apart.l1.eq_2 ..) (evF (by omega) ?_)
    rw [List.drop_of_length_le (by omega), List.all_nil, Bool.true_and, wsuccT i l.length hi hl]
    exact hn
  | n + 1, q, h => by
    have hlt : (l.take i).length = i := by rw [List.length_take]; omega
    have hq : q < (l.take i).length := by omega
    have hd : (l.take i).drop q = (l.take i)[q] :: (l.take i).drop (q + 1) := List.drop_eq_getElem_cons hq
    have ih := apart_l1 l hl i hi r hn n (q + 1) (by omega)
    refine Ev.step (fun k => sheet_apart.l1.eq_2 ..) (evT (by omega) (evT (by omega) (evT (by omega) ?_)))
    rw [rdT _ q hq, hd, List.all_cons]
    generalize (l.take i)[q] = b
    have hw : wrap64 ((q : Int) + 1) = ((q + 1 : Nat) : Int) := by unfold wrap64; omega
    by_cases h1 : l[i].f1 = 0
    · refine evT h1 (Ev.step (fun k => sheet_apart.j2.eq_2 ..) (evT rfl ?_))
      rw [hw, show meetT l[i] b = false by unfold meetT; rw [decide_eq_true h1]; rfl]
      exact ih
    · refine evF h1 (Ev.step (fun k => sheet_apart.j2.eq_2 ..) ?_)
      by_cases h2 : b.f1 = 0
      · refine evT (beq_iff_eq.2 h2) ?_
        rw [hw, show meetT l[i] b = false by unfold meetT; rw [decide_eq_true h2]; simp]
        exact ih
      · refine evF (by rw [beq_eq_false_iff_ne.2 h2]; decide) ?_
        rw [toL, toL, toL, toL, hw]
        have hm : meetT l[i] b = (!(Op.bytesLess b.f3.data.toList l[i].f2.data.toList) && !(Op.bytesLess l[i].f3.data.toList b.f2.data.toList)) := by
          unfold meetT; rw [decide_eq_false h1, decide_eq_false h2]; rfl
        rw [hm]
        cases h3 : Op.bytesLess b.f3.data.toList l[i].f2.data.toList with
        | true => exact evT rfl (by simpa using ih)
        | false =>
          refine evF (by decide) ?_
          cases h4 : Op.bytesLess l[i].f3.data.toList b.f2.data.toList with
          | true => exact evT rfl (by simpa using ih)
          | false => exact evF (by decide) (by simpa using evSome false)
theorem apart_l0 (l : List S32) (hl : l.length ≤ 1000000) : ∀ (n i : Nat), i + n = l.length → Ev (fun k => sheet_apart.l0 k l l (l.length : Int) (i : Int)) (apG (l.take i) (l.drop i))
  | 0, i, h => by
    refine Ev.step (fun k => sheet_apart.l0.eq_2 ..) (evF (by omega) ?_)
    rw [List.drop_of_length_le (by omega)]
    exact evSome _
  | n + 1, i, h => by
    have hi : i < l.length := by omega
    have hd : l.drop i = l[i] :: l.drop (i + 1) := List.drop_eq_getElem_cons hi
    refine Ev.step (fun k => sheet_apart.l0.eq_2 ..) (evT (by omega) (evT (by omega) (evT (by omega) (evT (by omega) ?_))))
    rw [rdT l i hi, hd, apG, Int.toNat_natCast]
    simp only [Option.bind_some]
    have h1 := apart_l1 l hl i hi _ (apart_l0 l hl n (i + 1) (by omega)) i 0 (by omega)
    rw [List.drop_zero, List.take_succ_eq_append_getElem hi] at h1
    exact h1
theorem apart_ev (l : List S32) (hl : l.length ≤ 1000000) : Ev (fun k => sheet_apart.f k l) (apartB l) := by
  have h := apart_l0 l hl l.length 0 (by omega)
  rwa [List.take_zero, List.drop_zero] at h
end Go.Proofs.Ytmbedgopceigaaa.Q
