import Derived.Test.YtmbedgopceigaaaQTabQ
import Derived.Test.YtmbedgopceigaaaQTabRs
import Derived.Test.YtmbedgopceigaaaM7
import Derived.Test.YtmbedgopceigaaaM8
import Derived.Test.YtmbedgopceigaaaM9
namespace Go.Proofs.Ytmbedgopceigaaa.Q
open Go.RowKit Go.Lib Go.Proofs Go.Proofs.Ytmbedgopceigaaa.P Go.Proofs.YtmbedgopceigaaaW.PrintWords Go.Proofs.YtmbedgopceigaaaW.PrintLast Go.Proofs.YtmbedgopceigaaaW.PrintMore
set_option linter.unusedVariables false
set_option linter.unusedSimpArgs false
/-! What the document's sheet tells; that it is what the program's sheet tells -/
theorem keyB_iff (s : ByteArray) : keyB s = (decide (1 ≤ (s.size : Int)) && decide ((s.size : Int) ≤ 13)) := by
  unfold keyB
  congr 1
  have h := size_data s
  by_cases h0 : s.data.toList = []
  · rw [decide_eq_true h0, decide_eq_false (by rw [h, h0]; decide)]; rfl
  · rw [decide_eq_false h0, decide_eq_true]; rfl
    rw [h]
    have := List.length_pos_iff.2 h0
    omega
theorem ris_f (t : S32) : ravelinref9_IsTable.f t.f0 t.f1 t.f2 t.f3 t.f4 = some (isT t) := by
  unfold ravelinref9_IsTable.f isT
  rw [keyB_iff, keyB_iff]
  simp only [toL]
  by_cases h0 : 1 ≤ t.f0
  · by_cases h1 : t.f0 ≤ 1000000
    · by_cases a1 : 1 ≤ (t.f2.size : Int) <;> by_cases a2 : (t.f2.size : Int) ≤ 13 <;> by_cases a3 : 1 ≤ (t.f3.size : Int) <;> by_cases a4 : (t.f3.size : Int) ≤ 13 <;> by_cases h2 : t.f1 = 0 <;> by_cases h3 : t.f1 = 1 <;> cases hb : Op.bytesLess t.f3.data.toList t.f2.data.toList <;> simp [h0, h1, h2, h3, a1, a2, a3, a4, hb]
    · simp [h0, h1]
  · simp [h0]
theorem redit_l0 (G : List Int) (C : List S32) (lg sq : Int) (hC : C.length ≤ 1000000) : ∀ (n i : Nat) (a : Int) (hin : i + n = C.length), (∀ h : 0 < i, a = (C[i-1]'(by omega)).f0) → (i = 0 → a = 0) →
    Ev (fun k => ravelinref9_IsEdit.l0 k (i : Int) G C lg sq) (ris a (C.drop i) && (betB lg && betB sq))
  | 0, i, a, h, _, _ => by
    refine Ev.step (fun k => ravelinref9_IsEdit.l0.eq_2 ..) (evF (by omega) ?_)
    rw [List.drop_of_length_le (by omega), ris, Bool.true_and]
    unfold betB
    by_cases h1 : 0 ≤ lg
    · refine evT h1 ?_
      by_cases h2 : lg ≤ 1000000
      · refine evT h2 ?_
        by_cases h3 : 0 ≤ sq
        · refine evT h3 (evEq (evSome _) (by simp [h1, h2, h3]))
        · exact evF h3 (evEq (evSome _) (by simp [h3]))
      · exact evF h2 (evEq (evSome _) (by simp [h2]))
    · exact evF h1 (evEq (evSome _) (by simp [h1]))
  | n + 1, i, a, h, ha, ha0 => by
    have hi : i < C.length := by omega
    have hd : C.drop i = C[i] :: C.drop (i + 1) := List.drop_eq_getElem_cons hi
    refine Ev.step (fun k => ravelinref9_IsEdit.l0.eq_2 ..) (evT (by omega) (evT (by omega) ?_))
    rw [rdT C i hi, ris_f, hd]
    simp only [Option.bind_some, ris]
    have ih := redit_l0 G C lg sq hC n (i + 1) C[i].f0 (by omega) (fun _ => rfl) (fun h => by omega)
    have hw := wsuccT i C.length hi hC
    rw [← hw] at ih
    cases hq : isT C[i] with
    | false => simp only [Bool.false_and]; exact evF (by decide) (evSome _)
    | true =>
      refine evT rfl ?_
      have h1 := (isT_iff.1 hq).1.1
      by_cases hi0 : i = 0
      · rw [decide_eq_true (show a < C[i].f0 by rw [ha0 hi0]; omega)]
        simp only [Bool.true_and]
        exact evF (by omega) ih
      · have hw2 : wrap64 ((i : Int) - 1) = ((i - 1 : Nat) : Int) := by unfold wrap64; omega
        refine evT (by omega) ?_
        rw [hw2]
        refine evT (by omega) (evT (by omega) ?_)
        rw [rdT C (i - 1) (by omega), ← ha (by omega)]
        by_cases h2 : C[i].f0 ≤ a
        · rw [decide_eq_false (show ¬ a < C[i].f0 by omega)]
          simp only [Bool.and_false, Bool.false_and]
          exact evT h2 (evSome _)
        · rw [decide_eq_true (show a < C[i].f0 by omega)]
          simp only [Bool.true_and]
          exact evF h2 ih
theorem redit_ev (G : List Int) (C : List S32) (lg sq : Int) (hC : C.length ≤ 1000000) : Ev (fun k => ravelinref9_IsEdit.f k G C lg sq) (formedB G C lg sq) := by
  unfold ravelinref9_IsEdit.f formedB
  have h0 := redit_l0 G C lg sq hC C.length 0 0 (by omega) (fun h => by omega) (fun _ => rfl)
  rw [List.drop_zero] at h0
  by_cases h1 : G.length ≤ 40
  · refine evF (by omega) (Ev.step (fun k => ravelinref9_IsEdit.j0.eq_2 ..) ?_)
    by_cases h2 : C.length ≤ 40
    · rw [decide_eq_false (show ¬ (C.length : Int) > 40 by omega)]
      refine evF (by decide) (evEq h0 ?_)
      rw [decide_eq_true h1, decide_eq_true h2]; simp
    · rw [decide_eq_true (show (C.length : Int) > 40 by omega)]
      refine evT rfl (evEq (evSome _) ?_)
      rw [decide_eq_false h2]; simp
  · refine evT (by omega) (Ev.step (fun k => ravelinref9_IsEdit.j0.eq_2 ..) (evT rfl (evEq (evSome _) ?_)))
    rw [decide_eq_false h1]; simp
theorem rdG (G : List Int) (i : Nat) (h : i < G.length) : rd G (i : Int) = G[i] := by simp [rd, List.getD_eq_getElem?_getD, h]
theorem gone_l0 (G : List Int) (x : Int) (hl : G.length ≤ 1000000) : ∀ (n i : Nat), i + n = G.length → Ev (fun k => ravelinref9_gone.l0 k G x (i : Int)) ((G.drop i).any (fun y => x == y))
  | 0, i, h => by
    refine Ev.step (fun k => ravelinref9_gone.l0.eq_2 ..) (evF (by omega) ?_)
    rw [List.drop_of_length_le (by omega)]
    exact evSome _
  | n + 1, i, h => by
    have hi : i < G.length := by omega
    refine Ev.step (fun k => ravelinref9_gone.l0.eq_2 ..) (evT (by omega) (evT (by omega) ?_))
    rw [rdG G i hi, List.drop_eq_getElem_cons hi, List.any_cons, wsuccT i G.length hi hl]
    by_cases h1 : G[i] = x
    · refine evT h1 (evEq (evSome _) ?_)
      rw [h1]; simp
    · refine evF h1 (evEq (gone_l0 G x hl n (i + 1) (by omega)) ?_)
      rw [beq_eq_false_iff_ne.2 (fun h => h1 h.symm), Bool.false_or]
theorem gone_ev (G : List Int) (x : Int) (hl : G.length ≤ 1000000) : Ev (fun k => ravelinref9_gone.f k G x) (G.any (fun y => x == y)) := by
  have h := gone_l0 G x hl G.length 0 (by omega)
  rwa [List.drop_zero] at h
/-- Put in ahead of the first that is later. -/
def putL : List S32 → S32 → List S32
  | [], t => [t]
  | x :: r, t => if ltT t x = true then t :: x :: r else x :: putL r t
theorem bef_f (a b : S32) : ravelinref9_before.f a.f0 a.f1 a.f2 a.f3 a.f4 b.f0 b.f1 b.f2 b.f3 b.f4 = some (ltT a b) := by
  unfold ravelinref9_before.f ltT
  by_cases h : a.f1 = b.f1
  · rw [if_pos h, if_pos h]
    by_cases h0 : a.f1 = 0
    · rw [if_pos h0, if_pos h0]
    · rw [if_neg h0, if_neg h0, toL, toL]
  · rw [if_neg h, if_neg h]
theorem put_done (l : List S32) (t : S32) (hl : l.length ≤ 1000000) : ∀ (n i : Nat) (p : List S32), i + n = l.length → p.length ≤ i + 1 → Ev (fun k => ravelinref9_put.l0 k l p true (i : Int) t.f0 t.f1 t.f2 t.f3 t.f4) (p ++ l.drop i)
  | 0, i, p, h, hp => by
    refine Ev.step (fun k => ravelinref9_put.l0.eq_2 ..) (evF (by omega) (evT rfl ?_))
    rw [List.drop_of_length_le (by omega), List.append_nil]
    exact evSome _
  | n + 1, i, p, h, hp => by
    have hi : i < l.length := by omega
    refine Ev.step (fun k => ravelinref9_put.l0.eq_2 ..) (evT (by omega) (evT rfl (evT (by omega) (evT (by omega) ?_))))
    rw [rdT l i hi, wsuccT i l.length hi hl, List.drop_eq_getElem_cons hi]
    have ih := put_done l t hl n (i + 1) (p ++ [l[i]]) (by omega) (by simp; omega)
    exact evEq ih (by simp)
theorem put_l0 (l : List S32) (t : S32) (hl : l.length ≤ 1000000) : ∀ (n i : Nat) (p : List S32), i + n = l.length → p.length = i → Ev (fun k => ravelinref9_put.l0 k l p false (i : Int) t.f0 t.f1 t.f2 t.f3 t.f4) (p ++ putL (l.drop i) t)
  | 0, i, p, h, hp => by
    refine Ev.step (fun k => ravelinref9_put.l0.eq_2 ..) (evF (by omega) (evF (by decide) (evT (by omega) ?_)))
    rw [List.drop_of_length_le (by omega), putL]
    exact evSome _
  | n + 1, i, p, h, hp => by
    have hi : i < l.length := by omega
    refine Ev.step (fun k => ravelinref9_put.l0.eq_2 ..) (evT (by omega) (evF (by decide) (evT (by omega) ?_)))
    rw [rdT l i hi, bef_f, wsuccT i l.length hi hl, List.drop_eq_getElem_cons hi, putL]
    simp only [Option.bind_some]
    cases hb : ltT t l[i] with
    | true =>
      refine evT rfl (evT (by omega) (evT (by simp; omega) ?_))
      have ih := put_done l t hl n (i + 1) ((p ++ [t]) ++ [l[i]]) (by omega) (by simp; omega)
      exact evEq ih (by simp)
    | false =>
      refine evF (by decide) (evT (by omega) ?_)
      have ih := put_l0 l t hl n (i + 1) (p ++ [l[i]]) (by omega) (by simp; omega)
      exact evEq ih (by simp)
theorem put_ev (l : List S32) (t : S32) (hl : l.length ≤ 1000000) : Ev (fun k => ravelinref9_put.f k l t.f0 t.f1 t.f2 t.f3 t.f4) (putL l t) := by
  have h := put_l0 l t hl l.length 0 [] (by omega) rfl
  rwa [List.drop_zero, List.nil_append] at h
theorem putL_perm : ∀ (l : List S32) (t : S32), (putL l t).Perm (l ++ [t])
  | [], t => List.Perm.refl _
  | x :: r, t => by
    unfold putL
    split
    · exact (List.perm_append_singleton t (x :: r)).symm
    · exact (putL_perm r t).cons x
theorem putL_length (l : List S32) (t : S32) : (putL l t).length = l.length + 1 := by rw [(putL_perm l t).length_eq]; simp
theorem putL_sorted : ∀ {l : List S32} (t : S32), l.Pairwise (fun a b => ltT b a = false) → (putL l t).Pairwise (fun a b => ltT b a = false)
  | [], t, _ => by unfold putL; exact List.pairwise_singleton _ _
  | x :: r, t, h => by
    have hc := List.pairwise_cons.1 h
    unfold putL
    split
    · rename_i hb
      refine List.pairwise_cons.2 ⟨fun y hy => ?_, h⟩
      rcases List.mem_cons.1 hy with rfl | hy
      · exact ltT_asymm hb
      · cases hb2 : ltT y t with
        | false => rfl
        | true => have := ltT_trans hb2 hb; rw [hc.1 y hy] at this; cases this
    · rename_i hb
      refine List.pairwise_cons.2 ⟨fun y hy => ?_, putL_sorted t hc.2⟩
      rcases List.mem_append.1 ((putL_perm r t).mem_iff.1 hy) with hy | hy
      · exact hc.1 y hy
      · rw [List.mem_singleton.1 hy]; simpa using hb
/-- The document's test whether two tables of tier 1 meet. -/
def rmeet (c z : S32) : Bool := decide (z.f1 = 1) && decide (c.f1 = 1) && !(Op.bytesLess c.f3.data.toList z.f2.data.toList) && !(Op.bytesLess z.f3.data.toList c.f2.data.toList)
theorem rmeet_is {c z : S32} (hc : isT c = true) (hz : isT z = true) : rmeet c z = meetT c z := by
  have h1 := (isT_iff.1 hc).2.1
  have h2 := (isT_iff.1 hz).2.1
  unfold rmeet meetT
  rcases h1 with h1 | h1 <;> rcases h2 with h2 | h2 <;> rw [h1, h2] <;> cases Op.bytesLess c.f3.data.toList z.f2.data.toList <;> cases Op.bytesLess z.f3.data.toList c.f2.data.toList <;> rfl
/-- Each table that comes: does it meet one that is there; if none, put in. -/
def goR : List S32 → List S32 → Option (List S32)
  | l, [] => some l
  | l, c :: r => if l.any (fun z => rmeet c z) = true then none else goR (putL l c) r
theorem meet_sym (a b : S32) : meetT a b = meetT b a := by
  unfold meetT
  cases decide (a.f1 = 0) <;> cases decide (b.f1 = 0) <;> cases Op.bytesLess a.f3.data.toList b.f2.data.toList <;> cases Op.bytesLess b.f3.data.toList a.f2.data.toList <;> rfl
theorem goR_eq : ∀ (C l : List S32), (∀ t ∈ l ++ C, isT t = true) → (l ++ C).Pairwise (fun a b => a.f0 ≠ b.f0) → l.Pairwise (fun b a => meetT a b = false) → l.Pairwise (fun a b => ltT b a = false) →
    goR l C = if apartB (l ++ C) = true then some (srt (l ++ C)) else none
  | [], l, hi, hd, ha, hs => by
    rw [goR, List.append_nil] at *
    rw [if_pos (apart_iff.2 ha)]
    congr 1
    exact srt_uniq (tot_of hi hd ha) (List.Perm.refl _) hs
  | c :: r, l, hi, hd, ha, hs => by
    rw [goR]
    have hic : isT c = true := hi c (by simp)
    have hil : ∀ z ∈ l, isT z = true := fun z hz => hi z (by simp [hz])
    have hany : l.any (fun z => rmeet c z) = l.any (fun z => meetT c z) := by
      rw [Bool.eq_iff_iff, List.any_eq_true, List.any_eq_true]
      exact ⟨fun ⟨z, hz, h⟩ => ⟨z, hz, by rw [← rmeet_is hic (hil z hz)]; exact h⟩, fun ⟨z, hz, h⟩ => ⟨z, hz, by rw [rmeet_is hic (hil z hz)]; exact h⟩⟩
    have hpp : (putL l c ++ r).Perm (l ++ c :: r) := by
      have := (putL_perm l c).append_right r
      rwa [List.append_assoc, List.singleton_append] at this
    by_cases hb : l.any (fun z => rmeet c z) = true
    · rw [if_pos hb, if_neg]
      intro hap
      have h := apart_iff.1 hap
      rw [hany, List.any_eq_true] at hb
      obtain ⟨z, hz, hm⟩ := hb
      have := (List.pairwise_append.1 h).2.2 z hz c (by simp)
      rw [hm] at this; cases this
    · rw [if_neg hb]
      have hb2 : ∀ z ∈ l, meetT c z = false := by
        intro z hz
        rw [hany, List.any_eq_true] at hb
        cases hm : meetT c z with
        | false => rfl
        | true => exact absurd ⟨z, hz, hm⟩ hb
      have ha2 : (putL l c).Pairwise (fun b a => meetT a b = false) := by
        refine (putL_perm l c).symm.pairwise (List.pairwise_append.2 ⟨ha, List.pairwise_singleton _ _, fun z hz y hy => ?_⟩) (fun {a b} h => by rw [meet_sym]; exact h)
        rw [List.mem_singleton.1 hy]; exact hb2 z hz
      have ih := goR_eq r (putL l c) (fun t ht => hi t (hpp.mem_iff.1 ht)) (hpp.symm.pairwise hd (fun h => h.symm)) ha2 (putL_sorted c hs)
      rw [ih]
      have e : apartB (putL l c ++ r) = apartB (l ++ c :: r) := by
        rw [Bool.eq_iff_iff, apart_iff, apart_iff]
        exact ⟨fun h => hpp.pairwise h (fun {a b} h => by rw [meet_sym]; exact h), fun h => hpp.symm.pairwise h (fun {a b} h => by rw [meet_sym]; exact h)⟩
      rw [e]
      by_cases hap : apartB (l ++ c :: r) = true
      · rw [if_pos hap, if_pos hap]
        congr 1
        refine srt_uniq (tot_of hi hd (apart_iff.1 hap)) ((srt_perm _).trans hpp) (srt_sorted _)
      · rw [if_neg hap, if_neg hap]
end Go.Proofs.Ytmbedgopceigaaa.Q
