import Derived.Test.YtjcpdbekdimceaaQMergeEntry
import Derived.Test.YtjcpdbekdimceaaQMergeSpec
import Derived.Test.YtjcpdbekdimceaaM2
import Derived.Test.YtjcpdbekdimceaaM0
import Derived.Test.YtjcpdbekdimceaaM1
namespace Go.Proofs.Ytjcpdbekdimceaa.P
end Go.Proofs.Ytjcpdbekdimceaa.P
namespace Go.Proofs.Ytjcpdbekdimceaa.Q
end Go.Proofs.Ytjcpdbekdimceaa.Q
namespace Go.Proofs.Ytjcpdbekdimceaa.Q
open Go.RowKit Go.Proofs.Ytjcpdbekdimceaa.P Go.Proofs.YtjcpdbekdimceaaW.PrintWords Go.Proofs.YtjcpdbekdimceaaW.PrintLast Go.Proofs.YtjcpdbekdimceaaW.PrintMore
set_option linter.unusedVariables false
set_option linter.unusedSimpArgs false

/-! merge.Rows -/
theorem compare_ev (a : ByteArray) (s : Int) (d : Bool) (v : ByteArray) (b : ByteArray) (t : Int) (d' : Bool) (v' : ByteArray) : ∃ c, Ev (fun k => entry_Compare.f k a s d v b t d' v') c ∧ (c = 0 ↔ a.data.toList = b.data.toList ∧ s = t) := by
  refine ⟨if Go.Lib.compareBytes a.data.toList b.data.toList = 0 then (if t < s then -1 else if t > s then 1 else 0) else Go.Lib.compareBytes a.data.toList b.data.toList, ?_, ?_⟩
  · refine Ev.congr (fun k => entry_Compare.f.eq_1 ..) ?_
    refine evConst (show strings_Compare.f a b = some (Go.Lib.compareBytes a.data.toList b.data.toList) from rfl) ?_
    refine evConst (show cmp_Compare_int.f t s = some (if t < s then -1 else if t > s then 1 else 0) from ?_) ?_
    · unfold cmp_Compare_int.f cmp_isNaN_int.f
      simp only [bne_self_eq_false, Option.bind_some, Bool.false_eq_true, if_false]
      split
      · rfl
      · split <;> rfl
    · exact evBind (or_ev _ _) (evSome _)
  · rw [cmp_tells]
    generalize a.data.toList = x
    generalize b.data.toList = y
    cases h1 : Op.bytesLess x y with
    | true =>
      have hne : x ≠ y := by rintro rfl; rw [lt_irrefl] at h1; cases h1
      simp [hne]
    | false =>
      by_cases h2 : x = y
      · simp only [h2, Bool.false_eq_true, if_false, if_true, true_and]
        by_cases h3 : t < s
        · rw [if_pos h3]; exact ⟨fun h => by omega, fun h => by omega⟩
        · rw [if_neg h3]
          by_cases h4 : t > s
          · rw [if_pos h4]; exact ⟨fun h => by omega, fun h => by omega⟩
          · rw [if_neg h4]; exact ⟨fun h => by omega, fun h => by omega⟩
      · simp [h2]
theorem less_evE (a b : S39) : Ev (fun k => entry_Less.f k a.f0 a.f1 a.f2 a.f3 b.f0 b.f1 b.f2 b.f3) (lessE a b) := less_ev _ _ _ _ _ _ _ _
/-! Order -/
def leE (x y : S39) : Prop := lessE x y = true ∨ (ky x = ky y ∧ x.f1 = y.f1)
theorem lt_le {x y z : S39} (h1 : lessE x y = true) (h2 : leE y z) : lessE x z = true := by
  rcases h2 with h2 | h2
  · exact lessF_trans h1 h2
  · unfold lessE at *
    rw [← h2.1, ← h2.2]; exact h1
theorem le_lt {x y z : S39} (h1 : leE x y) (h2 : lessE y z = true) : lessE x z = true := by
  rcases h1 with h1 | h1
  · exact lessF_trans h1 h2
  · unfold lessE at *
    rw [h1.1, h1.2]; exact h2
theorem le_trans {x y z : S39} (h1 : leE x y) (h2 : leE y z) : leE x z := by
  rcases h1 with h1 | h1
  · exact .inl (lt_le h1 h2)
  · rcases h2 with h2 | h2
    · exact .inl (le_lt (.inr h1) h2)
    · exact .inr ⟨h1.1.trans h2.1, h1.2.trans h2.2⟩
theorem le_of_not {x y : S39} (h : lessE x y = false) : leE y x := by
  rcases lessF_tri (ky x) (ky y) x.f1 y.f1 with h1 | h1 | h1
  · have h2 : lessE x y = true := h1
    rw [h] at h2; cases h2
  · exact .inr ⟨h1.1.symm, h1.2.symm⟩
  · exact .inl h1
theorem lt_not_le {x y : S39} (h : lessE x y = true) (h2 : leE y x) : False := by
  have h3 := lt_le h h2
  unfold lessE at h3
  rw [lessF_irrefl] at h3; cases h3
theorem head_le {x : S39} {u : List S39} (h : (x :: u).Pairwise (fun a b => lessE a b = true)) {y : S39} (hy : y ∈ x :: u) : leE x y := by
  rcases List.mem_cons.1 hy with rfl | hy
  · exact .inr ⟨rfl, rfl⟩
  · exact .inl ((List.pairwise_cons.1 h).1 y hy)
theorem set_mid {α : Type} (A B : List α) (x y : α) : (A ++ x :: B).set A.length y = A ++ y :: B := by
  induction A with
  | nil => rfl
  | cons a A ih => simp only [List.cons_append, List.length_cons, List.set_cons_succ, ih]
theorem getD_mid {α : Type} (A B : List α) (x d : α) : (A ++ x :: B).getD A.length d = x := by
  induction A with
  | nil => rfl
  | cons a A ih => simp
theorem rdL {L : List (List S39)} (i : Nat) : rd_L4 L (i : Int) = L.getD i [] := by unfold rd_L4; rw [Int.toNat_natCast]
theorem rdE {l : List S39} (i : Nat) : rd_T39 l (i : Int) = l.getD i z39 := by unfold rd_T39; rw [Int.toNat_natCast]
/-! Which row leads -/
def bestInv (left : List (List S39)) (i : Nat) (b : Int) : Prop :=
  (b = -1 ∧ ∀ j, j < i → left.getD j [] = []) ∨ (∃ n : Nat, b = (n : Int) ∧ n < i ∧ ∃ e t, left.getD n [] = e :: t ∧ ∀ j, j < i → ∀ x u, left.getD j [] = x :: u → (j < n → lessE e x = true) ∧ (n < j → lessE x e = false))
theorem rows_l2 (left : List (List S39)) (out : List S39) (hl : left.length ≤ 1000) (R : List S39 × Int) (hend : ∀ b, bestInv left left.length b → Ev (fun k => merge_Rows.l2 k left out b left (left.length : Int) (left.length : Int)) R) (n : Nat) :
    ∀ (i : Nat) (b : Int), left.length - i = n → i ≤ left.length → bestInv left i b → Ev (fun k => merge_Rows.l2 k left out b left (left.length : Int) (i : Int)) R := by
  induction n with
  | zero =>
    intro i b h1 h2 hb
    obtain rfl : i = left.length := by omega
    exact hend b hb
  | succ n ih =>
    intro i b h1 h2 hb
    refine Ev.step (fun k => merge_Rows.l2.eq_2 ..) (evT (by omega) (evT (by omega) (evT (by omega) ?_)))
    rw [w64 (by omega), show (i : Int) + 1 = ((i + 1 : Nat) : Int) by omega, rdL]
    cases hrow : left.getD i [] with
    | nil =>
      refine evT rfl (ih (i + 1) b (by omega) (by omega) ?_)
      rcases hb with ⟨rfl, hb⟩ | ⟨m, rfl, hm, e, t, he, hb⟩
      · refine .inl ⟨rfl, fun j hj => ?_⟩
        rcases Nat.lt_or_ge j i with h | h
        · exact hb j h
        · obtain rfl : j = i := by omega
          exact hrow
      · refine .inr ⟨m, rfl, by omega, e, t, he, fun j hj x u hx => ?_⟩
        rcases Nat.lt_or_ge j i with h | h
        · exact hb j h x u hx
        · obtain rfl : j = i := by omega
          rw [hrow] at hx; cases hx
    | cons x u =>
      refine evF (by simp only [List.length_cons]; omega) ?_
      rcases hb with ⟨rfl, hb⟩ | ⟨m, rfl, hm, e, t, he, hb⟩
      · refine evT (by omega) (ih (i + 1) _ (by omega) (by omega) ?_)
        refine .inr ⟨i, rfl, by omega, x, u, hrow, fun j hj y v hy => ⟨fun h => ?_, fun h => by omega⟩⟩
        rw [hb j h] at hy; cases hy
      · refine evF (by omega) (evT (by simp only [List.length_cons]; omega) (evT (by omega) (evT (by omega) ?_)))
        rw [rdL, he]
        refine evT (by simp only [List.length_cons]; omega) (evBind (less_evE (rd_T39 (x :: u) 0) (rd_T39 (e :: t) 0)) ?_)
        have e1 : rd_T39 (x :: u) 0 = x := rfl
        have e2 : rd_T39 (e :: t) 0 = e := rfl
        rw [e1, e2]
        cases hlt : lessE x e with
        | true =>
          refine evT rfl (ih (i + 1) _ (by omega) (by omega) ?_)
          refine .inr ⟨i, rfl, by omega, x, u, hrow, fun j hj y v hy => ⟨fun h => ?_, fun h => by omega⟩⟩
          rcases Nat.lt_trichotomy j m with h3 | h3 | h3
          · exact lessF_trans hlt ((hb j h y v hy).1 h3)
          · subst h3
            rw [he] at hy
            obtain rfl := (List.cons.inj hy).1
            exact hlt
          · exact lt_le hlt (le_of_not ((hb j h y v hy).2 h3))
        | false =>
          refine evF (by simp) (ih (i + 1) _ (by omega) (by omega) ?_)
          refine .inr ⟨m, rfl, by omega, e, t, he, fun j hj y v hy => ?_⟩
          rcases Nat.lt_or_ge j i with h | h
          · exact hb j h y v hy
          · obtain rfl : j = i := by omega
            rw [hrow] at hy
            obtain rfl := (List.cons.inj hy).1
            exact ⟨fun h => by omega, fun _ => hlt⟩
theorem rows_l1 (T : List S39) (hT : T.Pairwise (fun a b => lessE a b = true)) (m : Nat) : ∀ (left : List (List S39)) (out : List S39), left.flatten.length = m → left.length ≤ 1000 → out.length + m ≤ 1000000 →
    out.Pairwise (fun a b => lessE a b = true) → (∀ r ∈ left, r.Pairwise (fun a b => lessE a b = true)) → (∀ x ∈ out, ∀ y ∈ left.flatten, leE x y) → (∀ k s, lookE T k s = lookE (out ++ left.flatten) k s) →
    Ev (fun k => merge_Rows.l1 k left out) (T, 0) := by
  induction m with
  | zero =>
    intro left out hm hl ho hpo hpr hle hlook
    have hf : left.flatten = [] := List.eq_nil_of_length_eq_zero hm
    refine Ev.step (fun k => merge_Rows.l1.eq_2 ..) (rows_l2 left out hl _ (fun b hb => ?_) _ 0 (-1) rfl (Nat.zero_le _) (.inl ⟨rfl, fun j hj => by omega⟩))
    refine Ev.step (fun k => merge_Rows.l2.eq_2 ..) (evF (by omega) ?_)
    rcases hb with ⟨rfl, hb⟩ | ⟨n, rfl, hn, e, t, he, hb⟩
    · refine evT (by omega) (evEq (evSome _) ?_)
      rw [sorted_uniq hT hpo (fun k s => by rw [hlook, hf, List.append_nil])]
    · have h1 : left.getD n [] ∈ left := by
        rw [List.getD_eq_getElem?_getD, List.getElem?_eq_getElem hn]; exact List.getElem_mem hn
      have h2 : e ∈ left.flatten := List.mem_flatten.2 ⟨_, h1, by rw [he]; exact List.mem_cons_self⟩
      rw [hf] at h2; cases h2
  | succ m ih =>
    intro left out hm hl ho hpo hpr hle hlook
    refine Ev.step (fun k => merge_Rows.l1.eq_2 ..) (rows_l2 left out hl _ (fun b hb => ?_) _ 0 (-1) rfl (Nat.zero_le _) (.inl ⟨rfl, fun j hj => by omega⟩))
    refine Ev.step (fun k => merge_Rows.l2.eq_2 ..) (evF (by omega) ?_)
    rcases hb with ⟨rfl, hb⟩ | ⟨n, rfl, hn, e, t, he, hb⟩
    · refine evT (by omega) (evEq (evSome _) ?_)
      have hf : left.flatten = [] := by
        rw [List.flatten_eq_nil_iff]
        intro r hr
        obtain ⟨j, hj, rfl⟩ := List.mem_iff_getElem.1 hr
        have := hb j hj
        rw [List.getD_eq_getElem?_getD, List.getElem?_eq_getElem hj] at this
        exact this
      rw [hf] at hm; cases hm
    · have hsplit : left = left.take n ++ (e :: t) :: left.drop (n + 1) := by
        conv => lhs; rw [← List.take_append_drop n left]
        rw [drop_cons left [] n hn, he]
      obtain ⟨A, B, hA, hAl⟩ : ∃ A B, left = A ++ (e :: t) :: B ∧ A.length = n := ⟨_, _, hsplit, by rw [List.length_take]; omega⟩
      subst hAl
      clear hsplit
      have hAs : ∀ r ∈ A, ∀ x u, r = x :: u → lessE e x = true := by
        intro r hr x u hx
        obtain ⟨j, hj, rfl⟩ := List.mem_iff_getElem.1 hr
        refine (hb j (by omega) x u ?_).1 hj
        rw [hA, List.getD_eq_getElem?_getD, List.getElem?_append_left hj, List.getElem?_eq_getElem hj]
        exact hx
      have hBs : ∀ r ∈ B, ∀ x u, r = x :: u → lessE x e = false := by
        intro r hr x u hx
        obtain ⟨j, hj, rfl⟩ := List.mem_iff_getElem.1 hr
        refine (hb (A.length + 1 + j) ?_ x u ?_).2 (by omega)
        · rw [hA, List.length_append, List.length_cons]; omega
        · rw [hA, List.getD_eq_getElem?_getD, List.getElem?_append_right (by omega), show A.length + 1 + j - A.length = j + 1 by omega, List.getElem?_cons_succ, List.getElem?_eq_getElem hj]
          exact hx
      have hpe : (e :: t).Pairwise (fun a b => lessE a b = true) := hpr _ (by rw [hA]; exact List.mem_append_right _ List.mem_cons_self)
      have hAlt : ∀ y ∈ A.flatten, lessE e y = true := by
        intro y hy
        obtain ⟨r, hr, hy⟩ := List.mem_flatten.1 hy
        have hp := hpr r (by rw [hA]; exact List.mem_append_left _ hr)
        cases r with
        | nil => cases hy
        | cons x u => exact lt_le (hAs _ hr x u rfl) (head_le hp hy)
      have hBle : ∀ y ∈ B.flatten, leE e y := by
        intro y hy
        obtain ⟨r, hr, hy⟩ := List.mem_flatten.1 hy
        have hp := hpr r (by rw [hA]; exact List.mem_append_right _ (List.mem_cons_of_mem _ hr))
        cases r with
        | nil => cases hy
        | cons x u => exact le_trans (le_of_not (hBs _ hr x u rfl)) (head_le hp hy)
      have hflat : left.flatten = A.flatten ++ (e :: (t ++ B.flatten)) := by rw [hA]; simp
      have hflat' : (A ++ t :: B).flatten = A.flatten ++ (t ++ B.flatten) := by simp
      have hall : ∀ y ∈ (A ++ t :: B).flatten, leE e y := by
        intro y hy
        rw [hflat'] at hy
        rcases List.mem_append.1 hy with hy | hy
        · exact .inl (hAlt y hy)
        · rcases List.mem_append.1 hy with hy | hy
          · exact head_le hpe (List.mem_cons_of_mem _ hy)
          · exact hBle y hy
      have hsub : ∀ y ∈ (A ++ t :: B).flatten, y ∈ left.flatten := by
        intro y hy
        rw [hflat'] at hy
        rw [hflat]
        rcases List.mem_append.1 hy with hy | hy
        · exact List.mem_append_left _ hy
        · exact List.mem_append_right _ (List.mem_cons_of_mem _ hy)
      have hein : e ∈ left.flatten := by rw [hflat]; exact List.mem_append_right _ List.mem_cons_self
      have hm' : (A ++ t :: B).flatten.length = m := by
        have h1 := hm
        rw [hflat] at h1
        rw [hflat']
        simp only [List.length_append, List.length_cons] at h1 ⊢
        omega
      have hl' : (A ++ t :: B).length ≤ 1000 := by
        have h1 := hl
        rw [hA] at h1
        simpa only [List.length_append, List.length_cons] using h1
      have hpr' : ∀ r ∈ A ++ t :: B, r.Pairwise (fun a b => lessE a b = true) := by
        intro r hr
        rcases List.mem_append.1 hr with hr | hr
        · exact hpr r (by rw [hA]; exact List.mem_append_left _ hr)
        · rcases List.mem_cons.1 hr with rfl | hr
          · exact (List.pairwise_cons.1 hpe).2
          · exact hpr r (by rw [hA]; exact List.mem_append_right _ (List.mem_cons_of_mem _ hr))
      have hset : left.set A.length t = A ++ t :: B := by rw [hA]; exact set_mid A B _ _
      -- with e put out
      have haddlook : ∀ k s, lookE T k s = lookE ((out ++ [e]) ++ (A ++ t :: B).flatten) k s := by
        intro k s
        rw [hlook, hflat, hflat', look_append, look_append (out ++ [e]), look_append out [e], Option.or_assoc, look_append A.flatten, look_append A.flatten, look_cons e, look_cons e []]
        by_cases hh : hit k s e = true
        · rw [if_pos hh, if_pos hh, behind_none hAlt (hit_iff.1 hh)]
          rfl
        · rw [if_neg hh, if_neg hh]; rfl
      have hadd : (∀ x ∈ out, lessE x e = true) → Ev (fun k => merge_Rows.l1 k (A ++ t :: B) (out ++ [e])) (T, 0) := by
        intro hlt
        refine ih _ _ hm' hl' (by rw [List.length_append, List.length_singleton]; omega) ?_ hpr' ?_ haddlook
        · rw [List.pairwise_append]
          exact ⟨hpo, List.pairwise_singleton _ _, fun x hx y hy => by rw [List.mem_singleton.1 hy]; exact hlt x hx⟩
        · intro x hx y hy
          rcases List.mem_append.1 hx with hx | hx
          · exact hle x hx y (hsub y hy)
          · rw [List.mem_singleton.1 hx]; exact hall y hy
      refine evF (by omega) (evT (by omega) (evT (by omega) ?_))
      rw [rdL, he]
      refine evT (by simp only [List.length_cons]; omega) (evT (by simp only [List.length_cons]; omega) (evConst rfl ?_))
      rw [Int.toNat_natCast, show (e :: t).drop 1 = t from rfl, hset, show rd_T39 (e :: t) 0 = e from rfl]
      cases hout : out with
      | nil =>
        refine evT rfl (evT (by simp) ?_)
        have := hadd (by rw [hout]; intro x hx; cases hx)
        rw [hout] at this
        exact this
      | cons o os =>
        rw [← hout]
        have hpos : 0 < out.length := by rw [hout]; simp
        refine evF (by omega) ?_
        rw [w64 (by omega)]
        refine evT (by omega) (evT (by omega) ?_)
        rw [show (out.length : Int) - 1 = ((out.length - 1 : Nat) : Int) by omega, rdE]
        have hz : out.length - 1 < out.length := by omega
        have hlast : out = out.take (out.length - 1) ++ [out.getD (out.length - 1) z39] := by
          conv => lhs; rw [← List.take_append_drop (out.length - 1) out]
          rw [drop_cons out z39 (out.length - 1) hz, List.drop_eq_nil_of_le (by omega)]
        generalize hzz : out.getD (out.length - 1) z39 = z at hlast ⊢
        have hzin : z ∈ out := by rw [hlast]; exact List.mem_append_right _ List.mem_cons_self
        obtain ⟨c, hc, hc0⟩ := compare_ev z.f0 z.f1 z.f2 z.f3 e.f0 e.f1 e.f2 e.f3
        refine evBind hc ?_
        by_cases h0 : c = 0
        · refine evT h0 (ih _ _ hm' hl' (by omega) hpo hpr' (fun x hx y hy => hle x hx y (hsub y hy)) ?_)
          intro k s
          have hsame := hc0.1 h0
          rw [hlook, hflat, hflat', look_append, look_append out]
          by_cases hh : hit k s e = true
          · obtain ⟨x, hx⟩ := look_isSome hzin
            have h2 := hit_iff.1 hh
            rw [show ky z = k from hsame.1.trans h2.1, show z.f1 = s from hsame.2.trans h2.2] at hx
            rw [hx]; rfl
          · rw [look_append A.flatten, look_append A.flatten, look_cons e, if_neg hh]
        · refine evF h0 (evT (by omega) (hadd ?_))
          have hze : lessE z e = true := by
            rcases hle z hzin e hein with h | h
            · exact h
            · exact absurd (hc0.2 h) h0
          intro x hx
          rw [hlast] at hx
          rcases List.mem_append.1 hx with hx | hx
          · have hp := hpo
            rw [hlast, List.pairwise_append] at hp
            exact lessF_trans (hp.2.2 x hx z List.mem_cons_self) hze
          · rw [List.mem_singleton.1 hx]; exact hze
theorem rows_l0 (L : List (List S39)) (hl : L.length ≤ 1000) (hr : ∀ r ∈ L, r.length ≤ 1000000) (T : List S39) (hT : L.all sortedB = true → Ev (fun k => merge_Rows.l1 k L []) (T, 0)) (n : Nat) :
    ∀ i : Nat, L.length - i = n → (L.take i).all sortedB = true → Ev (fun k => merge_Rows.l0 k L L (L.length : Int) (i : Int)) (if L.all sortedB = true then (T, 0) else ([], 16)) := by
  induction n with
  | zero =>
    intro i h1 h2
    rw [List.take_of_length_le (by omega)] at h2
    refine Ev.step (fun k => merge_Rows.l0.eq_2 ..) (evF (by omega) ?_)
    rw [if_pos h2]
    exact hT h2
  | succ n ih =>
    intro i h1 h2
    have hi : i < L.length := by omega
    have hmem : L.getD i [] ∈ L := by
      rw [List.getD_eq_getElem?_getD, List.getElem?_eq_getElem hi]; exact List.getElem_mem hi
    refine Ev.step (fun k => merge_Rows.l0.eq_2 ..) (evT (by omega) (evT (by omega) (evT (by omega) ?_)))
    rw [w64 (by omega), show (i : Int) + 1 = ((i + 1 : Nat) : Int) by omega, rdL]
    refine evBind (sorted_ev _ (by have := hr _ hmem; omega)) ?_
    by_cases hs : sortedB (L.getD i []) = true
    · refine evT hs (ih (i + 1) (by omega) ?_)
      rw [List.take_add_one, List.all_append, h2, List.getElem?_eq_getElem hi]
      rw [List.getD_eq_getElem?_getD, List.getElem?_eq_getElem hi] at hs
      have hs2 : sortedB L[i] = true := hs
      simp [hs2]
    · refine evEq (evF hs (evSome _)) ?_
      rw [if_neg (fun h => hs (List.all_eq_true.1 h _ hmem))]
theorem rows_ev (L : List (List S39)) (hl : L.length ≤ 1000) (hr : ∀ r ∈ L, r.length ≤ 1000000) (hf : L.flatten.length ≤ 1000000) : Ev (fun k => merge_Rows.f k L) (if L.all sortedB = true then (mergeL [] L, 0) else ([], 16)) := by
  refine Ev.congr (fun k => merge_Rows.f.eq_1 ..) (evConst (show api_Entry_21.f L = some L by unfold api_Entry_21.f; rw [if_pos (by omega)]) ?_)
  refine rows_l0 L hl hr _ (fun h => ?_) _ 0 rfl rfl
  refine rows_l1 _ (mergeL_pw L List.Pairwise.nil) _ L [] rfl hl (by simpa using hf) List.Pairwise.nil (fun r hr => sorted_pw (List.all_eq_true.1 h r hr)) (fun x hx => by cases hx) (fun k s => ?_)
  rw [look_mergeL L k s List.Pairwise.nil]
  rfl
end Go.Proofs.Ytjcpdbekdimceaa.Q
