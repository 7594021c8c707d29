import Derived.Test.YtfpnllajpnnfdaaQTabChr
import Derived.Test.YtfpnllajpnnfdaaQTabK
import Derived.Test.YtfpnllajpnnfdaaQTabL
namespace Go.Proofs.Ytfpnllajpnnfdaa.Q
open Go.RowKit Go.Lib Go.Proofs Go.Proofs.Ytfpnllajpnnfdaa.P Go.Proofs.YtfpnllajpnnfdaaW.PrintWords Go.Proofs.YtfpnllajpnnfdaaW.PrintLast Go.Proofs.YtfpnllajpnnfdaaW.PrintMore
set_option linter.unusedVariables false
set_option linter.unusedSimpArgs false
/-! Six tables of tier 1 side by side, two of tier 0 -/
def sixT (i : Nat) : S46 := ⟨((i + 1 : Nat) : Int), 1, B1 (97 + 3 * i), B1 (98 + 3 * i), 1⟩
def sixL : List S46 := (List.range 6).map sixT
def topT (id : Int) (x d : Nat) : S46 := ⟨id, 0, B1 (97 + x), B1 (97 + x + d), 1⟩
def sp1 : St := ⟨sixL, 1, 0, 7⟩
def sp2 (u : S46) : St := ⟨u :: sixL, 1, 0, 8⟩
def sp3 (u v : S46) : St := ⟨v :: u :: sixL, 1, 0, 9⟩
theorem six_pairwise {R : S46 → S46 → Prop} (h : ∀ i j, i < j → j < 6 → R (sixT i) (sixT j)) : sixL.Pairwise R := by
  unfold sixL
  rw [List.pairwise_map]
  refine List.Pairwise.imp_of_mem ?_ List.pairwise_lt_range
  intro a b ha hb hab
  exact h a b hab (List.mem_range.1 hb)
theorem six_mem {t : S46} (h : t ∈ sixL) : ∃ i, i < 6 ∧ t = sixT i := by
  unfold sixL at h
  obtain ⟨i, hi, rfl⟩ := List.mem_map.1 h
  exact ⟨i, List.mem_range.1 hi, rfl⟩
theorem top_is {id : Int} {x d : Nat} (h1 : 1 ≤ id) (h2 : id ≤ 1000000) (hx : x < 18) (hd : d < 4) : isT (topT id x d) = true := by
  rw [isT_iff]
  refine ⟨⟨h1, h2⟩, .inl rfl, b1_key _, b1_key _, ?_, Int.le_refl _⟩
  show Op.bytesLess (B1 (97 + x + d)).data.toList (B1 (97 + x)).data.toList = false
  rw [b1_less (by omega) (by omega)]
  exact decide_eq_false (by omega)
theorem six_is {i : Nat} (hi : i < 6) : isT (sixT i) = true := by
  rw [isT_iff]
  refine ⟨⟨by show 1 ≤ ((i + 1 : Nat) : Int); omega, by show ((i + 1 : Nat) : Int) ≤ 1000000; omega⟩, .inr rfl, b1_key _, b1_key _, ?_, Int.le_refl _⟩
  show Op.bytesLess (B1 (98 + 3 * i)).data.toList (B1 (97 + 3 * i)).data.toList = false
  rw [b1_less (by omega) (by omega)]
  exact decide_eq_false (by omega)
theorem six_meet {i j : Nat} (h : i < j) (hj : j < 6) : meetT (sixT j) (sixT i) = false := by
  have e : Op.bytesLess (sixT i).f3.data.toList (sixT j).f2.data.toList = true := by
    show Op.bytesLess (B1 (98 + 3 * i)).data.toList (B1 (97 + 3 * j)).data.toList = true
    rw [b1_less (by omega) (by omega)]
    exact decide_eq_true (by omega)
  unfold meetT
  rw [e]; simp
theorem six_sorted {i j : Nat} (h : i < j) (hj : j < 6) : ltT (sixT j) (sixT i) = false := by
  unfold ltT
  rw [if_pos (show (sixT j).f1 = (sixT i).f1 from rfl), if_neg (show ¬ (sixT j).f1 = 0 from fun h => absurd (show (1 : Int) = 0 from h) (by decide))]
  show Op.bytesLess (B1 (97 + 3 * j)).data.toList (B1 (97 + 3 * i)).data.toList = false
  rw [b1_less (by omega) (by omega)]
  exact decide_eq_false (by omega)
theorem meet_zero {t b : S46} (h : t.f1 = 0) : meetT t b = false := by unfold meetT; rw [decide_eq_true h]; rfl
theorem meet_zero' {t b : S46} (h : b.f1 = 0) : meetT t b = false := by unfold meetT; rw [decide_eq_true h]; simp
theorem filter_none (l : List S46) : l.filter (fun z => !(([] : List Int).any (fun y => z.f0 == y))) = l := by
  rw [List.filter_eq_self]; intro a _; rfl
/-- One table comes, nothing goes. -/
theorem do_one {s : St} (h : InvS s) {c : S46} (hc : isT c = true) (hn : s.nx ≤ c.f0) (hm : ∀ b ∈ s.l, meetT c b = false) (hl : s.l.length < 40) : doE s [] [c] 0 0 = 0 := by
  unfold doE
  have hf : formedB [] [c] 0 0 = true := by
    unfold formedB
    simp only [ris, hc, Bool.true_and, Bool.and_true]
    rw [decide_eq_true (show (0 : Int) < c.f0 by have := h.nx; omega)]; rfl
  have hla : lateB s [c] 0 0 = false := by
    show (decide (c.f0 < s.nx) || (decide ((0 : Int) < 0) && decide (0 < s.lg)) || (decide ((0 : Int) < 0) && decide (0 < s.sq))) = false
    rw [decide_eq_false (show ¬ c.f0 < s.nx by omega)]; rfl
  have ha : apartB (rowS s.l [] [c]) = true := by
    rw [apart_iff]
    unfold rowS
    rw [filter_none, List.pairwise_append]
    exact ⟨h.apart, List.pairwise_singleton _ _, fun a ha b hb => by rw [List.mem_singleton.1 hb]; exact hm a ha⟩
  have hlen : ¬ 40 < (rowS s.l [] [c]).length := by unfold rowS; rw [filter_none]; simp; omega
  rw [if_neg (by rw [hf]; decide), if_neg (by unfold hereB; rw [List.all_nil]; decide), if_neg (by rw [hla, ha]; decide), if_neg hlen]
theorem do_top {s : St} (h : InvS s) {c : S46} (hc : isT c = true) (h0 : c.f1 = 0) (hn : s.nx ≤ c.f0) (hl : s.l.length < 40) (hs : ∀ b ∈ s.l, ltT b c = false) (hlg : s.lg = 1) (hsq : s.sq = 0) : doS s [] [c] 0 0 = ⟨c :: s.l, 1, 0, c.f0 + 1⟩ := by
  have hE := do_one h hc hn (fun b _ => meet_zero h0) hl
  unfold doS
  rw [if_pos hE]
  unfold doN
  have e : srt (rowS s.l [] [c]) = c :: s.l := by
    obtain ⟨hf, _, hla, ha, _⟩ := doE_late hE
    obtain ⟨hi, hd⟩ := rowS_inv h hf (late_early hla)
    refine (srt_uniq (tot_of hi hd (apart_iff.1 ha)) ?_ (List.pairwise_cons.2 ⟨hs, h.sorted⟩)).symm
    unfold rowS
    rw [filter_none]
    exact (List.perm_append_singleton c s.l).symm
  rw [e, hlg, hsq]
  rfl
theorem sp1_inv : InvS sp1 where
  is t ht := by
    obtain ⟨i, hi, rfl⟩ := six_mem ht
    exact ⟨six_is hi, by show ((i + 1 : Nat) : Int) < 7; omega⟩
  ids := six_pairwise (fun i j h hj => by show ((i + 1 : Nat) : Int) ≠ ((j + 1 : Nat) : Int); omega)
  apart := six_pairwise (fun i j h hj => six_meet h hj)
  sorted := six_pairwise (fun i j h hj => six_sorted h hj)
  len := by decide
  lg := by decide
  sq := by decide
  nx := by decide
theorem six_row : rowS [] [] sixL = sixL := rfl
theorem six_formed : formedB [] sixL 0 0 = true := by decide +kernel
theorem sp1_e : doE new0 [] sixL 0 0 = 0 := by
  unfold doE
  have ha : apartB (rowS new0.l [] sixL) = true := apart_iff.2 sp1_inv.apart
  rw [if_neg (by rw [six_formed]; decide), if_neg (by unfold hereB; decide), if_neg (by rw [ha]; decide), if_neg (by decide)]
theorem sp1_s : doS new0 [] sixL 0 0 = sp1 := by
  unfold doS
  rw [if_pos sp1_e]
  unfold doN
  have e : srt (rowS new0.l [] sixL) = sixL := (srt_uniq (tot_of (fun t ht => (sp1_inv.is t ht).1) sp1_inv.ids sp1_inv.apart) (List.Perm.refl _) sp1_inv.sorted).symm
  rw [e]; rfl
theorem sp2_e {x b : Nat} (hx : x < 18) (hb : b < 4) : doE sp1 [] [topT 7 x b] 0 0 = 0 := do_one sp1_inv (top_is (by decide) (by decide) hx hb) (Int.le_refl _) (fun _ _ => meet_zero rfl) (by decide)
theorem sp2_s {x b : Nat} (hx : x < 18) (hb : b < 4) : doS sp1 [] [topT 7 x b] 0 0 = sp2 (topT 7 x b) := do_top sp1_inv (top_is (by decide) (by decide) hx hb) rfl (Int.le_refl _) (by decide) (fun t ht => by
  obtain ⟨i, hi, rfl⟩ := six_mem ht
  rfl) rfl rfl
theorem sp2_inv {x b : Nat} (hx : x < 18) (hb : b < 4) : InvS (sp2 (topT 7 x b)) := by rw [← sp2_s hx hb]; exact doS_inv sp1_inv _ _ _ _
theorem sp3_e {x y b d : Nat} (hx : x < 18) (hy : y < 18) (hb : b < 4) (hd : d < 4) : doE (sp2 (topT 7 x b)) [] [topT 8 y d] 0 0 = 0 := do_one (sp2_inv hx hb) (top_is (by decide) (by decide) hy hd) (Int.le_refl _) (fun _ _ => meet_zero rfl) (by show (sixL.length + 1) < 40; decide)
theorem sp3_s {x y b d : Nat} (hx : x < 18) (hy : y < 18) (hb : b < 4) (hd : d < 4) : doS (sp2 (topT 7 x b)) [] [topT 8 y d] 0 0 = sp3 (topT 7 x b) (topT 8 y d) := do_top (sp2_inv hx hb) (top_is (by decide) (by decide) hy hd) rfl (Int.le_refl _) (by show (sixL.length + 1) < 40; decide) (fun t ht => by
  rcases List.mem_cons.1 ht with rfl | ht
  · rfl
  · obtain ⟨i, hi, rfl⟩ := six_mem ht
    rfl) rfl rfl
theorem sp3_inv {x y b d : Nat} (hx : x < 18) (hy : y < 18) (hb : b < 4) (hd : d < 4) : InvS (sp3 (topT 7 x b) (topT 8 y d)) := by rw [← sp3_s hx hy hb hd]; exact doS_inv (sp2_inv hx hb) _ _ _ _
theorem six_tier0 : tierL sixL 0 = [] := by unfold tierL; rw [List.filter_eq_nil_iff]; intro t ht; obtain ⟨i, hi, rfl⟩ := six_mem ht; exact (by decide : ¬ ((1 : Int) == 0) = true)
theorem six_tier1 : tierL sixL 1 = sixL := by unfold tierL; rw [List.filter_eq_self]; intro t ht; obtain ⟨i, hi, rfl⟩ := six_mem ht; rfl
theorem sp1_pick : pickL sp1.l = [] ∧ pickB sp1.l = false := by
  unfold pickL pickB
  show (if (tierL sixL 0).length < 2 then _ else _) = _ ∧ _
  rw [show sp1.l = sixL from rfl, six_tier0]; exact ⟨rfl, rfl⟩
theorem sp2_tier0 (u : S46) (hu : u.f1 = 0) : tierL (u :: sixL) 0 = [u] := by
  have h := six_tier0
  unfold tierL at h ⊢
  rw [List.filter_cons, if_pos (by rw [hu]; rfl), h]
theorem sp2_pick (u : S46) (hu : u.f1 = 0) : pickL (sp2 u).l = [] ∧ pickB (sp2 u).l = false := by
  unfold pickL pickB
  rw [show (sp2 u).l = u :: sixL from rfl, sp2_tier0 u hu]; exact ⟨rfl, rfl⟩
theorem sp3_tier0 (u v : S46) (hu : u.f1 = 0) (hv : v.f1 = 0) : tierL (v :: u :: sixL) 0 = [v, u] := by
  have h := sp2_tier0 u hu
  unfold tierL at h ⊢
  rw [List.filter_cons, if_pos (by rw [hv]; rfl), h]
theorem sp3_tier1 (u v : S46) (hu : u.f1 = 0) (hv : v.f1 = 0) : tierL (v :: u :: sixL) 1 = sixL := by
  have h := six_tier1
  unfold tierL at h ⊢
  rw [List.filter_cons, if_neg (by rw [hv]; decide), List.filter_cons, if_neg (by rw [hu]; decide), h]
def mn (a b : Nat) : Nat := if b < a then b else a
def mxN (a b : Nat) : Nat := if a < b then b else a
theorem b1_min {m n : Nat} (hm : m < 256) (hn : n < 256) : minS (B1 m) (B1 n) = B1 (mn m n) := by
  unfold minS mn
  rw [b1_less hn hm]
  by_cases h : n < m
  · rw [decide_eq_true h, if_pos rfl, if_pos h]
  · rw [decide_eq_false h, if_neg (by decide), if_neg h]
theorem b1_max {m n : Nat} (hm : m < 256) (hn : n < 256) : maxS (B1 m) (B1 n) = B1 (mxN m n) := by
  unfold maxS mxN
  rw [b1_less hm hn]
  by_cases h : m < n
  · rw [decide_eq_true h, if_pos rfl, if_pos h]
  · rw [decide_eq_false h, if_neg (by decide), if_neg h]
/-- Which of the six does the span from lo to hi reach. -/
def reachN (lo hi i : Nat) : Bool := decide (3 * i ≤ hi) && decide (lo ≤ 3 * i + 1)
def cntN (p : Nat → Bool) (n : Nat) : Nat := ((List.range n).filter p).length
theorem cnt_succ (p : Nat → Bool) (n : Nat) : cntN p (n + 1) = cntN p n + (if p n = true then 1 else 0) := by
  unfold cntN
  rw [List.range_succ, List.filter_append, List.length_append]
  congr 1
  cases h : p n <;> simp [h]
theorem cnt_le (p : Nat → Bool) (n : Nat) : cntN p n ≤ n := by
  unfold cntN
  have := List.length_filter_le p (List.range n)
  rwa [List.length_range] at this
theorem six_count {q : S46 → Bool} {p : Nat → Bool} (h : ∀ i, i < 6 → q (sixT i) = p i) : (sixL.filter q).length = cntN p 6 := by
  unfold sixL cntN
  rw [List.filter_map, List.length_map]
  congr 1
  apply List.filter_congr
  intro i hi
  exact h i (List.mem_range.1 hi)
theorem sp3_pick {x y b d : Nat} (hx : x < 18) (hy : y < 18) (hb : b < 4) (hd : d < 4) : pickB (sp3 (topT 7 x b) (topT 8 y d)).l = true ∧ (pickL (sp3 (topT 7 x b) (topT 8 y d)).l).length = 2 + cntN (reachN (mn y x) (mxN (y + d) (x + b))) 6 ∧ ∃ r, pickL (sp3 (topT 7 x b) (topT 8 y d)).l = topT 8 y d :: topT 7 x b :: r := by
  have h0 := sp3_tier0 (topT 7 x b) (topT 8 y d) rfl rfl
  have h1 := sp3_tier1 (topT 7 x b) (topT 8 y d) rfl rfl
  have hlo : loP (topT 8 y d :: topT 7 x b :: sixL) = B1 (97 + mn y x) := by
    unfold loP
    rw [h0]
    show minS (minS (B1 (97 + y)) (B1 (97 + y))) (B1 (97 + x)) = _
    rw [b1_min (by omega) (by omega), b1_min (by unfold mn; split <;> omega) (by omega)]
    congr 1
    unfold mn
    split <;> split <;> (try split) <;> omega
  have hhi : hiP (topT 8 y d :: topT 7 x b :: sixL) = B1 (97 + mxN (y + d) (x + b)) := by
    unfold hiP
    rw [h0]
    show maxS (maxS (B1 (97 + y + d)) (B1 (97 + y + d))) (B1 (97 + x + b)) = _
    rw [b1_max (by omega) (by omega), b1_max (by unfold mxN; split <;> omega) (by omega)]
    congr 1
    unfold mxN
    split <;> split <;> (try split) <;> omega
  have hpk : pickL (topT 8 y d :: topT 7 x b :: sixL) = [topT 8 y d, topT 7 x b] ++ sixL.filter (reB (B1 (97 + mn y x)) (B1 (97 + mxN (y + d) (x + b)))) := by
    unfold pickL
    rw [h0, h1, if_neg (by simp), hlo, hhi]
  refine ⟨?_, ?_, ?_⟩
  · show pickB (topT 8 y d :: topT 7 x b :: sixL) = true
    unfold pickB
    rw [h0]; rfl
  · show (pickL (topT 8 y d :: topT 7 x b :: sixL)).length = _
    rw [hpk, List.length_append, six_count (p := reachN (mn y x) (mxN (y + d) (x + b)))]
    · rfl
    · intro i hi
      unfold reB reachN
      show (!(Op.bytesLess (B1 (98 + 3 * i)).data.toList (B1 (97 + mn y x)).data.toList) && !(Op.bytesLess (B1 (97 + mxN (y + d) (x + b))).data.toList (B1 (97 + 3 * i)).data.toList)) = _
      have e1 : mn y x < 18 := by unfold mn; split <;> omega
      have e2 : mxN (y + d) (x + b) < 22 := by unfold mxN; split <;> omega
      rw [b1_less (by omega) (by omega), b1_less (by omega) (by omega)]
      generalize mn y x = lo at e1
      generalize mxN (y + d) (x + b) = hi at e2
      by_cases a1 : 3 * i ≤ hi <;> by_cases a2 : lo ≤ 3 * i + 1 <;> simp [a1, a2] <;> omega
  · exact ⟨_, hpk⟩
theorem sp3_cover {x y b d : Nat} (hx : x < 18) (hy : y < 18) (hb : b < 4) (hd : d < 4) : ((sp3 (topT 7 x b) (topT 8 y d)).l.filter (cvB (B1 (97 + x)))).length = cntN (fun i => decide (3 * i ≤ x) && decide (x ≤ 3 * i + 1)) 6 + (if y ≤ x ∧ x ≤ y + d then 1 else 0) + 1 := by
  show ((topT 8 y d :: topT 7 x b :: sixL).filter (cvB (B1 (97 + x)))).length = _
  have e1 : cvB (B1 (97 + x)) (topT 7 x b) = true := by
    unfold cvB
    show (!(Op.bytesLess (B1 (97 + x)).data.toList (B1 (97 + x)).data.toList) && !(Op.bytesLess (B1 (97 + x + b)).data.toList (B1 (97 + x)).data.toList)) = true
    rw [b1_less (by omega) (by omega), b1_less (by omega) (by omega), decide_eq_false (by omega), decide_eq_false (by omega)]; simp
  have e2 : cvB (B1 (97 + x)) (topT 8 y d) = (decide (y ≤ x) && decide (x ≤ y + d)) := by
    unfold cvB
    show (!(Op.bytesLess (B1 (97 + x)).data.toList (B1 (97 + y)).data.toList) && !(Op.bytesLess (B1 (97 + y + d)).data.toList (B1 (97 + x)).data.toList)) = _
    rw [b1_less (by omega) (by omega), b1_less (by omega) (by omega)]
    by_cases a1 : y ≤ x <;> by_cases a2 : x ≤ y + d <;> simp [a1, a2] <;> omega
  have e3 : (sixL.filter (cvB (B1 (97 + x)))).length = cntN (fun i => decide (3 * i ≤ x) && decide (x ≤ 3 * i + 1)) 6 := six_count (fun i hi => by
    unfold cvB
    show (!(Op.bytesLess (B1 (97 + x)).data.toList (B1 (97 + 3 * i)).data.toList) && !(Op.bytesLess (B1 (98 + 3 * i)).data.toList (B1 (97 + x)).data.toList)) = _
    rw [b1_less (by omega) (by omega), b1_less (by omega) (by omega)]
    by_cases a1 : 3 * i ≤ x <;> by_cases a2 : x ≤ 3 * i + 1 <;> simp [a1, a2] <;> omega)
  rw [List.filter_cons, List.filter_cons, if_pos e1, e2]
  by_cases a : y ≤ x ∧ x ≤ y + d
  · rw [if_pos a, if_pos (by rw [decide_eq_true a.1, decide_eq_true a.2]; rfl), List.length_cons, List.length_cons, e3]
  · rw [if_neg a, if_neg (by rw [Bool.and_eq_true, decide_eq_true_eq, decide_eq_true_eq]; exact a), List.length_cons, e3]
end Go.Proofs.Ytfpnllajpnnfdaa.Q
