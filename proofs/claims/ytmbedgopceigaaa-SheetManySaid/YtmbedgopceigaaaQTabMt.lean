import Derived.Test.YtmbedgopceigaaaQTabN
import Derived.Test.YtmbedgopceigaaaQTabChr
namespace Go.Proofs.Ytmbedgopceigaaa.Q
open Go.RowKit Go.Lib Go.Proofs Go.Proofs.Ytmbedgopceigaaa.P Go.Proofs.YtmbedgopceigaaaW.PrintWords Go.Proofs.YtmbedgopceigaaaW.PrintLast Go.Proofs.YtmbedgopceigaaaW.PrintMore
set_option linter.unusedVariables false
set_option linter.unusedSimpArgs false
/-! An edit by which one table comes -/
def keepR (l : List S32) (G : List Int) : List S32 := l.filter (fun z => !(G.any (fun y => z.f0 == y)))
theorem meet_symM (a b : S32) : meetT a b = meetT b a := by
  unfold meetT
  cases decide (a.f1 = 0) <;> cases decide (b.f1 = 0) <;> cases Op.bytesLess a.f3.data.toList b.f2.data.toList <;> cases Op.bytesLess b.f3.data.toList a.f2.data.toList <;> rfl
theorem one_formed {G : List Int} {c : S32} (hc : isT c = true) (hg : G.length ≤ 40) : formedB G [c] 0 0 = true := by
  unfold formedB
  simp only [ris, hc, Bool.true_and, Bool.and_true]
  have h0 := (isT_iff.1 hc).1.1
  rw [decide_eq_true (show (0 : Int) < c.f0 by omega), decide_eq_true hg]; rfl
theorem one_late {s : St} {c : S32} (hn : s.nx ≤ c.f0) : lateB s [c] 0 0 = false := by
  show (decide (c.f0 < s.nx) || (decide ((0 : Int) < 0) && decide (0 < s.lg)) || (decide ((0 : Int) < 0) && decide (0 < s.sq))) = false
  rw [decide_eq_false (show ¬ c.f0 < s.nx by omega)]; rfl
theorem one_apart {s : St} (h : InvS s) {G : List Int} {c : S32} : apartB (rowS s.l G [c]) = true ↔ ∀ b ∈ keepR s.l G, meetT c b = false := by
  rw [apart_iff]
  unfold rowS keepR
  rw [List.pairwise_append]
  constructor
  · rintro ⟨_, _, h3⟩ b hb
    exact h3 b hb c (by simp)
  · intro h3
    exact ⟨h.apart.filter _, List.pairwise_singleton _ _, fun a ha b hb => by rw [List.mem_singleton.1 hb]; exact h3 a ha⟩
theorem do1_ok {s : St} (h : InvS s) {G : List Int} {c : S32} (hc : isT c = true) (hn : s.nx ≤ c.f0) (hh : hereB s.l G = true) (hg : G.length ≤ 40) (hm : ∀ b ∈ keepR s.l G, meetT c b = false) (hl : (keepR s.l G).length < 40) : doE s G [c] 0 0 = 0 := by
  unfold doE
  have hlen : ¬ 40 < (rowS s.l G [c]).length := by unfold rowS; unfold keepR at hl; rw [List.length_append]; simp only [List.length_cons, List.length_nil]; omega
  rw [if_neg (by rw [one_formed hc hg]; decide), if_neg (by rw [hh]; decide), if_neg (by rw [one_late hn, (one_apart h).2 hm]; decide), if_neg hlen]
theorem do1_meet {s : St} (h : InvS s) {G : List Int} {c b : S32} (hc : isT c = true) (hn : s.nx ≤ c.f0) (hh : hereB s.l G = true) (hg : G.length ≤ 40) (hb : b ∈ keepR s.l G) (hm : meetT c b = true) : doE s G [c] 0 0 = 16 := by
  unfold doE
  have ha : apartB (rowS s.l G [c]) = false := by
    cases ha : apartB (rowS s.l G [c]) with
    | false => rfl
    | true => have := (one_apart h).1 ha b hb; rw [hm] at this; cases this
  rw [if_neg (by rw [one_formed hc hg]; decide), if_neg (by rw [hh]; decide), if_pos (.inr ha)]
theorem do1_perm {s : St} {G : List Int} {c : S32} (h0 : doE s G [c] 0 0 = 0) : (doS s G [c] 0 0).l.Perm (keepR s.l G ++ [c]) ∧ (doS s G [c] 0 0).nx = c.f0 + 1 := by
  unfold doS
  rw [if_pos h0]
  exact ⟨srt_perm _, rfl⟩
theorem keep_nil (l : List S32) : keepR l [] = l := by unfold keepR; rw [List.filter_eq_self]; intro a _; rfl
def mt1 (t : S32) : St := doS new0 [] [t] 0 0
def mt2 (t u : S32) : St := doS (mt1 t) [] [u] 0 0
def mt3 (t u v : S32) : St := doS (mt2 t u) [1] [v] 0 0
theorem mt1_e {t : S32} (ht : isT t = true) (t0 : t.f0 = 1) : doE new0 [] [t] 0 0 = 0 := do1_ok kInv0 ht (by rw [t0]; decide) (by decide) (by decide) (fun b hb => (List.not_mem_nil hb).elim) (by decide)
theorem mt1_inv {t : S32} (ht : isT t = true) (t0 : t.f0 = 1) : InvS (mt1 t) := doS_inv kInv0 _ _ _ _
theorem mt1_l {t : S32} (ht : isT t = true) (t0 : t.f0 = 1) : (mt1 t).l = [t] ∧ (mt1 t).nx = 2 := by
  have h := do1_perm (mt1_e ht t0)
  refine ⟨List.perm_singleton.1 h.1, ?_⟩
  rw [mt1, h.2, t0]; rfl
theorem mt2_ok {t u : S32} (ht : isT t = true) (hu : isT u = true) (t0 : t.f0 = 1) (u0 : u.f0 = 2) (hm : meetT u t = false) : doE (mt1 t) [] [u] 0 0 = 0 := do1_ok (mt1_inv ht t0) hu (by rw [(mt1_l ht t0).2, u0]; decide) (by unfold hereB; rfl) (by decide) (fun b hb => by rw [keep_nil, (mt1_l ht t0).1] at hb; rw [List.mem_singleton.1 hb]; exact hm) (by rw [keep_nil, (mt1_l ht t0).1]; simp)
theorem mt2_bad {t u : S32} (ht : isT t = true) (hu : isT u = true) (t0 : t.f0 = 1) (u0 : u.f0 = 2) (hm : meetT u t = true) : doE (mt1 t) [] [u] 0 0 = 16 := do1_meet (b := t) (mt1_inv ht t0) hu (by rw [(mt1_l ht t0).2, u0]; decide) (by unfold hereB; rfl) (by decide) (by rw [keep_nil, (mt1_l ht t0).1]; simp) hm
theorem mt2_inv {t u : S32} (ht : isT t = true) (hu : isT u = true) (t0 : t.f0 = 1) (u0 : u.f0 = 2) : InvS (mt2 t u) := doS_inv (mt1_inv ht t0) _ _ _ _
theorem mt2_l {t u : S32} (ht : isT t = true) (hu : isT u = true) (t0 : t.f0 = 1) (u0 : u.f0 = 2) (hm : meetT u t = false) : (mt2 t u).l.Perm [t, u] ∧ (mt2 t u).nx = 3 := by
  have h := do1_perm (mt2_ok ht hu t0 u0 hm)
  rw [keep_nil, (mt1_l ht t0).1] at h
  exact ⟨h.1, by rw [mt2, h.2, u0]; rfl⟩
theorem mt2_same {t u : S32} (ht : isT t = true) (hu : isT u = true) (t0 : t.f0 = 1) (u0 : u.f0 = 2) (hm : meetT u t = true) : mt2 t u = mt1 t := by unfold mt2 doS; rw [if_neg (by rw [mt2_bad ht hu t0 u0 hm]; decide)]
theorem mt2_keep {t u : S32} (ht : isT t = true) (hu : isT u = true) (t0 : t.f0 = 1) (u0 : u.f0 = 2) (hm : meetT u t = false) : keepR (mt2 t u).l [1] = [u] := by
  have h := (mt2_l ht hu t0 u0 hm).1.filter (fun z => !([1].any (fun y => z.f0 == y)))
  have e : [t, u].filter (fun z => !(([1] : List Int).any (fun y => z.f0 == y))) = [u] := by
    rw [List.filter_cons, if_neg (by simp [t0]), List.filter_cons, if_pos (by simp [u0]), List.filter_nil]
  rw [e] at h
  exact List.perm_singleton.1 h
theorem mt3_e {t u v : S32} (ht : isT t = true) (hu : isT u = true) (hv : isT v = true) (t0 : t.f0 = 1) (u0 : u.f0 = 2) (v0 : v.f0 = 9) (t1 : t.f1 = 1) (v1 : v.f1 = 1) (v2 : v.f2 = t.f2) (v3 : v.f3 = t.f3) : doE (mt2 t u) [1] [v] 0 0 = 0 := by
  cases hm : meetT u t with
  | true =>
    rw [mt2_same ht hu t0 u0 hm]
    have hk : keepR (mt1 t).l [1] = [] := by rw [(mt1_l ht t0).1]; unfold keepR; rw [List.filter_cons, if_neg (by simp [t0]), List.filter_nil]
    refine do1_ok (mt1_inv ht t0) hv (by rw [(mt1_l ht t0).2, v0]; decide) ?_ (by decide) (fun b hb => by rw [hk] at hb; exact (List.not_mem_nil hb).elim) (by rw [hk]; simp)
    unfold hereB
    rw [(mt1_l ht t0).1]
    simp [t0]
  | false =>
    have hk := mt2_keep ht hu t0 u0 hm
    have hl := mt2_l ht hu t0 u0 hm
    refine do1_ok (mt2_inv ht hu t0 u0) hv (by rw [hl.2, v0]; decide) ?_ (by decide) (fun b hb => ?_) (by rw [hk]; simp)
    · unfold hereB
      rw [List.all_cons, List.all_nil, Bool.and_true, List.any_eq_true]
      exact ⟨t, hl.1.mem_iff.2 (by simp), by rw [t0]; rfl⟩
    · rw [hk] at hb
      rw [List.mem_singleton.1 hb, show meetT v u = meetT t u by unfold meetT; rw [v1, t1, v2, v3], meet_symM]
      exact hm
theorem mt3_tier {t u v : S32} (ht : isT t = true) (hu : isT u = true) (hv : isT v = true) (t0 : t.f0 = 1) (u0 : u.f0 = 2) (v0 : v.f0 = 9) (t1 : t.f1 = 1) (v1 : v.f1 = 1) (v2 : v.f2 = t.f2) (v3 : v.f3 = t.f3) (hu1 : u.f1 = 0) : (tierL (mt3 t u v).l 0).length = 1 := by
  have hm : meetT u t = false := by unfold meetT; rw [decide_eq_true hu1]; rfl
  have h := (do1_perm (mt3_e ht hu hv t0 u0 v0 t1 v1 v2 v3)).1
  rw [mt2_keep ht hu t0 u0 hm] at h
  have h2 := (h.filter (fun z => z.f1 == 0)).length_eq
  unfold tierL
  rw [show (mt3 t u v).l = (doS (mt2 t u) [1] [v] 0 0).l from rfl, h2]
  simp [hu1, v1]
theorem mt3_len {t u v : S32} (ht : isT t = true) (hu : isT u = true) (hv : isT v = true) (t0 : t.f0 = 1) (u0 : u.f0 = 2) (v0 : v.f0 = 9) (t1 : t.f1 = 1) (v1 : v.f1 = 1) (v2 : v.f2 = t.f2) (v3 : v.f3 = t.f3) : (mt3 t u v).l.length ≤ 1000000 := by
  have := (doS_inv (mt2_inv ht hu t0 u0) [1] [v] 0 0).len
  show (doS (mt2 t u) [1] [v] 0 0).l.length ≤ 1000000
  omega
def mT (id tier : Int) (x d : Nat) : S32 := ⟨id, tier, B1 (97 + x), B1 (97 + x + d), 1⟩
theorem mT_is {id tier : Int} {x d : Nat} (h1 : 1 ≤ id) (h2 : id ≤ 1000000) (h3 : tier = 0 ∨ tier = 1) (hx : x < 10) (hd : d < 5) : isT (mT id tier x d) = true := by
  rw [isT_iff]
  refine ⟨⟨h1, h2⟩, h3, b1_key _, b1_key _, ?_, Int.le_refl _⟩
  show Op.bytesLess (B1 (97 + x + d)).data.toList (B1 (97 + x)).data.toList = false
  rw [b1_less (by omega) (by omega)]
  exact decide_eq_false (by omega)
theorem mT_meet {x y b d : Nat} (hx : x < 10) (hy : y < 10) (hb : b < 5) (hd : d < 5) : meetT (mT 2 1 y d) (mT 1 1 x b) = (decide (x ≤ y + d) && decide (y ≤ x + b)) := by
  unfold meetT
  show (!(decide ((1 : Int) = 0)) && !(decide ((1 : Int) = 0)) && !(Op.bytesLess (B1 (97 + x + b)).data.toList (B1 (97 + y)).data.toList) && !(Op.bytesLess (B1 (97 + y + d)).data.toList (B1 (97 + x)).data.toList)) = _
  rw [b1_less (by omega) (by omega), b1_less (by omega) (by omega)]
  by_cases a1 : x ≤ y + d <;> by_cases a2 : y ≤ x + b <;> simp [a1, a2] <;> omega
end Go.Proofs.Ytmbedgopceigaaa.Q
