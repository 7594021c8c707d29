import Derived.Test.YthohfmfgijckhaaQBlockSpec
import Derived.Test.YthohfmfgijckhaaQTaker
import Derived.Test.YthohfmfgijckhaaQSealImpl
import Derived.Test.YthohfmfgijckhaaM2
import Derived.Test.YthohfmfgijckhaaM3
import Derived.Test.YthohfmfgijckhaaM5
import Derived.Test.YthohfmfgijckhaaM6
import Derived.Test.YthohfmfgijckhaaM8
import Derived.Test.YthohfmfgijckhaaM11
namespace Go.Proofs.Ythohfmfgijckhaa.P
end Go.Proofs.Ythohfmfgijckhaa.P
namespace Go.Proofs.Ythohfmfgijckhaa.Q
end Go.Proofs.Ythohfmfgijckhaa.Q
namespace Go.Proofs.Ythohfmfgijckhaa.Q
open Go.RowKit Go.Proofs.Ythohfmfgijckhaa.P Go.Proofs.YthohfmfgijckhaaW.PrintWords Go.Proofs.YthohfmfgijckhaaW.PrintLast Go.Proofs.YthohfmfgijckhaaW.PrintMore
set_option linter.unusedVariables false
set_option linter.unusedSimpArgs false
theorem bt_eq (a b : List UInt8) (n : Nat) : bt (S a) (n : Int) = bt (S b) (n : Int) ↔ a.getD n 0 = b.getD n 0 := by
  rw [bt_S, bt_S, Int.toNat_natCast]
  constructor
  · intro h; exact UInt8.toNat_inj.1 (by omega)
  · intro h; rw [h]
theorem shared_l0 (a b : List UInt8) (hz : a.length ≤ 140737488351232) (d : Nat) : ∀ n : Nat, n ≤ sharedL a b → a.length - n = d → Ev (fun k => block_Shared.l0 k (S a) (S b) (n : Int)) ((sharedL a b : Nat) : Int) := by
  have hs := shared_le a b
  induction d with
  | zero =>
    intro n hn hd
    refine Ev.step (fun k => block_Shared.l0.eq_2 ..) (evF (by rw [S_size]; omega) ?_)
    refine Ev.step (fun k => block_Shared.j1.eq_2 ..) (evF (by simp) (evEq (evSome _) (by omega)))
  | succ d ih =>
    intro n hn hd
    refine Ev.step (fun k => block_Shared.l0.eq_2 ..) (evT (by rw [S_size]; omega) ?_)
    by_cases h2 : n < b.length
    · rw [decide_eq_true (by rw [S_size]; omega)]
      refine Ev.step (fun k => block_Shared.j1.eq_2 ..) (evT rfl (evT (by omega) (evT (by rw [S_size]; omega) (evT (by rw [S_size]; omega) ?_))))
      have hb := bt_eq a b n
      rw [shared_step hn (by omega) h2] at hb
      by_cases h3 : n < sharedL a b
      · refine evT (hb.2 h3) ?_
        rw [w64 (by omega), show (n : Int) + 1 = ((n + 1 : Nat) : Int) by omega]
        exact ih (n + 1) (by omega) (by omega)
      · exact evF (fun h => h3 (hb.1 h)) (evEq (evSome _) (by omega))
    · rw [decide_eq_false (by rw [S_size]; omega)]
      refine Ev.step (fun k => block_Shared.j1.eq_2 ..) (evF (by simp) (evEq (evSome _) (by omega)))
theorem shared_ev (a b : List UInt8) (hz : a.length ≤ 140737488351232) : Ev (fun k => block_Shared.f k (S a) (S b)) ((sharedL a b : Nat) : Int) :=
  Ev.congr (fun k => block_Shared.f.eq_1 ..) (shared_l0 a b hz _ 0 (by omega) rfl)
theorem rshared_l0 (a b : List UInt8) (hz : a.length ≤ 140737488351232) (d : Nat) : ∀ n : Nat, n ≤ sharedL a b → a.length - n = d → Ev (fun k => ravelinref6_Shared.l0 k (S a) (S b) (n : Int)) ((sharedL a b : Nat) : Int) := by
  have hs := shared_le a b
  induction d with
  | zero =>
    intro n hn hd
    refine Ev.step (fun k => ravelinref6_Shared.l0.eq_2 ..) (evF (by rw [S_size]; omega) (evEq (evSome _) (by omega)))
  | succ d ih =>
    intro n hn hd
    refine Ev.step (fun k => ravelinref6_Shared.l0.eq_2 ..) (evT (by rw [S_size]; omega) ?_)
    by_cases h2 : n < b.length
    · refine evT (by rw [S_size]; omega) (evT (by omega) ?_)
      have hb := bt_eq a b n
      rw [shared_step hn (by omega) h2] at hb
      by_cases h3 : n < sharedL a b
      · refine evT (hb.2 h3) ?_
        rw [w64 (by omega), show (n : Int) + 1 = ((n + 1 : Nat) : Int) by omega]
        exact ih (n + 1) (by omega) (by omega)
      · exact evF (fun h => h3 (hb.1 h)) (evEq (evSome _) (by omega))
    · exact evF (by rw [S_size]; omega) (evEq (evSome _) (by omega))
theorem rshared_ev (a b : List UInt8) (hz : a.length ≤ 140737488351232) : Ev (fun k => ravelinref6_Shared.f k (S a) (S b)) ((sharedL a b : Nat) : Int) :=
  Ev.congr (fun k => ravelinref6_Shared.f.eq_1 ..) (rshared_l0 a b hz _ 0 (by omega) rfl)
theorem rd_at (l : List S45) (i : Nat) : rd_T45 l (i : Int) = l.getD i z45 := by unfold rd_T45; rw [Int.toNat_natCast]
theorem words_drop (ahead : List UInt8) (l : List S45) (i : Nat) (h : i < l.length) : wordsB ahead (l.drop i) = rowB ahead (l.getD i z45) ++ wordsB (ky (l.getD i z45)) (l.drop (i + 1)) := by
  rw [drop_cons l z45 i h]; rfl
theorem all_drop {l : List S45} (h : l.all isE = true) (i : Nat) : (l.drop i).all isE = true := by
  rw [List.all_eq_true] at h ⊢
  exact fun x hx => h x (List.mem_of_mem_drop hx)
theorem all_get {l : List S45} (h : l.all isE = true) (i : Nat) (hi : i < l.length) : isE (l.getD i z45) = true := by
  rw [List.all_eq_true] at h
  rw [List.getD_eq_getElem?_getD, List.getElem?_eq_getElem hi]
  exact h _ (List.getElem_mem hi)
theorem words_l0 (l : List S45) (hl : l.length ≤ 1000000000) (hall : l.all isE = true) (d : Nat) : ∀ (i : Nat) (acc ahead : List UInt8), l.length - i = d → acc.length ≤ 70 * i → ahead.length ≤ 13 →
    Ev (fun k => block_words.l0 k (S acc) (S ahead) l (l.length : Int) (i : Int)) (S (acc ++ wordsB ahead (l.drop i))) := by
  induction d with
  | zero =>
    intro i acc ahead hd ha hh
    refine Ev.step (fun k => block_words.l0.eq_2 ..) (evF (by omega) (evEq (evSome _) ?_))
    rw [List.drop_eq_nil_of_le (by omega)]
    simp [wordsB]
  | succ d ih =>
    intro i acc ahead hd ha hh
    have hi : i < l.length := by omega
    refine Ev.step (fun k => block_words.l0.eq_2 ..) (evT (by omega) (evT (by omega) (evT (by omega) ?_)))
    rw [rd_at, words_drop ahead l i hi]
    have he := all_get hall i hi
    generalize l.getD i z45 = x at he ⊢
    have h1 := isF_iff.1 he
    have hr := row_le (ahead := ahead) he
    have hs := shared_le ahead (ky x)
    have e0 : x.f0 = S (ky x) := (S_of _).symm
    have e3 : x.f3 = S (vl x) := (S_of _).symm
    rw [e0, e3]
    refine evBind (shared_ev ahead (ky x) (by omega)) (evBind (num_ev _ (by omega)) (evT (by omega) (evT (by rw [S_size]; omega) ?_)))
    rw [S_extract, S_size, Int.toNat_natCast, List.take_of_length_le (by rw [List.length_drop]; exact Nat.le_refl _)]
    have hd0 : ((ky x).drop (sharedL ahead (ky x))).length ≤ 13 := by rw [List.length_drop]; omega
    simp only [rowB, List.length_append] at hr
    refine evBind (text_ev _ (by omega)) ?_
    rw [S_size, S_size]
    refine evT (by omega) (evBind (num_ev _ (by omega)) ?_)
    rw [S_append, S_size, S_size]
    refine evT (by rw [List.length_append]; omega) (evBind (value_ev _ _ (by omega)) ?_)
    rw [S_append, S_size, S_size]
    refine evT (by rw [List.length_append, List.length_append]; omega) ?_
    rw [S_append, S_size, S_size]
    refine evT (by simp only [List.length_append]; omega) ?_
    rw [S_append, w64 (by omega), show (i : Int) + 1 = ((i + 1 : Nat) : Int) by omega]
    refine evEq (ih (i + 1) _ (ky x) (by omega) (by simp only [List.length_append]; omega) (by omega)) ?_
    simp only [rowB, List.append_assoc]
theorem words_ev (l : List S45) (hl : l.length ≤ 1000000000) (hall : l.all isE = true) : Ev (fun k => block_words.f k l) (S (wordsB [] l)) := by
  refine Ev.congr (fun k => block_words.f.eq_1 ..) ?_
  exact words_l0 l hl hall _ 0 [] [] rfl (by simp) (by simp)
theorem bsize : (S ([] : List UInt8)) = (⟨#[]⟩ : ByteArray) := rfl
theorem make_l0 (l : List S45) (hl : l.length ≤ 1000000000) (d : Nat) : ∀ i : Nat, l.length - i = d → (l.take i).all isE = true →
    Ev (fun k => block_Make.l0 k l l (l.length : Int) (i : Int)) (if (l.drop i).all isE = true then (if sortedB l = true then (S (sealL (wordsB [] l)), 0) else (S [], 16)) else (S [], 10)) := by
  induction d with
  | zero =>
    intro i hd ht
    have hall : l.all isE = true := by rw [List.take_of_length_le (by omega)] at ht; exact ht
    refine Ev.step (fun k => block_Make.l0.eq_2 ..) (evF (by omega) (evBind (sorted_ev l (by omega)) ?_))
    rw [List.drop_eq_nil_of_le (by omega)]
    rw [if_pos (by rfl)]
    by_cases hs : sortedB l = true
    · have hw := words_le [] l hall
      rw [if_pos hs]
      exact evT hs (evBind (words_ev l hl hall) (evBind (seal_ev _ (by omega)) (evSome _)))
    · rw [if_neg hs]
      exact evF hs (evSome _)
  | succ d ih =>
    intro i hd ht
    have hi : i < l.length := by omega
    refine Ev.step (fun k => block_Make.l0.eq_2 ..) (evT (by omega) (evT (by omega) (evT (by omega) ?_)))
    rw [rd_at, drop_cons l z45 i hi, List.all_cons]
    refine evConst (is_ev _ _ _ _) ?_
    by_cases he : isE (l.getD i z45) = true
    · refine evT he ?_
      rw [w64 (by omega), show (i : Int) + 1 = ((i + 1 : Nat) : Int) by omega, he, Bool.true_and]
      refine ih (i + 1) (by omega) ?_
      rw [List.all_eq_true] at ht ⊢
      intro x hx
      rw [List.take_succ_eq_append_getElem hi, List.mem_append] at hx
      rcases hx with hx | hx
      · exact ht x hx
      · rw [List.mem_singleton] at hx
        subst hx
        rw [List.getD_eq_getElem?_getD, List.getElem?_eq_getElem hi] at he
        exact he
    · refine evF he (evEq (evSome _) ?_)
      rw [Bool.not_eq_true] at he
      rw [he, Bool.false_and, if_neg (by simp)]
      rfl
theorem make_ev (l : List S45) (hl : l.length ≤ 1000000000) : Ev (fun k => block_Make.f k l) (S (makeB l).1, (makeB l).2) := by
  refine Ev.congr (fun k => block_Make.f.eq_1 ..) ?_
  unfold makeB
  by_cases h : l = []
  · subst h
    exact evT rfl (evSome _)
  · have hp : 0 < l.length := List.length_pos_iff.2 h
    rw [if_neg h]
    refine evF (by omega) (evEq (make_l0 l hl _ 0 rfl (by rfl)) ?_)
    rw [List.drop_zero]
    repeat' split
    all_goals rfl
/-! What is taken -/
theorem take_stop (L ahead : List UInt8) (acc : List S45) (a : Int) {e : Int} (h : e ≠ 0) : Ev (fun k => block_take.l0 k (S L) acc (S ahead) (S L) a e) (acc, false) := by
  refine Ev.step (fun k => block_take.l0.eq_2 ..) (evF h ?_)
  refine Ev.step (fun k => block_take.j1.eq_2 ..) (evF (by simp) (evEq (evSome _) ?_))
  simp [h]
theorem take_end (L ahead : List UInt8) (acc : List S45) : Ev (fun k => block_take.l0 k (S L) acc (S ahead) (S L) (L.length : Int) 0) (acc, true) := by
  refine Ev.step (fun k => block_take.l0.eq_2 ..) (evT rfl ?_)
  rw [decide_eq_false (by rw [S_size]; omega)]
  exact Ev.step (fun k => block_take.j1.eq_2 ..) (evF (by simp) (evSome _))
theorem take_far (L ahead : List UInt8) (acc : List S45) (hz : L.length ≤ 1000000) (a : Nat) (ha : a < L.length) (hn : ¬ (sN L a 0).1 ≤ ahead.length) :
    Ev (fun k => block_take.l0 k (S L) acc (S ahead) (S L) (a : Int) 0) ([], false) := by
  refine Ev.step (fun k => block_take.l0.eq_2 ..) (evT rfl ?_)
  rw [decide_eq_true (by rw [S_size]; omega)]
  refine Ev.step (fun k => block_take.j1.eq_2 ..) (evT rfl (evBind (sN_ev L (by omega) a (by omega) 0) ?_))
  exact evT (by rw [S_size]; show (sN L a 0).1 > _; omega) (evSome _)
theorem take_round (L ahead : List UInt8) (acc : List S45) (hz : L.length ≤ 1000000) (a : Nat) (ha : a < L.length) (hacc : acc.length ≤ a) (hh : ahead.length ≤ a) (n : Int × Nat × Int) (hn : sN L a 0 = n) (hle : n.1 ≤ ahead.length)
    (s : List UInt8 × Nat × Int) (hs : sT L n.2.1 n.2.2 = s) (q : Int × Nat × Int) (hq : sN L s.2.1 s.2.2 = q) (v : Bool × List UInt8 × Nat × Int) (hv : sV L q.2.1 q.2.2 = v) {res : List S45 × Bool}
    (h : Ev (fun k => block_take.l0 k (S L) (acc ++ [mkE (ahead.take n.1.toNat ++ s.1) q.1 v.1 v.2.1]) (S (ahead.take n.1.toNat ++ s.1)) (S L) (v.2.2.1 : Int) v.2.2.2) res) :
    Ev (fun k => block_take.l0 k (S L) acc (S ahead) (S L) (a : Int) 0) res := by
  have b1 := sN_le L a 0 (by omega)
  rw [hn] at b1
  have b2 := sT_le L n.2.1 n.2.2 b1.2.1
  rw [hs] at b2
  have b3 := sN_le L s.2.1 s.2.2 b2.2.1
  rw [hq] at b3
  refine Ev.step (fun k => block_take.l0.eq_2 ..) (evT rfl ?_)
  rw [decide_eq_true (by rw [S_size]; omega)]
  refine Ev.step (fun k => block_take.j1.eq_2 ..) (evT rfl (evBind (evEq (sN_ev L (by omega) a (by omega) 0) (by rw [hn])) ?_))
  simp only [S_size, S_extract]
  refine evF (by omega) (evT (by omega) (evT (by omega) (evBind (evEq (sT_ev L (by omega) n.2.1 b1.2.1 n.2.2) (by rw [hs])) ?_)))
  simp only [S_size, S_append]
  refine evT (by rw [List.drop_zero, List.length_take]; omega) (evBind (evEq (sN_ev L (by omega) s.2.1 b2.2.1 s.2.2) (by rw [hq])) (evBind (evEq (sV_ev L (by omega) q.2.1 b3.2.1 q.2.2) (by rw [hv])) ?_))
  exact evT (by omega) h
theorem rowT_st (ahead L : List UInt8) (a : Nat) (n : Int × Nat × Int) (hn : sN L a 0 = n) (s : List UInt8 × Nat × Int) (hs : sT L n.2.1 n.2.2 = s) (q : Int × Nat × Int) (hq : sN L s.2.1 s.2.2 = q) (v : Bool × List UInt8 × Nat × Int) (hv : sV L q.2.1 q.2.2 = v) :
    rowT ahead (L.drop a) = if n.1 ≤ ahead.length ∧ v.2.2.2 = 0 then some (ahead.take n.1.toNat ++ s.1, q.1, v.1, v.2.1, v.2.2.1 - a) else none := by
  subst hn
  unfold rowT
  simp only [sN_ok, List.drop_drop] at hs ⊢
  by_cases h1 : (takeNum (L.drop a)).2.2 = 0
  · rw [h1, sT_ok] at hs
    subst hs
    simp only at hq ⊢
    by_cases h2 : (takeText (L.drop (a + (takeNum (L.drop a)).2.1.toNat))).2.2 = 0
    · rw [h2, sN_ok] at hq
      subst hq
      simp only [Nat.add_assoc] at hv ⊢
      by_cases h3 : (takeNum (L.drop (a + ((takeNum (L.drop a)).2.1.toNat + (takeText (L.drop (a + (takeNum (L.drop a)).2.1.toNat))).2.1.toNat)))).2.2 = 0
      · rw [h3, sV_ok] at hv
        subst hv
        simp only [Nat.add_assoc, h1, h2, h3, true_and, Nat.add_sub_cancel_left]
      · rw [sV_err _ _ h3] at hv
        subst hv
        rw [if_neg (fun h => h3 h.2.2.2.1)]; exact (if_neg (fun h => h3 h.2)).symm
    · rw [sN_err _ _ h2] at hq
      subst hq
      rw [sV_err _ _ h2] at hv
      subst hv
      rw [if_neg (fun h => h2 h.2.2.1)]; exact (if_neg (fun h => h2 h.2)).symm
  · rw [sT_err _ _ h1] at hs
    subst hs
    rw [sN_err _ _ h1] at hq
    subst hq
    rw [sV_err _ _ h1] at hv
    subst hv
    rw [if_neg (fun h => h1 h.1)]; exact (if_neg (fun h => h1 h.2)).symm
theorem take_l0 (L : List UInt8) (hz : L.length ≤ 1000000) (m : Nat) : ∀ (a : Nat) (acc : List S45) (ahead : List UInt8), a ≤ L.length → L.length - a ≤ m → acc.length ≤ a → ahead.length ≤ a →
    (∀ r, takeB m ahead (L.drop a) = some r → Ev (fun k => block_take.l0 k (S L) acc (S ahead) (S L) (a : Int) 0) (acc ++ r, true)) ∧
    (takeB m ahead (L.drop a) = none → ∃ J : List S45, J.length ≤ L.length + 1 ∧ Ev (fun k => block_take.l0 k (S L) acc (S ahead) (S L) (a : Int) 0) (J, false)) := by
  induction m with
  | zero =>
    intro a acc ahead h1 h2 h3 h4
    obtain rfl : a = L.length := by omega
    rw [List.drop_length]
    refine ⟨fun r hr => ?_, fun h => ?_⟩
    · simp only [takeB, if_true, Option.some.injEq] at hr
      subst hr
      rw [List.append_nil]
      exact take_end L ahead acc
    · simp [takeB] at h
  | succ m ih =>
    intro a acc ahead h1 h2 h3 h4
    by_cases ha : a = L.length
    · subst ha
      rw [List.drop_length]
      refine ⟨fun r hr => ?_, fun h => ?_⟩
      · simp only [takeB, if_true, Option.some.injEq] at hr
        subst hr
        rw [List.append_nil]
        exact take_end L ahead acc
      · simp [takeB] at h
    · have hlt : a < L.length := by omega
      have hne : ¬ L.drop a = [] := by
        intro hn
        have := congrArg List.length hn
        rw [List.length_drop, List.length_nil] at this
        omega
      obtain ⟨n, hn⟩ : ∃ n, sN L a 0 = n := ⟨_, rfl⟩
      obtain ⟨s, hs⟩ : ∃ s, sT L n.2.1 n.2.2 = s := ⟨_, rfl⟩
      obtain ⟨q, hq⟩ : ∃ q, sN L s.2.1 s.2.2 = q := ⟨_, rfl⟩
      obtain ⟨v, hv⟩ : ∃ v, sV L q.2.1 q.2.2 = v := ⟨_, rfl⟩
      have b1 := sN_le L a 0 (by omega)
      rw [hn] at b1
      have b2 := sT_le L n.2.1 n.2.2 b1.2.1
      rw [hs] at b2
      have b3 := sN_le L s.2.1 s.2.2 b2.2.1
      rw [hq] at b3
      have b4 := sV_le L q.2.1 q.2.2 b3.2.1
      rw [hv] at b4
      rw [takeB, if_neg hne]
      have hrow := rowT_st ahead L a n hn s hs q hq v hv
      by_cases hle : n.1 ≤ ahead.length
      · by_cases he : v.2.2.2 = 0
        · rw [if_pos ⟨hle, he⟩] at hrow
          have hp := rowT_pos hrow
          rw [hrow]
          simp only [Option.bind_some, List.drop_drop]
          rw [show a + (v.2.2.1 - a) = v.2.2.1 by omega]
          have hi := ih v.2.2.1 (acc ++ [mkE (ahead.take n.1.toNat ++ s.1) q.1 v.1 v.2.1]) (ahead.take n.1.toNat ++ s.1) b4.2.1 (by omega) (by rw [List.length_append]; simp; omega) (by rw [List.length_append, List.length_take]; omega)
          refine ⟨fun r hr => ?_, fun h => ?_⟩
          · rw [Option.map_eq_some_iff] at hr
            obtain ⟨r2, hr2, rfl⟩ := hr
            refine take_round L ahead acc hz a hlt h3 h4 n hn hle s hs q hq v hv ?_
            rw [he]
            have := hi.1 r2 hr2
            rw [List.append_assoc] at this
            exact this
          · rw [Option.map_eq_none_iff] at h
            obtain ⟨J, hJ, hE⟩ := hi.2 h
            refine ⟨J, hJ, take_round L ahead acc hz a hlt h3 h4 n hn hle s hs q hq v hv ?_⟩
            rw [he]
            exact hE
        · rw [if_neg (fun h => he h.2)] at hrow
          rw [hrow]
          refine ⟨fun r hr => by simp at hr, fun _ => ?_⟩
          exact ⟨acc ++ [mkE (ahead.take n.1.toNat ++ s.1) q.1 v.1 v.2.1], by rw [List.length_append]; simp; omega, take_round L ahead acc hz a hlt h3 h4 n hn hle s hs q hq v hv (take_stop _ _ _ _ he)⟩
      · rw [if_neg (fun h => hle h.1)] at hrow
        rw [hrow]
        refine ⟨fun r hr => by simp at hr, fun _ => ?_⟩
        exact ⟨[], by simp, take_far L ahead acc hz a hlt (by rw [hn]; exact hle)⟩
/-! What is read -/
theorem bread_ev (l : List UInt8) (hz : l.length ≤ 1000000) : Ev (fun k => block_Read.f k (S l)) (readB l) := by
  refine Ev.congr (fun k => block_Read.f.eq_1 ..) (evBind (open_ev l (by omega)) ?_)
  rw [S_size]
  unfold readB
  by_cases h0 : (openS l).2.2 = 0
  · have hk := openS_ok h0
    rw [if_pos h0]
    refine evT h0 ?_
    by_cases h1 : (openS l).2.1 < (l.length : Int)
    · rw [if_pos h1]
      exact evT h1 (evSome _)
    · rw [if_neg h1]
      refine evF h1 ?_
      have ht := take_l0 (openS l).1 (by omega) (openS l).1.length 0 [] [] (by omega) (by omega) (by simp) (by simp)
      rw [List.drop_zero] at ht
      cases hb : takeB (openS l).1.length [] (openS l).1 with
      | none =>
        obtain ⟨J, hJ, hE⟩ := ht.2 hb
        refine evBind (Ev.congr (fun k => block_take.f.eq_1 ..) hE) (evBind (make_ev J (by omega)) (evF (by simp) (evSome _)))
      | some r =>
        have hE := ht.1 r hb
        rw [List.nil_append] at hE
        have hw := takeB_len _ _ _ _ hb
        refine evBind (Ev.congr (fun k => block_take.f.eq_1 ..) hE) (evBind (make_ev r (by omega)) (evT rfl ?_))
        simp only
        by_cases h2 : (makeB r).2 = 0
        · refine evT h2 ?_
          by_cases h3 : (makeB r).1 = l
          · rw [if_pos (Prod.ext h3 h2)]
            exact evT (by rw [h3]) (evSome _)
          · rw [if_neg (fun h => h3 (congrArg Prod.fst h))]
            exact evF (by rw [S_toList, S_toList]; exact h3) (evSome _)
        · rw [if_neg (fun h => h2 (congrArg Prod.snd h))]
          exact evF h2 (evSome _)
  · rw [if_neg h0]
    exact evF h0 (evSome _)
end Go.Proofs.Ythohfmfgijckhaa.Q
