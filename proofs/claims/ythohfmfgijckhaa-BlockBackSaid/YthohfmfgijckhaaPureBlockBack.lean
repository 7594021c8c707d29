/- Proved: the law BlockBack is true of every entries, every place, every byte. -/
import Derived.Test.YthohfmfgijckhaaQKnown8
import Derived.Test.YthohfmfgijckhaaQXor
import Derived.Test.YthohfmfgijckhaaPureBlockTells
import Derived.Test.YthohfmfgijckhaaPx14
namespace Go.Proofs.Ythohfmfgijckhaa.P
end Go.Proofs.Ythohfmfgijckhaa.P
namespace Go.Proofs.Ythohfmfgijckhaa.Q
end Go.Proofs.Ythohfmfgijckhaa.Q
namespace Go.Proofs.Ythohfmfgijckhaa.Pure
open Go.RowKit Go.Proofs.Ythohfmfgijckhaa.P Go.Proofs.YthohfmfgijckhaaW.PrintWords Go.Proofs.YthohfmfgijckhaaW.PrintLast Go.Proofs.YthohfmfgijckhaaW.PrintMore Go.Proofs.Ythohfmfgijckhaa.Q
set_option linter.unusedVariables false
set_option linter.unusedSimpArgs false
theorem wf_u16 {n : Int} (h : (Lit.int .u16 n).wf = true) : 0 ≤ n ∧ n ≤ 65535 := by
  simp only [Lit.wf, IntKind.min, IntKind.max, IntKind.signed, IntKind.bits, Bool.and_eq_true, decide_eq_true_eq] at h
  simpa using h
theorem at_mod (a : Nat) (n : Nat) (ha : a ≤ 65535) (hn : 0 < n) : Int.tmod (wrap64 (a : Int)) (n : Int) = ((a % n : Nat) : Int) ∧ a % n < n := by
  refine ⟨?_, Nat.mod_lt _ hn⟩
  rw [w64 (by omega), Int.tmod_eq_emod_of_nonneg (by omega)]
  omega
theorem byte_of {b : Int} (h : 0 ≤ b ∧ b ≤ 255) : ∃ y : UInt8, b = ((y.toNat : Nat) : Int) ∧ (b = 0 ↔ y = 0) := by
  refine ⟨UInt8.ofNat b.toNat, by simp; omega, ?_⟩
  constructor
  · rintro rfl; rfl
  · intro hy
    have := congrArg UInt8.toNat hy
    simp at this
    omega
theorem makeB_bad {l : List S45} (h : (makeB l).2 ≠ 0) : (makeB l).1 = [] := by
  unfold makeB at h ⊢
  repeat' split
  all_goals simp_all
theorem turned_read {w : List UInt8} {k : Nat} {y : UInt8} (hw : w.length ≤ 1000000) (hk : k < (sealL w).length) (h : (readB (turnL (sealL w) k y)).2 = 0) : y = 0 := by
  have h1 := readB_ok (l := turnL (sealL w) k y) (r := (readB (turnL (sealL w) k y)).1) (by rw [← h])
  obtain ⟨_, _, _, h2⟩ := makeB_ok (l := (readB (turnL (sealL w) k y)).1) (by rw [h1])
  rw [h1] at h2
  simp only at h2
  have h3 := congrArg List.length h2
  rw [turn_len _ _ _ hk, sealL_len, sealL_len, numL_len] at h3
  have h4 := be8 (n := w.length) (by omega)
  exact seal_turned (by omega) (by omega) hk h2
theorem BlockBack : ravelinlaw8_BlockBack.Pure := by
  intro l a b hl _ ha hb
  have ha2 := wf_u16 ha
  obtain ⟨a, rfl⟩ := Int.eq_ofNat_of_zero_le ha2.1
  obtain ⟨y, rfl, hy⟩ := byte_of (wf_u8 hb)
  refine Ev.rounds (Ev.congr (fun k => ravelinlaw8_BlockBack.f.eq_1 ..) (evBind known8 (evT rfl ?_)))
  obtain ⟨c, hc, hc2⟩ := few8_ev l hl
  refine evBind hc ?_
  cases c with
  | false => exact evF (by simp) (evSome _)
  | true =>
    have hlen := hc2 rfl
    refine evT rfl (evBind (make_ev l (by omega)) ?_)
    by_cases h0 : (makeB l).2 = 0
    · obtain ⟨h1, h2, h3, h4⟩ := makeB_ok h0
      have hw := words_le [] l h2
      have hp : 0 < l.length := List.length_pos_iff.2 h1
      have hm := readB_make h0 (by omega)
      have hmk : makeB l = (sealL (wordsB [] l), 0) := Prod.ext h4 h0
      rw [h4] at hm ⊢
      rw [h0]
      generalize wordsB [] l = w at hw hm hmk ⊢
      have hsl := sealL_len w
      have hnl := numL_len w.length
      have hn8 := be8 (n := w.length) (by omega)
      refine evT rfl (evBind (evEq (bread_ev (sealL w) (by omega)) hm) (evT rfl (evBind (same_ev l (by omega)) (evT rfl ?_))))
      rw [S_size, decide_eq_false (by omega)]
      refine Ev.step (fun k => ravelinlaw8_BlockBack.j0.eq_2 ..) (evF (by simp) ?_)
      rw [S_size]
      obtain ⟨e1, e2⟩ := at_mod a (sealL w).length (by omega) (by omega)
      rw [e1]
      generalize a % (sealL w).length = k at e2
      refine evF (by omega) (evT (by omega) (evT (by omega) ?_))
      rw [turn_conv _ _ _ e2]
      have ht := turn_len (sealL w) k y e2
      refine evBind (bread_ev _ (by omega)) (evT (by omega) ?_)
      rw [S_extract, List.drop_zero, Nat.sub_zero, Int.toNat_natCast]
      have hcut : readB ((sealL w).take k) = ([], 12) := by
        unfold readB
        rw [openS_cut (by omega) e2]
        rfl
      refine evBind (evEq (bread_ev _ (by rw [List.length_take]; omega)) hcut) ?_
      have hop := openS_seal (s := w) (by omega) []
      rw [List.append_nil] at hop
      refine evBind (evEq (ropen_ev (sealL w) (by omega)) (by rw [hop])) ?_
      simp only [tr4, S_size]
      obtain ⟨e3, e4⟩ := at_mod a w.length (by omega) (by omega)
      rw [e3]
      generalize a % w.length = j at e4
      refine evF (by omega) (evT (by omega) (evT (by omega) ?_))
      rw [turn_conv _ _ _ e4]
      have hu := turn_len w j y e4
      generalize turnL w j y = u at hu
      have hsu := sealL_len u
      have hnu := numL_len u.length
      have hnu8 := be8 (n := u.length) (by omega)
      refine evBind (rseal_ev u (by omega)) (evBind (bread_ev (sealL u) (by omega)) ?_)
      have hzl := readB_len (sealL u)
      refine evBind (make_ev _ (by omega)) ?_
      by_cases h5 : (readB (turnL (sealL w) k y)).2 = 0
      · have hy0 := turned_read (by omega) e2 h5
        refine evT (by rw [h5, hy.2 hy0]; rfl) (evT h5 (evT trivial (evT rfl ?_)))
        by_cases h7 : (readB (sealL u)).2 = 0
        · have h6 := readB_ok (l := sealL u) (r := (readB (sealL u)).1) (by rw [← h7])
          refine evT h7 (evT (by rw [h6]) (evEq (evSome _) ?_))
          rw [h6]; simp
        · have h6 := readB_err h7
          exact evF h7 (evT (by rw [h6]; rfl) (evSome _))
      · have hyn : ¬ y = 0 := by
          rintro rfl
          rw [turn_zero _ _ e2, hm] at h5
          exact h5 rfl
        have h8 := readB_err h5
        have hyb : (((y.toNat : Nat) : Int) == 0) = false := by
          rw [beq_eq_false_iff_ne]
          exact fun hh => hyn (hy.1 hh)
        have hgb : ((readB (turnL (sealL w) k y)).2 == 0) = false := beq_eq_false_iff_ne.2 h5
        refine evT (by rw [hyb, hgb]; rfl) (evF h5 (evT (by rw [h8]; rfl) (evT trivial (evT rfl ?_))))
        by_cases h7 : (readB (sealL u)).2 = 0
        · have h6 := readB_ok (l := sealL u) (r := (readB (sealL u)).1) (by rw [← h7])
          refine evT h7 (evT (by rw [h6]) (evEq (evSome _) ?_))
          rw [h6]; simp
        · have h6 := readB_err h7
          exact evF h7 (evT (by rw [h6]; rfl) (evSome _))
    · refine evF h0 (evEq (evSome _) ?_)
      rw [makeB_bad h0, S_toList]; rfl
end Go.Proofs.Ythohfmfgijckhaa.Pure
