/- Proved: the law SealSpoilt is true of every text, every place, every byte. -/
import Derived.Test.YthlndkbdonoefaaQKnown4
import Derived.Test.YthlndkbdonoefaaQXor
import Derived.Test.YthlndkbdonoefaaPx5
namespace Go.Proofs.Ythlndkbdonoefaa.P
end Go.Proofs.Ythlndkbdonoefaa.P
namespace Go.Proofs.Ythlndkbdonoefaa.Q
end Go.Proofs.Ythlndkbdonoefaa.Q
namespace Go.Proofs.Ythlndkbdonoefaa.Pure
open Go.RowKit Go.Proofs.Ythlndkbdonoefaa.P Go.Proofs.YthlndkbdonoefaaW.PrintWords Go.Proofs.YthlndkbdonoefaaW.PrintLast Go.Proofs.YthlndkbdonoefaaW.PrintMore Go.Proofs.Ythlndkbdonoefaa.Q
set_option linter.unusedVariables false
set_option linter.unusedSimpArgs false
theorem wf_u16 {n : Int} (h : (Lit.int .u16 n).wf = true) : 0 ≤ n ∧ n ≤ 65535 := by
  simp only [Lit.wf, IntKind.min, IntKind.max, IntKind.signed, IntKind.bits, Bool.and_eq_true, decide_eq_true_eq] at h
  simpa using h
theorem at_mod (a : Nat) (n : Nat) (ha : a ≤ 65535) (hn : 0 < n) (hn2 : n ≤ 1000000) : Int.tmod (wrap64 (a : Int)) (n : Int) = ((a % n : Nat) : Int) ∧ a % n < n := by
  refine ⟨?_, Nat.mod_lt _ hn⟩
  rw [w64 (by omega), Int.tmod_eq_emod_of_nonneg (by omega), Int.natCast_emod]
theorem byte_of {b : Int} (h : 0 ≤ b ∧ b ≤ 255) : ∃ y : UInt8, b = ((y.toNat : Nat) : Int) ∧ (b = 0 ↔ y = 0) := by
  refine ⟨UInt8.ofNat b.toNat, by simp; omega, ?_⟩
  constructor
  · rintro rfl; rfl
  · intro hy
    have := congrArg UInt8.toNat hy
    simp at this
    omega
/-- One byte turned: what is told of it. -/
theorem spoilt (s : List UInt8) (k : Nat) (y : UInt8) (hs : s.length ≤ 600) (hk : k < (sealL s).length) :
    ((openS (turnL (sealL s) k y)).2.2 = 0 ∧ (y = 0 ↔ (openS (turnL (sealL s) k y)).1 = s)) ∨ (y ≠ 0 ∧ ((openS (turnL (sealL s) k y)).2.2 = 12 ∨ (openS (turnL (sealL s) k y)).2.2 = 13)) := by
  by_cases h0 : (openS (turnL (sealL s) k y)).2.2 = 0
  · refine Or.inl ⟨h0, ?_⟩
    constructor
    · rintro rfl
      rw [turn_zero _ _ hk]
      have := openS_seal (s := s) (by omega) []
      rw [List.append_nil] at this
      rw [this]
    · intro he
      have hq : openS (turnL (sealL s) k y) = (s, (openS (turnL (sealL s) k y)).2.1, 0) := by
        generalize openS (turnL (sealL s) k y) = o at *
        obtain ⟨o1, o2, o3⟩ := o
        simp only at h0 he ⊢
        rw [h0, he]
      obtain ⟨h1, h2, r, h3⟩ := openS_inv hq
      have hl := congrArg List.length h3
      rw [turn_len _ _ _ hk, List.length_append] at hl
      have hr : r = [] := List.length_eq_zero_iff.1 (by omega)
      subst hr
      rw [List.append_nil] at h3
      exact seal_turned (by omega) (by omega) hk h3
  · refine Or.inr ⟨?_, (openS_zero h0).2.2⟩
    rintro rfl
    apply h0
    rw [turn_zero _ _ hk]
    have := openS_seal (s := s) (by omega) []
    rw [List.append_nil] at this
    rw [this]
theorem SealSpoilt : ravelinlaw4_SealSpoilt.Pure := by
  intro s a b hs ha hb
  obtain ⟨s, rfl⟩ : ∃ l, s = S l := ⟨_, (S_of _).symm⟩
  have ha2 := wf_u16 ha
  obtain ⟨a, rfl⟩ := Int.eq_ofNat_of_zero_le ha2.1
  obtain ⟨y, rfl, hy⟩ := byte_of (wf_u8 hb)
  refine Ev.rounds (Ev.congr (fun k => ravelinlaw4_SealSpoilt.f.eq_1 ..) (evBind known4 (evT rfl ?_)))
  rw [S_size]
  by_cases h1 : (s.length : Int) > 600
  · exact evT h1 (evSome _)
  refine evF h1 (evBind (seal_ev _ (by omega)) ?_)
  have hnl : (numL s.length).length ≤ 9 := by rw [numL_len]; have := be8 (n := s.length) (by omega); omega
  have hl := sealL_len s
  have hn1 : 1 ≤ (numL s.length).length := by rw [numL_len]; omega
  refine evBind (open_ev _ (by omega)) ?_
  have ho := openS_seal (s := s) (by omega) []
  rw [List.append_nil] at ho
  rw [ho]
  refine evT rfl (evT rfl (evT (by rw [S_size]; rfl) ?_))
  rw [S_size, decide_eq_false (by omega)]
  obtain ⟨e1, hk⟩ := at_mod a (sealL s).length (by omega) (by omega) (by omega)
  refine Ev.step (fun k => ravelinlaw4_SealSpoilt.j0.eq_2 ..) (evF (by simp) ?_)
  rw [S_size, e1]
  generalize a % (sealL s).length = k at *
  rw [turn_conv _ _ _ hk, S_extract, Int.toNat_natCast, Nat.sub_zero, List.drop_zero]
  refine evF (by omega) (evT (by omega) (evT (by omega) (evBind (open_ev _ (by rw [turn_len _ _ _ hk]; omega)) (evT (by omega) (evBind (open_ev _ (by rw [List.length_take]; omega)) ?_)))))
  rw [openS_cut (by omega) hk]
  have hsp := spoilt s k y (by omega) hk
  generalize openS (turnL (sealL s) k y) = o at *
  obtain ⟨o1, o2, o3⟩ := o
  simp only [tr4] at hsp ⊢
  rcases hsp with ⟨rfl, h2⟩ | ⟨h2, h3⟩
  · refine evT rfl (evT ?_ (evEq (evSome _) rfl))
    rw [beq_iff_eq]
    apply Bool.eq_iff_iff.2
    rw [beq_iff_eq, beq_iff_eq, hy, h2, S_toList, S_toList]
  · have hb0 : (((y.toNat : Nat) : Int) == 0) = false := beq_false_of_ne (fun h => h2 (hy.1 h))
    rw [hb0]
    rcases h3 with rfl | rfl
    · exact evF (by omega) (evT rfl (evF (by omega) (evT rfl (evEq (evSome _) rfl))))
    · exact evF (by omega) (evT rfl (evT rfl (evEq (evSome _) rfl)))
end Go.Proofs.Ythlndkbdonoefaa.Pure
