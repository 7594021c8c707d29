/- Proved: the law EntryBack is true of every two entries, whatever stands behind, every cut. -/
import Derived.Test.YtggmgenofmfdpaaQKnown6
import Derived.Test.YtggmgenofmfdpaaPx28
namespace Go.Proofs.Ytggmgenofmfdpaa.P
end Go.Proofs.Ytggmgenofmfdpaa.P
namespace Go.Proofs.Ytggmgenofmfdpaa.Q
end Go.Proofs.Ytggmgenofmfdpaa.Q
namespace Go.Proofs.Ytggmgenofmfdpaa.Pure
open Go.RowKit Go.Proofs.Ytggmgenofmfdpaa.P Go.Proofs.YtggmgenofmfdpaaW.PrintWords Go.Proofs.YtggmgenofmfdpaaW.PrintLast Go.Proofs.YtggmgenofmfdpaaW.PrintMore Go.Proofs.Ytggmgenofmfdpaa.Q
set_option linter.unusedVariables false
set_option linter.unusedSimpArgs false
theorem cut_mod {c len : Nat} (hc : c ≤ 255) (hl : 0 < len) : Int.tmod (wrap64 (c : Int)) (len : Int) = ((c % len : Nat) : Int) := by
  rw [w64 (by omega), Int.tmod_eq_emod_of_nonneg (by omega)]
  omega
theorem back_main (a0 : List UInt8) (a1 : Int) (a2 : Bool) (a3 : List UInt8) (b0 : List UInt8) (b1 : Int) (b2 : Bool) (b3 : List UInt8) (more : List UInt8) (c : Nat) (ha : isF a0 a1 a2 a3 = true) (hb : isF b0 b1 b2 b3 = true) (hm : more.length ≤ 100) (hc : c ≤ 255) :
    Ev (fun k => ravelinlaw6_EntryBack.j0 k (S more) (c : Int) false (S a0) a1 a2 (S a3) (S b0) b1 b2 (S b3)) true := by
  have hr := row_len ha
  refine Ev.step (fun k => ravelinlaw6_EntryBack.j0.eq_2 ..) (evF (by simp) (evBind (bytes_ev6 _ _ _ _) ?_))
  rw [bytesF_some ha, S_append, S_size, S_size]
  refine evT (by omega) (evBind (read_ev _ (by rw [List.length_append]; omega)) (evF (by omega) ?_))
  rw [readE_row ha, cut_mod hc (by omega)]
  have m1 := Nat.mod_lt c (show 0 < (rowL a0 a1 a2 a3).length by omega)
  refine evT (by omega) (evT (by omega) ?_)
  rw [S_extract, Int.toNat_natCast]
  simp only [List.drop_zero, Nat.sub_zero]
  refine evBind (read_ev _ (by rw [List.length_take]; omega)) ?_
  rw [readE_cut ha m1]
  refine evT rfl (evT (by simp [tr6]) (evT rfl (evT rfl (evBind (bytes_ev6 _ _ _ _) (evEq (evSome _) ?_)))))
  rw [bytesF_some hb]
  simp only [S_toList]
  rw [beq_iff_eq]
  apply Bool.eq_iff_iff.2
  simp only [beq_iff_eq, Bool.and_eq_true]
  constructor
  · intro e
    obtain ⟨h1, h2, h3, h4⟩ := row_inj hb ha e
    exact ⟨h1.symm, h2.symm, h3.symm, h4.symm⟩
  · rintro ⟨rfl, rfl, rfl, rfl⟩; rfl
theorem EntryBack : ravelinlaw6_EntryBack.Pure := by
  intro a0 a1 a2 a3 b0 b1 b2 b3 more c _ _ _ _ _ _ hm hc
  obtain ⟨a0, rfl⟩ : ∃ l, a0 = S l := ⟨_, (S_of _).symm⟩
  obtain ⟨a3, rfl⟩ : ∃ l, a3 = S l := ⟨_, (S_of _).symm⟩
  obtain ⟨b0, rfl⟩ : ∃ l, b0 = S l := ⟨_, (S_of _).symm⟩
  obtain ⟨b3, rfl⟩ : ∃ l, b3 = S l := ⟨_, (S_of _).symm⟩
  obtain ⟨more, rfl⟩ : ∃ l, more = S l := ⟨_, (S_of _).symm⟩
  have hc := wf_u8 hc
  refine Ev.rounds (Ev.congr (fun k => ravelinlaw6_EntryBack.f.eq_1 ..) (evBind known6 (evT rfl ?_)))
  have yes : Ev (fun k => ravelinlaw6_EntryBack.j0 k (S more) c true (S a0) a1 a2 (S a3) (S b0) b1 b2 (S b3)) true := Ev.step (fun k => ravelinlaw6_EntryBack.j0.eq_2 ..) (evT rfl (evSome _))
  refine evBind (few_ev _ (by simp)) ?_
  by_cases h1 : fewB [(⟨S a0, a1, a2, S a3⟩ : S23), ⟨S b0, b1, b2, S b3⟩] = true
  · refine evT h1 (evConst (is_ev _ _ _ _) ?_)
    simp only [S_data]
    by_cases h2 : isF a0 a1 a2 a3 = true
    · refine evT h2 (evConst (is_ev _ _ _ _) ?_)
      simp only [S_data]
      by_cases h3 : isF b0 b1 b2 b3 = true
      · refine evT h3 ?_
        rw [S_size]
        by_cases h4 : (more.length : Int) > 100
        · rw [decide_eq_true h4]; exact yes
        rw [decide_eq_false h4]
        have := back_main a0 a1 a2 a3 b0 b1 b2 b3 more c.toNat h2 h3 (by omega) (by omega)
        rw [Int.toNat_of_nonneg hc.1] at this
        exact this
      · exact evF h3 yes
    · exact evF h2 yes
  · exact evF h1 yes
end Go.Proofs.Ytggmgenofmfdpaa.Pure
