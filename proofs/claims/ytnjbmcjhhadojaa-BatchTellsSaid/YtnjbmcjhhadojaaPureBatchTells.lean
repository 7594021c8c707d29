/- Proved: the law BatchTells is true of every row of writes, every number, every text. -/
import Derived.Test.YtnjbmcjhhadojaaQKnown12
import Derived.Test.YtnjbmcjhhadojaaQBatchRef
import Derived.Test.YtnjbmcjhhadojaaPx16
namespace Go.Proofs.Ytnjbmcjhhadojaa.P
end Go.Proofs.Ytnjbmcjhhadojaa.P
namespace Go.Proofs.Ytnjbmcjhhadojaa.Q
end Go.Proofs.Ytnjbmcjhhadojaa.Q
namespace Go.Proofs.Ytnjbmcjhhadojaa.Pure
open Go.RowKit Go.Proofs.Ytnjbmcjhhadojaa.P Go.Proofs.YtnjbmcjhhadojaaW.PrintWords Go.Proofs.YtnjbmcjhhadojaaW.PrintLast Go.Proofs.YtnjbmcjhhadojaaW.PrintMore Go.Proofs.Ytnjbmcjhhadojaa.Q
set_option linter.unusedVariables false
set_option linter.unusedSimpArgs false
theorem logB_len (L : List UInt8) (d : Nat) : ∀ (a : Nat) (acc : List S74) (last : Int), a ≤ L.length → acc.length ≤ 8 * a → (logB L d acc last a).1.length ≤ 8 * L.length := by
  induction d with
  | zero => intro a acc last h1 h2; simp only [logB]; omega
  | succ d ih =>
    intro a acc last h1 h2
    rw [logB]
    have hok := readB_ok (l := L.drop a)
    rw [List.length_drop] at hok
    generalize readB (L.drop a) = r at *
    by_cases c : r.2.2 = 0
    · obtain ⟨k1, k2, k3, k4⟩ := hok c
      rw [if_pos c]
      split
      · simp only; omega
      · refine ih _ _ _ (by omega) ?_
        have hel : (entB r.1.1 r.1.2).length ≤ 8 := by
          unfold entB
          split
          · rw [List.length_map]; omega
          · simp
        rw [List.length_append]
        omega
    · rw [if_neg c]
      simp only
      omega
theorem entB_len (s : Int) (l : List S49) : (entB s l).length ≤ l.length := by
  unfold entB
  split
  · rw [List.length_map]; omega
  · simp
theorem readB_len (l : List UInt8) : (readB l).1.2.length ≤ 8 := by
  by_cases h : (readB l).2.2 = 0
  · exact (readB_ok h).2.2.1
  · unfold readB at h ⊢
    split
    · rename_i h1
      rw [if_pos h1] at h
      split
      · rename_i h2
        rw [if_pos h2] at h
        exact absurd rfl h
      · simp
    · simp
theorem tells_j0 (l : List S49) (hl : l.length ≤ 20) (s : Int) (t : List UInt8) (ht : t.length ≤ 1500) : Ev (fun k => ravelinlaw12_BatchTells.j0 k l s (S t) false) true := by
  have hn := neatW_len l
  have hr := readB_len t
  have hg := logB_len t (t.length + 1) 0 [] 0 (by omega) (by simp)
  have he := entB_len s l
  refine Ev.step (fun k => ravelinlaw12_BatchTells.j0.eq_2 ..) (evF (by simp) ?_)
  refine evBind (bbytes_ev s l (by omega)) (evBind (rbytes_ev s l (by omega)) (evBind (bread_ev t (by omega)) (evBind (rread_ev t (by omega)) (evBind (blog_ev t (by omega)) (evBind (rlog_ev t (by omega)) (evBind (bis_ev l (by omega)) (evBind (ris_ev l (by omega)) (evT (by simp) ?_))))))))
  refine evBind (neat_ev l (by omega)) (evBind (rneat_ev l (by omega)) (evBind (rsameW_ev _ (by omega)) (evT rfl (evT rfl (evT rfl (evT rfl ?_))))))
  refine evBind (rsameW_ev _ (by show (readB t).1.2.length ≤ _; omega)) (evT rfl (evT rfl (evT rfl ?_)))
  refine evBind (rsameE_ev _ (by omega)) (evT rfl (evT rfl (evT rfl ?_)))
  exact evBind (bent_ev s l (by omega)) (evBind (rent_ev s l (by omega)) (evBind (rsameE_ev _ (by omega)) (evSome _)))
theorem BatchTells : ravelinlaw12_BatchTells.Pure := by
  intro l s t hl _ _ _
  obtain ⟨t, rfl⟩ : ∃ x, t = S x := ⟨_, (S_of _).symm⟩
  refine Ev.rounds (Ev.congr (fun k => ravelinlaw12_BatchTells.f.eq_1 ..) (evBind known12 (evT rfl ?_)))
  have yes : Ev (fun k => ravelinlaw12_BatchTells.j0 k l s (S t) true) true := Ev.step (fun k => ravelinlaw12_BatchTells.j0.eq_2 ..) (evT rfl (evSome _))
  obtain ⟨b, hb, hb2⟩ := few12_ev l hl
  refine evBind hb ?_
  cases b with
  | false => exact evF (by simp) yes
  | true =>
    refine evT rfl ?_
    rw [S_size]
    by_cases h : (t.length : Int) > 1500
    · rw [decide_eq_true h]; exact yes
    · rw [decide_eq_false h]
      exact tells_j0 l (hb2 rfl) s t (by omega)
end Go.Proofs.Ytnjbmcjhhadojaa.Pure
