import Derived.Test.YtnjbmcjhhadojaaQBatchImpl
import Derived.Test.YtnjbmcjhhadojaaM5
namespace Go.Proofs.Ytnjbmcjhhadojaa.P
end Go.Proofs.Ytnjbmcjhhadojaa.P
namespace Go.Proofs.Ytnjbmcjhhadojaa.Q
end Go.Proofs.Ytnjbmcjhhadojaa.Q
namespace Go.Proofs.Ytnjbmcjhhadojaa.Q
open Go.RowKit Go.Proofs.Ytnjbmcjhhadojaa.P Go.Proofs.YtnjbmcjhhadojaaW.PrintWords Go.Proofs.YtnjbmcjhhadojaaW.PrintLast Go.Proofs.YtnjbmcjhhadojaaW.PrintMore
set_option linter.unusedVariables false
set_option linter.unusedSimpArgs false
/-! A write put into a row in order, in place of the one of its key -/
def keepW (w : S49) (l : List S49) : List S49 := l.filter fun o => !(wk o == wk w)
def withW (w : S49) : List S49 → List S49
  | [] => [w]
  | x :: t => if Op.bytesLess (wk x) (wk w) = true then x :: withW w t else w :: keepW w (x :: t)
theorem withW_perm (w : S49) : ∀ l : List S49, (withW w l).Perm (keepW w l ++ [w])
  | [] => List.Perm.refl _
  | x :: t => by
    unfold withW
    split
    · rename_i hb
      have hne : wk x ≠ wk w := lt_ne hb
      have e : keepW w (x :: t) = x :: keepW w t := by simp [keepW, hne]
      rw [e, List.cons_append]
      exact (withW_perm w t).cons x
    · exact (List.perm_append_singleton w _).symm
theorem withW_sorted (w : S49) : ∀ l : List S49, l.Pairwise (fun a b => batch_Neat.lt b a = false) → (withW w l).Pairwise (fun a b => batch_Neat.lt b a = false)
  | [], _ => by simp [withW]
  | x :: t, h => by
    have h1 := List.pairwise_cons.1 h
    unfold withW
    split
    · rename_i hb
      refine List.pairwise_cons.2 ⟨fun b hb2 => ?_, withW_sorted w t h1.2⟩
      have hm := (withW_perm w t).mem_iff.1 hb2
      rcases List.mem_append.1 hm with hm | hm
      · exact h1.1 b (List.mem_filter.1 hm).1
      · rw [List.mem_singleton.1 hm]
        exact lt_asymm hb
    · rename_i hb
      have hb : batch_Neat.lt x w = false := Bool.eq_false_iff.2 hb
      refine List.pairwise_cons.2 ⟨fun b hb2 => ?_, h.sublist List.filter_sublist⟩
      have hm := (List.mem_filter.1 hb2).1
      rcases List.mem_cons.1 hm with rfl | hm
      · exact hb
      · exact batch_Neat.lt_ntrans (h1.1 b hm) hb
theorem lastW_snoc (w : S49) : ∀ l : List S49, lastW (l ++ [w]) = keepW w (lastW l) ++ [w]
  | [] => by simp [lastW, keepW]
  | x :: t => by
    have ih := lastW_snoc w t
    rw [List.cons_append, lastW, lastW, ih, List.any_append]
    by_cases h1 : (t.any fun o => wk o == wk x) = true
    · rw [h1, Bool.true_or, if_pos rfl, if_pos rfl]
    · have h1 := Bool.eq_false_iff.2 h1
      rw [h1, Bool.false_or]
      by_cases h2 : wk w = wk x
      · rw [if_pos (by simp [h2]), if_neg (by simp)]
        simp [keepW, h2]
      · have h3 : ¬ wk x = wk w := fun h => h2 h.symm
        rw [if_neg (by simp [h2]), if_neg (by simp)]
        simp [keepW, h3]
theorem neatW_snoc (w : S49) (l : List S49) : withW w (neatW l) = neatW (l ++ [w]) := by
  unfold neatW
  refine batch_Neat.unique (once_last _) ?_ (withW_sorted w _ (batch_Neat.sort_sorted _))
  rw [lastW_snoc]
  refine (withW_perm w _).trans (List.Perm.append_right _ ?_)
  exact (batch_Neat.sort_perm _).filter _
theorem neatW_len (l : List S49) : (neatW l).length ≤ l.length := by
  unfold neatW
  rw [(batch_Neat.sort_perm _).length_eq]
  exact lastW_len l
end Go.Proofs.Ytnjbmcjhhadojaa.Q
