import Derived.Test.YthlndkbdonoefaaQSealAll
import Derived.Test.YthlndkbdonoefaaM1
namespace Go.Proofs.Ythlndkbdonoefaa.P
end Go.Proofs.Ythlndkbdonoefaa.P
namespace Go.Proofs.Ythlndkbdonoefaa.Q
end Go.Proofs.Ythlndkbdonoefaa.Q
namespace Go.Proofs.Ythlndkbdonoefaa.Q
open Go.RowKit Go.Proofs.Ythlndkbdonoefaa.P Go.Proofs.YthlndkbdonoefaaW.PrintWords Go.Proofs.YthlndkbdonoefaaW.PrintLast Go.Proofs.YthlndkbdonoefaaW.PrintMore
set_option linter.unusedVariables false
set_option linter.unusedSimpArgs false
theorem known4 : Ev (fun k => ravelinlaw4_known.f k) true := by
  have l1 : (sealL [97, 98, 99]).length = 9 := by rw [sealL_len]; simp [numL, be]
  have l2 : (sealL [97]).length = 7 := by rw [sealL_len]; simp [numL, be]
  have l3 : (sealL [98]).length = 7 := by rw [sealL_len]; simp [numL, be]
  have a1 : allS ((sealL [97] ++ sealL [98]) ++ [122]) = ([[97], [98]], 14) := by
    rw [List.append_assoc, allS_seal (by simp), allS_seal (by simp), allS_neg (by decide), l2, l3]; rfl
  refine Ev.congr (fun k => ravelinlaw4_known.f.eq_1 ..) ?_
  rw [show (⟨#[97, 98, 99]⟩ : ByteArray) = S [97, 98, 99] from rfl, show (⟨#[120]⟩ : ByteArray) = S [120] from rfl, show (⟨#[]⟩ : ByteArray) = S [] from rfl, show (⟨#[1, 0, 0, 0, 0, 120]⟩ : ByteArray) = S [1, 0, 0, 0, 0, 120] from rfl,
    show (⟨#[97]⟩ : ByteArray) = S [97] from rfl, show (⟨#[98]⟩ : ByteArray) = S [98] from rfl, show (⟨#[122]⟩ : ByteArray) = S [122] from rfl]
  refine evBind (seal_ev _ (by simp)) ?_
  rw [S_append, S_size]
  refine evT (by omega) (evBind (open_ev _ (by rw [List.length_append]; simp; omega)) (evBind (open_ev _ (by simp)) (evBind (open_ev _ (by simp)) (evBind (seal_ev _ (by simp)) (evBind (seal_ev _ (by simp)) ?_)))))
  rw [S_append, S_append, S_size, S_size, S_size]
  refine evT (by omega) (evT (by rw [List.length_append]; omega) (evBind (all_ev _ (by rw [List.length_append, List.length_append]; simp; omega)) ?_))
  rw [a1, openS_seal (by simp), l1]
  refine evBind (sum_ev _ (by simp)) (evT (by decide) (evBind (sum_ev _ (by simp)) (evT (by decide) (evT rfl (evT ?_ (evT rfl (evT (by decide) (evT (by decide) (evT rfl (evEq (evSome _) ?_))))))))))
  · show (S [97, 98, 99]).toList = _
    rw [S_toList]
  · rfl
end Go.Proofs.Ythlndkbdonoefaa.Q
