import Derived.Test.YtggmgenofmfdpaaQEntryFind
import Derived.Test.YtggmgenofmfdpaaQEntryRead
import Derived.Test.YtggmgenofmfdpaaM5
import Derived.Test.YtggmgenofmfdpaaM6
namespace Go.Proofs.Ytggmgenofmfdpaa.P
end Go.Proofs.Ytggmgenofmfdpaa.P
namespace Go.Proofs.Ytggmgenofmfdpaa.Q
end Go.Proofs.Ytggmgenofmfdpaa.Q
namespace Go.Proofs.Ytggmgenofmfdpaa.Q
open Go.RowKit Go.Proofs.Ytggmgenofmfdpaa.P Go.Proofs.YtggmgenofmfdpaaW.PrintWords Go.Proofs.YtggmgenofmfdpaaW.PrintLast Go.Proofs.YtggmgenofmfdpaaW.PrintMore
set_option linter.unusedVariables false
set_option linter.unusedSimpArgs false
def fewB (l : List S23) : Bool := l.all (fun e => decide (e.f0.size ≤ 20) && decide (e.f3.size ≤ 40)) && decide (l.length ≤ 60)
theorem few_l0 (l : List S23) (hl : l.length ≤ 9223372036854775807) (n : Nat) : ∀ i : Nat, l.length - i = n →
    Ev (fun k => ravelinlaw6_few.l0 k l (i : Int)) ((l.drop i).all (fun e => decide (e.f0.size ≤ 20) && decide (e.f3.size ≤ 40)) && decide (l.length ≤ 60)) := by
  induction n with
  | zero =>
    intro i hi
    refine Ev.step (fun k => ravelinlaw6_few.l0.eq_2 ..) (evF (by omega) (evEq (evSome _) ?_))
    rw [List.drop_eq_nil_of_le (by omega)]
    simp
    omega
  | succ n ih =>
    intro i hi
    refine Ev.step (fun k => ravelinlaw6_few.l0.eq_2 ..) (evT (by omega) (evT (by omega) ?_))
    have e : rd_T23 l (i : Int) = l.getD i z23 := by unfold rd_T23; rw [Int.toNat_natCast]
    rw [e, drop_cons l z23 i (by omega), List.all_cons]
    by_cases h1 : (l.getD i z23).f0.size ≤ 20
    · refine evF (by omega) ?_
      by_cases h2 : (l.getD i z23).f3.size ≤ 40
      · refine evF (by omega) ?_
        rw [w64 (by omega), show (i : Int) + 1 = ((i + 1 : Nat) : Int) by omega]
        refine evEq (ih (i + 1) (by omega)) ?_
        simp only [h1, h2, decide_true, Bool.true_and]
      · refine evEq (evT (by omega) (evSome _)) ?_
        simp only [h2, decide_false, Bool.and_false, Bool.false_and]
    · refine evEq (evT (by omega) (evSome _)) ?_
      simp only [h1, decide_false, Bool.false_and]
theorem few_ev (l : List S23) (hl : l.length ≤ 9223372036854775807) : Ev (fun k => ravelinlaw6_few.f k l) (fewB l) :=
  Ev.congr (fun k => ravelinlaw6_few.f.eq_1 ..) (few_l0 l hl _ 0 rfl)
theorem few_len {l : List S23} (h : fewB l = true) : l.length ≤ 60 := by
  simp only [fewB, Bool.and_eq_true, decide_eq_true_eq] at h
  exact h.2
theorem few_all {l : List S23} (h : fewB l = true) {e : S23} (he : e ∈ l) : (ky e).length ≤ 20 ∧ (vl e).length ≤ 40 := by
  simp only [fewB, Bool.and_eq_true, List.all_eq_true, decide_eq_true_eq] at h
  have := h.1 e he
  rw [size_data, size_data] at this
  exact this
theorem known6 : Ev (fun k => ravelinlaw6_known.f k) true := by
  have n1 : newestE [⟨⟨#[98]⟩, 3, false, ⟨#[120]⟩⟩, ⟨⟨#[98]⟩, 1, true, ⟨#[]⟩⟩] [98] 2 = (S [98], 1, true, S [], true) := by rfl
  have r1 : isF [98] 3 false [120] = true := by rfl
  have l1 : (rowL [98] 3 false [120]).length = 9 := by simp [rowL, textL, numL, be, valL]
  refine Ev.congr (fun k => ravelinlaw6_known.f.eq_1 ..) (evBind (newest_ev _ (by simp) _ _) ?_)
  rw [show ((⟨#[98]⟩ : ByteArray)).data.toList = [98] from rfl, n1, show (⟨#[98]⟩ : ByteArray) = S [98] from rfl, show (⟨#[120]⟩ : ByteArray) = S [120] from rfl, show (⟨#[122]⟩ : ByteArray) = S [122] from rfl, show (⟨#[1, 1]⟩ : ByteArray) = S [1, 1] from rfl,
    show (⟨#[97]⟩ : ByteArray) = S [97] from rfl, show (⟨#[]⟩ : ByteArray) = S [] from rfl]
  refine evBind (bytes_ev6 _ _ _ _) ?_
  rw [bytesF_some r1, S_append, S_size, l1]
  refine evT (by omega) (evBind (read_ev _ (by rw [List.length_append, l1]; simp)) (evBind (read_ev _ (by simp)) ?_))
  rw [readE_row r1, l1]
  refine evConst (is_ev _ _ _ _) (evT rfl (evConst (is_ev _ _ _ _) (evT rfl (evConst (is_ev _ _ _ _) (evF (by decide) (evBind (less_ev _ _ _ _ _ _ _ _) (evT rfl (evBind (sorted_ev _ (by simp)) (evT rfl (evBind (sorted_ev _ (by simp)) (evF (by decide) ?_)))))))))))
  refine evT rfl (evT ?_ (evT rfl (evT ?_ (evT rfl (evT rfl (evConst (isWrite_ev _ _ _) (evT rfl (evConst (isWrite_ev _ _ _) (evEq (evSome _) ?_)))))))))
  · show ((S [98]).toList == [98] && ((1 : Int) == 1 && (true && (S []).toList == []))) = true
    rw [S_toList, S_toList]; rfl
  · show ((S [98]).toList == [98] && ((3 : Int) == 3 && (!false && (S [120]).toList == [120]))) = true
    rw [S_toList, S_toList]; rfl
  · rfl
end Go.Proofs.Ytggmgenofmfdpaa.Q
