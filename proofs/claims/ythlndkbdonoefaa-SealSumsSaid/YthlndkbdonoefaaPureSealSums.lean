/- Proved: the law SealSums is true of every text, every two bytes, every place. -/
import Derived.Test.YthlndkbdonoefaaQKnown4
import Derived.Test.YthlndkbdonoefaaPx15
namespace Go.Proofs.Ythlndkbdonoefaa.P
end Go.Proofs.Ythlndkbdonoefaa.P
namespace Go.Proofs.Ythlndkbdonoefaa.Q
end Go.Proofs.Ythlndkbdonoefaa.Q
namespace Go.Proofs.Ythlndkbdonoefaa.Pure
open Go.RowKit Go.Proofs.Ythlndkbdonoefaa.P Go.Proofs.YthlndkbdonoefaaW.PrintWords Go.Proofs.YthlndkbdonoefaaW.PrintLast Go.Proofs.YthlndkbdonoefaaW.PrintMore Go.Proofs.Ythlndkbdonoefaa.Q
set_option linter.unusedVariables false
set_option linter.unusedSimpArgs false
theorem sums_snoc (s : List UInt8) (c : UInt8) : sums (s ++ [c]) = step2 (sums s) c := by simp [sums, List.foldl_append]
theorem byte_of {n : Int} (h : (Lit.int .u8 n).wf = true) : ∃ c : UInt8, n = (c.toNat : Int) := by
  have := wf_u8 h
  refine ⟨UInt8.ofNat n.toNat, ?_⟩
  simp
  omega
theorem sums_j0 (s : List UInt8) (c d : UInt8) (i : Nat) (hi : i ≤ s.length) (hs : s.length ≤ 300) :
    Ev (fun k => ravelinlaw4_SealSums.j0 k (S s) (c.toNat : Int) (d.toNat : Int) (((sums (s ++ [c])).1 : Nat) : Int) (((sums (s ++ [c])).2 : Nat) : Int) (i : Int)) true := by
  have e1 : (S s).extract 0 ((i : Nat) : Int).toNat = S (s.take i) := by rw [S_extract, Int.toNat_natCast]; simp
  have e2 : (S s).extract ((i : Nat) : Int).toNat (S s).size = S (s.drop i) := by rw [S_extract, S_size, Int.toNat_natCast, List.take_of_length_le (by simp)]
  have f2 : ∀ a b : UInt8, strOfNums ([(a.toNat : Int), (b.toNat : Int)] : List Int) = S [a, b] := fun a b => strOf' [a, b]
  have f1 : ∀ a : UInt8, strOfNums ([(a.toNat : Int)] : List Int) = S [a] := fun a => strOf' [a]
  have l1 := sums_lt (s ++ [c])
  have t1 := sums_two (s.take i) (s.drop i) c d
  have t2 := sums_one (s.take i) (s.drop i) c d
  have cd : ((c.toNat : Int) = (d.toNat : Int)) ↔ c = d := ⟨fun h => UInt8.toNat_inj.1 (by omega), fun h => by rw [h]⟩
  refine Ev.step (fun k => ravelinlaw4_SealSums.j0.eq_2 ..) ?_
  rw [e1, e2]
  refine evT (by omega) (evT (by rw [S_size]; omega) (evConst rfl ?_))
  simp only [f2, S_append, S_size]
  refine evT (by simp only [List.length_take, List.length_cons, List.length_nil]; omega) (evT (by simp only [List.length_append, List.length_take, List.length_drop, List.length_cons, List.length_nil]; omega) (evConst rfl ?_))
  simp only [f2, S_append, S_size]
  refine evT (by simp only [List.length_take, List.length_cons, List.length_nil]; omega) (evT (by simp only [List.length_append, List.length_take, List.length_drop, List.length_cons, List.length_nil]; omega) (evConst rfl ?_))
  simp only [f1, S_append, S_size]
  refine evT (by simp only [List.length_take, List.length_cons, List.length_nil]; omega) (evT (by simp only [List.length_append, List.length_take, List.length_drop, List.length_cons, List.length_nil]; omega) (evConst rfl ?_))
  simp only [f1, S_append, S_size]
  refine evT (by simp only [List.length_take, List.length_cons, List.length_nil]; omega) (evT (by simp only [List.length_append, List.length_take, List.length_drop, List.length_cons, List.length_nil]; omega) (evConst rfl ?_))
  simp only [f1, S_append, S_size]
  refine evT (by simp only [List.length_cons, List.length_nil]; omega) (evBind (sum_ev _ (by simp only [List.length_append, List.length_cons, List.length_nil]; omega)) ?_)
  refine evT (by unfold sumN; omega) (evBind (sum_ev _ (by simp only [List.length_append, List.length_take, List.length_drop, List.length_cons, List.length_nil]; omega)) (evBind (sum_ev _ (by simp only [List.length_append, List.length_take, List.length_drop, List.length_cons, List.length_nil]; omega)) ?_))
  refine evT ?_ (evBind (sum_ev _ (by simp only [List.length_append, List.length_take, List.length_drop, List.length_cons, List.length_nil]; omega)) (evBind (sum_ev _ (by simp only [List.length_append, List.length_take, List.length_drop, List.length_cons, List.length_nil]; omega)) (evEq (evSome _) ?_)))
  · rw [beq_iff_eq]
    apply Bool.eq_iff_iff.2
    simp only [beq_iff_eq]
    rw [cd, ← t1]
    omega
  · rw [beq_iff_eq]
    apply Bool.eq_iff_iff.2
    simp only [beq_iff_eq]
    rw [cd, ← t2]
    omega
theorem SealSums : ravelinlaw4_SealSums.Pure := by
  intro s c d at_ _ hc hd ha
  obtain ⟨s, rfl⟩ : ∃ l, s = S l := ⟨_, (S_of _).symm⟩
  obtain ⟨c, rfl⟩ := byte_of hc
  obtain ⟨d, rfl⟩ := byte_of hd
  have ha := wf_u8 ha
  refine Ev.rounds (Ev.congr (fun k => ravelinlaw4_SealSums.f.eq_1 ..) (evBind known4 (evT rfl ?_)))
  rw [S_size]
  by_cases h1 : (s.length : Int) > 300
  · exact evT h1 (evSome _)
  refine evF h1 (evBind (sum_ev _ (by omega)) ?_)
  have l1 := sums_lt s
  have hc' := c.toNat_lt
  have e : sums (s ++ [c]) = step2 (sums s) c := sums_snoc s c
  have eA : ((Int.tmod ((sumN s : Nat) : Int) 65536 + ((c.toNat : Int) % 4294967296)) % 4294967296) % 65521 = (((sums (s ++ [c])).1 : Nat) : Int) := by
    rw [Int.tmod_eq_emod_of_nonneg (by omega), e]
    simp only [step2, sumN]
    omega
  have eB : (((Int.tdiv ((sumN s : Nat) : Int) 65536) % 4294967296 + (((sums (s ++ [c])).1 : Nat) : Int)) % 4294967296) % 65521 = (((sums (s ++ [c])).2 : Nat) : Int) := by
    rw [Int.tdiv_eq_ediv_of_nonneg (by omega), e]
    simp only [step2, sumN]
    omega
  rw [eA, eB]
  by_cases h2 : (s.length : Int) > 0
  · refine evT h2 (evF (by omega) ?_)
    obtain ⟨n, rfl⟩ : ∃ n : Nat, at_ = (n : Int) := ⟨at_.toNat, (Int.toNat_of_nonneg ha.1).symm⟩
    have em : Int.tmod (wrap64 (n : Int)) (s.length : Int) = ((n % s.length : Nat) : Int) := by
      rw [w64 (by omega), Int.tmod_eq_emod_of_nonneg (by omega)]
      omega
    have m := Nat.mod_lt n (show 0 < s.length by omega)
    rw [em]
    exact sums_j0 s c d _ (by omega) (by omega)
  · refine evF h2 ?_
    exact sums_j0 s c d 0 (by omega) (by omega)
end Go.Proofs.Ythlndkbdonoefaa.Pure
