/- Proved: the law BatchShapes is true of every two bytes, every number. -/
import Derived.Test.YtnjbmcjhhadojaaQKnown12
import Derived.Test.YtnjbmcjhhadojaaPx18
namespace Go.Proofs.Ytnjbmcjhhadojaa.P
end Go.Proofs.Ytnjbmcjhhadojaa.P
namespace Go.Proofs.Ytnjbmcjhhadojaa.Q
end Go.Proofs.Ytnjbmcjhhadojaa.Q
namespace Go.Proofs.Ytnjbmcjhhadojaa.Pure
open Go.RowKit Go.Proofs.Ytnjbmcjhhadojaa.P Go.Proofs.YtnjbmcjhhadojaaW.PrintWords Go.Proofs.YtnjbmcjhhadojaaW.PrintLast Go.Proofs.YtnjbmcjhhadojaaW.PrintMore Go.Proofs.Ytnjbmcjhhadojaa.Q
set_option linter.unusedVariables false
set_option linter.unusedSimpArgs false
def rowsK (w : Nat) : List S49 := (List.range w).map fun j => mkW [UInt8.ofNat (97 + j)] false [118]
def swapK (l : List S49) (j : Nat) : List S49 := (l.set j (l.getD (j + 1) z49)).set (j + 1) (l.getD j z49)
theorem rowsK_is : ∀ k : Fin 12, 1 ≤ k.val → isB (rowsK k.val) = decide (k.val ≤ 8) := by decide +kernel
theorem swapK_not : ∀ k : Fin 12, ∀ j : Fin 12, j.val + 1 < k.val → isB (swapK (rowsK k.val) j.val) = false ∧ (neatW (swapK (rowsK k.val) j.val)).length = k.val := by decide +kernel
theorem rowsK_len (k : Nat) : (rowsK k).length = k := by simp [rowsK]
theorem one_byte (i : Nat) (h : i ≤ 100) : strOfNums (([(wrap64 (97 + (i : Int))) % 256] : List Int)) = S [UInt8.ofNat (97 + i)] := by
  rw [← strOf']
  congr 1
  simp only [nm, List.map_cons, List.map_nil]
  rw [w64 (by omega), show (97 : Int) + (i : Int) = ((97 + i : Nat) : Int) by omega, byte_mod]
theorem shapes_j2 (u k : Nat) (hu : u ≤ 255) (h1 : 1 ≤ k) (h2 : k ≤ 11) : Ev (fun n => ravelinlaw12_BatchShapes.j2 n (u : Int) (k : Int) (rowsK k) false) true := by
  refine Ev.step (fun n => ravelinlaw12_BatchShapes.j2.eq_2 ..) (evF (by simp) ?_)
  by_cases hk : (k : Int) > 1
  · refine evT hk ?_
    have e1 : wrap64 ((k : Int) - 1) = ((k - 1 : Nat) : Int) := by rw [w64 (by omega)]; omega
    have e2 : Int.tmod (wrap64 (u : Int)) ((k - 1 : Nat) : Int) = ((u % (k - 1) : Nat) : Int) := by
      rw [w64 (by omega), Int.tmod_eq_emod_of_nonneg (by omega), Int.natCast_emod]
    have hm : u % (k - 1) < k - 1 := Nat.mod_lt _ (by omega)
    rw [e1, e2]
    generalize u % (k - 1) = j at *
    have e3 : wrap64 ((j : Int) + 1) = ((j + 1 : Nat) : Int) := by rw [w64 (by omega)]; omega
    rw [e3, rowsK_len]
    obtain ⟨n1, n2⟩ := swapK_not ⟨k, by omega⟩ ⟨j, by omega⟩ (by show j + 1 < k; omega)
    refine evF (by omega) (evT (by omega) (evT (by omega) (evT (by omega) (evT (by omega) (evConst rfl ?_)))))
    have e4 : ((rowsK k).set ((j : Int)).toNat (⟨(rd_T49 (rowsK k) ((j + 1 : Nat) : Int)).f0, (rd_T49 (rowsK k) ((j + 1 : Nat) : Int)).f1, (rd_T49 (rowsK k) ((j + 1 : Nat) : Int)).f2⟩ : S49)).set (((j + 1 : Nat) : Int)).toNat (⟨(rd_T49 (rowsK k) (j : Int)).f0, (rd_T49 (rowsK k) (j : Int)).f1, (rd_T49 (rowsK k) (j : Int)).f2⟩ : S49) = swapK (rowsK k) j := by
      rw [rd_at, rd_at]; rfl
    rw [e4]
    have hl : (swapK (rowsK k) j).length = k := by simp [swapK, rowsK_len]
    simp only at n1 n2
    refine evBind (bis_ev _ (by omega)) ?_
    rw [n1]
    refine evF (by simp) (evBind (bent_ev 1 _ (by omega)) ?_)
    unfold entB
    rw [n1]
    refine evT (by simp) (evBind (neat_ev _ (by omega)) (evT (by omega) (evSome _)))
  · exact evF hk (evSome _)
theorem shapes_j1 (u k : Nat) (hu : u ≤ 255) (h1 : 1 ≤ k) (h2 : k ≤ 11) (s : Int) :
    Ev (fun n => ravelinlaw12_BatchShapes.j1 n (u : Int) (k : Int) (rowsK k) (decide ((k : Int) ≤ 8)) (S (bytesB s (rowsK k)).1) (bytesB s (rowsK k)).2 (inB s)) true := by
  have hb : isB (rowsK k) = decide ((k : Int) ≤ 8) := by
    rw [rowsK_is ⟨k, by omega⟩ h1, decide_eq_decide]
    show k ≤ 8 ↔ _
    omega
  have J := shapes_j2 u k hu h1 h2
  have hs := sealL_len (payB s (rowsK k))
  refine Ev.step (fun n => ravelinlaw12_BatchShapes.j1.eq_2 ..) (evBind (bis_ev _ (by rw [rowsK_len]; omega)) ?_)
  unfold bytesB
  rw [hb, S_toList]
  generalize decide ((k : Int) ≤ 8) = b at *
  cases b with
  | true =>
    refine evF (by simp) (evT rfl ?_)
    cases inB s with
    | true =>
      refine evF (by simp) ?_
      simp only [Bool.and_self, if_true]
      rw [beq_false_of_ne (by intro e; rw [e, List.length_nil] at hs; omega)]
      exact J
    | false => exact evF (by simp) J
  | false => exact evF (by simp) (evF (by simp) (evF (by simp) J))
theorem shapes_l0 (u k : Nat) (hu : u ≤ 255) (h1 : 1 ≤ k) (h2 : k ≤ 11) (s : Int) (d : Nat) : ∀ i : Nat, i ≤ k → k - i = d →
    Ev (fun n => ravelinlaw12_BatchShapes.l0 n s (u : Int) (k : Int) (rowsK i) (i : Int)) true := by
  induction d with
  | zero =>
    intro i hi hd
    obtain rfl : i = k := by omega
    refine Ev.step (fun n => ravelinlaw12_BatchShapes.l0.eq_2 ..) (evF (by omega) (evBind (bbytes_ev s _ (by rw [rowsK_len]; omega)) ?_))
    have J := shapes_j1 u i hu h1 h2 s
    unfold inB at J
    by_cases c : s ≥ 1
    · rw [decide_eq_true (show 1 ≤ s from c), Bool.true_and] at J
      exact evT c J
    · rw [decide_eq_false (show ¬ 1 ≤ s from c), Bool.false_and] at J
      exact evF c J
  | succ d ih =>
    intro i hi hd
    refine Ev.step (fun n => ravelinlaw12_BatchShapes.l0.eq_2 ..) (evT (by omega) (evT (by rw [rowsK_len]; omega) ?_))
    have e : rowsK i ++ [(⟨S [UInt8.ofNat (97 + i)], false, (⟨#[118]⟩ : ByteArray)⟩ : S49)] = rowsK (i + 1) := by
      simp only [rowsK, List.range_succ, List.map_append, List.map_cons, List.map_nil]
      rfl
    rw [one_byte i (by omega), e, w64 (by omega), show (i : Int) + 1 = ((i + 1 : Nat) : Int) by omega]
    exact ih (i + 1) (by omega) (by omega)
theorem BatchShapes : ravelinlaw12_BatchShapes.Pure := by
  intro a s b ha hs hb
  have ha2 := wf_u8 ha
  have hb2 := wf_u8 hb
  obtain ⟨w, rfl⟩ : ∃ v : Nat, a = (v : Int) := ⟨a.toNat, by omega⟩
  obtain ⟨u, rfl⟩ : ∃ v : Nat, b = (v : Int) := ⟨b.toNat, by omega⟩
  refine Ev.rounds (Ev.congr (fun k => ravelinlaw12_BatchShapes.f.eq_1 ..) (evBind known12 (evT rfl ?_)))
  have e : wrap64 ((wrap64 (Int.tmod (w : Int) 11)) + 1) = ((w % 11 + 1 : Nat) : Int) := by
    rw [Int.tmod_eq_emod_of_nonneg (by omega), w64 (n := (w : Int) % 11) (by omega), w64 (by omega)]; omega
  rw [e]
  exact shapes_l0 u (w % 11 + 1) (by omega) (by omega) (by omega) s _ 0 (by omega) rfl
end Go.Proofs.Ytnjbmcjhhadojaa.Pure
