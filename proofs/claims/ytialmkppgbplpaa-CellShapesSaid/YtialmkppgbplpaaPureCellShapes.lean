/- Proved: the law CellShapes is true of every two bytes and every length. -/
import Derived.Test.YtialmkppgbplpaaQKnown3
import Derived.Test.YtialmkppgbplpaaPx8
namespace Go.Proofs.Ytialmkppgbplpaa.P
end Go.Proofs.Ytialmkppgbplpaa.P
namespace Go.Proofs.Ytialmkppgbplpaa.Q
end Go.Proofs.Ytialmkppgbplpaa.Q
namespace Go.Proofs.Ytialmkppgbplpaa.Pure
open Go.RowKit Go.Proofs.Ytialmkppgbplpaa.P Go.Proofs.YtialmkppgbplpaaW.PrintWords Go.Proofs.YtialmkppgbplpaaW.PrintLast Go.Proofs.YtialmkppgbplpaaW.PrintMore Go.Proofs.Ytialmkppgbplpaa.Q
set_option linter.unusedVariables false
set_option linter.unusedSimpArgs false
theorem shapes_j1 (d : Nat) (hd : d ≤ 255) (n : Nat) (hn : n ≤ 8) (x : List UInt8) (a j e : Int) (ok : Bool)
    (h1 : ok = true → e = 0 ∧ j = (n : Int) + 1 ∧ 0 ≤ a ∧ a < 9223372036854775808 ∧ numL a.toNat = x) (h2 : ok = false → e = 10 ∧ a = 0 ∧ j = 0) :
    Ev (fun k => ravelinlaw3_CellShapes.j1 k (d : Int) (n : Int) (nm x) a j e ok) true := by
  refine Ev.step (fun k => ravelinlaw3_CellShapes.j1.eq_2 ..) ?_
  have e1 : ([(9 + Int.tmod (d : Int) 247) % 256, 1, 2, 3] : List Int) = nm [UInt8.ofNat (9 + d % 247), 1, 2, 3] := by
    rw [Int.tmod_eq_emod_of_nonneg (by omega)]
    simp [nm]
  rw [e1, strOf', strOf']
  refine evBind (takeNum_ev _ (by simp)) ?_
  have e2 : takeNum [UInt8.ofNat (9 + d % 247), 1, 2, 3] = (0, 0, 10) := by
    simp only [takeNum]
    rw [if_pos]
    simp
    omega
  rw [e2]
  cases ok with
  | true =>
    obtain ⟨h3, h4, h5, h6, h7⟩ := h1 rfl
    refine evT rfl (evT h3 (evT (by rw [w64 (by omega)]; exact h4) (evBind (num_ev a h6) ?_)))
    rw [h7]
    exact evT rfl (evSome _)
  | false =>
    obtain ⟨h3, h4, h5⟩ := h2 rfl
    exact evF (by simp) (evT h3 (evT h4 (evT h5 (evSome _))))
theorem shapes_l0 (c d : Nat) (hc : c ≤ 255) (hd : d ≤ 255) (m : Nat) (hm : m ≤ 7) (q : Nat) : ∀ p : Nat, p + q = m →
    Ev (fun k => ravelinlaw3_CellShapes.l0 k (c : Int) (d : Int) ((m + 1 : Nat) : Int) (((m + 1 : Nat) : Int) :: (c : Int) :: (List.replicate p (d : Int) ++ List.replicate q 0)) ((p + 2 : Nat) : Int)) true := by
  induction q with
  | zero =>
    intro p hp
    obtain rfl : p = m := by omega
    refine Ev.step (fun k => ravelinlaw3_CellShapes.l0.eq_2 ..) ?_
    refine evF (by omega) ?_
    have e : (((p + 1 : Nat) : Int) :: (c : Int) :: (List.replicate p (d : Int) ++ List.replicate 0 0)) = nm (UInt8.ofNat (p + 1) :: UInt8.ofNat c :: List.replicate p (UInt8.ofNat d)) := by
      simp [nm]
      omega
    rw [e, strOf']
    refine evBind (takeNum_ev _ (by simp; omega)) ?_
    generalize hx : UInt8.ofNat c :: List.replicate p (UInt8.ofNat d) = t
    have hl : t.length = p + 1 := by rw [← hx]; simp
    have hb : (UInt8.ofNat (p + 1)).toNat = p + 1 := by simp; omega
    have hh : t.head? = some (UInt8.ofNat c) := by rw [← hx]; rfl
    have ht : t.take (p + 1) = t := List.take_of_length_le (by omega)
    have hz : t.head? = some 0 ↔ c = 0 := by
      rw [hh]
      simp only [Option.some.injEq]
      constructor
      · intro h; have := congrArg UInt8.toNat h; simp at this; omega
      · rintro rfl; rfl
    have tk : takeNum (UInt8.ofNat (p + 1) :: t) = if c = 0 then ((0 : Int), (0 : Int), (10 : Int)) else if 9223372036854775808 ≤ val t then (0, 0, 10) else (((val t : Nat) : Int), ((p + 1 : Nat) : Int) + 1, 0) := by
      simp only [takeNum]
      rw [hb, if_neg (by omega), if_neg (by omega), ht]
      by_cases h0 : c = 0
      · rw [if_pos ⟨by omega, hz.2 h0⟩, if_pos h0]
      · rw [if_neg (fun h => h0 (hz.1 h.2)), if_neg h0]
    have yes : c ≠ 0 → val t < 9223372036854775808 → Ev (fun k => ravelinlaw3_CellShapes.j1 k (d : Int) ((p + 1 : Nat) : Int) (nm (UInt8.ofNat (p + 1) :: t)) ((val t : Nat) : Int) (((p + 1 : Nat) : Int) + 1) 0 true) true := by
      intro h1 h2
      refine shapes_j1 d hd (p + 1) (by omega) _ _ _ _ true (fun _ => ⟨rfl, rfl, by omega, by omega, ?_⟩) (fun h => by simp at h)
      rw [Int.toNat_natCast, numL, be_val (fun h => h1 (hz.1 h)), hl]
    have no : Ev (fun k => ravelinlaw3_CellShapes.j1 k (d : Int) ((p + 1 : Nat) : Int) (nm (UInt8.ofNat (p + 1) :: t)) 0 0 10 false) true :=
      shapes_j1 d hd (p + 1) (by omega) _ _ _ _ false (fun h => by simp at h) (fun _ => ⟨rfl, rfl, rfl⟩)
    rw [tk]
    by_cases h0 : c = 0
    · rw [if_pos h0]
      exact evT (by omega) no
    · rw [if_neg h0]
      refine evF (by omega) ?_
      by_cases h1 : p + 1 < 8
      · have hv := val_lt t
        have : 256 ^ t.length ≤ 256 ^ 7 := Nat.pow_le_pow_right (by omega) (by omega)
        rw [if_neg (by omega)]
        exact evT (by omega) (yes h0 (by omega))
      · refine evF (by omega) ?_
        have hp7 : p = 7 := by omega
        have h8 := val8 (UInt8.ofNat c) (List.replicate p (UInt8.ofNat d)) (by simp; omega)
        rw [hx, List.take_of_length_le (by omega)] at h8
        have hcn : (UInt8.ofNat c).toNat = c := by simp; omega
        rw [hcn] at h8
        by_cases h2 : c < 128
        · rw [if_neg (by omega), show decide ((c : Int) < 128) = true by simp; omega]
          exact yes h0 (by omega)
        · rw [if_pos (by omega), show decide ((c : Int) < 128) = false by simp; omega]
          exact no
  | succ q ih =>
    intro p hp
    refine Ev.step (fun k => ravelinlaw3_CellShapes.l0.eq_2 ..) ?_
    refine evT (by omega) (evT (by omega) (evT (by simp; omega) ?_))
    rw [w64 (by omega), show ((p + 2 : Nat) : Int) + 1 = ((p + 1 + 2 : Nat) : Int) by omega, Int.toNat_natCast]
    have e : (((m + 1 : Nat) : Int) :: (c : Int) :: (List.replicate p (d : Int) ++ List.replicate (q + 1) 0)).set (p + 2) (d : Int) = (((m + 1 : Nat) : Int) :: (c : Int) :: (List.replicate (p + 1) (d : Int) ++ List.replicate q 0)) := by
      rw [List.set_cons_succ, List.set_cons_succ, List.set_append_right _ _ (by simp), List.replicate_succ' (n := p)]
      simp [List.replicate_succ]
    rw [e]
    exact ih (p + 1) (by omega)
theorem CellShapes : ravelinlaw3_CellShapes.Pure := by
  intro c d a hc hd ha
  have hc := wf_u8 hc
  have hd := wf_u8 hd
  have ha := wf_u8 ha
  refine Ev.rounds (Ev.congr (fun k => ravelinlaw3_CellShapes.f.eq_1 ..) (evBind known3 (evT rfl ?_)))
  have hm : a.toNat % 8 < 8 := Nat.mod_lt _ (by omega)
  have e1 : wrap64 (wrap64 (Int.tmod a 8) + 1) = ((a.toNat % 8 + 1 : Nat) : Int) := by
    rw [Int.tmod_eq_emod_of_nonneg (by omega), w64 (n := a % 8) (by omega), w64 (by omega)]; omega
  generalize a.toNat % 8 = m at hm e1
  rw [e1, w64 (by omega), show ((m + 1 : Nat) : Int) + 1 = ((m + 2 : Nat) : Int) by omega, Int.toNat_natCast]
  refine evT (by omega) (evT (by omega) (evConst rfl ?_))
  refine evT (by simp; omega) (evT (by simp; omega) ?_)
  have e2 : ((List.replicate (m + 2) (0 : Int)).set (0 : Int).toNat (((m + 1 : Nat) : Int) % 256)).set (1 : Int).toNat c = ((m + 1 : Nat) : Int) :: ((c.toNat : Nat) : Int) :: (List.replicate 0 ((d.toNat : Nat) : Int) ++ List.replicate m 0) := by
    rw [Int.toNat_of_nonneg hc.1, show (((m + 1 : Nat) : Int) % 256) = ((m + 1 : Nat) : Int) by omega]
    simp [List.replicate_succ]
  have := shapes_l0 c.toNat d.toNat (by omega) (by omega) m (by omega) m 0 (by omega)
  rw [← e2, Int.toNat_of_nonneg hc.1, Int.toNat_of_nonneg hd.1] at this
  exact this
end Go.Proofs.Ytialmkppgbplpaa.Pure
