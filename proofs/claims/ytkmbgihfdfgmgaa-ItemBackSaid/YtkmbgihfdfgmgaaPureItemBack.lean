/- Proved: the law ItemBack is true of every item, every text behind it, every place, every byte. -/
import Derived.Test.YtkmbgihfdfgmgaaQKnown18
import Derived.Test.YtkmbgihfdfgmgaaQXor
import Derived.Test.YtkmbgihfdfgmgaaPx18
namespace Go.Proofs.Ytkmbgihfdfgmgaa.P
end Go.Proofs.Ytkmbgihfdfgmgaa.P
namespace Go.Proofs.Ytkmbgihfdfgmgaa.Q
end Go.Proofs.Ytkmbgihfdfgmgaa.Q
namespace Go.Proofs.Ytkmbgihfdfgmgaa.Pure
open Go.RowKit Go.Proofs.Ytkmbgihfdfgmgaa.P Go.Proofs.YtkmbgihfdfgmgaaW.PrintWords Go.Proofs.YtkmbgihfdfgmgaaW.PrintLast Go.Proofs.YtkmbgihfdfgmgaaW.PrintMore Go.Proofs.Ytkmbgihfdfgmgaa.Q
set_option linter.unusedVariables false
set_option linter.unusedSimpArgs false
theorem wf_u16 {n : Int} (h : (Lit.int .u16 n).wf = true) : 0 ≤ n ∧ n ≤ 65535 := by
  simp only [Lit.wf, IntKind.min, IntKind.max, IntKind.signed, IntKind.bits, Bool.and_eq_true, decide_eq_true_eq] at h
  simpa using h
theorem byte_of {b : Int} (h : 0 ≤ b ∧ b ≤ 255) : ∃ y : UInt8, b = ((y.toNat : Nat) : Int) ∧ (b = 0 ↔ y = 0) := by
  refine ⟨UInt8.ofNat b.toNat, by simp; omega, ?_⟩
  constructor
  · rintro rfl; rfl
  · intro hy
    have := congrArg UInt8.toNat hy
    simp at this
    omega
theorem readI_bytes {lv n t : Int} {sh : Bool} {ws : List S39} (h : isI lv n t sh ws = true) (r : List UInt8) : readI (sealL (payI lv n t sh ws) ++ r) = ((lv, n, t, sh, ws), ((sealL (payI lv n t sh ws)).length : Int), 0) := by
  have hp := payI_len h
  have e := openS_seal (s := payI lv n t sh ws) (by omega) r
  have hb : bytesT (lv, n, t, sh, ws) = (sealL (payI lv n t sh ws), 0) := by
    show bytesI lv n t sh ws = _
    unfold bytesI
    rw [if_pos h]
  unfold readI
  rw [e]
  simp only
  rw [takeI_pay h, hb, if_pos trivial, Int.toNat_natCast, List.take_left, if_pos ⟨rfl, rfl⟩]
theorem readI_cut {lv n t : Int} {sh : Bool} {ws : List S39} (h : isI lv n t sh ws = true) {i : Nat} (hi : i < (sealL (payI lv n t sh ws)).length) : (readI ((sealL (payI lv n t sh ws)).take i)).2.2 = 12 := by
  have hp := payI_len h
  unfold readI
  rw [openS_cut (by omega) hi]
  rfl
theorem readI_turned {lv n t : Int} {sh : Bool} {ws : List S39} (h : isI lv n t sh ws = true) {k : Nat} {y : UInt8} (hk : k < (sealL (payI lv n t sh ws)).length)
    (h0 : (readI (turnL (sealL (payI lv n t sh ws)) k y)).2.2 = 0) (h1 : (readI (turnL (sealL (payI lv n t sh ws)) k y)).1 = (lv, n, t, sh, ws)) : y = 0 := by
  have hp := payI_len h
  have hb : bytesT (lv, n, t, sh, ws) = (sealL (payI lv n t sh ws), 0) := by
    show bytesI lv n t sh ws = _
    unfold bytesI
    rw [if_pos h]
  have hl := turn_len _ k y hk
  unfold readI at h0 h1
  by_cases c1 : (openS (turnL (sealL (payI lv n t sh ws)) k y)).2.2 = 0
  · rw [if_pos c1] at h0 h1
    by_cases c2 : (bytesT (takeI (openS (turnL (sealL (payI lv n t sh ws)) k y)).1)).2 = 0 ∧ (bytesT (takeI (openS (turnL (sealL (payI lv n t sh ws)) k y)).1)).1 = (turnL (sealL (payI lv n t sh ws)) k y).take (openS (turnL (sealL (payI lv n t sh ws)) k y)).2.1.toNat
    · rw [if_pos c2] at h1
      simp only at h1
      have c3 := c2.2
      rw [h1, hb] at c3
      simp only at c3
      have hl2 := congrArg List.length c3
      rw [List.length_take] at hl2
      rw [List.take_of_length_le (by omega)] at c3
      exact seal_turned (by omega) (by omega) hk c3.symm
    · rw [if_neg c2] at h0
      exact absurd h0 (by simp)
  · rw [if_neg c1] at h0
    exact absurd h0 c1
theorem at_mod (a : Nat) (n : Nat) (ha : a ≤ 65535) (hn : 0 < n) (hn2 : n ≤ 1000000) : Int.tmod (wrap64 (a : Int)) (n : Int) = ((a % n : Nat) : Int) ∧ a % n < n := by
  refine ⟨?_, Nat.mod_lt _ hn⟩
  rw [w64 (by omega), Int.tmod_eq_emod_of_nonneg (by omega), Int.natCast_emod]
theorem ItemBack : ravelinlaw18_ItemBack.Pure := by
  intro lv n t sh ws more a b _ _ _ hl _ _ ha hb
  obtain ⟨more, rfl⟩ : ∃ l, more = S l := ⟨_, (S_of _).symm⟩
  have ha2 := wf_u16 ha
  obtain ⟨a, rfl⟩ := Int.eq_ofNat_of_zero_le ha2.1
  obtain ⟨y, rfl, hy⟩ := byte_of (wf_u8 hb)
  refine Ev.rounds (Ev.congr (fun k => ravelinlaw18_ItemBack.f.eq_1 ..) (evBind known18 (evT rfl ?_)))
  rw [S_size]
  have yes : Ev (fun k => ravelinlaw18_ItemBack.j0 k (S more) (a : Int) ((y.toNat : Nat) : Int) true lv n t sh ws) true := Ev.step (fun k => ravelinlaw18_ItemBack.j0.eq_2 ..) (evT rfl (evSome _))
  obtain ⟨c, hc, hc2⟩ := few18_ev lv n t sh ws hl
  refine evBind hc ?_
  cases c with
  | false => exact evF (by simp) yes
  | true =>
    have hlen := hc2 rfl
    refine evT rfl (evBind (is_ev lv n t sh ws (by omega)) ?_)
    cases h : isI lv n t sh ws with
    | false => exact evF (by simp) yes
    | true =>
      refine evT rfl ?_
      by_cases h1 : (more.length : Int) > 200
      · rw [decide_eq_true h1]; exact yes
      rw [decide_eq_false h1]
      have hp := payI_len h
      have hsl := sealL_len (payI lv n t sh ws)
      have hnl := numL_le (n := (payI lv n t sh ws).length) (by omega)
      have hn0 := numL_len (payI lv n t sh ws).length
      have hby : bytesI lv n t sh ws = (sealL (payI lv n t sh ws), 0) := by
        unfold bytesI
        rw [if_pos h]
      have hread := readI_bytes h
      have hcut := fun i (hi : i < (sealL (payI lv n t sh ws)).length) => readI_cut h hi
      have hturn := fun k y (hk : k < (sealL (payI lv n t sh ws)).length) => readI_turned (y := y) h hk
      refine Ev.step (fun k => ravelinlaw18_ItemBack.j0.eq_2 ..) (evF (by simp) (evBind (ibytes_ev lv n t sh ws (by omega)) ?_))
      rw [hby]
      simp only
      generalize sealL (payI lv n t sh ws) = w at *
      rw [S_append, S_size, S_size]
      refine evT (by omega) (evBind (read_ev _ (by rw [List.length_append]; omega)) ?_)
      rw [hread more]
      simp only [flatI]
      obtain ⟨r, hr, hr2⟩ := same_ev lv n t sh ws lv n t sh ws (by omega)
      obtain rfl : r = true := hr2.2 rfl
      refine evT trivial (evT trivial (evT trivial (evBind hr (evT rfl ?_))))
      rw [show (((w.length : Nat) : Int) == 0) = false from beq_false_of_ne (by omega)]
      obtain ⟨e1, hk⟩ := at_mod a w.length (by omega) (by omega) (by omega)
      refine Ev.step (fun k => ravelinlaw18_ItemBack.j1.eq_2 ..) (evF (by simp) ?_)
      rw [S_size, e1]
      generalize a % w.length = k at *
      rw [turn_conv _ _ _ hk, S_extract, Int.toNat_natCast, Nat.sub_zero, List.drop_zero]
      have ev1 := read_ev (turnL w k y) (by rw [turn_len _ _ _ hk]; omega)
      have ev2 := read_ev (w.take k) (by rw [List.length_take]; omega)
      have hcutk := hcut k hk
      have hturnk := hturn k y hk
      refine evF (by omega) (evT (by omega) (evT (by omega) (evBind ev1 (evT (by omega) (evBind ev2 ?_)))))
      have last : (((flatI (readI (w.take k))).2.2.2.2.2.2 : Int) == 12) = true := by
        show ((readI (w.take k)).2.2 == 12) = true
        rw [hcutk]; rfl
      rw [last]
      by_cases hy0 : y = 0
      · subst hy0
        have hz := hread []
        rw [List.append_nil] at hz
        rw [turn_zero _ _ hk, hz]
        simp only [flatI]
        exact evT trivial (evBind hr (evT rfl (evSome _)))
      · have hb0 : (((y.toNat : Nat) : Int) == 0) = false := beq_false_of_ne (fun h => hy0 (hy.1 h))
        rw [hb0]
        generalize readI (turnL w k y) = o at *
        show Ev (fun n_ => if o.2.2 = 0 then _ else _) _
        by_cases he : o.2.2 = 0
        · obtain ⟨r2, hr3, hr4⟩ := same_ev lv n t sh ws o.1.1 o.1.2.1 o.1.2.2.1 o.1.2.2.2.1 o.1.2.2.2.2 (by omega)
          cases r2 with
          | true => exact absurd (hturnk he (hr4.1 rfl).symm) hy0
          | false => exact evT he (evBind hr3 (evT rfl (evSome _)))
        · exact evF he (evT rfl (evSome _))
end Go.Proofs.Ytkmbgihfdfgmgaa.Pure
