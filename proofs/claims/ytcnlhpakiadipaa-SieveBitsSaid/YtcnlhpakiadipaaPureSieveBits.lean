/- Proved: the law SieveBits is true of every text, every byte. -/
import Derived.Test.YtcnlhpakiadipaaQKnown7
import Derived.Test.YtcnlhpakiadipaaPx6
namespace Go.Proofs.Ytcnlhpakiadipaa.P
end Go.Proofs.Ytcnlhpakiadipaa.P
namespace Go.Proofs.Ytcnlhpakiadipaa.Q
end Go.Proofs.Ytcnlhpakiadipaa.Q
namespace Go.Proofs.Ytcnlhpakiadipaa.Pure
open Go.RowKit Go.Proofs.Ytcnlhpakiadipaa.P Go.Proofs.YtcnlhpakiadipaaW.PrintWords Go.Proofs.YtcnlhpakiadipaaW.PrintLast Go.Proofs.YtcnlhpakiadipaaW.PrintMore Go.Proofs.Ytcnlhpakiadipaa.Q
set_option linter.unusedVariables false
set_option linter.unusedSimpArgs false
def clr (a n : Nat) : Nat := if a.testBit n then a - 2 ^ n else a
theorem clr_all : ∀ a : Fin 256, ∀ n : Fin 8, Go.bits .andNot .u8 ((a.val : Nat) : Int) (shl .u8 1 ((n.val : Nat) : Int)) = ((clr a.val n.val : Nat) : Int) := by decide +kernel
theorem clr_bits : ∀ a : Fin 256, ∀ n : Fin 8, ∀ j : Fin 8, (clr a.val n.val).testBit j.val = (!decide (j.val = n.val) && a.val.testBit j.val) := by decide +kernel
theorem clr_le (a n : Nat) : clr a n ≤ a := by
  unfold clr
  split
  · exact Nat.sub_le _ _
  · exact Nat.le_refl _
def clearP (m : List UInt8) (p : Nat) : List UInt8 := m.set (p / 8) (UInt8.ofNat (clr (m.getD (p / 8) 0).toNat (p % 8)))
theorem clearP_len (m : List UInt8) (p : Nat) : (clearP m p).length = m.length := by simp [clearP]
theorem bit_clearP (m : List UInt8) (p q : Nat) (hp : p < 8 * m.length) : bit (clearP m p) q = (!decide (q = p) && bit m q) := by
  have hi : p / 8 < m.length := by omega
  unfold bit clearP
  by_cases h : q / 8 = p / 8
  · have e : (m.set (p / 8) (UInt8.ofNat (clr (m.getD (p / 8) 0).toNat (p % 8)))).getD (q / 8) 0 = UInt8.ofNat (clr (m.getD (p / 8) 0).toNat (p % 8)) := by
      rw [h]; simp [List.getD_eq_getElem?_getD, hi]
    have ha := (m.getD (p / 8) 0).toNat_lt
    have hl := clr_le (m.getD (p / 8) 0).toNat (p % 8)
    have hc := clr_bits ⟨(m.getD (p / 8) 0).toNat, ha⟩ ⟨p % 8, by omega⟩ ⟨q % 8, by omega⟩
    rw [e, UInt8.toNat_ofNat_of_lt' (by show _ < 256; omega), hc, h]
    congr 2
    rw [decide_eq_decide]
    show q % 8 = p % 8 ↔ q = p
    omega
  · have e : (m.set (p / 8) (UInt8.ofNat (clr (m.getD (p / 8) 0).toNat (p % 8)))).getD (q / 8) 0 = m.getD (q / 8) 0 := by
      simp [List.getD_eq_getElem?_getD, List.getElem?_set_ne (Ne.symm h)]
    rw [e, decide_eq_false (fun hq => h (by rw [hq])), Bool.not_false, Bool.true_and]
theorem clear_nm (m : List UInt8) (p : Nat) (h : p < 8 * m.length) :
    (nm m).set (((p / 8 : Nat) : Int)).toNat (Go.bits .andNot .u8 (rd (nm m) ((p / 8 : Nat) : Int)) (shl .u8 1 ((p % 8 : Nat) : Int))) = nm (clearP m p) := by
  have ha := (m.getD (p / 8) 0).toNat_lt
  have hl := clr_le (m.getD (p / 8) 0).toNat (p % 8)
  have hc := clr_all ⟨(m.getD (p / 8) 0).toNat, ha⟩ ⟨p % 8, by omega⟩
  rw [rd_nm, Int.toNat_natCast]
  simp only at hc
  rw [hc]
  unfold nm clearP
  rw [List.map_set, UInt8.toNat_ofNat_of_lt' (by show _ < 256; omega)]
theorem bit_of' (m : List UInt8) (p : Nat) : Go.bits .and .u8 (shr .u8 (rd (nm m) ((p / 8 : Nat) : Int)) ((p % 8 : Nat) : Int)) 1 = if bit m p = true then 1 else 0 := by
  rw [rd_nm, Int.toNat_natCast, one_bit _ _ (m.getD (p / 8) 0).toNat_lt (by omega)]
  rfl
theorem bytesOf_S (l : List UInt8) : bytesOf (S l) = nm l := by
  simp [bytesOf, nm, S]
/-- A sieve of one key: to clear one bit hides the key just where the bit was set. -/
theorem may_clear (key : List UInt8) (p : Nat) (hp : p < 64) : mayS (clearP (makeS [key]) p) key = !bit (makeS [key]) p := by
  have hl : (makeS [key]).length = 8 := by rw [makeS_len]; rfl
  have hb : ∀ q, bit (makeS [key]) q = isPos 64 key q := by
    intro q
    rw [bit_makeS]
    simp
  unfold mayS
  have he : (clearP (makeS [key]) p).isEmpty = false := by
    have := clearP_len (makeS [key]) p
    rw [hl] at this
    cases hx : clearP (makeS [key]) p with
    | nil => rw [hx] at this; cases this
    | cons => rfl
  rw [he, clearP_len, hl, bit_clearP _ _ _ (by rw [hl]; exact hp), bit_clearP _ _ _ (by rw [hl]; exact hp), bit_clearP _ _ _ (by rw [hl]; exact hp), bit_clearP _ _ _ (by rw [hl]; exact hp), hb, hb, hb, hb, hb]
  unfold isPos
  rw [show 8 * 8 = 64 from rfl]
  generalize pos key 64 0 = p0
  generalize pos key 64 1 = p1
  generalize pos key 64 2 = p2
  generalize pos key 64 3 = p3
  by_cases h0 : p = p0 <;> by_cases h1 : p = p1 <;> by_cases h2 : p = p2 <;> by_cases h3 : p = p3 <;> simp [h0, h1, h2, h3, eq_comm] <;> (try (simp_all [eq_comm]))
theorem bit_full (q : Nat) (h : q < 64) : bit (List.replicate 8 255) q = true := by
  have : ∀ q : Fin 64, bit (List.replicate 8 255) q.val = true := by decide +kernel
  exact this ⟨q, h⟩
theorem may_full (key : List UInt8) : mayS (List.replicate 8 255) key = true := by
  unfold mayS
  rw [List.length_replicate, show 8 * 8 = 64 from rfl]
  rw [bit_full _ (pos_lt _ _ _ (by decide)), bit_full _ (pos_lt _ _ _ (by decide)), bit_full _ (pos_lt _ _ _ (by decide)), bit_full _ (pos_lt _ _ _ (by decide))]
  rfl
theorem may_none (key : List UInt8) : mayS (List.replicate 8 0) key = false := by
  unfold mayS
  rw [bit_zero]
  rfl
theorem SieveBits : ravelinlaw7_SieveBits.Pure := by
  intro a b ha hb
  obtain ⟨g0, g255⟩ := wf_u8 hb
  obtain ⟨v, rfl⟩ : ∃ v : Nat, b = (v : Int) := ⟨b.toNat, by omega⟩
  obtain ⟨a, rfl⟩ : ∃ l, a = S l := ⟨_, (S_of _).symm⟩
  refine Ev.rounds (Ev.congr (fun k => ravelinlaw7_SieveBits.f.eq_1 ..) (evBind known7 (evT rfl ?_)))
  rw [S_size]
  by_cases h1 : (a.length : Int) > 40
  · exact evT h1 (evSome _)
  refine evF h1 (evBind (make_ev [a] (by simp) (by intro k hk; rw [List.mem_singleton.1 hk]; omega)) ?_)
  have hl : (makeS [a]).length = 8 := by rw [makeS_len]; rfl
  have e1 : wrap64 (8 * ((S (makeS [a])).size : Int)) = 64 := by rw [S_size, hl, w64 (by omega)]; rfl
  have hp : v % 64 < 64 := Nat.mod_lt _ (by omega)
  have e2 : Int.tmod (wrap64 (v : Int)) 64 = ((v % 64 : Nat) : Int) := by rw [w64 (by omega), Int.tmod_eq_emod_of_nonneg (by omega)]; omega
  rw [e1, e2]
  generalize v % 64 = p at *
  have e3 : wrap64 (Int.tdiv (p : Int) 8) = ((p / 8 : Nat) : Int) := by rw [Int.tdiv_eq_ediv_of_nonneg (by omega), w64 (by omega)]; omega
  have e4 : IntKind.u64.wrap (Int.tmod (p : Int) 8) = ((p % 8 : Nat) : Int) := by rw [Int.tmod_eq_emod_of_nonneg (by omega), u64w (by omega)]; omega
  rw [e3, e4, bytesOf_S, clear_nm _ _ (by rw [hl]; exact hp), bit_of', strOf', S_size, hl]
  refine evF (by omega) (evT (by omega) (evT (by omega) (evT (by omega) (evT (by omega) (evConst rfl (evT (by decide) (evT (by decide) (evT (by decide) (evT (by decide) (evT (by decide) (evT (by decide) (evT (by decide) (evT (by decide) ?_)))))))))))))
  have e5 : ((((((((List.replicate 8 (0 : Int)).set (0 : Int).toNat 255).set (1 : Int).toNat 255).set (2 : Int).toNat 255).set (3 : Int).toNat 255).set (4 : Int).toNat 255).set (5 : Int).toNat 255).set (6 : Int).toNat 255).set (7 : Int).toNat 255 = nm (List.replicate 8 255) := by decide
  have e6 : List.replicate 8 (0 : Int) = nm (List.replicate 8 0) := by decide
  rw [e5, e6, strOf', strOf']
  refine evBind (may_ev _ a (by rw [clearP_len]; omega) (by omega)) ?_
  rw [may_clear a p hp]
  refine evT ?_ (evBind (may_ev _ a (by simp) (by omega)) ?_)
  · cases bit (makeS [a]) p <;> rfl
  · rw [may_full]
    refine evT rfl (evBind (may_ev _ a (by simp) (by omega)) ?_)
    rw [may_none]
    exact evSome _
end Go.Proofs.Ytcnlhpakiadipaa.Pure
