import Derived.Test.YtcnlhpakiadipaaQSieveImpl
import Derived.Test.YtcnlhpakiadipaaM2
namespace Go.Proofs.Ytcnlhpakiadipaa.P
end Go.Proofs.Ytcnlhpakiadipaa.P
namespace Go.Proofs.Ytcnlhpakiadipaa.Q
end Go.Proofs.Ytcnlhpakiadipaa.Q
namespace Go.Proofs.Ytcnlhpakiadipaa.Q
open Go.RowKit Go.Proofs.Ytcnlhpakiadipaa.P Go.Proofs.YtcnlhpakiadipaaW.PrintWords Go.Proofs.YtcnlhpakiadipaaW.PrintLast Go.Proofs.YtcnlhpakiadipaaW.PrintMore
set_option linter.unusedVariables false
set_option linter.unusedSimpArgs false
theorem known7 : Ev (fun k => ravelinlaw7_known.f k) true := Ev.of (fun k => ravelinlaw7_known.mono k) (k := 300) (by decide +kernel)
theorem map_S_of (l : List ByteArray) : ∃ L : List (List UInt8), l = L.map S := ⟨l.map fun s => s.data.toList, by
  rw [List.map_map]
  have : (S ∘ fun s : ByteArray => s.data.toList) = id := by funext s; exact S_of s
  rw [this, List.map_id]⟩
theorem few7_l0 (l : List ByteArray) (hl : l.length ≤ 9223372036854775807) (n : Nat) : ∀ i : Nat, l.length - i = n → ∃ b, Ev (fun k => ravelinlaw7_few.l0 k l (i : Int)) b ∧ (b = true → l.length ≤ 60 ∧ ∀ y ∈ l.drop i, y.size ≤ 40) := by
  induction n with
  | zero =>
    intro i hi
    refine ⟨_, Ev.step (fun k => ravelinlaw7_few.l0.eq_2 ..) (evF (by omega) (evSome _)), fun h => ?_⟩
    have := of_decide_eq_true h
    refine ⟨by omega, ?_⟩
    rw [List.drop_eq_nil_of_le (by omega)]
    intro y hy
    cases hy
  | succ n ih =>
    intro i hi
    have hi2 : i < l.length := by omega
    obtain ⟨b, hb, hc⟩ := ih (i + 1) (by omega)
    have e : wrap64 ((i : Int) + 1) = ((i + 1 : Nat) : Int) := by rw [w64 (by omega)]; omega
    have er : rdOf ByteArray.empty l (i : Int) = l[i] := by
      unfold rdOf
      simp [hi2]
    by_cases h1 : ((rdOf ByteArray.empty l (i : Int)).size : Int) > 40
    · exact ⟨false, Ev.step (fun k => ravelinlaw7_few.l0.eq_2 ..) (evT (by omega) (evT (by omega) (evT h1 (evSome _)))), fun h => by cases h⟩
    · refine ⟨b, Ev.step (fun k => ravelinlaw7_few.l0.eq_2 ..) (evT (by omega) (evT (by omega) (evF h1 (by rw [e]; exact hb)))), fun hbt => ⟨(hc hbt).1, ?_⟩⟩
      rw [List.drop_eq_getElem_cons hi2]
      intro y hy
      rcases List.mem_cons.1 hy with rfl | hy
      · rw [er] at h1; omega
      · exact (hc hbt).2 y hy
theorem few7_ev (l : List ByteArray) (hl : l.length ≤ 9223372036854775807) : ∃ b, Ev (fun k => ravelinlaw7_few.f k l) b ∧ (b = true → l.length ≤ 60 ∧ ∀ y ∈ l, y.size ≤ 40) := by
  obtain ⟨b, hb, hc⟩ := few7_l0 l hl _ 0 rfl
  exact ⟨b, Ev.congr (fun k => ravelinlaw7_few.f.eq_1 ..) hb, hc⟩
/-! Counting bits -/
def cnt (m : List UInt8) (q : Nat) : Nat := (List.range q).countP (bit m)
theorem cnt_le (m : List UInt8) (q : Nat) : cnt m q ≤ q := by
  have := List.countP_le_length (p := bit m) (l := List.range q)
  rw [List.length_range] at this
  exact this
theorem cnt_succ (m : List UInt8) (q : Nat) : cnt m (q + 1) = cnt m q + if bit m q = true then 1 else 0 := by
  unfold cnt
  rw [List.range_succ, List.countP_append, List.countP_cons, List.countP_nil]
  omega
theorem cnt_step (m : List UInt8) (i j : Nat) (hi : i ≤ 1000000000000) (hj : j < 8) : wrap64 (((cnt m (8 * i + j) : Nat) : Int) + wrap64 (Go.bits .and .u8 (shr .u8 (bt (S m) (i : Int)) (IntKind.u64.wrap (j : Int))) 1)) = ((cnt m (8 * i + (j + 1)) : Nat) : Int) := by
  have hc := cnt_le m (8 * i + j)
  rw [bt_S, Int.toNat_natCast, u64w (by omega), one_bit _ _ (m.getD i 0).toNat_lt hj, show 8 * i + (j + 1) = (8 * i + j) + 1 by omega, cnt_succ]
  unfold bit
  rw [show (8 * i + j) / 8 = i by omega, show (8 * i + j) % 8 = j by omega]
  have hc2 : (cnt m (8 * i + j)) ≤ 8000000000008 := by omega
  split
  · rw [w64 (n := 1) (by omega), w64 (by omega)]; omega
  · rw [w64 (n := 0) (by omega), w64 (by omega)]; omega
end Go.Proofs.Ytcnlhpakiadipaa.Q
