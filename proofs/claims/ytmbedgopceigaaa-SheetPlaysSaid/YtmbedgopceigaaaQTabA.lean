import Derived.Test.YtmbedgopceigaaaM0
import Derived.Test.YtmbedgopceigaaaWWords
import Derived.Test.YtmbedgopceigaaaQBase
import Derived.Test.YtmbedgopceigaaaQShort
namespace Go.Proofs.Ytmbedgopceigaaa.Q
open Go.RowKit Go.Lib Go.Proofs.Ytmbedgopceigaaa.P Go.Proofs.YtmbedgopceigaaaW.PrintWords Go.Proofs.YtmbedgopceigaaaW.PrintLast Go.Proofs.YtmbedgopceigaaaW.PrintMore
set_option linter.unusedVariables false
set_option linter.unusedSimpArgs false
attribute [local go_sem high] string_leq string_geq string_gtr
/-! slices.Index, slices.Contains at []int -/
def IsIdx {α : Type} (p : α → Bool) (l : List α) (r : Int) : Prop := (∃ i : Nat, r = (i : Int) ∧ ∃ h : i < l.length, p l[i] = true ∧ ∀ j (hj : j < l.length), j < i → p l[j] = false) ∨ (r = -1 ∧ ∀ x ∈ l, p x = false)
theorem idx_any {α : Type} {p : α → Bool} {l : List α} {r : Int} (h : IsIdx p l r) : decide (0 ≤ r) = l.any p := by
  rcases h with ⟨i, rfl, hi, hp, _⟩ | ⟨rfl, hn⟩
  · rw [decide_eq_true (by omega)]
    exact (List.any_eq_true.2 ⟨_, List.getElem_mem hi, hp⟩).symm
  · rw [decide_eq_false (by omega)]
    symm
    rw [List.any_eq_false]
    intro x hx
    rw [hn x hx]; simp
theorem idx_none {α : Type} {p : α → Bool} {l : List α} (h : ∀ j (hj : j < l.length), p l[j] = false) : IsIdx p l (-1) := .inr ⟨rfl, fun x hx => by
  obtain ⟨j, hj, rfl⟩ := List.getElem_of_mem hx
  exact h j hj⟩
set_option maxHeartbeats 4000000 in
set_option maxRecDepth 100000 in
theorem IndexI (w : World) (A : Option Addr) (c : Nat) (l : List Int) (x : Int) (hr : (Kd.int .i64).C w A l.length l) (hl : l.length ≤ 1000000) :
    Calls Try.prog 47 #[.slice A l.length c, .int .i64 x] w fun e w' => ∃ r : Int, e = .returned (.int .i64 r) ∧ IsIdx (fun y => x == y) l r ∧ Below w.heap.size w w' := by
  have HR := Aside0.mk hr
  have HL := Aside0.mk hl
  have HB := Aside0.mk (Below.refl w.heap.size w)
  clear hr hl
  go_enter Try.func47, Try.ntmps47
  go_wp2
  go_loopg [8] l.length (fun kq v8 w' => ∃ (i : Nat), v8 = .int .i64 (i : Int) ∧ Aside0 (kq + i = l.length) ∧ Aside0 (∀ j (hj : j < l.length), j < i → (x == l[j]) = false) ∧ Aside0 (Below w.heap.size w w'))
  case atStart => exact ⟨0, rfl, ⟨by omega⟩, ⟨fun j _ h => by omega⟩, HB⟩
  clear HB
  obtain ⟨i, rfl, HQ, HN, HB⟩ := hrel
  by_cases hlt : i < l.length
  · obtain ⟨k1, rfl⟩ : ∃ k1, gk = k1 + 1 := ⟨gk - 1, by have := HQ.out; omega⟩
    have hd0 : decide (i < l.length) = true := decide_eq_true hlt
    have hd1 : decide ((i : Int) < (l.length : Int)) = true := decide_eq_true (by omega)
    have p0 : 0 ≤ (i : Int) := by omega
    have q0 : (i : Int) < (l.length : Int) := by omega
    obtain ⟨ad, e_, hs0⟩ := Kd.at_int (Kd.C_below HR.out HB.out) (i : Int) p0 q0
    cases e_
    have erd : rd l (i : Int) = l[i] := by simp [rd, List.getD_eq_getElem?_getD, hlt]
    rw [Int.toNat_natCast, erd] at hs0
    clear erd
    by_cases hx : x = l[i]
    · have hb : (x == l[i]) = true := beq_iff_eq.mpr hx
      have HP := Aside0.mk (show IsIdx (fun y => x == y) l (i : Int) from .inl ⟨i, rfl, hlt, hb, HN.out⟩)
      obtain ⟨y, hy⟩ : ∃ y, y = l[i] := ⟨_, rfl⟩
      rw [← hy] at hs0 hb
      clear hx hy
      go_wp2
      go_ret
      exact ⟨_, rfl, HP.out, HB.out⟩
    have hb : (x == l[i]) = false := beq_eq_false_iff_ne.mpr hx
    have HN2 := Aside0.mk (show ∀ j (hj : j < l.length), j < i + 1 → (x == l[j]) = false from fun j hj h => by
      rcases Nat.lt_or_ge j i with h1 | h1
      · exact HN.out j hj h1
      · obtain rfl : j = i := by omega
        exact hb)
    obtain ⟨y, hy⟩ : ∃ y, y = l[i] := ⟨_, rfl⟩
    rw [← hy] at hs0 hb
    clear hx hy HN
    go_wp2
    go_roundg k1
    case measure => have := HQ.out; omega
    case rel => exact ⟨i + 1, by have h_ := HQ.out; have h2_ := HL.out; simp; unfold wrap64; omega, ⟨by have := HQ.out; omega⟩, HN2, HB⟩
  have hd0 : decide (i < l.length) = false := decide_eq_false hlt
  have hd1 : decide ((i : Int) < (l.length : Int)) = false := decide_eq_false (by omega)
  have HP := Aside0.mk (show IsIdx (fun y => x == y) l (-1) from idx_none (fun j hj => HN.out j hj (by omega)))
  clear HN
  go_wp2
  go_ret
  exact ⟨_, rfl, HP.out, HB.out⟩
set_option maxHeartbeats 4000000 in
set_option maxRecDepth 100000 in
theorem ContainsI (w : World) (A : Option Addr) (c : Nat) (l : List Int) (x : Int) (hr : (Kd.int .i64).C w A l.length l) (hl : l.length ≤ 1000000) :
    Calls Try.prog 31 #[.slice A l.length c, .int .i64 x] w fun e w' => e = .returned (.bool (l.any (fun y => x == y))) ∧ Below w.heap.size w w' := by
  have HR := Aside0.mk hr
  have HL := Aside0.mk hl
  clear hr hl
  go_enter Try.func31, Try.ntmps31
  go_wp2_with (go_at_call 47; with_reducible refine (IndexI _ A c l x HR.out HL.out).mono ?_; rintro e w1 ⟨r, rfl, hi, hb⟩; have HB := Aside0.mk hb; have HI := Aside0.mk (idx_any hi); clear hb hi; obtain ⟨br, hbr⟩ : ∃ br, br = decide (0 ≤ r) := ⟨_, rfl⟩; try simp only [← hbr])
  try simp only [← hbr]
  go_ret
  exact ⟨by rw [hbr, HI.out]; rfl, HB.out⟩
end Go.Proofs.Ytmbedgopceigaaa.Q
