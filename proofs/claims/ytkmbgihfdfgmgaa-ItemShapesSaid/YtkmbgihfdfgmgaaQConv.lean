import Derived.Test.YtkmbgihfdfgmgaaWWords
import Derived.Lib.ConvBytes
import Derived.Laws.BytesArg
namespace Go.Proofs.YtkmbgihfdfgmgaaW.PrintMore
open Go.RowKit Go.Proofs.YtkmbgihfdfgmgaaW.PrintWords Go.Proofs.YtkmbgihfdfgmgaaW.PrintLast
set_option linter.unusedVariables false
/-! A row of bytes that a conversion of a text has made: its block bears a conversion's marks -/
/-- The row's block, and what stands in it. -/
def ByRow (w : World) (g e : Nat) (xs : List Int) : Prop := ∃ cs : Array Value, w.heap[g]? = some (.cells cs e (cs.size, cs.size + 1)) ∧ xs.length ≤ cs.size ∧ ∀ j, j < xs.length → cs[j]? = some (.int .u8 (xs.getD j 0))
theorem by_new (w : World) (e : Nat) (s : ByteArray) : ByRow (Lib.bytesWorld w e s) w.heap.size e (bytesOf s) := by
  refine ⟨_, Lib.bytesWorld_at_new w e s, ?_, fun j hj => ?_⟩
  · rw [bytesOf_length]
    unfold Lib.bytesCells
    rw [Array.size_append, Array.size_map]
    exact Nat.le_add_right _ _
  · rw [bytesOf_length] at hj
    have h1 : j < s.data.toList.length := by rw [Array.length_toList]; exact hj
    have h2 : (bytesOf s).getD j 0 = (((s.data.toList.getD j 0).toNat : Nat) : Int) := by
      simp [bytesOf, List.getD_eq_getElem?_getD, List.getElem?_map, List.getElem?_eq_getElem h1]
    rw [h2]
    have h3 := Lib.bytesWorld_cell w e s j hj
    unfold World.cell? at h3
    rw [Lib.bytesWorld_at_new] at h3
    simpa using h3
theorem below_conv (w : World) (e : Nat) (s : ByteArray) : Below w.heap.size w (Lib.bytesWorld w e s) :=
  ⟨rfl, rfl, rfl, by rw [Lib.bytesWorld_size]; omega, fun k hk => Lib.bytesWorld_at_old w e s k hk⟩
section
variable {P : Program} {ops : Array Oper} {rest : List Oper} {o : Oper} {a : Act} {Q : Exit → Act → World → Prop}
theorem conv_event {W : World} (hgd : o.guard = none) {N : Tmp} (_hd : o.dst = some N) {src dst e : TypeId} {x : Operand} (ho : o.op = .convert src dst x) {s : ByteArray} (hx : a.eval x = .string s) {u : TypeDesc}
    (h1 : P.underlying src = some u) (h2 : P.underlying dst = some (.slice e)) (h3 : P.underlying e = some (.int .u8))
    (h : ∀ g, g = W.heap.size → ∀ c w1, ByRow w1 g e (bytesOf s) → Below W.heap.size W w1 → wpList P ops Q rest (a.put o.dst (.slice (some ⟨g, 0, none⟩) s.size c)) w1) : wpList P ops Q (o :: rest) a W := by
  refine Kd.event_run hgd (w1 := Lib.bytesWorld W e s) (v := .slice (some ⟨W.heap.size, 0, none⟩) s.size (grownCap W s.size 0 e)) ?_ (h _ rfl _ _ (by_new W e s) (below_conv W e s))
  have hr := Lib.run_convert_string_bytes W src dst e s h1 h2 h3
  simp only [execOp, ho, hx]
  simp [hr, go_sem]
end
section
variable {w : World} {g e : Nat} {xs : List Int}
theorem by_cell (h : ByRow w g e xs) (i : Int) (h0 : 0 ≤ i) (h1 : i < (xs.length : Int)) : w.cell? ⟨g, i.toNat, none⟩ = some (.int .u8 (rd xs i)) := by
  obtain ⟨cs, hb, hl, hc⟩ := h
  have := hc i.toNat (by omega)
  simp only [World.cell?, hb]
  simpa [rd] using this
theorem by_free (h : ByRow w g e xs) (i : Int) (h0 : 0 ≤ i) (h1 : i < (xs.length : Int)) : w.frozen? ⟨g, i.toNat, none⟩ = false := by
  obtain ⟨cs, hb, hl, hc⟩ := h
  simp [World.frozen?, hb]
  omega
theorem by_set (h : ByRow w g e xs) (i : Int) (h0 : 0 ≤ i) (h1 : i < (xs.length : Int)) (v : Int) : ByRow (w.setCell ⟨g, i.toNat, none⟩ (.int .u8 v)) g e (xs.set i.toNat v) := by
  obtain ⟨cs, hb, hl, hc⟩ := h
  have hi : i.toNat < cs.size := by omega
  refine ⟨cs.setIfInBounds i.toNat (.int .u8 v), ?_, by simpa using hl, fun j hj => ?_⟩
  · simp [World.setCell, Array.getElem?_modify, hb]
  · rw [List.length_set] at hj
    by_cases hji : i.toNat = j
    · subst hji
      simp [List.getD_eq_getElem?_getD, hi, hj]
    · rw [Array.getElem?_setIfInBounds_ne hji, hc j hj]
      simp [List.getD_eq_getElem?_getD, List.getElem?_set_ne hji]
theorem by_string {P : Program} {src dst : TypeId} (h : ByRow w g e xs) (hs : P.underlying src = some (.slice e)) (he : P.underlying e = some (.int .u8)) (hd : P.underlying dst = some .string) (n c : Nat) (hn : xs.length = n) :
    (convert src dst (.slice (some ⟨g, 0, none⟩) n c)).run P w = .ok (.string (strOfNums xs)) w := by
  refine run_convert_bytes_arg w src e hs he g 0 n c xs hn (fun i hi => ?_) dst hd
  have := by_cell h (i : Int) (by omega) (by omega)
  rw [Int.toNat_natCast] at this
  rw [Nat.zero_add, this]
  simp [rd]
theorem by_ne {α : Type} {d : Kd α} (h : ByRow w g e xs) {k : Nat} (hk : ∃ q, q ∈ (d.E) ∧ ∃ cells, w.heap[k]? = some (.cells cells q (0, 0))) : k ≠ g := by
  obtain ⟨cs, hb, _, _⟩ := h
  obtain ⟨q, _, cells, hc⟩ := hk
  rintro rfl
  rw [hb] at hc
  simp at hc
theorem by_grown (h : ByRow w g e xs) {w1 : World} {row : Option Nat} (hg : w.grownBy w1 row) (hne : some g ≠ row) : ByRow w1 g e xs := by
  obtain ⟨cs, hb, hl, hc⟩ := h
  exact ⟨cs, (hg.block g (blk_lt hb) hne).trans hb, hl, hc⟩
theorem by_below (h : ByRow w g e xs) {w1 : World} (hw : Below w.heap.size w w1) : ByRow w1 g e xs := by
  obtain ⟨cs, hb, hl, hc⟩ := h
  exact ⟨cs, (hw.block g (blk_lt hb)).trans hb, hl, hc⟩
theorem by_own_ne (h : ByRow w g e xs) {α : Type} {d : Kd α} {e2 base : Nat} {ok : Nat → Prop} {v : Value} {ys : List α} (hr : d.R e2 w base ok v ys) : some g ≠ v.ownBlock := by
  intro hv
  obtain ⟨cs, hb, hl, hc⟩ := h
  obtain ⟨_, _, _, q, _, cells, hq⟩ := (Kd.R_bound hr).1 g hv.symm
  rw [hb] at hq
  simp at hq
theorem by_box (h : ByRow w g e xs) {b : Nat} {cs : Array Value} {t : TypeId} (hb2 : w.heap[b]? = some (.cells cs t (0, 0))) {w1 : World} {j : Nat} {u : Value} (hw : w1 = w.setCell ⟨g, j, none⟩ u) : w1.heap[b]? = some (.cells cs t (0, 0)) := by
  subst hw
  obtain ⟨cs2, hb, _, _⟩ := h
  refine (Below.heap_setCell _ _ _ _ ?_).trans hb2
  rintro rfl
  rw [hb] at hb2
  simp at hb2
theorem by_R {α : Type} {d : Kd α} {e2 base : Nat} {ok : Nat → Prop} {v : Value} {ys : List α} (h : ByRow w g e xs) (hr : d.R e2 w base ok v ys) {w1 : World} {j : Nat} {u : Value} (hw : w1 = w.setCell ⟨g, j, none⟩ u) : d.R e2 w1 base ok v ys := by
  subst hw
  obtain ⟨cs, hb, _, _⟩ := h
  refine Kd.R_mono (Kd.R_move (Kd.R_bound hr) (fun k hk => ?_)) (fun _ hk => hk.1)
  refine Below.heap_setCell _ _ _ _ ?_
  obtain ⟨_, _, _, q, _, cells, hc⟩ := hk
  rintro rfl
  rw [hb] at hc
  simp at hc
end
end Go.Proofs.YtkmbgihfdfgmgaaW.PrintMore
