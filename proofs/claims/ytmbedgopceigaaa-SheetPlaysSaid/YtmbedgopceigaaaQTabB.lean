import Derived.Test.YtmbedgopceigaaaQTabA
import Derived.Test.YtmbedgopceigaaaM1
namespace Go.Proofs.Ytmbedgopceigaaa.Q
open Go.RowKit Go.Lib Go.Proofs.Ytmbedgopceigaaa.P Go.Proofs.YtmbedgopceigaaaW.PrintWords Go.Proofs.YtmbedgopceigaaaW.PrintLast Go.Proofs.YtmbedgopceigaaaW.PrintMore
set_option linter.unusedVariables false
set_option linter.unusedSimpArgs false
attribute [local go_sem high] string_leq string_geq string_gtr
/-! The closures of sheet.Do; slices.IndexFunc, slices.ContainsFunc at tables with these -/
set_option maxHeartbeats 4000000 in
set_option maxRecDepth 100000 in
theorem CloA (w : World) (x : S32) (gp : Nat) (id : Int) (h : w.cell? ⟨gp, 0, none⟩ = some (.int .i64 id)) :
    Calls Try.prog 28 #[.agg #[.int .i64 x.f0, .int .i64 x.f1, .string x.f2, .string x.f3, .int .i64 x.f4], .pointer (some ⟨gp, 0, none⟩)] w fun e w' => e = .returned (.bool (x.f0 == id)) ∧ Below w.heap.size w w' := by
  obtain ⟨b, hb0⟩ : ∃ b, b = (x.f0 == id) := ⟨_, rfl⟩
  rw [← hb0]
  go_enter Try.func28, Try.ntmps28
  go_wp2_with ((with_reducible refine gate_dst (N := 2) rfl ?_); refine box_event ?hg (N := 2) ?hd (cs := #[.int .i64 x.f0, .int .i64 x.f1, .string x.f2, .string x.f3, .int .i64 x.f4]) (t := 32) ?hr ?_; (case hd => rfl); (case hg => rfl); (case hr => first | (go_simp; done) | (go_simp; rfl)); intro gb hgb w1 hbox hb; have BX := Aside0.mk hbox; have HB := Aside0.mk hb; have hz0 := bc0 BX; have h1 := pw_cell_below hb h; clear hbox hb h hgb)
  try simp only [← hb0]
  go_ret
  exact ⟨rfl, HB.out⟩
set_option maxHeartbeats 4000000 in
set_option maxRecDepth 100000 in
theorem CloB (w : World) (x : S32) (gp : Nat) (G : List Int) (AG : Option Addr) (cG : Nat) (v1 v2 v3 : Value) (h : w.heap[gp]? = some (.cells #[.slice AG G.length cG, v1, v2, v3] 36 (0, 0))) (hG : (Kd.int .i64).C w AG G.length G) (hl : G.length ≤ 1000000) :
    Calls Try.prog 30 #[.agg #[.int .i64 x.f0, .int .i64 x.f1, .string x.f2, .string x.f3, .int .i64 x.f4], .pointer (some ⟨gp, 0, none⟩)] w fun e w' => e = .returned (.bool (G.any (fun y => x.f0 == y))) ∧ Below w.heap.size w w' := by
  obtain ⟨b, hb0⟩ : ∃ b, b = G.any (fun y => x.f0 == y) := ⟨_, rfl⟩
  rw [← hb0]
  have B := Aside0.mk h
  have HG := Aside0.mk hG
  have HL := Aside0.mk hl
  clear h hG hl
  go_enter Try.func30, Try.ntmps30
  go_wp2_with (first | ((with_reducible refine gate_dst (N := 2) rfl ?_); refine box_event ?hg (N := 2) ?hd (cs := #[.int .i64 x.f0, .int .i64 x.f1, .string x.f2, .string x.f3, .int .i64 x.f4]) (t := 32) ?hr ?_; (case hd => rfl); (case hg => rfl); (case hr => first | (go_simp; done) | (go_simp; rfl)); intro gb hgb w1 hbox hb; have BX := Aside0.mk hbox; have HB := Aside0.mk hb; have n0_ := bb_ B hb; clear B; have B := n0_; clear n0_; have hz0 := bc0 BX; have hc0 := bc0 B; clear hbox hb hgb) | (go_at_call 31; with_reducible refine (ContainsI _ AG cG G x.f0 (Kd.C_below HG.out HB.out) HL.out).mono ?_; rintro e w2 ⟨rfl, hb⟩; have n0_ := bs_ HB hb; clear HB hb; have HB := n0_; clear n0_; rw [← hb0]))
  go_ret
  exact ⟨by rw [hb0]; rfl, HB.out⟩
set_option maxHeartbeats 4000000 in
set_option maxRecDepth 100000 in
theorem IdxA (w : World) (A : Option Addr) (c : Nat) (l : List S32) (gp : Nat) (id : Int) (hr : Kd.C k32 w A l.length l) (hl : l.length ≤ 1000000) (hc : w.cell? ⟨gp, 0, none⟩ = some (.int .i64 id)) :
    Calls Try.prog 46 #[.slice A l.length c, .func (.func 28) #[] #[.pointer (some ⟨gp, 0, none⟩)]] w fun e w' => ∃ r : Int, e = .returned (.int .i64 r) ∧ IsIdx (fun z : S32 => z.f0 == id) l r ∧ Below w.heap.size w w' := by
  have HR := Aside0.mk hr
  have HL := Aside0.mk hl
  have HB := Aside0.mk (Below.refl w.heap.size w)
  have HC := Aside0.mk hc
  clear hr hl hc
  go_enter Try.func46, Try.ntmps46
  go_wp2
  go_loopg [8] l.length (fun kq v8 w' => ∃ (i : Nat), v8 = .int .i64 (i : Int) ∧ Aside0 (kq + i = l.length) ∧ Aside0 (∀ j (hj : j < l.length), j < i → (fun z : S32 => z.f0 == id) l[j] = false) ∧ Aside0 (Below w.heap.size w w'))
  case atStart => exact ⟨0, rfl, ⟨by omega⟩, ⟨fun j _ h => by omega⟩, HB⟩
  clear HB
  obtain ⟨i, rfl, HQ, HN, HB⟩ := hrel
  by_cases hlt : i < l.length
  · obtain ⟨k1, rfl⟩ : ∃ k1, gk = k1 + 1 := ⟨gk - 1, by have := HQ.out; omega⟩
    have hd0 : decide (i < l.length) = true := decide_eq_true hlt
    have hd1 : decide ((i : Int) < (l.length : Int)) = true := decide_eq_true (by omega)
    have p0 : 0 ≤ (i : Int) := by omega
    have q0 : (i : Int) < (l.length : Int) := by omega
    obtain ⟨ad, e_, hx0, hx1, hx2, hx3, hx4⟩ := at_T32 (Kd.C_below HR.out HB.out) (i : Int) p0 q0
    cases e_
    have erd : rd_T32 l (i : Int) = l[i] := by simp [rd_T32, List.getD_eq_getElem?_getD, hlt]
    rw [Int.toNat_natCast, erd] at hx0 hx1 hx2 hx3 hx4
    clear erd
    obtain ⟨y, hy⟩ : ∃ y, y = l[i] := ⟨_, rfl⟩
    rw [← hy] at hx0 hx1 hx2 hx3 hx4
    have HY := Aside0.mk hy
    clear hy
    cases hp : ((fun z : S32 => z.f0 == id) y : Bool) with
    | true =>
      have HP := Aside0.mk (show IsIdx (fun z : S32 => z.f0 == id) l (i : Int) from .inl ⟨i, rfl, hlt, by rw [← HY.out]; exact hp, HN.out⟩)
      have HT := Aside0.mk hp
      clear hp HN
      go_wp2_with (go_at_call 28; with_reducible refine (CloA _ y gp id (pw_cell_below HB.out HC.out)).mono ?_; rintro e w2 ⟨rfl, hb⟩; have n0_ := bs_ HB hb; clear HB hb; have HB := n0_; clear n0_; rw [show (y.f0 == id) = true from HT.out])
      go_ret
      exact ⟨_, rfl, HP.out, HB.out⟩
    | false =>
      have HN2 := Aside0.mk (show ∀ j (hj : j < l.length), j < i + 1 → (fun z : S32 => z.f0 == id) l[j] = false from fun j hj h => by
        rcases Nat.lt_or_ge j i with h1 | h1
        · exact HN.out j hj h1
        · obtain rfl : j = i := by omega
          rw [← HY.out]; exact hp)
      have HT := Aside0.mk hp
      clear hp HN
      go_wp2_with (go_at_call 28; with_reducible refine (CloA _ y gp id (pw_cell_below HB.out HC.out)).mono ?_; rintro e w2 ⟨rfl, hb⟩; have n0_ := bs_ HB hb; clear HB hb; have HB := n0_; clear n0_; rw [show (y.f0 == id) = false from HT.out])
      go_roundg k1
      case measure => have := HQ.out; omega
      case rel => exact ⟨i + 1, by have h_ := HQ.out; have h2_ := HL.out; simp; unfold wrap64; omega, ⟨by have := HQ.out; omega⟩, HN2, HB⟩
  have hd0 : decide (i < l.length) = false := decide_eq_false hlt
  have hd1 : decide ((i : Int) < (l.length : Int)) = false := decide_eq_false (by omega)
  have HP := Aside0.mk (show IsIdx (fun z : S32 => z.f0 == id) l (-1) from idx_none (fun j hj => HN.out j hj (by omega)))
  clear HN
  go_wp2
  go_ret
  exact ⟨_, rfl, HP.out, HB.out⟩
set_option maxHeartbeats 4000000 in
set_option maxRecDepth 100000 in
theorem IdxB (w : World) (A : Option Addr) (c : Nat) (l : List S32) (gp : Nat) (G : List Int) (AG : Option Addr) (cG : Nat) (v1 v2 v3 : Value) (hr : Kd.C k32 w A l.length l) (hl : l.length ≤ 1000000) (hc : w.heap[gp]? = some (.cells #[.slice AG G.length cG, v1, v2, v3] 36 (0, 0))) (hG : (Kd.int .i64).C w AG G.length G) (hgl : G.length ≤ 1000000) :
    Calls Try.prog 46 #[.slice A l.length c, .func (.func 30) #[] #[.pointer (some ⟨gp, 0, none⟩)]] w fun e w' => ∃ r : Int, e = .returned (.int .i64 r) ∧ IsIdx (fun z : S32 => G.any (fun y => z.f0 == y)) l r ∧ Below w.heap.size w w' := by
  have HR := Aside0.mk hr
  have HL := Aside0.mk hl
  have HB := Aside0.mk (Below.refl w.heap.size w)
  have HC := Aside0.mk hc
  have HG := Aside0.mk hG
  have HGL := Aside0.mk hgl
  clear hr hl hc hG hgl
  go_enter Try.func46, Try.ntmps46
  go_wp2
  go_loopg [8] l.length (fun kq v8 w' => ∃ (i : Nat), v8 = .int .i64 (i : Int) ∧ Aside0 (kq + i = l.length) ∧ Aside0 (∀ j (hj : j < l.length), j < i → (fun z : S32 => G.any (fun y => z.f0 == y)) l[j] = false) ∧ Aside0 (Below w.heap.size w w'))
  case atStart => exact ⟨0, rfl, ⟨by omega⟩, ⟨fun j _ h => by omega⟩, HB⟩
  clear HB
  obtain ⟨i, rfl, HQ, HN, HB⟩ := hrel
  by_cases hlt : i < l.length
  · obtain ⟨k1, rfl⟩ : ∃ k1, gk = k1 + 1 := ⟨gk - 1, by have := HQ.out; omega⟩
    have hd0 : decide (i < l.length) = true := decide_eq_true hlt
    have hd1 : decide ((i : Int) < (l.length : Int)) = true := decide_eq_true (by omega)
    have p0 : 0 ≤ (i : Int) := by omega
    have q0 : (i : Int) < (l.length : Int) := by omega
    obtain ⟨ad, e_, hx0, hx1, hx2, hx3, hx4⟩ := at_T32 (Kd.C_below HR.out HB.out) (i : Int) p0 q0
    cases e_
    have erd : rd_T32 l (i : Int) = l[i] := by simp [rd_T32, List.getD_eq_getElem?_getD, hlt]
    rw [Int.toNat_natCast, erd] at hx0 hx1 hx2 hx3 hx4
    clear erd
    obtain ⟨y, hy⟩ : ∃ y, y = l[i] := ⟨_, rfl⟩
    rw [← hy] at hx0 hx1 hx2 hx3 hx4
    have HY := Aside0.mk hy
    clear hy
    cases hp : ((fun z : S32 => G.any (fun y => z.f0 == y)) y : Bool) with
    | true =>
      have HP := Aside0.mk (show IsIdx (fun z : S32 => G.any (fun y => z.f0 == y)) l (i : Int) from .inl ⟨i, rfl, hlt, by rw [← HY.out]; exact hp, HN.out⟩)
      have HT := Aside0.mk hp
      clear hp HN
      go_wp2_with (go_at_call 30; with_reducible refine (CloB _ y gp G AG cG v1 v2 v3 (blk_below HC.out HB.out) (Kd.C_below HG.out HB.out) HGL.out).mono ?_; rintro e w2 ⟨rfl, hb⟩; have n0_ := bs_ HB hb; clear HB hb; have HB := n0_; clear n0_; rw [show (G.any (fun z => y.f0 == z)) = true from HT.out])
      go_ret
      exact ⟨_, rfl, HP.out, HB.out⟩
    | false =>
      have HN2 := Aside0.mk (show ∀ j (hj : j < l.length), j < i + 1 → (fun z : S32 => G.any (fun y => z.f0 == y)) l[j] = false from fun j hj h => by
        rcases Nat.lt_or_ge j i with h1 | h1
        · exact HN.out j hj h1
        · obtain rfl : j = i := by omega
          rw [← HY.out]; exact hp)
      have HT := Aside0.mk hp
      clear hp HN
      go_wp2_with (go_at_call 30; with_reducible refine (CloB _ y gp G AG cG v1 v2 v3 (blk_below HC.out HB.out) (Kd.C_below HG.out HB.out) HGL.out).mono ?_; rintro e w2 ⟨rfl, hb⟩; have n0_ := bs_ HB hb; clear HB hb; have HB := n0_; clear n0_; rw [show (G.any (fun z => y.f0 == z)) = false from HT.out])
      go_roundg k1
      case measure => have := HQ.out; omega
      case rel => exact ⟨i + 1, by have h_ := HQ.out; have h2_ := HL.out; simp; unfold wrap64; omega, ⟨by have := HQ.out; omega⟩, HN2, HB⟩
  have hd0 : decide (i < l.length) = false := decide_eq_false hlt
  have hd1 : decide ((i : Int) < (l.length : Int)) = false := decide_eq_false (by omega)
  have HP := Aside0.mk (show IsIdx (fun z : S32 => G.any (fun y => z.f0 == y)) l (-1) from idx_none (fun j hj => HN.out j hj (by omega)))
  clear HN
  go_wp2
  go_ret
  exact ⟨_, rfl, HP.out, HB.out⟩
set_option maxHeartbeats 4000000 in
set_option maxRecDepth 100000 in
theorem ContA (w : World) (A : Option Addr) (c : Nat) (l : List S32) (gp : Nat) (id : Int) (hr : Kd.C k32 w A l.length l) (hl : l.length ≤ 1000000) (hc : w.cell? ⟨gp, 0, none⟩ = some (.int .i64 id)) :
    Calls Try.prog 27 #[.slice A l.length c, .func (.func 28) #[] #[.pointer (some ⟨gp, 0, none⟩)]] w fun e w' => e = .returned (.bool (l.any (fun z => z.f0 == id))) ∧ Below w.heap.size w w' := by
  have HR := Aside0.mk hr
  have HL := Aside0.mk hl
  have HC := Aside0.mk hc
  clear hr hl hc
  go_enter Try.func27, Try.ntmps27
  go_wp2_with (go_at_call 46; with_reducible refine (IdxA _ A c l gp id HR.out HL.out HC.out).mono ?_; rintro e w1 ⟨r, rfl, hi, hb⟩; have HB := Aside0.mk hb; have HI := Aside0.mk (idx_any hi); clear hb hi; obtain ⟨br, hbr⟩ : ∃ br, br = decide (0 ≤ r) := ⟨_, rfl⟩; try simp only [← hbr])
  try simp only [← hbr]
  go_ret
  exact ⟨by rw [hbr, HI.out]; rfl, HB.out⟩
end Go.Proofs.Ytmbedgopceigaaa.Q
