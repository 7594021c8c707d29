import Derived.Test.YtmbedgopceigaaaQTabS
namespace Go.Proofs.Ytmbedgopceigaaa.Q
open Go.RowKit Go.Lib Go.Proofs Go.Proofs.Ytmbedgopceigaaa.P Go.Proofs.YtmbedgopceigaaaW.PrintWords Go.Proofs.YtmbedgopceigaaaW.PrintLast Go.Proofs.YtmbedgopceigaaaW.PrintMore
set_option linter.unusedVariables false
set_option linter.unusedSimpArgs false
attribute [local go_sem high] string_leq string_geq string_gtr
/-! A sheet at block g -/
/-- Nothing of w is turned but what is F. -/
structure Fr (w w' : World) (F : Nat → Prop) : Prop where
  os : w'.os = w.os
  tape : w'.tape = w.tape
  output : w'.output = w.output
  size : w.heap.size ≤ w'.heap.size
  block : ∀ k, k < w.heap.size → ¬ F k → w'.heap[k]? = w.heap[k]?
theorem Fr.below {w w' : World} {F : Nat → Prop} (h : Below w.heap.size w w') : Fr w w' F := ⟨h.os, h.tape, h.output, h.size, fun k hk _ => h.block k hk⟩
theorem Fr.set {w w4 : World} {F : Nat → Prop} {g j : Nat} (h : Fr w w4 F) (hg : F g) (v : Value) : Fr w (w4.setCell ⟨g, j, none⟩ v) F :=
  have hb : Below g w4 (w4.setCell ⟨g, j, none⟩ v) := (Below.refl g w4).setCell (Nat.le_refl _) _
  ⟨hb.os.trans h.os, hb.tape.trans h.tape, hb.output.trans h.output, Nat.le_trans h.size hb.size, fun k hk hn => (Below.heap_setCell w4 ⟨g, j, none⟩ v k (fun e => hn (e ▸ hg))).trans (h.block k hk hn)⟩
/-- What is F is new to w0: nothing of w0 is turned. -/
theorem Fr.to_below {w0 w w' : World} {F : Nat → Prop} (hb : Below w0.heap.size w0 w) (h : Fr w w' F) (hF : ∀ k, F k → w0.heap.size ≤ k) : Below w0.heap.size w0 w' :=
  ⟨h.os.trans hb.os, h.tape.trans hb.tape, h.output.trans hb.output, Nat.le_trans hb.size h.size, fun k hk => (h.block k (Nat.lt_of_lt_of_le hk hb.size) (fun hf => by have := hF k hf; omega)).trans (hb.block k hk)⟩
structure Sh (w : World) (g : Nat) (l : List S32) (lg sq nx : Int) : Prop where
  out : ∃ u, w.heap[g]? = some (.cells #[u, .int .i64 lg, .int .i64 sq, .int .i64 nx] 57 (0, 0)) ∧ Kd.R k32 32 w 0 (fun k => k ≠ g) u l
theorem Sh.reads {w : World} {g : Nat} {l : List S32} {lg sq nx : Int} (h : Sh w g l lg sq nx) : ∃ A c, w.heap[g]? = some (.cells #[.slice A l.length c, .int .i64 lg, .int .i64 sq, .int .i64 nx] 57 (0, 0)) ∧ l.length ≤ c ∧ Kd.C k32 w A l.length l := by
  obtain ⟨u, h1, h2⟩ := h.out
  obtain ⟨A, c, rfl, h4, h5⟩ := Kd.R_reads h2
  exact ⟨A, c, h1, h4, h5⟩
theorem Sh.lt {w : World} {g : Nat} {l : List S32} {lg sq nx : Int} (h : Sh w g l lg sq nx) : g < w.heap.size := by
  obtain ⟨u, h1, _⟩ := h.out
  exact blk_lt h1
theorem Sh.below {w w' : World} {g : Nat} {l : List S32} {lg sq nx : Int} (h : Sh w g l lg sq nx) (hb : Below w.heap.size w w') : Sh w' g l lg sq nx := by
  obtain ⟨u, h1, h2⟩ := h.out
  exact ⟨u, blk_below h1 hb, Kd.R_below h2 hb⟩
/-- Another sheet's box is turned. -/
theorem Sh.fr {w w' : World} {g g2 : Nat} {l : List S32} {lg sq nx : Int} (h : Sh w g l lg sq nx) {cs : Array Value} (h2 : w.heap[g2]? = some (.cells cs 57 (0, 0))) (hne : g ≠ g2) (hf : Fr w w' (fun k => k = g2)) : Sh w' g l lg sq nx := by
  obtain ⟨u, h1, hr⟩ := h.out
  refine ⟨u, (hf.block g (blk_lt h1) hne).trans h1, Kd.R_mono (Kd.R_step (Kd.R_types hr h2 (by simp [k32, Kd.iso, Kd.pair, Kd.int, Kd.string, Kd.scalar])) (fun k hk hlt => hf.block k hlt hk.2)) (fun k hk => hk.1)⟩
/-- A row of tables of one's own, a sheet's box turned. -/
theorem row_fr {w w' : World} {g2 base : Nat} {ok : Nat → Prop} {v : Value} {l : List S32} (hr : Kd.R k32 32 w base ok v l) {cs : Array Value} (h2 : w.heap[g2]? = some (.cells cs 57 (0, 0))) (hf : Fr w w' (fun k => k = g2)) : Kd.R k32 32 w' base ok v l :=
  Kd.R_mono (Kd.R_step (Kd.R_types hr h2 (by simp [k32, Kd.iso, Kd.pair, Kd.int, Kd.string, Kd.scalar])) (fun k hk hlt => hf.block k hlt hk.2)) (fun k hk => hk.1)
set_option maxHeartbeats 4000000 in
set_option maxRecDepth 100000 in
theorem SNew (w : World) : Calls Try.prog 10 #[] w fun e w' => ∃ g : Nat, e = .returned (.pointer (some ⟨g, 0, none⟩)) ∧ Sh w' g [] 1 0 1 ∧ w.heap.size ≤ g ∧ Below w.heap.size w w' := by
  go_enter Try.func10, Try.ntmps10
  go_wp2
  go_ret
  exact ⟨w.heap.size, rfl, ⟨.slice none 0 0, blk_new w _, Kd.R_nil _ _ _ _ _⟩, Nat.le_refl _, below_alloc (Below.refl _ _) _⟩
set_option maxHeartbeats 4000000 in
set_option maxRecDepth 100000 in
theorem STables (w : World) (g : Nat) (l : List S32) (lg sq nx : Int) (h : Sh w g l lg sq nx) (hl : l.length ≤ 1000000) : Calls Try.prog 22 #[.pointer (some ⟨g, 0, none⟩)] w fun e w' => ∃ v : Value, e = .returned v ∧ Kd.R k32 32 w' w.heap.size (fun _ => True) v l ∧ Below w.heap.size w w' := by
  obtain ⟨A, c, h1, h2, h3⟩ := h.reads
  have B := Aside0.mk h1
  have hc0 := bc0 B
  have HR := Aside0.mk h3
  have HC := Aside0.mk h2
  have HL := Aside0.mk hl
  clear h1 h3 h2 hl h
  go_enter Try.func22, Try.ntmps22
  go_wp2_with (go_at_call 25; with_reducible refine (CloneT _ A c l HR.out HC.out HL.out).mono ?_; rintro e w1 ⟨v, rfl, ho, hb⟩; have HO := Aside0.mk ho; have HB := Aside0.mk hb; clear ho hb)
  go_ret
  exact ⟨_, rfl, HO.out, HB.out⟩
set_option maxHeartbeats 4000000 in
set_option maxRecDepth 100000 in
theorem STier (w : World) (g : Nat) (l : List S32) (lg sq nx tier : Int) (h : Sh w g l lg sq nx) (hl : l.length ≤ 1000000) : Calls Try.prog 24 #[.pointer (some ⟨g, 0, none⟩), .int .i64 tier] w fun e w' => ∃ v : Value, e = .returned v ∧ Kd.R k32 32 w' w.heap.size (fun _ => True) v (l.filter (fun z => z.f1 == tier)) ∧ Below w.heap.size w w' := by
  obtain ⟨A, c, h1, h2, h3⟩ := h.reads
  have B := Aside0.mk h1
  have hc0 := bc0 B
  have HR := Aside0.mk h3
  have HC := Aside0.mk h2
  have HL := Aside0.mk hl
  have HB := Aside0.mk (Below.refl w.heap.size w)
  clear h1 h3 h2 hl h
  go_enter Try.func24, Try.ntmps24
  go_wp2
  go_loopg [5, 13] l.length (fun kq v5 v13 w' => ∃ (i : Nat), v13 = .int .i64 (i : Int) ∧ Aside0 (kq + i = l.length) ∧ Aside0 (Kd.R k32 32 w' w.heap.size (fun _ => True) v5 ((l.take i).filter (fun z => z.f1 == tier))) ∧ Aside0 (Below w.heap.size w w'))
  case atStart => exact ⟨0, rfl, ⟨by omega⟩, ⟨Kd.R_nil _ _ _ _ _⟩, HB⟩
  clear HB
  obtain ⟨i, rfl, HQ, HO, HB⟩ := hrel
  by_cases hlt : i < l.length
  · obtain ⟨k1, rfl⟩ : ∃ k1, gk = k1 + 1 := ⟨gk - 1, by have := HQ.out; omega⟩
    have hd0 : decide (i < l.length) = true := decide_eq_true hlt
    have hd1 : decide ((i : Int) < (l.length : Int)) = true := decide_eq_true (by omega)
    have p0 : 0 ≤ (i : Int) := by omega
    have q0 : (i : Int) < (l.length : Int) := by omega
    obtain ⟨ad, e_, hx0, hx1, hx2, hx3, hx4⟩ := at_T32 (Kd.C_below HR.out HB.out) (i : Int) p0 q0
    cases e_
    rw [Int.toNat_natCast, rdT l i hlt] at hx0 hx1 hx2 hx3 hx4
    have HT := Aside0.mk (show (l.take (i + 1)).filter (fun z => z.f1 == tier) = (l.take i).filter (fun z => z.f1 == tier) ++ (if (l[i].f1 == tier) = true then [l[i]] else []) by
      rw [List.take_succ_eq_append_getElem hlt, List.filter_append]
      congr 1
      cases hb : (l[i].f1 == tier) <;> simp [hb])
    have HLN := Aside0.mk (show ((l.take i).filter (fun z => z.f1 == tier)).length ≤ 1000000 by
      have h1 := List.length_filter_le (fun z : S32 => z.f1 == tier) (l.take i)
      rw [List.length_take] at h1
      have h2 := HL.out
      omega)
    obtain ⟨y, hy⟩ : ∃ y, y = l[i] := ⟨_, rfl⟩
    rw [← hy] at hx0 hx1 hx2 hx3 hx4 HT
    clear hy
    go_upto_region 5 with go_step3
    have n0_ := Aside0.mk (Kd.R_below HO.out (below_alloc (Below.refl _ wr) (.cells #[.int .i64 y.f0, .int .i64 y.f1, .string y.f2, .string y.f3, .int .i64 y.f4] 32)))
    have n1_ := bs_ HB (below_alloc (Below.refl _ wr) (.cells #[.int .i64 y.f0, .int .i64 y.f1, .string y.f2, .string y.f3, .int .i64 y.f4] 32))
    have BX := Aside0.mk (blk_new wr (.cells #[.int .i64 y.f0, .int .i64 y.f1, .string y.f2, .string y.f3, .int .i64 y.f4] 32))
    clear HO HB hx0 hx1 hx2 hx3 hx4
    have HO := n0_
    have HB := n1_
    clear n0_ n1_
    generalize wr.alloc (.cells #[.int .i64 y.f0, .int .i64 y.f1, .string y.f2, .string y.f3, .int .i64 y.f4] 32) = w2 at HO HB BX ⊢
    generalize wr.heap.size = gb at BX ⊢
    have hz0 := bc0 BX
    have hz1 := bc1 BX
    have hz2 := bc2 BX
    have hz3 := bc3 BX
    have hz4 := bc4 BX
    cases hb : (y.f1 == tier) with
    | false =>
      rw [hb, if_neg (by decide), List.append_nil] at HT
      go_wp2
      go_roundg k1
      case measure => have := HQ.out; omega
      case rel => exact ⟨i + 1, by have h2_ := HL.out; simp; unfold wrap64; omega, ⟨by have := HQ.out; omega⟩, ⟨by rw [HT.out]; exact HO.out⟩, HB⟩
    | true =>
      rw [hb, if_pos rfl] at HT
      go_wp2_with (first | ((with_reducible refine gate_builtin (b := .append) (xs := #[.tmp 21, .tmp 23]) rfl ?_); at_builtin; go_loud (refine Kd.R_append k32 (w0 := w) w.heap.size rfl (.tmp 21) (.tmp 23) 33 32 (.agg #[(.int .i64 0), (.int .i64 0), (.string ⟨#[]⟩), (.string ⟨#[]⟩), (.int .i64 0)]) 56 rfl Try.underlying33 info32 rfl (by decide) (by omega) u5 ((l.take i).filter (fun z => z.f1 == tier)) y [.int .i64 y.f0, .int .i64 y.f1, .string y.f2, .string y.f3, .int .i64 y.f4] (fun _ => True) (fun _ => False) rfl rfl (k32_mkM _ _ _ y) (fun _ h => h.elim) (fun _ _ => trivial) HO.out HB.out HB.out.size (by have := HLN.out; omega) ?_; intro v1 w4 ho hb hg hat; rw [← HT.out] at ho; have HO2 := Aside0.mk ho; have HB2 := Aside0.mk hb; clear ho hb hg hat HO HB BX hz0 hz1 hz2 hz3 hz4)))
      go_roundg k1
      case measure => have := HQ.out; omega
      case rel => exact ⟨i + 1, by have h2_ := HL.out; simp; unfold wrap64; omega, ⟨by have := HQ.out; omega⟩, HO2, HB2⟩
  have hd0 : decide (i < l.length) = false := decide_eq_false hlt
  have hd1 : decide ((i : Int) < (l.length : Int)) = false := decide_eq_false (by omega)
  have HE := Aside0.mk (List.take_of_length_le (show l.length ≤ i by omega))
  go_wp2
  go_ret
  exact ⟨_, rfl, by have h_ := HO.out; rwa [HE.out] at h_, HB.out⟩
end Go.Proofs.Ytmbedgopceigaaa.Q
