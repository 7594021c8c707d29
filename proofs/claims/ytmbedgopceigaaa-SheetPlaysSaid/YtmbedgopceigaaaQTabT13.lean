import Derived.Test.YtmbedgopceigaaaQTabR
import Derived.Test.YtmbedgopceigaaaQTabH
import Derived.Test.YtmbedgopceigaaaM7
namespace Go.Proofs.Ytmbedgopceigaaa.Q
open Go.RowKit Go.Lib Go.Proofs Go.Proofs.Ytmbedgopceigaaa.P Go.Proofs.YtmbedgopceigaaaW.PrintWords Go.Proofs.YtmbedgopceigaaaW.PrintLast Go.Proofs.YtmbedgopceigaaaW.PrintMore
set_option linter.unusedVariables false
set_option linter.unusedSimpArgs false
attribute [local go_sem high] string_leq string_geq string_gtr
/-! The document's sheet at block g -/
structure Rh (w : World) (g : Nat) (l : List S32) (lg sq nx : Int) : Prop where
  out : ∃ u, w.heap[g]? = some (.cells #[u, .int .i64 lg, .int .i64 sq, .int .i64 nx] 45 (0, 0)) ∧ Kd.R k32 32 w 0 (fun k => k ≠ g) u l
theorem Rh.reads {w : World} {g : Nat} {l : List S32} {lg sq nx : Int} (h : Rh w g l lg sq nx) : ∃ A c, w.heap[g]? = some (.cells #[.slice A l.length c, .int .i64 lg, .int .i64 sq, .int .i64 nx] 45 (0, 0)) ∧ l.length ≤ c ∧ Kd.C k32 w A l.length l := by
  obtain ⟨u, h1, h2⟩ := h.out
  obtain ⟨A, c, rfl, h4, h5⟩ := Kd.R_reads h2
  exact ⟨A, c, h1, h4, h5⟩
theorem Rh.lt {w : World} {g : Nat} {l : List S32} {lg sq nx : Int} (h : Rh w g l lg sq nx) : g < w.heap.size := by
  obtain ⟨u, h1, _⟩ := h.out
  exact blk_lt h1
theorem Rh.below {w w' : World} {g : Nat} {l : List S32} {lg sq nx : Int} (h : Rh w g l lg sq nx) (hb : Below w.heap.size w w') : Rh w' g l lg sq nx := by
  obtain ⟨u, h1, h2⟩ := h.out
  exact ⟨u, blk_below h1 hb, Kd.R_below h2 hb⟩
/-- A sheet's box is turned: the document's one stays. -/
theorem Rh.fr {w w' : World} {g g2 : Nat} {l m : List S32} {lg sq nx lg2 sq2 nx2 : Int} (h : Rh w g l lg sq nx) (h2 : Sh w g2 m lg2 sq2 nx2) (hf : Fr w w' (fun k => k = g2)) : Rh w' g l lg sq nx := by
  obtain ⟨u, h1, hr⟩ := h.out
  obtain ⟨u2, h3, _⟩ := h2.out
  have hne : g ≠ g2 := blk_ne h1 h3 (by decide)
  refine ⟨u, (hf.block g (blk_lt h1) hne).trans h1, Kd.R_mono (Kd.R_step (Kd.R_types hr h3 (by simp [k32, Kd.iso, Kd.pair, Kd.int, Kd.string, Kd.scalar])) (fun k hk hlt => hf.block k hlt hk.2)) (fun k hk => hk.1)⟩
theorem Sh.frR {w w' : World} {g g2 : Nat} {l m : List S32} {lg sq nx lg2 sq2 nx2 : Int} (h : Sh w g l lg sq nx) (h2 : Rh w g2 m lg2 sq2 nx2) (hf : Fr w w' (fun k => k = g2)) : Sh w' g l lg sq nx := by
  obtain ⟨u, h1, hr⟩ := h.out
  obtain ⟨u2, h3, _⟩ := h2.out
  have hne : g ≠ g2 := blk_ne h1 h3 (by decide)
  refine ⟨u, (hf.block g (blk_lt h1) hne).trans h1, Kd.R_mono (Kd.R_step (Kd.R_types hr h3 (by simp [k32, Kd.iso, Kd.pair, Kd.int, Kd.string, Kd.scalar])) (fun k hk hlt => hf.block k hlt hk.2)) (fun k hk => hk.1)⟩
set_option maxHeartbeats 4000000 in
set_option maxRecDepth 100000 in
theorem RNew (w : World) : Calls Try.prog 11 #[] w fun e w' => ∃ g : Nat, e = .returned (.pointer (some ⟨g, 0, none⟩)) ∧ Rh w' g [] 1 0 1 ∧ w.heap.size ≤ g ∧ Below w.heap.size w w' := by
  go_enter Try.func11, Try.ntmps11
  go_wp2
  go_ret
  exact ⟨w.heap.size, rfl, ⟨.slice none 0 0, blk_new w _, Kd.R_nil _ _ _ _ _⟩, Nat.le_refl _, below_alloc (Below.refl _ _) _⟩
set_option maxHeartbeats 4000000 in
set_option maxRecDepth 100000 in
theorem RTier (w : World) (g : Nat) (l : List S32) (lg sq nx tier : Int) (h : Rh w g l lg sq nx) (hl : l.length ≤ 1000000) : Calls Try.prog 37 #[.pointer (some ⟨g, 0, none⟩), .int .i64 tier] w fun e w' => ∃ v : Value, e = .returned v ∧ Kd.R k32 32 w' w.heap.size (fun _ => True) v (tierL l tier) ∧ Below w.heap.size w w' := by
  obtain ⟨A, c, h1, h2, h3⟩ := h.reads
  have B := Aside0.mk h1
  have HR := Aside0.mk h3
  have HC := Aside0.mk h2
  have HL := Aside0.mk hl
  have HB := Aside0.mk (Below.refl w.heap.size w)
  clear h1 h3 h2 hl h
  go_enter Try.func37, Try.ntmps37
  go_wp2
  go_loopg [5, 6] l.length (fun kq v5 v6 w' => ∃ (i : Nat), v6 = .int .i64 (i : Int) ∧ Aside0 (kq + i = l.length) ∧ Aside0 (Kd.R k32 32 w' w.heap.size (fun _ => True) v5 ((l.take i).filter (fun z => z.f1 == tier))) ∧ Aside0 (Below w.heap.size w w'))
  case atStart => exact ⟨0, rfl, ⟨by omega⟩, ⟨Kd.R_nil _ _ _ _ _⟩, HB⟩
  clear HB
  obtain ⟨i, rfl, HQ, HO, HB⟩ := hrel
  have hc0 := bc0 (bb_ B HB.out)
  by_cases hlt : i < l.length
  · obtain ⟨k1, rfl⟩ : ∃ k1, gk = k1 + 1 := ⟨gk - 1, by have := HQ.out; omega⟩
    have hd0 : decide (i < l.length) = true := decide_eq_true hlt
    have hd1 : decide ((i : Int) < (l.length : Int)) = true := decide_eq_true (by omega)
    have p0 : 0 ≤ (i : Int) := by omega
    have q0 : (i : Int) < (l.length : Int) := by omega
    obtain ⟨ad, e_, hx0, hx1, hx2, hx3, hx4⟩ := at_T32 (Kd.C_below HR.out HB.out) (i : Int) p0 q0
    cases e_
    rw [Int.toNat_natCast, rdT l i hlt] at hx0 hx1 hx2 hx3 hx4
    have HT := Aside0.mk (take_filter (fun z => z.f1 == tier) l i hlt)
    have HLN := Aside0.mk (len_filter (fun z => z.f1 == tier) l i)
    obtain ⟨y, hy⟩ : ∃ y, y = l[i] := ⟨_, rfl⟩
    rw [← hy] at hx0 hx1 hx2 hx3 hx4 HT
    clear hy
    cases hb : (y.f1 == tier) with
    | false =>
      rw [hb, if_neg (by decide), List.append_nil] at HT
      go_wp2
      go_roundg k1
      case measure => have := HQ.out; omega
      case rel => exact ⟨i + 1, by have h2_ := HL.out; simp; unfold wrap64; omega, ⟨by have := HQ.out; omega⟩, ⟨by rw [HT.out]; exact HO.out⟩, HB⟩
    | true =>
      rw [hb, if_pos rfl] at HT
      go_wp2_with (first | ((with_reducible refine gate_builtin (b := .append) (xs := #[.tmp 26, .tmp 34]) rfl ?_); at_builtin; go_loud (refine Kd.R_append k32 (w0 := w) w.heap.size rfl (.tmp 26) (.tmp 34) 33 32 (.agg #[(.int .i64 0), (.int .i64 0), (.string ⟨#[]⟩), (.string ⟨#[]⟩), (.int .i64 0)]) 56 rfl Try.underlying33 info32 rfl (by decide) (by omega) u5 ((l.take i).filter (fun z => z.f1 == tier)) y [.int .i64 y.f0, .int .i64 y.f1, .string y.f2, .string y.f3, .int .i64 y.f4] (fun _ => True) (fun _ => False) rfl rfl (k32_mkM _ _ _ y) (fun _ h => h.elim) (fun _ _ => trivial) HO.out HB.out HB.out.size (by have := HLN.out; have := HL.out; omega) ?_; intro v1 w4 ho hb hg hat; rw [← HT.out] at ho; have HO2 := Aside0.mk ho; have HB2 := Aside0.mk hb; clear ho hb hg hat HO HB hx0 hx1 hx2 hx3 hx4 hc0)))
      go_roundg k1
      case measure => have := HQ.out; omega
      case rel => exact ⟨i + 1, by have h2_ := HL.out; simp; unfold wrap64; omega, ⟨by have := HQ.out; omega⟩, HO2, HB2⟩
  have hd0 : decide (i < l.length) = false := decide_eq_false hlt
  have hd1 : decide ((i : Int) < (l.length : Int)) = false := decide_eq_false (by omega)
  have HE := Aside0.mk (List.take_of_length_le (show l.length ≤ i by omega))
  go_wp2
  go_ret
  exact ⟨_, rfl, by have h_ := HO.out; rwa [HE.out] at h_, HB.out⟩
end Go.Proofs.Ytmbedgopceigaaa.Q
