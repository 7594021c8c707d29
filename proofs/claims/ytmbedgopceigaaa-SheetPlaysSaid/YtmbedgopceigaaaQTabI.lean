import Derived.Test.YtmbedgopceigaaaQTabH
namespace Go.Proofs.Ytmbedgopceigaaa.Q
open Go.RowKit Go.Lib Go.Proofs Go.Proofs.Ytmbedgopceigaaa.P Go.Proofs.YtmbedgopceigaaaW.PrintWords Go.Proofs.YtmbedgopceigaaaW.PrintLast Go.Proofs.YtmbedgopceigaaaW.PrintMore
set_option linter.unusedVariables false
set_option linter.unusedSimpArgs false
attribute [local go_sem high] string_leq string_geq string_gtr
/-! The sheet's numbers; a copy -/
theorem SLog (w : World) (g : Nat) (l : List S32) (lg sq nx : Int) (h : Sh w g l lg sq nx) : Calls Try.prog 19 #[.pointer (some ⟨g, 0, none⟩)] w fun e w' => e = .returned (.int .i64 lg) ∧ Below w.heap.size w w' := by
  obtain ⟨A, c, h1, h2, h3⟩ := h.reads
  have hc1 := bc1 (Aside0.mk h1)
  clear h1 h2 h3 h
  go_enter Try.func19, Try.ntmps19
  go_wp2
  go_ret
  exact ⟨rfl, Below.refl _ _⟩
theorem SSeq (w : World) (g : Nat) (l : List S32) (lg sq nx : Int) (h : Sh w g l lg sq nx) : Calls Try.prog 20 #[.pointer (some ⟨g, 0, none⟩)] w fun e w' => e = .returned (.int .i64 sq) ∧ Below w.heap.size w w' := by
  obtain ⟨A, c, h1, h2, h3⟩ := h.reads
  have hc1 := bc2 (Aside0.mk h1)
  clear h1 h2 h3 h
  go_enter Try.func20, Try.ntmps20
  go_wp2
  go_ret
  exact ⟨rfl, Below.refl _ _⟩
theorem SNext (w : World) (g : Nat) (l : List S32) (lg sq nx : Int) (h : Sh w g l lg sq nx) : Calls Try.prog 21 #[.pointer (some ⟨g, 0, none⟩)] w fun e w' => e = .returned (.int .i64 nx) ∧ Below w.heap.size w w' := by
  obtain ⟨A, c, h1, h2, h3⟩ := h.reads
  have hc1 := bc3 (Aside0.mk h1)
  clear h1 h2 h3 h
  go_enter Try.func21, Try.ntmps21
  go_wp2
  go_ret
  exact ⟨rfl, Below.refl _ _⟩
set_option maxHeartbeats 4000000 in
set_option maxRecDepth 100000 in
theorem SCopy (w : World) (g : Nat) (l : List S32) (lg sq nx : Int) (h : Sh w g l lg sq nx) (hl : l.length ≤ 1000000) : Calls Try.prog 12 #[.pointer (some ⟨g, 0, none⟩)] w fun e w' => ∃ g2 : Nat, e = .returned (.pointer (some ⟨g2, 0, none⟩)) ∧ Sh w' g2 l lg sq nx ∧ w.heap.size ≤ g2 ∧ Below w.heap.size w w' := by
  obtain ⟨A, c, h1, h2, h3⟩ := h.reads
  have B := Aside0.mk h1
  have HR := Aside0.mk h3
  have HC := Aside0.mk h2
  have HL := Aside0.mk hl
  clear h1 h3 h2 hl h
  have hc0 := bc0 B
  have hc1 := bc1 B
  have hc2 := bc2 B
  have hc3 := bc3 B
  go_enter Try.func12, Try.ntmps12
  go_upto_region 2 with go_step3
  have HB := Aside0.mk (below_alloc (Below.refl w.heap.size w) (.cells #[.slice A l.length c, .int .i64 lg, .int .i64 sq, .int .i64 nx] 57))
  have BX := Aside0.mk (blk_new w (.cells #[.slice A l.length c, .int .i64 lg, .int .i64 sq, .int .i64 nx] 57))
  have B2 := Aside0.mk (blk_below B.out HB.out)
  have HR2 := Aside0.mk (Kd.C_below HR.out HB.out)
  have HGE := Aside0.mk (Nat.le_refl w.heap.size)
  have HLT := Aside0.mk (blk_lt BX.out)
  clear hc0 hc1 hc2 hc3
  generalize w.alloc (.cells #[.slice A l.length c, .int .i64 lg, .int .i64 sq, .int .i64 nx] 57) = w1 at HB BX B2 HR2 HLT ⊢
  generalize hgx : w.heap.size = gx at BX HLT HGE ⊢
  have HGX := Aside0.mk hgx
  clear hgx
  have hc0 := bc0 B2
  go_upto_region 3 with (go_at_call 25; go_loud (with_reducible refine (CloneT _ A c l HR2.out HC.out HL.out).mono ?_; rintro e w2 ⟨v, rfl, ho, hb⟩; obtain ⟨A2, c2, e2_, _, _⟩ := Kd.R_reads ho; subst e2_; have HO := Aside0.mk ho; have HB2 := Aside0.mk hb; clear ho hb hc0; have hx0 := bc0 (bb_ BX HB2.out); have hf0 := bf_ (bb_ BX HB2.out) 0))
  have BX2 := bb_ BX HB2.out
  have HR3 := Aside0.mk (show Kd.R k32 32 w2 0 (fun k => k ≠ gx) (.slice A2 l.length c2) l from Kd.R_lower (Kd.R_mono (Kd.R_bound HO.out) (fun k hk e => by have h1 := hk.2.1; have h2 := HLT.out; omega)) (Nat.zero_le _))
  go_wp2
  go_ret
  refine ⟨gx, rfl, ⟨.slice A2 l.length c2, blk_put BX2.out 0 _ rfl, Kd.R_far (p := ⟨gx, 0, none⟩) HR3.out (fun _ hk => hk) _⟩, Nat.le_of_eq HGX.out, ?_⟩
  rw [HGX.out]
  have hle := HGX.out
  exact (below_step HB.out HB2.out |> fun h => (by rw [hle] at h; exact h : Below gx w w2)).setCell (Nat.le_refl gx) _
end Go.Proofs.Ytmbedgopceigaaa.Q
