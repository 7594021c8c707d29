import Derived.Test.YtmbedgopceigaaaQTabZ

namespace Go.Proofs.Ytmbedgopceigaaa.Q
open Go.RowKit Go.Lib Go.Proofs Go.Proofs.Ytmbedgopceigaaa.P Go.Proofs.YtmbedgopceigaaaW.PrintWords Go.Proofs.YtmbedgopceigaaaW.PrintLast Go.Proofs.YtmbedgopceigaaaW.PrintMore
set_option linter.unusedVariables false
set_option linter.unusedSimpArgs false
attribute [local go_sem high] string_leq string_geq string_gtr
/-! ravelinlaw13.SheetPlays -/
def qT : S32 := ⟨999999, 0, ⟨#[113]⟩, ⟨#[113]⟩, 1⟩
theorem RNew0 (w : World) : Calls Try.prog 11 #[] w fun e w' => ∃ g : Nat, e = .returned (.pointer (some ⟨g, 0, none⟩)) ∧ Rh w' g new0.l new0.lg new0.sq new0.nx ∧ w.heap.size ≤ g ∧ Below w.heap.size w w' := RNew w
theorem RDoX (w : World) (g : Nat) (s : St) (hs : Rh w g s.l s.lg s.sq s.nx) (hinv : InvS s) (G : List Int) (AG : Option Addr) (cG : Nat) (C : List S32) (AC : Option Addr) (cC : Nat) (lg sq : Int)
    (hG : (Kd.int .i64).C w AG G.length G) (hcG : G.length ≤ cG) (hC : Kd.C k32 w AC C.length C) (hcC : C.length ≤ cC) (hlG : G.length ≤ 1000000) (hlC : C.length ≤ 1000000) (n : Int) (s2 : St) (hn : doE s G C lg sq = n) (h2 : doS s G C lg sq = s2) :
    Calls Try.prog 14 #[.pointer (some ⟨g, 0, none⟩), .agg #[.slice AG G.length cG, .slice AC C.length cC, .int .i64 lg, .int .i64 sq]] w fun e w' => e = .returned (.int .i64 n) ∧ Rh w' g s2.l s2.lg s2.sq s2.nx ∧ Fr w w' (fun k => k = g) := by
  refine (RDo w g s hs hinv G AG cG C AC cC lg sq hG hcG hC hcC hlG hlC).mono ?_
  rintro e w' ⟨rfl, h3, h4⟩
  rw [h2] at h3
  exact ⟨by rw [hn], h3, h4⟩
/-- The other sheet's box turns. -/
theorem Sh.frS {w w' : World} {g g2 : Nat} {l m : List S32} {lg sq nx lg2 sq2 nx2 : Int} (h : Sh w g l lg sq nx) (h2 : Sh w g2 m lg2 sq2 nx2) (hne : g ≠ g2) (hf : Fr w w' (fun k => k = g2)) : Sh w' g l lg sq nx := by
  obtain ⟨u, h1, _⟩ := h2.out
  exact h.fr h1 hne hf
abbrev mP0 : Array Bool := #[false, false, false, false, false, false, false, false, false, false, false, false, false, false]
abbrev mP1 : Array Bool := #[true, false, false, false, false, false, false, false, false, false, false, false, false, false]
abbrev mP2 : Array Bool := #[true, true, false, false, false, false, false, false, false, false, false, false, false, false]
abbrev mP3 : Array Bool := #[true, true, true, false, false, false, false, false, false, false, false, false, false, false]
abbrev mP4 : Array Bool := #[true, true, true, true, false, false, false, false, false, false, false, false, false, false]
abbrev mP5 : Array Bool := #[true, true, true, true, false, false, true, false, false, false, false, false, false, false]
abbrev mP6 : Array Bool := #[true, true, true, true, false, false, true, true, false, false, false, false, false, false]
abbrev mP7 : Array Bool := #[true, true, true, true, false, false, true, true, true, false, false, false, false, false]
abbrev mP8 : Array Bool := #[true, true, true, true, false, false, true, true, true, true, false, false, false, false]
abbrev mP9 : Array Bool := #[true, true, true, true, true, false, true, true, true, true, false, false, false, false]
abbrev mP10 : Array Bool := #[true, true, true, true, true, false, true, true, true, true, true, false, false, false]
abbrev mP11 : Array Bool := #[true, true, true, true, true, true, true, true, true, true, true, false, false, false]
abbrev mP12 : Array Bool := #[true, true, true, true, true, true, true, true, true, true, true, true, false, false]
abbrev mP13 : Array Bool := #[true, true, true, true, true, true, true, true, true, true, true, true, true, false]
abbrev mP14 : Array Bool := #[true, true, true, true, true, true, true, true, true, true, true, true, true, true]
set_option maxHeartbeats 8000000 in
set_option maxRecDepth 100000 in
theorem LPlays (w : World) (A0 : Option Addr) (c0 : Nat) (l : List S36) (hr0 : Kd.C k36 w A0 l.length l) (hc0 : l.length ≤ c0) (hl0 : l.length ≤ 9223372036854775807) :
    Calls Try.prog 3 #[.slice A0 l.length c0] w fun e w' => e = .returned (.bool true) ∧ Below w.heap.size w w' := by
  obtain ⟨K, hK⟩ := few_ev l hl0
  have HF := Aside0.mk (hK K (Nat.le_refl _))
  have HR := Aside0.mk hr0
  have HC := Aside0.mk hc0
  have HB := Aside0.mk (Below.refl w.heap.size w)
  clear hK hr0 hc0 hl0
  go_enter Try.func3, Try.ntmps3
  go_upto_region 3 with (go_at_call 8; refine (SKnown _).mono ?_; rintro e w1 ⟨rfl, hb⟩; have n0_ := Aside0.mk (below_step HB.out hb); clear HB hb; have HB := n0_; clear n0_)
  cases hf : fewB l with
  | false =>
    rw [hf] at HF
    go_wp2_with (go_at_call 9; go_loud (with_reducible refine (ravelinlaw13_few.calls K _ _ l false _ (Kd.C_below HR.out HB.out) HC.out HF.out).mono ?_; rintro e w2 ⟨rfl, hd⟩; have n0_ := Aside0.mk (below_step HB.out hd.below); clear HB hd; have HB := n0_; clear n0_))
    go_ret
    exact ⟨rfl, HB.out⟩
  | true =>
  rw [hf] at HF
  have HFW := Aside0.mk hf
  have HLN := Aside0.mk (few_len hf)
  clear hf
  go_wp2_with (first | (go_at_call 9; go_loud (with_reducible refine (ravelinlaw13_few.calls K _ _ l true _ (Kd.C_below HR.out HB.out) HC.out HF.out).mono ?_; rintro e w2 ⟨rfl, hd⟩; have n0_ := Aside0.mk (below_step HB.out hd.below); clear HB hd; have HB := n0_; clear n0_)) | (go_at_call 10; go_loud (with_reducible refine (SNew0 _).mono ?_; rintro e w3 ⟨g0, rfl, hs, hge, hb⟩; have HS := Aside0.mk hs; have HGE := Aside0.mk (Nat.le_trans (below_size HB.out) hge); have n0_ := Aside0.mk (below_step HB.out hb); clear HB hs hge hb; have HB := n0_; clear n0_)) | (go_at_call 11; go_loud (with_reducible refine (RNew0 _).mono ?_; rintro e w4 ⟨g2, rfl, hs, hge, hb⟩; have HT := Aside0.mk hs; have HGE2 := Aside0.mk (Nat.le_trans (below_size HB.out) hge); have n0_ := Aside0.mk (below_step HB.out hb); have n1_ := Aside0.mk (HS.out.below hb); clear HB HS hs hge hb; have HB := n0_; have HS := n1_; clear n0_ n1_)))
  go_loopg [3, 5] l.length (fun kq v3 v5 w' => ∃ (i g : Nat), v5 = .int .i64 (i : Int) ∧ v3 = .pointer (some ⟨g, 0, none⟩) ∧ Aside0 (kq + i = l.length) ∧ Aside0 (w.heap.size ≤ g) ∧ Aside0 (Sh w' g (runS new0 (l.take i)).l (runS new0 (l.take i)).lg (runS new0 (l.take i)).sq (runS new0 (l.take i)).nx) ∧ Aside0 (Rh w' g2 (runS new0 (l.take i)).l (runS new0 (l.take i)).lg (runS new0 (l.take i)).sq (runS new0 (l.take i)).nx) ∧ Aside0 (Below w.heap.size w w'))
  case atStart => exact ⟨0, g0, rfl, rfl, ⟨by omega⟩, HGE, HS, HT, HB⟩
  clear HS HB HT HGE
  obtain ⟨i, g, rfl, rfl, HQ, HGE, HS, HT, HB⟩ := hrel
  by_cases hlt : i < l.length
  · obtain ⟨k1, rfl⟩ : ∃ k1, gk = k1 + 1 := ⟨gk - 1, by have := HQ.out; omega⟩
    have hd0 : decide (i < l.length) = true := decide_eq_true hlt
    have hd1 : decide ((i : Int) < (l.length : Int)) = true := decide_eq_true (by omega)
    have p0 : 0 ≤ (i : Int) := by omega
    have q0 : (i : Int) < (l.length : Int) := by omega
    have HI := Aside0.mk (run_inv kInv0 (l.take i))
    have HTK := Aside0.mk (run_take new0 l i hlt)
    generalize runS new0 (l.take i) = s at HS HT HI HTK
    have HLS := Aside0.mk (show s.l.length ≤ 1000000 by have := HI.out.len; omega)
    go_upto_region 11 with (go_at_call 12; go_loud (with_reducible refine (SCopy _ g s.l s.lg s.sq s.nx HS.out HLS.out).mono ?_; rintro e_ w5 ⟨g5, rfl, hs5, hge5, hb⟩; have HNE := Aside0.mk (show g5 ≠ g by have := HS.out.lt; omega); have HS5 := Aside0.mk hs5; have HGE5 := Aside0.mk (Nat.le_trans (below_size HB.out) hge5); have n0_ := Aside0.mk (HS.out.below hb); have n1_ := Aside0.mk (HT.out.below hb); have n2_ := Aside0.mk (below_step HB.out hb); clear HS HT HB hb hs5 hge5; have HS := n0_; have HT := n1_; have HB := n2_; clear n0_ n1_ n2_))
    go_upto_region 12 with (first
      | ((with_reducible refine gate_dst (N := 27) rfl ?_); go_loud (refine Kd.R_lit k32 _ 32 ?hg (N := 27) ?hd (xs := [qT]) (inner := [.int .i64 999999, .int .i64 0, .string ⟨#[113]⟩, .string ⟨#[113]⟩, .int .i64 1]) (ok := fun _ => True) (okp := fun _ => True) ?hr ?hp (fun _ hk => hk) trivial (Below.refl _ _) (Nat.le_refl _) (by decide) ?_; (case hd => rfl); (case hg => rfl); (case hr => first | (go_simp; done) | (go_simp; rfl)); (case hp => exact (Reps.c5 (k32_mkM _ _ _ qT) (Reps.none _ _))); intro v3 wl ho hb hg_ hnew_; obtain ⟨A3, c3, e3_, hc3_, _⟩ := Kd.R_reads ho; have e3 : v3 = .slice A3 1 c3 := e3_; clear e3_; subst e3; have HQ3 := Aside0.mk (show Kd.C k32 wl A3 ([qT] : List S32).length [qT] from (Kd.R_reads' ho).2.2); have HC3 := Aside0.mk (show ([qT] : List S32).length ≤ c3 from hc3_); have n0_ := Aside0.mk (HS.out.below hb); have n1_ := Aside0.mk (HT.out.below hb); have n2_ := Aside0.mk (below_step HB.out hb); have n3_ := Aside0.mk (HS5.out.below hb); clear HS HT HB HS5 hb ho hg_ hnew_ hc3_; have HS := n0_; have HT := n1_; have HB := n2_; have HS5 := n3_; clear n0_ n1_ n2_ n3_))
      | (go_at_call 13; go_loud (with_reducible refine (DoN _ g s HS.out HI.out [] none 0 [qT] A3 c3 0 0 0 1 (Kd.C_nil _ _) (Nat.le_refl _) HQ3.out HC3.out (by decide) (by simp) _ _ rfl rfl rfl rfl).mono ?_; rintro e_ w6 ⟨rfl, _, _, hf⟩; have n1_ := Aside0.mk (HT.out.fr HS.out hf); have n2_ := Aside0.mk (Fr.to_below HB.out hf (fun k hk => by rw [hk]; exact HGE.out)); have n3_ := Aside0.mk (HS5.out.frS HS.out HNE.out hf); clear HS HT HB HS5 hf HQ3 HC3; have HT := n1_; have HB := n2_; have HS5 := n3_; clear n1_ n2_ n3_)))
    obtain ⟨ad, A4, c4, A5, c5, e_, hx0, hx1, hx2, hx3, h4, h5, h6, h7⟩ := at_T36 HR.out (i : Int) p0 q0
    cases e_
    rw [Int.toNat_natCast, rdE l i hlt] at hx0 hx1 hx2 hx3
    rw [rdE l i hlt] at h4 h5 h6 h7
    have HL4 := Aside0.mk h4
    have HG4 := Aside0.mk h5
    have HL5 := Aside0.mk h6
    have HC5 := Aside0.mk h7
    clear h4 h5 h6 h7
    have HFA := Aside0.mk (few_at HFW.out i hlt)
    obtain ⟨er, her⟩ : ∃ er, er = doE s l[i].f0 l[i].f1 l[i].f2 l[i].f3 := ⟨_, rfl⟩
    have HER := Aside0.mk her.symm
    clear her
    obtain ⟨s2, hs2⟩ : ∃ s2, s2 = runS new0 (l.take (i + 1)) := ⟨_, rfl⟩
    have HS2 := Aside0.mk hs2
    rw [← hs2] at HTK
    clear hs2
    have HI2 := Aside0.mk (show InvS s2 by rw [HTK.out]; exact doS_inv HI.out _ _ _ _)
    obtain ⟨G, hG⟩ : ∃ G, G = l[i].f0 := ⟨_, rfl⟩
    obtain ⟨C, hC⟩ : ∃ C, C = l[i].f1 := ⟨_, rfl⟩
    obtain ⟨lg, hlg⟩ : ∃ C, C = l[i].f2 := ⟨_, rfl⟩
    obtain ⟨sq, hsq⟩ : ∃ C, C = l[i].f3 := ⟨_, rfl⟩
    rw [← hG] at hx0 HL4 HG4 HFA HER HTK
    rw [← hC] at hx1 HL5 HC5 HFA HER HTK
    rw [← hlg] at hx2 HER HTK
    rw [← hsq] at hx3 HER HTK
    clear hG hC hlg hsq
    have n0_ := Aside0.mk (HS5.out.below (below_drew1 (Below.refl _ w6)))
    have n1_ := Aside0.mk (HT.out.below (below_drew1 (Below.refl _ w6)))
    have n2_ := bs_ HB (below_drew1 (Below.refl _ w6))
    clear HS5 HT HB
    have HS := n0_
    have HT := n1_
    have HB := n2_
    clear n0_ n1_ n2_
    generalize hap : ad.add (i * 4) = ap at hx0 hx1 hx2 hx3 ⊢
    refine start_ (n := 14) (S := fun w' => w'.cell? ap = some (.slice A4 G.length c4) ∧ w'.cell? ⟨ap.block, ap.off + 1, none⟩ = some (.slice A5 C.length c5) ∧ w'.cell? ⟨ap.block, ap.off + 2, none⟩ = some (.int .i64 lg) ∧ w'.cell? ⟨ap.block, ap.off + 3, none⟩ = some (.int .i64 sq)) (ds := []) mP0 (by kernel_rfl) rfl rfl ⟨(pw_cell_below HB.out hx0), (pw_cell_below HB.out hx1), (pw_cell_below HB.out hx2), (pw_cell_below HB.out hx3)⟩ (fun hHeld => ?_)
    refine pure_ (i := 0) (N := some 30) (v := ?_) (a' := ?_) mP1 rfl rfl (by kernel_rfl) (fun _ _ _ h => h) (Or.inl ⟨by rfl, ?_⟩) ?_ ?_
    rotate_left
    · intro w'
      go_simp
      with_reducible rfl
    rotate_left
    · simp only [Act.put, List.setIfInBounds_toArray, List.set_cons_zero, List.set_cons_succ, i64_w, i32_w]
      rfl
    refine pure_ (i := 1) (N := some 31) (v := ?_) (a' := ?_) mP2 rfl rfl (by kernel_rfl) (fun _ _ _ h => h) (Or.inl ⟨by rfl, ?_⟩) ?_ ?_
    rotate_left
    · intro w'
      go_simp
      with_reducible rfl
    rotate_left
    · simp only [Act.put, List.setIfInBounds_toArray, List.set_cons_zero, List.set_cons_succ, i64_w, i32_w]
      rfl
    refine pure_ (i := 2) (N := some 32) (v := ?_) (a' := ?_) mP3 rfl rfl (by kernel_rfl) (fun _ _ _ h => h) (Or.inl ⟨by rfl, ?_⟩) ?_ ?_
    rotate_left
    · intro w'
      go_simp
      with_reducible rfl
    rotate_left
    · simp only [Act.put, List.setIfInBounds_toArray, List.set_cons_zero, List.set_cons_succ, i64_w, i32_w]
      rfl
    refine pure_ (i := 3) (N := some 33) (v := ?_) (a' := ?_) mP4 rfl rfl (by kernel_rfl) (fun _ _ _ h => h) (Or.inl ⟨by rfl, ?_⟩) ?_ ?_
    rotate_left
    · intro w'
      go_simp
      with_reducible rfl
    rotate_left
    · simp only [Act.put, List.setIfInBounds_toArray, List.set_cons_zero, List.set_cons_succ, i64_w, i32_w]
      rfl
    refine pure_ (i := 6) (N := some 36) (v := ?_) (a' := ?_) mP5 rfl rfl (by kernel_rfl) (fun _ _ _ h => h) (Or.inl ⟨by rfl, ?_⟩) ?_ ?_
    rotate_left
    · intro w'
      go_simp
      with_reducible rfl
    rotate_left
    · simp only [Act.put, List.setIfInBounds_toArray, List.set_cons_zero, List.set_cons_succ, i64_w, i32_w]
      rfl
    refine pure_ (i := 7) (N := some 37) (v := ?_) (a' := ?_) mP6 rfl rfl (by kernel_rfl) (fun _ _ _ h => h) (Or.inl ⟨by rfl, ?_⟩) ?_ ?_
    rotate_left
    · intro w'
      go_simp
      with_reducible rfl
    rotate_left
    · simp only [Act.put, List.setIfInBounds_toArray, List.set_cons_zero, List.set_cons_succ, i64_w, i32_w]
      rfl
    refine pure_ (i := 8) (N := some 38) (v := ?_) (a' := ?_) mP7 rfl rfl (by kernel_rfl) (fun _ _ _ h => h) (Or.inl ⟨by rfl, ?_⟩) ?_ ?_
    rotate_left
    · intro w'
      go_simp
      with_reducible rfl
    rotate_left
    · simp only [Act.put, List.setIfInBounds_toArray, List.set_cons_zero, List.set_cons_succ, i64_w, i32_w]
      rfl
    refine pure_ (i := 9) (N := some 39) (v := ?_) (a' := ?_) mP8 rfl rfl (by kernel_rfl) (fun _ _ _ h => h) (Or.inl ⟨by rfl, ?_⟩) ?_ ?_
    rotate_left
    · intro w'
      go_simp
      with_reducible rfl
    rotate_left
    · simp only [Act.put, List.setIfInBounds_toArray, List.set_cons_zero, List.set_cons_succ, i64_w, i32_w]
      rfl
    refine take_ (i := 4) (N := some 34) (v := ?_) (a' := ?_) mP9 rfl rfl (by kernel_rfl) (fun _ _ _ h => h) (Or.inl ⟨by rfl, ?_⟩) hHeld ?_ ?_
    rotate_left
    · rintro w' ⟨s0, s1, s2, s3⟩
      go_simp
      with_reducible rfl
    rotate_left
    · simp only [Act.put, List.setIfInBounds_toArray, List.set_cons_zero, List.set_cons_succ, i64_w, i32_w]
      rfl
    refine take_ (i := 10) (N := some 40) (v := ?_) (a' := ?_) mP10 rfl rfl (by kernel_rfl) (fun _ _ _ h => h) (Or.inl ⟨by rfl, ?_⟩) hHeld ?_ ?_
    rotate_left
    · rintro w' ⟨s0, s1, s2, s3⟩
      go_simp
      with_reducible rfl
    rotate_left
    · simp only [Act.put, List.setIfInBounds_toArray, List.set_cons_zero, List.set_cons_succ, i64_w, i32_w]
      rfl
    refine one_ (i := 5) (N := some 35) mP11 rfl rfl (by kernel_rfl) (by decide) (fun K hK => ?_)
    refine goes_ Try.func13 (by kernel_rfl) rfl #[Value.pointer (some ⟨g5, 0, none⟩), Value.agg #[Value.slice A4 G.length c4, Value.slice A5 C.length c5, Value.int .i64 lg, Value.int .i64 sq]] (by rfl) rfl rfl (by simp only [List.map_toArray, List.map_cons, List.map_nil]; rfl) ?_
    with_reducible refine (DoX _ g5 s HS.out HI.out G A4 c4 C A5 c5 lg sq (Kd.C_below HG4.out HB.out) HL4.out (Kd.C_below HC5.out HB.out) HL5.out (by have := HFA.out.1; omega) (by have := HFA.out.2; omega) er s2 HER.out HTK.out.symm).mono ?_
    rintro e_ w7 ⟨rfl, hs, _, hf⟩
    refine ⟨_, rfl, ?_⟩
    have n1_ := Aside0.mk (HT.out.fr HS.out hf)
    have n2_ := Aside0.mk (Fr.to_below HB.out hf (fun k hk => by rw [hk]; exact HGE5.out))
    clear HS HT HB hf
    have HS := Aside0.mk hs
    have HT := n1_
    have HB := n2_
    clear hs n1_ n2_
    refine hK.out _ _ ⟨(pw_cell_below HB.out hx0), (pw_cell_below HB.out hx1), (pw_cell_below HB.out hx2), (pw_cell_below HB.out hx3)⟩ (fun hHeld => ?_)
    clear hK K
    refine norm_ (a' := ?_) ?_ ?_
    rotate_left
    · show Act.put _ (some 35) _ = _
      simp only [Act.put, List.setIfInBounds_toArray, List.set_cons_zero, List.set_cons_succ, i64_w, i32_w]
      rfl
    refine one_ (i := 11) (N := some 41) mP12 rfl rfl (by kernel_rfl) (by decide) (fun K hK => ?_)
    refine goes_ Try.func14 (by kernel_rfl) rfl #[Value.pointer (some ⟨g2, 0, none⟩), Value.agg #[Value.slice A4 G.length c4, Value.slice A5 C.length c5, Value.int .i64 lg, Value.int .i64 sq]] (by rfl) rfl rfl (by simp only [List.map_toArray, List.map_cons, List.map_nil]; rfl) ?_
    with_reducible refine (RDoX _ g2 s HT.out HI.out G A4 c4 C A5 c5 lg sq (Kd.C_below HG4.out HB.out) HL4.out (Kd.C_below HC5.out HB.out) HL5.out (by have := HFA.out.1; omega) (by have := HFA.out.2; omega) er s2 HER.out HTK.out.symm).mono ?_
    rintro e_ w8 ⟨rfl, hs, hf⟩
    refine ⟨_, rfl, ?_⟩
    have n1_ := Aside0.mk (HS.out.frR HT.out hf)
    have n2_ := Aside0.mk (Fr.to_below HB.out hf (fun k hk => by rw [hk]; exact HGE2.out))
    clear HS HT HB hf
    have HT := Aside0.mk hs
    have HS := n1_
    have HB := n2_
    clear hs n1_ n2_
    refine hK.out _ _ ⟨(pw_cell_below HB.out hx0), (pw_cell_below HB.out hx1), (pw_cell_below HB.out hx2), (pw_cell_below HB.out hx3)⟩ (fun hHeld => ?_)
    clear hK K
    refine norm_ (a' := ?_) ?_ ?_
    rotate_left
    · show Act.put _ (some 41) _ = _
      simp only [Act.put, List.setIfInBounds_toArray, List.set_cons_zero, List.set_cons_succ, i64_w, i32_w]
      rfl
    refine pure_ (i := 12) (N := some 7) (v := ?_) (a' := ?_) mP13 rfl rfl (by kernel_rfl) (fun _ _ _ h => h) (Or.inl ⟨by rfl, ?_⟩) ?_ ?_
    rotate_left
    · intro w'
      go_simp
      with_reducible rfl
    rotate_left
    · simp only [Act.put, List.setIfInBounds_toArray, List.set_cons_zero, List.set_cons_succ, i64_w, i32_w]
      rfl
    refine pure_ (i := 13) (N := some 8) (v := ?_) (a' := ?_) mP14 rfl rfl (by kernel_rfl) (fun _ _ _ h => h) (Or.inl ⟨by rfl, ?_⟩) ?_ ?_
    rotate_left
    · intro w'
      go_simp
      with_reducible rfl
    rotate_left
    · simp only [Act.put, List.setIfInBounds_toArray, List.set_cons_zero, List.set_cons_succ, i64_w, i32_w]
      rfl
    refine done_ (by kernel_rfl) ?_

    have hee : (er != er) = false := by simp
    have hee2 : (er == er) = true := by simp
    go_wp2_with (go_at_call 15; go_loud (with_reducible refine (SAlike _ g5 g2 s2 HS.out HT.out HI2.out).mono ?_; rintro e_ w9 ⟨rfl, hb⟩; have n0_ := Aside0.mk (HS.out.below hb); have n1_ := Aside0.mk (HT.out.below hb); have n2_ := Aside0.mk (below_step HB.out hb); clear HS HT HB hb; have HS := n0_; have HT := n1_; have HB := n2_; clear n0_ n1_ n2_))
    go_roundg k1
    case measure => have := HQ.out; omega
    case rel => exact ⟨i + 1, g5, by have h2_ := HLN.out; simp; unfold wrap64; omega, rfl, ⟨by have := HQ.out; omega⟩, HGE5, ⟨by rw [← HS2.out]; exact HS.out⟩, ⟨by rw [← HS2.out]; exact HT.out⟩, HB⟩
  have hd0 : decide (i < l.length) = false := decide_eq_false hlt
  have hd1 : decide ((i : Int) < (l.length : Int)) = false := decide_eq_false (by omega)
  have HI := Aside0.mk (run_inv kInv0 (l.take i))
  generalize runS new0 (l.take i) = s at HS HT HI
  go_wp2_with (go_at_call 15; go_loud (with_reducible refine (SAlike _ g g2 s HS.out HT.out HI.out).mono ?_; rintro e_ w9 ⟨rfl, hb⟩; have n2_ := Aside0.mk (below_step HB.out hb); clear HB hb; have HB := n2_; clear n2_))
  go_ret
  exact ⟨rfl, HB.out⟩
end Go.Proofs.Ytmbedgopceigaaa.Q
