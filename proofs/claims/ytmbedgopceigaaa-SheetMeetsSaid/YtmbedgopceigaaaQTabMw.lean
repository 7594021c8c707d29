import Derived.Test.YtmbedgopceigaaaQTabMt
namespace Go.Proofs.Ytmbedgopceigaaa.Q
open Go.RowKit Go.Lib Go.Proofs Go.Proofs.Ytmbedgopceigaaa.P Go.Proofs.YtmbedgopceigaaaW.PrintWords Go.Proofs.YtmbedgopceigaaaW.PrintLast Go.Proofs.YtmbedgopceigaaaW.PrintMore
set_option linter.unusedVariables false
set_option linter.unusedSimpArgs false
attribute [local go_sem high] string_leq string_geq string_gtr
/-! ravelinlaw13.SheetMeets -/
theorem size_al (w : World) (o : Obj) : (w.alloc o).heap.size = w.heap.size + 1 := Array.size_push _
set_option maxHeartbeats 8000000 in
set_option maxRecDepth 100000 in
theorem LMeets (w : World) (a b c d e : Nat) (ha : a < 256) (hb : b < 256) (hc : c < 256) (hd : d < 256) (he : e < 256) :
    Calls Try.prog 6 #[.int .u8 (a : Int), .int .u8 (b : Int), .int .u8 (c : Int), .int .u8 (d : Int), .int .u8 (e : Int)] w fun e_ w' => e_ = .returned (.bool true) ∧ Below w.heap.size w w' := by
  have HB := Aside0.mk (Below.refl w.heap.size w)
  clear ha hb hc hd he
  go_enter Try.func6, Try.ntmps6
  go_upto_region 4 with (go_at_call 8; refine (SKnown _).mono ?_; rintro e_ w4 ⟨rfl, hb⟩; have n0_ := Aside0.mk (below_step HB.out hb); clear HB hb; have HB := n0_; clear n0_)
  obtain ⟨x, hx⟩ : ∃ x : Nat, (a : Int) % 10 = (x : Int) := ⟨a % 10, by omega⟩
  obtain ⟨y, hy⟩ : ∃ y : Nat, (c : Int) % 10 = (y : Int) := ⟨c % 10, by omega⟩
  obtain ⟨bm, hbm⟩ : ∃ y : Nat, (b : Int) % 5 = (y : Int) := ⟨b % 5, by omega⟩
  obtain ⟨dm, hdm⟩ : ∃ y : Nat, (d : Int) % 5 = (y : Int) := ⟨d % 5, by omega⟩
  obtain ⟨tm, htm⟩ : ∃ y : Nat, (e : Int) % 2 = (y : Int) := ⟨e % 2, by omega⟩
  have Hx := Aside0.mk (show x < 10 by omega)
  have Hy := Aside0.mk (show y < 10 by omega)
  have Hbm := Aside0.mk (show bm < 5 by omega)
  have Hdm := Aside0.mk (show dm < 5 by omega)
  have Htm := Aside0.mk (show tm = 0 ∨ tm = 1 by omega)
  rw [hx, hy]
  clear hx hy
  obtain ⟨px, hpx⟩ : ∃ p : Nat, p = 97 + x := ⟨_, rfl⟩
  obtain ⟨qx, hqx⟩ : ∃ p : Nat, p = 97 + x + bm := ⟨_, rfl⟩
  have hcv1 := b1_conv (w4.alloc (.cells #[.int .u8 (px : Int)] 5)) w4.heap.size px (blk_new w4 _) (by have := Hx.out; omega)
  have hcv2 := b1_conv ((w4.alloc (.cells #[.int .u8 (px : Int)] 5)).alloc (.cells #[.int .u8 (qx : Int)] 5)) (w4.heap.size + 1) qx (by have h_ := blk_new (w4.alloc (.cells #[.int .u8 (px : Int)] 5)) (.cells #[.int .u8 (qx : Int)] 5); rw [size_al] at h_; exact h_) (by have := Hx.out; have := Hbm.out; omega)
  have r1 : wrap64 (97 + (x : Int)) = (px : Int) := by rw [w64 (by have := Hx.out; omega)]; omega
  have r2 : wrap64 ((px : Int) + (bm : Int)) = (qx : Int) := by clear r1; rw [w64 (by have := Hx.out; have := Hbm.out; omega)]; omega
  have r3 : IntKind.u8.wrap (px : Int) = (px : Int) := u8w1 (by clear r1 r2; have := Hx.out; omega)
  have r4 : IntKind.u8.wrap (qx : Int) = (qx : Int) := u8w1 (by clear r1 r2 r3; have := Hx.out; have := Hbm.out; omega)
  have HPx := Aside0.mk (⟨hpx, hqx⟩ : px = 97 + x ∧ qx = 97 + x + bm)
  clear hpx hqx
  go_upto_region 5 with (fail)
  have BT := Aside0.mk (show (((w4.alloc (.cells #[.int .u8 (px : Int)] 5)).alloc (.cells #[.int .u8 (qx : Int)] 5)).alloc (.cells #[.int .i64 1, .int .i64 1, .string (B1 px), .string (B1 qx), .int .i64 1] 32)).heap[w4.heap.size + 1 + 1]? = some (.cells #[.int .i64 1, .int .i64 1, .string (B1 px), .string (B1 qx), .int .i64 1] 32 (0, 0)) by
    have h_ := blk_new ((w4.alloc (.cells #[.int .u8 (px : Int)] 5)).alloc (.cells #[.int .u8 (qx : Int)] 5)) (.cells #[.int .i64 1, .int .i64 1, .string (B1 px), .string (B1 qx), .int .i64 1] 32)
    rw [size_al, size_al] at h_; exact h_)
  have hbl_ : Below w4.heap.size w4 (((w4.alloc (.cells #[.int .u8 (px : Int)] 5)).alloc (.cells #[.int .u8 (qx : Int)] 5)).alloc (.cells #[.int .i64 1, .int .i64 1, .string (B1 px), .string (B1 qx), .int .i64 1] 32)) := below_alloc (below_alloc (below_alloc (Below.refl _ _) _) _) _
  have n1_ := Aside0.mk (below_step HB.out hbl_)
  clear HB hbl_ hcv1 hcv2 r1 r2 r3 r4
  have HB := n1_
  clear n1_
  generalize ((w4.alloc (.cells #[.int .u8 (px : Int)] 5)).alloc (.cells #[.int .u8 (qx : Int)] 5)).alloc (.cells #[.int .i64 1, .int .i64 1, .string (B1 px), .string (B1 qx), .int .i64 1] 32) = w5 at HB BT  ⊢
  generalize w4.heap.size + 1 + 1 = gt at BT ⊢
  obtain ⟨py, hpy⟩ : ∃ p : Nat, p = 97 + y := ⟨_, rfl⟩
  obtain ⟨qy, hqy⟩ : ∃ p : Nat, p = 97 + y + dm := ⟨_, rfl⟩
  have hcv1 := b1_conv (w5.alloc (.cells #[.int .u8 (py : Int)] 5)) w5.heap.size py (blk_new w5 _) (by have := Hy.out; omega)
  have hcv2 := b1_conv ((w5.alloc (.cells #[.int .u8 (py : Int)] 5)).alloc (.cells #[.int .u8 (qy : Int)] 5)) (w5.heap.size + 1) qy (by have h_ := blk_new (w5.alloc (.cells #[.int .u8 (py : Int)] 5)) (.cells #[.int .u8 (qy : Int)] 5); rw [size_al] at h_; exact h_) (by have := Hy.out; have := Hdm.out; omega)
  have r1 : wrap64 (97 + (y : Int)) = (py : Int) := by rw [w64 (by have := Hy.out; omega)]; omega
  have r2 : wrap64 ((py : Int) + (dm : Int)) = (qy : Int) := by clear r1; rw [w64 (by have := Hy.out; have := Hdm.out; omega)]; omega
  have r3 : IntKind.u8.wrap (py : Int) = (py : Int) := u8w1 (by clear r1 r2; have := Hy.out; omega)
  have r4 : IntKind.u8.wrap (qy : Int) = (qy : Int) := u8w1 (by clear r1 r2 r3; have := Hy.out; have := Hdm.out; omega)
  have HPy := Aside0.mk (⟨hpy, hqy⟩ : py = 97 + y ∧ qy = 97 + y + dm)
  clear hpy hqy
  go_upto_region 6 with (fail)
  have BU := Aside0.mk (show (((w5.alloc (.cells #[.int .u8 (py : Int)] 5)).alloc (.cells #[.int .u8 (qy : Int)] 5)).alloc (.cells #[.int .i64 2, .int .i64 (tm : Int), .string (B1 py), .string (B1 qy), .int .i64 1] 32)).heap[w5.heap.size + 1 + 1]? = some (.cells #[.int .i64 2, .int .i64 (tm : Int), .string (B1 py), .string (B1 qy), .int .i64 1] 32 (0, 0)) by
    have h_ := blk_new ((w5.alloc (.cells #[.int .u8 (py : Int)] 5)).alloc (.cells #[.int .u8 (qy : Int)] 5)) (.cells #[.int .i64 2, .int .i64 (tm : Int), .string (B1 py), .string (B1 qy), .int .i64 1] 32)
    rw [size_al, size_al] at h_; exact h_)
  have hbl_ : Below w5.heap.size w5 (((w5.alloc (.cells #[.int .u8 (py : Int)] 5)).alloc (.cells #[.int .u8 (qy : Int)] 5)).alloc (.cells #[.int .i64 2, .int .i64 (tm : Int), .string (B1 py), .string (B1 qy), .int .i64 1] 32)) := below_alloc (below_alloc (below_alloc (Below.refl _ _) _) _) _
  have n1_ := Aside0.mk (below_step HB.out hbl_)
  have nBT_ := bb_ BT hbl_
  clear BT
  have BT := nBT_
  clear nBT_
  clear HB hbl_ hcv1 hcv2 r1 r2 r3 r4
  have HB := n1_
  clear n1_
  generalize ((w5.alloc (.cells #[.int .u8 (py : Int)] 5)).alloc (.cells #[.int .u8 (qy : Int)] 5)).alloc (.cells #[.int .i64 2, .int .i64 (tm : Int), .string (B1 py), .string (B1 qy), .int .i64 1] 32) = w6 at HB BU BT ⊢
  generalize w5.heap.size + 1 + 1 = gu at BU ⊢
  obtain ⟨tt, htt⟩ : ∃ t, t = mT 1 1 x bm := ⟨_, rfl⟩
  obtain ⟨ut, hut⟩ : ∃ t, t = mT 2 (tm : Int) y dm := ⟨_, rfl⟩
  obtain ⟨vt, hvt⟩ : ∃ t, t = mT 9 1 x bm := ⟨_, rfl⟩
  have HIT := Aside0.mk (show isT tt = true by rw [htt]; exact mT_is (by decide) (by decide) (.inr rfl) Hx.out Hbm.out)
  have HIU := Aside0.mk (show isT ut = true by rw [hut]; exact mT_is (by decide) (by decide) (by rcases Htm.out with h | h <;> rw [h] <;> decide) Hy.out Hdm.out)
  have HIV := Aside0.mk (show isT vt = true by rw [hvt]; exact mT_is (by decide) (by decide) (.inr rfl) Hx.out Hbm.out)
  have HT0 := Aside0.mk (show tt.f0 = 1 ∧ tt.f1 = 1 by rw [htt]; exact ⟨rfl, rfl⟩)
  have HU0 := Aside0.mk (show ut.f0 = 2 ∧ ut.f1 = (tm : Int) by rw [hut]; exact ⟨rfl, rfl⟩)
  have HV0 := Aside0.mk (show vt.f0 = 9 ∧ vt.f1 = 1 ∧ vt.f2 = tt.f2 ∧ vt.f3 = tt.f3 by rw [hvt, htt]; exact ⟨rfl, rfl, rfl, rfl⟩)
  have HTT := Aside0.mk (show (⟨1, 1, B1 px, B1 qx, 1⟩ : S32) = tt by rw [htt, HPx.out.1, HPx.out.2]; rfl)
  have HUT := Aside0.mk (show (⟨2, (tm : Int), B1 py, B1 qy, 1⟩ : S32) = ut by rw [hut, HPy.out.1, HPy.out.2]; rfl)
  have HVT := Aside0.mk (show (⟨9, 1, B1 px, B1 qx, 1⟩ : S32) = vt by rw [hvt, HPx.out.1, HPx.out.2]; rfl)
  have HMM := Aside0.mk (show tm = 1 → meetT ut tt = (decide (x ≤ y + dm) && decide (y ≤ x + bm)) from fun h => by rw [hut, htt, h]; exact mT_meet Hx.out Hy.out Hbm.out Hdm.out)
  have HM0 := Aside0.mk (show tm = 0 → meetT ut tt = false from fun h => by unfold meetT; rw [HU0.out.2, h]; rfl)
  have HE1 := Aside0.mk (mt1_e HIT.out HT0.out.1)
  have HI1 := Aside0.mk (mt1_inv HIT.out HT0.out.1)
  have HI2 := Aside0.mk (mt2_inv HIT.out HIU.out HT0.out.1 HU0.out.1)
  have HE3 := Aside0.mk (mt3_e HIT.out HIU.out HIV.out HT0.out.1 HU0.out.1 HV0.out.1 HT0.out.2 HV0.out.2.1 HV0.out.2.2.1 HV0.out.2.2.2)
  have HL3 := Aside0.mk (mt3_len HIT.out HIU.out HIV.out HT0.out.1 HU0.out.1 HV0.out.1 HT0.out.2 HV0.out.2.1 HV0.out.2.2.1 HV0.out.2.2.2)
  have HTI := Aside0.mk (show tm = 0 → (tierL (mt3 tt ut vt).l 0).length = 1 from fun h => mt3_tier HIT.out HIU.out HIV.out HT0.out.1 HU0.out.1 HV0.out.1 HT0.out.2 HV0.out.2.1 HV0.out.2.2.1 HV0.out.2.2.2 (by rw [HU0.out.2, h]; rfl))
  obtain ⟨fe, hfe⟩ : ∃ fe, fe = doE (mt1 tt) [] [ut] 0 0 := ⟨_, rfl⟩
  have HFE := Aside0.mk (show (meetT ut tt = true → fe = 16) ∧ (meetT ut tt = false → fe = 0) by rw [hfe]; exact ⟨fun h => mt2_bad HIT.out HIU.out HT0.out.1 HU0.out.1 h, fun h => mt2_ok HIT.out HIU.out HT0.out.1 HU0.out.1 h⟩)
  have HFD := Aside0.mk hfe.symm
  clear htt hut hvt hfe
  go_upto_region 7 with (go_at_call 10; go_loud (with_reducible refine (SNew0 _).mono ?_; rintro e_ w7 ⟨g, rfl, hs, hge, hb⟩; have HGE := Aside0.mk (Nat.le_trans (below_size HB.out) hge); have nHB_ := Aside0.mk (below_step HB.out hb); have nBT_ := bb_ BT hb; have nBU_ := bb_ BU hb; clear HB BT BU hb hge; have HB := nHB_; have BT := nBT_; have BU := nBU_; have HS := Aside0.mk hs; clear hs nHB_ nBT_ nBU_))
  have ht0 := bc0 BT
  have ht1 := bc1 BT
  have ht2 := bc2 BT
  have ht3 := bc3 BT
  have ht4 := bc4 BT
  go_upto_region 8 with (first | ((with_reducible refine gate_dst (N := 65) rfl ?_); go_loud (refine Kd.R_lit k32 _ 32 ?hg (N := 65) ?hd (xs := [(⟨1, 1, B1 px, B1 qx, 1⟩ : S32)]) (inner := [.int .i64 1, .int .i64 1, .string (B1 px), .string (B1 qx), .int .i64 1]) (ok := fun _ => True) (okp := fun _ => True) ?hr ?hp (fun _ hk => hk) trivial (Below.refl _ _) (Nat.le_refl _) (by simp) ?_; (case hd => rfl); (case hg => rfl); (case hr => first | (go_simp; done) | (go_simp; rfl)); (case hp => exact (Reps.c5 (k32_mkM _ _ _ _) (Reps.none _ _))); intro v3 wa ho hb hg_ hnew_; rw [HTT.out] at ho; obtain ⟨A3, c3, e3_, hc3_, _⟩ := Kd.R_reads ho; have e3 : v3 = .slice A3 1 c3 := e3_; clear e3_; subst e3; have HC := Aside0.mk (Kd.R_reads' ho).2.2; have HCC := Aside0.mk hc3_; have nHS_ := Aside0.mk (HS.out.below hb); have nHB_ := Aside0.mk (below_step HB.out hb); have nBT_ := bb_ BT hb; have nBU_ := bb_ BU hb; clear HS HB BT BU hb; have HS := nHS_; have HB := nHB_; have BT := nBT_; have BU := nBU_; clear nHS_ nHB_ nBT_ nBU_; clear ho hg_ hnew_ hc3_ ht0 ht1 ht2 ht3 ht4)) | (go_at_call 13; go_loud (with_reducible refine (DoN _ g new0 HS.out kInv0 [] none 0 [tt] A3 c3 0 0 0 1 (Kd.C_nil _ _) (Nat.le_refl _) HC.out HCC.out (by simp) (by simp) 0 (mt1 tt) HE1.out rfl rfl rfl).mono ?_; rintro e_ wc ⟨rfl, hs, hi, hf⟩; have nHB_ := Aside0.mk (Fr.to_below HB.out hf (fun k hk => by rw [hk]; exact HGE.out)); have nBT_ := Aside0.mk (fr_box BT.out HS.out (by decide) hf); have nBU_ := Aside0.mk (fr_box BU.out HS.out (by decide) hf); clear HS HB BT BU; have HB := nHB_; have BT := nBT_; have BU := nBU_; have HS := Aside0.mk hs; clear hs hi hf nHB_ nBT_ nBU_; clear HC HCC)))
  have hu0 := bc0 BU
  have hu1 := bc1 BU
  have hu2 := bc2 BU
  have hu3 := bc3 BU
  have hu4 := bc4 BU
  go_upto_region 9 with (first | ((with_reducible refine gate_dst (N := 70) rfl ?_); go_loud (refine Kd.R_lit k32 _ 32 ?hg (N := 70) ?hd (xs := [(⟨2, (tm : Int), B1 py, B1 qy, 1⟩ : S32)]) (inner := [.int .i64 2, .int .i64 (tm : Int), .string (B1 py), .string (B1 qy), .int .i64 1]) (ok := fun _ => True) (okp := fun _ => True) ?hr ?hp (fun _ hk => hk) trivial (Below.refl _ _) (Nat.le_refl _) (by simp) ?_; (case hd => rfl); (case hg => rfl); (case hr => first | (go_simp; done) | (go_simp; rfl)); (case hp => exact (Reps.c5 (k32_mkM _ _ _ _) (Reps.none _ _))); intro v3 wb ho hb hg_ hnew_; rw [HUT.out] at ho; obtain ⟨A3, c3, e3_, hc3_, _⟩ := Kd.R_reads ho; have e3 : v3 = .slice A3 1 c3 := e3_; clear e3_; subst e3; have HC := Aside0.mk (Kd.R_reads' ho).2.2; have HCC := Aside0.mk hc3_; have nHS_ := Aside0.mk (HS.out.below hb); have nHB_ := Aside0.mk (below_step HB.out hb); have nBT_ := bb_ BT hb; have nBU_ := bb_ BU hb; clear HS HB BT BU hb; have HS := nHS_; have HB := nHB_; have BT := nBT_; have BU := nBU_; clear nHS_ nHB_ nBT_ nBU_; clear ho hg_ hnew_ hc3_ hu0 hu1 hu2 hu3 hu4)) | (go_at_call 13; go_loud (with_reducible refine (DoN _ g (mt1 tt) HS.out HI1.out [] none 0 [ut] A3 c3 0 0 0 1 (Kd.C_nil _ _) (Nat.le_refl _) HC.out HCC.out (by simp) (by simp) fe (mt2 tt ut) HFD.out rfl rfl rfl).mono ?_; rintro e_ wd ⟨rfl, hs, hi, hf⟩; have nHB_ := Aside0.mk (Fr.to_below HB.out hf (fun k hk => by rw [hk]; exact HGE.out)); have nBT_ := Aside0.mk (fr_box BT.out HS.out (by decide) hf); have nBU_ := Aside0.mk (fr_box BU.out HS.out (by decide) hf); clear HS HB BT BU; have HB := nHB_; have BT := nBT_; have BU := nBU_; have HS := Aside0.mk hs; clear hs hi hf nHB_ nBT_ nBU_; clear HC HCC)))
  clear BU
  obtain ⟨xb, hxb⟩ : ∃ p : Nat, p = x + bm := ⟨_, rfl⟩
  obtain ⟨yb, hyb⟩ : ∃ p : Nat, p = y + dm := ⟨_, rfl⟩
  have r1 : wrap64 ((y : Int) + (dm : Int)) = (yb : Int) := by rw [w64 (by have := Hy.out; have := Hdm.out; omega)]; omega
  have r2 : wrap64 ((x : Int) + (bm : Int)) = (xb : Int) := by clear r1; rw [w64 (by have := Hx.out; have := Hbm.out; omega)]; omega
  have HXB := Aside0.mk hxb
  have HYB := Aside0.mk hyb
  rw [← hxb, ← hyb] at HMM
  clear hxb hyb
  rcases Htm.out with h0 | h0
  · subst h0
    have HTJ := Aside0.mk (HTI.out rfl)
    obtain rfl := HFE.out.2 (HM0.out rfl)
    cases a1 : decide ((x : Int) ≤ (yb : Int)) with
    | false =>
      have a1n : decide (x ≤ yb) = false := decide_eq_false (by have := of_decide_eq_false a1; clear r1 r2; omega)
      have ht2 := bc2 BT
      have ht3 := bc3 BT
      go_wp2_with (first | ((with_reducible refine gate_dst (N := 112) rfl ?_); go_loud (refine Kd.R_lit (Kd.int .i64) _ 3 ?hg (N := 112) ?hd (xs := [(1 : Int)]) (inner := [.int .i64 1]) (ok := fun _ => True) (okp := fun _ => True) ?hr ?hp (fun _ hk => hk) trivial (Below.refl _ _) (Nat.le_refl _) (by decide) ?_; (case hd => rfl); (case hg => rfl); (case hr => first | (go_simp; done) | (go_simp; rfl)); (case hp => exact Reps.one rfl (Reps.none _ _)); intro v7 wg ho hb hg_ hnew_; obtain ⟨A7, c7, e7_, hc7_, _⟩ := Kd.R_reads ho; have e7 : v7 = .slice A7 1 c7 := e7_; clear e7_; subst e7; have HG := Aside0.mk (show (Kd.int .i64).C wg A7 ([1] : List Int).length [1] from (Kd.R_reads' ho).2.2); have HCG := Aside0.mk (show ([1] : List Int).length ≤ c7 from hc7_); have nHS_ := Aside0.mk (HS.out.below hb); have nHB_ := Aside0.mk (below_step HB.out hb); have nBT_ := bb_ BT hb; clear HS HB BT hb; have HS := nHS_; have HB := nHB_; have BT := nBT_; clear nHS_ nHB_ nBT_; clear ho hg_ hnew_ hc7_ ht2 ht3; have ht2 := bc2 BT; have ht3 := bc3 BT)) | ((with_reducible refine gate_dst (N := 118) rfl ?_); go_loud (refine Kd.R_lit k32 _ 32 ?hg (N := 118) ?hd (xs := [(⟨9, 1, B1 px, B1 qx, 1⟩ : S32)]) (inner := [.int .i64 9, .int .i64 1, .string (B1 px), .string (B1 qx), .int .i64 1]) (ok := fun _ => True) (okp := fun _ => True) ?hr ?hp (fun _ hk => hk) trivial (Below.refl _ _) (Nat.le_refl _) (by simp) ?_; (case hd => rfl); (case hg => rfl); (case hr => first | (go_simp; done) | (go_simp; rfl)); (case hp => exact (Reps.c5 (k32_mkM _ _ _ _) (Reps.none _ _))); intro v3 wh ho hb hg_ hnew_; rw [HVT.out] at ho; have hb2_ := hb; obtain ⟨A3, c3, e3_, hc3_, _⟩ := Kd.R_reads ho; have e3 : v3 = .slice A3 1 c3 := e3_; clear e3_; subst e3; have HC := Aside0.mk (Kd.R_reads' ho).2.2; have HCC := Aside0.mk hc3_; have nHS_ := Aside0.mk (HS.out.below hb); have nHB_ := Aside0.mk (below_step HB.out hb); clear HS HB hb; have nHG_ := Aside0.mk (Kd.C_below HG.out hb2_); clear HG hb2_; have HG := nHG_; clear nHG_; have HS := nHS_; have HB := nHB_; clear nHS_ nHB_; clear ho hg_ hnew_ hc3_ ht2 ht3)) | (go_at_call 13; go_loud (with_reducible refine (DoN _ g (mt2 tt ut) HS.out HI2.out [1] A7 c7 [vt] A3 c3 0 0 1 1 HG.out HCG.out HC.out HCC.out (by simp) (by simp) 0 (mt3 tt ut vt) HE3.out rfl rfl rfl).mono ?_; rintro e_ wi ⟨rfl, hs, hi, hf⟩; have nHB_ := Aside0.mk (Fr.to_below HB.out hf (fun k hk => by rw [hk]; exact HGE.out)); clear HS HB; have HB := nHB_; have HS := Aside0.mk hs; clear hs hi hf nHB_; clear HC HCC)) | (go_at_call 24; go_loud (with_reducible refine (TierN _ g (mt3 tt ut vt).l (mt3 tt ut vt).lg (mt3 tt ut vt).sq (mt3 tt ut vt).nx 0 1 HS.out HL3.out HTJ.out).mono ?_; rintro e_ wj ⟨A_, c_, rfl, _, _, hb⟩; have n0_ := Aside0.mk (below_step HB.out hb); clear HB hb; have HB := n0_; clear n0_)))
      go_ret
      exact ⟨rfl, HB.out⟩
    | true =>
      have a1n : decide (x ≤ yb) = true := decide_eq_true (by have := of_decide_eq_true a1; clear r1 r2; omega)
      cases a2 : decide ((y : Int) ≤ (xb : Int)) with
      | false =>
        have a2n : decide (y ≤ xb) = false := decide_eq_false (by have := of_decide_eq_false a2; clear r1 r2; omega)
        have ht2 := bc2 BT
        have ht3 := bc3 BT
        go_wp2_with (first | ((with_reducible refine gate_dst (N := 112) rfl ?_); go_loud (refine Kd.R_lit (Kd.int .i64) _ 3 ?hg (N := 112) ?hd (xs := [(1 : Int)]) (inner := [.int .i64 1]) (ok := fun _ => True) (okp := fun _ => True) ?hr ?hp (fun _ hk => hk) trivial (Below.refl _ _) (Nat.le_refl _) (by decide) ?_; (case hd => rfl); (case hg => rfl); (case hr => first | (go_simp; done) | (go_simp; rfl)); (case hp => exact Reps.one rfl (Reps.none _ _)); intro v7 wg ho hb hg_ hnew_; obtain ⟨A7, c7, e7_, hc7_, _⟩ := Kd.R_reads ho; have e7 : v7 = .slice A7 1 c7 := e7_; clear e7_; subst e7; have HG := Aside0.mk (show (Kd.int .i64).C wg A7 ([1] : List Int).length [1] from (Kd.R_reads' ho).2.2); have HCG := Aside0.mk (show ([1] : List Int).length ≤ c7 from hc7_); have nHS_ := Aside0.mk (HS.out.below hb); have nHB_ := Aside0.mk (below_step HB.out hb); have nBT_ := bb_ BT hb; clear HS HB BT hb; have HS := nHS_; have HB := nHB_; have BT := nBT_; clear nHS_ nHB_ nBT_; clear ho hg_ hnew_ hc7_ ht2 ht3; have ht2 := bc2 BT; have ht3 := bc3 BT)) | ((with_reducible refine gate_dst (N := 118) rfl ?_); go_loud (refine Kd.R_lit k32 _ 32 ?hg (N := 118) ?hd (xs := [(⟨9, 1, B1 px, B1 qx, 1⟩ : S32)]) (inner := [.int .i64 9, .int .i64 1, .string (B1 px), .string (B1 qx), .int .i64 1]) (ok := fun _ => True) (okp := fun _ => True) ?hr ?hp (fun _ hk => hk) trivial (Below.refl _ _) (Nat.le_refl _) (by simp) ?_; (case hd => rfl); (case hg => rfl); (case hr => first | (go_simp; done) | (go_simp; rfl)); (case hp => exact (Reps.c5 (k32_mkM _ _ _ _) (Reps.none _ _))); intro v3 wh ho hb hg_ hnew_; rw [HVT.out] at ho; have hb2_ := hb; obtain ⟨A3, c3, e3_, hc3_, _⟩ := Kd.R_reads ho; have e3 : v3 = .slice A3 1 c3 := e3_; clear e3_; subst e3; have HC := Aside0.mk (Kd.R_reads' ho).2.2; have HCC := Aside0.mk hc3_; have nHS_ := Aside0.mk (HS.out.below hb); have nHB_ := Aside0.mk (below_step HB.out hb); clear HS HB hb; have nHG_ := Aside0.mk (Kd.C_below HG.out hb2_); clear HG hb2_; have HG := nHG_; clear nHG_; have HS := nHS_; have HB := nHB_; clear nHS_ nHB_; clear ho hg_ hnew_ hc3_ ht2 ht3)) | (go_at_call 13; go_loud (with_reducible refine (DoN _ g (mt2 tt ut) HS.out HI2.out [1] A7 c7 [vt] A3 c3 0 0 1 1 HG.out HCG.out HC.out HCC.out (by simp) (by simp) 0 (mt3 tt ut vt) HE3.out rfl rfl rfl).mono ?_; rintro e_ wi ⟨rfl, hs, hi, hf⟩; have nHB_ := Aside0.mk (Fr.to_below HB.out hf (fun k hk => by rw [hk]; exact HGE.out)); clear HS HB; have HB := nHB_; have HS := Aside0.mk hs; clear hs hi hf nHB_; clear HC HCC)) | (go_at_call 24; go_loud (with_reducible refine (TierN _ g (mt3 tt ut vt).l (mt3 tt ut vt).lg (mt3 tt ut vt).sq (mt3 tt ut vt).nx 0 1 HS.out HL3.out HTJ.out).mono ?_; rintro e_ wj ⟨A_, c_, rfl, _, _, hb⟩; have n0_ := Aside0.mk (below_step HB.out hb); clear HB hb; have HB := n0_; clear n0_)))
        go_ret
        exact ⟨rfl, HB.out⟩
      | true =>
        have a2n : decide (y ≤ xb) = true := decide_eq_true (by have := of_decide_eq_true a2; clear r1 r2; omega)
        have ht2 := bc2 BT
        have ht3 := bc3 BT
        go_wp2_with (first | ((with_reducible refine gate_dst (N := 112) rfl ?_); go_loud (refine Kd.R_lit (Kd.int .i64) _ 3 ?hg (N := 112) ?hd (xs := [(1 : Int)]) (inner := [.int .i64 1]) (ok := fun _ => True) (okp := fun _ => True) ?hr ?hp (fun _ hk => hk) trivial (Below.refl _ _) (Nat.le_refl _) (by decide) ?_; (case hd => rfl); (case hg => rfl); (case hr => first | (go_simp; done) | (go_simp; rfl)); (case hp => exact Reps.one rfl (Reps.none _ _)); intro v7 wg ho hb hg_ hnew_; obtain ⟨A7, c7, e7_, hc7_, _⟩ := Kd.R_reads ho; have e7 : v7 = .slice A7 1 c7 := e7_; clear e7_; subst e7; have HG := Aside0.mk (show (Kd.int .i64).C wg A7 ([1] : List Int).length [1] from (Kd.R_reads' ho).2.2); have HCG := Aside0.mk (show ([1] : List Int).length ≤ c7 from hc7_); have nHS_ := Aside0.mk (HS.out.below hb); have nHB_ := Aside0.mk (below_step HB.out hb); have nBT_ := bb_ BT hb; clear HS HB BT hb; have HS := nHS_; have HB := nHB_; have BT := nBT_; clear nHS_ nHB_ nBT_; clear ho hg_ hnew_ hc7_ ht2 ht3; have ht2 := bc2 BT; have ht3 := bc3 BT)) | ((with_reducible refine gate_dst (N := 118) rfl ?_); go_loud (refine Kd.R_lit k32 _ 32 ?hg (N := 118) ?hd (xs := [(⟨9, 1, B1 px, B1 qx, 1⟩ : S32)]) (inner := [.int .i64 9, .int .i64 1, .string (B1 px), .string (B1 qx), .int .i64 1]) (ok := fun _ => True) (okp := fun _ => True) ?hr ?hp (fun _ hk => hk) trivial (Below.refl _ _) (Nat.le_refl _) (by simp) ?_; (case hd => rfl); (case hg => rfl); (case hr => first | (go_simp; done) | (go_simp; rfl)); (case hp => exact (Reps.c5 (k32_mkM _ _ _ _) (Reps.none _ _))); intro v3 wh ho hb hg_ hnew_; rw [HVT.out] at ho; have hb2_ := hb; obtain ⟨A3, c3, e3_, hc3_, _⟩ := Kd.R_reads ho; have e3 : v3 = .slice A3 1 c3 := e3_; clear e3_; subst e3; have HC := Aside0.mk (Kd.R_reads' ho).2.2; have HCC := Aside0.mk hc3_; have nHS_ := Aside0.mk (HS.out.below hb); have nHB_ := Aside0.mk (below_step HB.out hb); clear HS HB hb; have nHG_ := Aside0.mk (Kd.C_below HG.out hb2_); clear HG hb2_; have HG := nHG_; clear nHG_; have HS := nHS_; have HB := nHB_; clear nHS_ nHB_; clear ho hg_ hnew_ hc3_ ht2 ht3)) | (go_at_call 13; go_loud (with_reducible refine (DoN _ g (mt2 tt ut) HS.out HI2.out [1] A7 c7 [vt] A3 c3 0 0 1 1 HG.out HCG.out HC.out HCC.out (by simp) (by simp) 0 (mt3 tt ut vt) HE3.out rfl rfl rfl).mono ?_; rintro e_ wi ⟨rfl, hs, hi, hf⟩; have nHB_ := Aside0.mk (Fr.to_below HB.out hf (fun k hk => by rw [hk]; exact HGE.out)); clear HS HB; have HB := nHB_; have HS := Aside0.mk hs; clear hs hi hf nHB_; clear HC HCC)) | (go_at_call 24; go_loud (with_reducible refine (TierN _ g (mt3 tt ut vt).l (mt3 tt ut vt).lg (mt3 tt ut vt).sq (mt3 tt ut vt).nx 0 1 HS.out HL3.out HTJ.out).mono ?_; rintro e_ wj ⟨A_, c_, rfl, _, _, hb⟩; have n0_ := Aside0.mk (below_step HB.out hb); clear HB hb; have HB := n0_; clear n0_)))
        go_ret
        exact ⟨rfl, HB.out⟩
  · subst h0
    have HMQ := Aside0.mk (HMM.out rfl)
    cases a1 : decide ((x : Int) ≤ (yb : Int)) with
    | false =>
      have a1n : decide (x ≤ yb) = false := decide_eq_false (by have := of_decide_eq_false a1; clear r1 r2; omega)
      obtain rfl := HFE.out.2 (by rw [HMQ.out, a1n]; rfl)
      have ht2 := bc2 BT
      have ht3 := bc3 BT
      go_wp2_with (first | ((with_reducible refine gate_dst (N := 112) rfl ?_); go_loud (refine Kd.R_lit (Kd.int .i64) _ 3 ?hg (N := 112) ?hd (xs := [(1 : Int)]) (inner := [.int .i64 1]) (ok := fun _ => True) (okp := fun _ => True) ?hr ?hp (fun _ hk => hk) trivial (Below.refl _ _) (Nat.le_refl _) (by decide) ?_; (case hd => rfl); (case hg => rfl); (case hr => first | (go_simp; done) | (go_simp; rfl)); (case hp => exact Reps.one rfl (Reps.none _ _)); intro v7 wg ho hb hg_ hnew_; obtain ⟨A7, c7, e7_, hc7_, _⟩ := Kd.R_reads ho; have e7 : v7 = .slice A7 1 c7 := e7_; clear e7_; subst e7; have HG := Aside0.mk (show (Kd.int .i64).C wg A7 ([1] : List Int).length [1] from (Kd.R_reads' ho).2.2); have HCG := Aside0.mk (show ([1] : List Int).length ≤ c7 from hc7_); have nHS_ := Aside0.mk (HS.out.below hb); have nHB_ := Aside0.mk (below_step HB.out hb); have nBT_ := bb_ BT hb; clear HS HB BT hb; have HS := nHS_; have HB := nHB_; have BT := nBT_; clear nHS_ nHB_ nBT_; clear ho hg_ hnew_ hc7_ ht2 ht3; have ht2 := bc2 BT; have ht3 := bc3 BT)) | ((with_reducible refine gate_dst (N := 118) rfl ?_); go_loud (refine Kd.R_lit k32 _ 32 ?hg (N := 118) ?hd (xs := [(⟨9, 1, B1 px, B1 qx, 1⟩ : S32)]) (inner := [.int .i64 9, .int .i64 1, .string (B1 px), .string (B1 qx), .int .i64 1]) (ok := fun _ => True) (okp := fun _ => True) ?hr ?hp (fun _ hk => hk) trivial (Below.refl _ _) (Nat.le_refl _) (by simp) ?_; (case hd => rfl); (case hg => rfl); (case hr => first | (go_simp; done) | (go_simp; rfl)); (case hp => exact (Reps.c5 (k32_mkM _ _ _ _) (Reps.none _ _))); intro v3 wh ho hb hg_ hnew_; rw [HVT.out] at ho; have hb2_ := hb; obtain ⟨A3, c3, e3_, hc3_, _⟩ := Kd.R_reads ho; have e3 : v3 = .slice A3 1 c3 := e3_; clear e3_; subst e3; have HC := Aside0.mk (Kd.R_reads' ho).2.2; have HCC := Aside0.mk hc3_; have nHS_ := Aside0.mk (HS.out.below hb); have nHB_ := Aside0.mk (below_step HB.out hb); clear HS HB hb; have nHG_ := Aside0.mk (Kd.C_below HG.out hb2_); clear HG hb2_; have HG := nHG_; clear nHG_; have HS := nHS_; have HB := nHB_; clear nHS_ nHB_; clear ho hg_ hnew_ hc3_ ht2 ht3)) | (go_at_call 13; go_loud (with_reducible refine (DoN _ g (mt2 tt ut) HS.out HI2.out [1] A7 c7 [vt] A3 c3 0 0 1 1 HG.out HCG.out HC.out HCC.out (by simp) (by simp) 0 (mt3 tt ut vt) HE3.out rfl rfl rfl).mono ?_; rintro e_ wi ⟨rfl, hs, hi, hf⟩; have nHB_ := Aside0.mk (Fr.to_below HB.out hf (fun k hk => by rw [hk]; exact HGE.out)); clear HS HB; have HB := nHB_; have HS := Aside0.mk hs; clear hs hi hf nHB_; clear HC HCC)))
      go_ret
      exact ⟨rfl, HB.out⟩
    | true =>
      have a1n : decide (x ≤ yb) = true := decide_eq_true (by have := of_decide_eq_true a1; clear r1 r2; omega)
      cases a2 : decide ((y : Int) ≤ (xb : Int)) with
      | false =>
        have a2n : decide (y ≤ xb) = false := decide_eq_false (by have := of_decide_eq_false a2; clear r1 r2; omega)
        obtain rfl := HFE.out.2 (by rw [HMQ.out, a1n, a2n]; rfl)
        have ht2 := bc2 BT
        have ht3 := bc3 BT
        go_wp2_with (first | ((with_reducible refine gate_dst (N := 112) rfl ?_); go_loud (refine Kd.R_lit (Kd.int .i64) _ 3 ?hg (N := 112) ?hd (xs := [(1 : Int)]) (inner := [.int .i64 1]) (ok := fun _ => True) (okp := fun _ => True) ?hr ?hp (fun _ hk => hk) trivial (Below.refl _ _) (Nat.le_refl _) (by decide) ?_; (case hd => rfl); (case hg => rfl); (case hr => first | (go_simp; done) | (go_simp; rfl)); (case hp => exact Reps.one rfl (Reps.none _ _)); intro v7 wg ho hb hg_ hnew_; obtain ⟨A7, c7, e7_, hc7_, _⟩ := Kd.R_reads ho; have e7 : v7 = .slice A7 1 c7 := e7_; clear e7_; subst e7; have HG := Aside0.mk (show (Kd.int .i64).C wg A7 ([1] : List Int).length [1] from (Kd.R_reads' ho).2.2); have HCG := Aside0.mk (show ([1] : List Int).length ≤ c7 from hc7_); have nHS_ := Aside0.mk (HS.out.below hb); have nHB_ := Aside0.mk (below_step HB.out hb); have nBT_ := bb_ BT hb; clear HS HB BT hb; have HS := nHS_; have HB := nHB_; have BT := nBT_; clear nHS_ nHB_ nBT_; clear ho hg_ hnew_ hc7_ ht2 ht3; have ht2 := bc2 BT; have ht3 := bc3 BT)) | ((with_reducible refine gate_dst (N := 118) rfl ?_); go_loud (refine Kd.R_lit k32 _ 32 ?hg (N := 118) ?hd (xs := [(⟨9, 1, B1 px, B1 qx, 1⟩ : S32)]) (inner := [.int .i64 9, .int .i64 1, .string (B1 px), .string (B1 qx), .int .i64 1]) (ok := fun _ => True) (okp := fun _ => True) ?hr ?hp (fun _ hk => hk) trivial (Below.refl _ _) (Nat.le_refl _) (by simp) ?_; (case hd => rfl); (case hg => rfl); (case hr => first | (go_simp; done) | (go_simp; rfl)); (case hp => exact (Reps.c5 (k32_mkM _ _ _ _) (Reps.none _ _))); intro v3 wh ho hb hg_ hnew_; rw [HVT.out] at ho; have hb2_ := hb; obtain ⟨A3, c3, e3_, hc3_, _⟩ := Kd.R_reads ho; have e3 : v3 = .slice A3 1 c3 := e3_; clear e3_; subst e3; have HC := Aside0.mk (Kd.R_reads' ho).2.2; have HCC := Aside0.mk hc3_; have nHS_ := Aside0.mk (HS.out.below hb); have nHB_ := Aside0.mk (below_step HB.out hb); clear HS HB hb; have nHG_ := Aside0.mk (Kd.C_below HG.out hb2_); clear HG hb2_; have HG := nHG_; clear nHG_; have HS := nHS_; have HB := nHB_; clear nHS_ nHB_; clear ho hg_ hnew_ hc3_ ht2 ht3)) | (go_at_call 13; go_loud (with_reducible refine (DoN _ g (mt2 tt ut) HS.out HI2.out [1] A7 c7 [vt] A3 c3 0 0 1 1 HG.out HCG.out HC.out HCC.out (by simp) (by simp) 0 (mt3 tt ut vt) HE3.out rfl rfl rfl).mono ?_; rintro e_ wi ⟨rfl, hs, hi, hf⟩; have nHB_ := Aside0.mk (Fr.to_below HB.out hf (fun k hk => by rw [hk]; exact HGE.out)); clear HS HB; have HB := nHB_; have HS := Aside0.mk hs; clear hs hi hf nHB_; clear HC HCC)))
        go_ret
        exact ⟨rfl, HB.out⟩
      | true =>
        have a2n : decide (y ≤ xb) = true := decide_eq_true (by have := of_decide_eq_true a2; clear r1 r2; omega)
        obtain rfl := HFE.out.1 (by rw [HMQ.out, a1n, a2n]; rfl)
        have ht2 := bc2 BT
        have ht3 := bc3 BT
        go_wp2_with (first | ((with_reducible refine gate_dst (N := 112) rfl ?_); go_loud (refine Kd.R_lit (Kd.int .i64) _ 3 ?hg (N := 112) ?hd (xs := [(1 : Int)]) (inner := [.int .i64 1]) (ok := fun _ => True) (okp := fun _ => True) ?hr ?hp (fun _ hk => hk) trivial (Below.refl _ _) (Nat.le_refl _) (by decide) ?_; (case hd => rfl); (case hg => rfl); (case hr => first | (go_simp; done) | (go_simp; rfl)); (case hp => exact Reps.one rfl (Reps.none _ _)); intro v7 wg ho hb hg_ hnew_; obtain ⟨A7, c7, e7_, hc7_, _⟩ := Kd.R_reads ho; have e7 : v7 = .slice A7 1 c7 := e7_; clear e7_; subst e7; have HG := Aside0.mk (show (Kd.int .i64).C wg A7 ([1] : List Int).length [1] from (Kd.R_reads' ho).2.2); have HCG := Aside0.mk (show ([1] : List Int).length ≤ c7 from hc7_); have nHS_ := Aside0.mk (HS.out.below hb); have nHB_ := Aside0.mk (below_step HB.out hb); have nBT_ := bb_ BT hb; clear HS HB BT hb; have HS := nHS_; have HB := nHB_; have BT := nBT_; clear nHS_ nHB_ nBT_; clear ho hg_ hnew_ hc7_ ht2 ht3; have ht2 := bc2 BT; have ht3 := bc3 BT)) | ((with_reducible refine gate_dst (N := 118) rfl ?_); go_loud (refine Kd.R_lit k32 _ 32 ?hg (N := 118) ?hd (xs := [(⟨9, 1, B1 px, B1 qx, 1⟩ : S32)]) (inner := [.int .i64 9, .int .i64 1, .string (B1 px), .string (B1 qx), .int .i64 1]) (ok := fun _ => True) (okp := fun _ => True) ?hr ?hp (fun _ hk => hk) trivial (Below.refl _ _) (Nat.le_refl _) (by simp) ?_; (case hd => rfl); (case hg => rfl); (case hr => first | (go_simp; done) | (go_simp; rfl)); (case hp => exact (Reps.c5 (k32_mkM _ _ _ _) (Reps.none _ _))); intro v3 wh ho hb hg_ hnew_; rw [HVT.out] at ho; have hb2_ := hb; obtain ⟨A3, c3, e3_, hc3_, _⟩ := Kd.R_reads ho; have e3 : v3 = .slice A3 1 c3 := e3_; clear e3_; subst e3; have HC := Aside0.mk (Kd.R_reads' ho).2.2; have HCC := Aside0.mk hc3_; have nHS_ := Aside0.mk (HS.out.below hb); have nHB_ := Aside0.mk (below_step HB.out hb); clear HS HB hb; have nHG_ := Aside0.mk (Kd.C_below HG.out hb2_); clear HG hb2_; have HG := nHG_; clear nHG_; have HS := nHS_; have HB := nHB_; clear nHS_ nHB_; clear ho hg_ hnew_ hc3_ ht2 ht3)) | (go_at_call 13; go_loud (with_reducible refine (DoN _ g (mt2 tt ut) HS.out HI2.out [1] A7 c7 [vt] A3 c3 0 0 1 1 HG.out HCG.out HC.out HCC.out (by simp) (by simp) 0 (mt3 tt ut vt) HE3.out rfl rfl rfl).mono ?_; rintro e_ wi ⟨rfl, hs, hi, hf⟩; have nHB_ := Aside0.mk (Fr.to_below HB.out hf (fun k hk => by rw [hk]; exact HGE.out)); clear HS HB; have HB := nHB_; have HS := Aside0.mk hs; clear hs hi hf nHB_; clear HC HCC)))
        go_ret
        exact ⟨rfl, HB.out⟩
theorem LMeetsI (w : World) (a b c d e : Int) (ha : (Lit.int .u8 a).wf = true) (hb : (Lit.int .u8 b).wf = true) (hc : (Lit.int .u8 c).wf = true) (hd : (Lit.int .u8 d).wf = true) (he : (Lit.int .u8 e).wf = true) :
    Calls Try.prog 6 #[.int .u8 a, .int .u8 b, .int .u8 c, .int .u8 d, .int .u8 e] w fun e w' => e = .returned (.bool true) ∧ Below w.heap.size w w' := by
  have h1 := wf_u8 ha
  have h2 := wf_u8 hb
  have h3 := wf_u8 hc
  have h4 := wf_u8 hd
  have h5 := wf_u8 he
  obtain ⟨a, rfl⟩ := Int.eq_ofNat_of_zero_le h1.1
  obtain ⟨b, rfl⟩ := Int.eq_ofNat_of_zero_le h2.1
  obtain ⟨c, rfl⟩ := Int.eq_ofNat_of_zero_le h3.1
  obtain ⟨d, rfl⟩ := Int.eq_ofNat_of_zero_le h4.1
  obtain ⟨e, rfl⟩ := Int.eq_ofNat_of_zero_le h5.1
  exact LMeets w a b c d e (by omega) (by omega) (by omega) (by omega) (by omega)
end Go.Proofs.Ytmbedgopceigaaa.Q
