import Derived.Test.YtmbedgopceigaaaQTabMy
namespace Go.Proofs.Ytmbedgopceigaaa.Q
open Go.RowKit Go.Lib Go.Proofs Go.Proofs.Ytmbedgopceigaaa.P Go.Proofs.YtmbedgopceigaaaW.PrintWords Go.Proofs.YtmbedgopceigaaaW.PrintLast Go.Proofs.YtmbedgopceigaaaW.PrintMore
set_option linter.unusedVariables false
set_option linter.unusedSimpArgs false
attribute [local go_sem] max_two min_two
attribute [local go_sem high] string_leq string_geq string_gtr
/-! ravelinlaw13.SheetMany -/
theorem z_rd {l r : List S32} {m : Nat} (h : l = zT m :: r) : (rd_T32 l (0 : Int)).f0 = ((m + 1 : Nat) : Int) := by rw [h]; rfl
set_option maxHeartbeats 8000000 in
set_option maxRecDepth 100000 in
theorem LManyS (w : World) (a d : Nat) (ha : a < 256) (hd : d < 256) :
    Calls Try.prog 7 #[.int .u8 (a : Int), .int .u8 (d : Int)] w fun e_ w' => e_ = .returned (.bool true) ∧ Below w.heap.size w w' := by
  have HB := Aside0.mk (Below.refl w.heap.size w)
  have HDD := Aside0.mk hd
  clear ha hd
  go_enter Try.func7, Try.ntmps7
  go_upto_region 4 with (first | (go_at_call 8; refine (SKnown _).mono ?_; rintro e_ w4 ⟨rfl, hb⟩; have n0_ := Aside0.mk (below_step HB.out hb); clear HB hb; have HB := n0_; clear n0_) | (go_at_call 10; go_loud (with_reducible refine (SNew0 _).mono ?_; rintro e_ w7 ⟨g, rfl, hs, hge, hb⟩; have HGE := Aside0.mk (Nat.le_trans (below_size HB.out) hge); have nHB_ := Aside0.mk (below_step HB.out hb); clear HB hb hge; have HB := nHB_; have HS := Aside0.mk hs; clear hs nHB_)))
  obtain ⟨am, ham⟩ : ∃ x : Nat, (a : Int) % 3 = (x : Int) := ⟨a % 3, by omega⟩
  obtain ⟨k, hk⟩ : ∃ x : Nat, x = 39 + am := ⟨_, rfl⟩
  have HK := Aside0.mk (show 39 ≤ k ∧ k ≤ 41 by omega)
  have r1 : wrap64 (39 + (am : Int)) = (k : Int) := by rw [w64 (by omega)]; omega
  have hk2 : (39 : Int) + (am : Int) = (k : Int) := by clear r1; omega
  clear hk
  go_upto_region 5 with (fail)
  (try rw [hk2])
  clear r1 ham hk2
  go_wp2
  go_loopg [7] (k + 1) (fun kq v7 w' => ∃ (i p : Nat), v7 = .int .i64 (p : Int) ∧ Aside0 (p = i + 1 ∧ i ≤ k) ∧ Aside0 (kq + i = k + 1) ∧ Aside0 (Sh w' g (yS (yM i)).l (yS (yM i)).lg (yS (yM i)).sq (yS (yM i)).nx) ∧ Aside0 (Below w.heap.size w w'))
  case atStart => exact ⟨0, 1, rfl, ⟨⟨rfl, by omega⟩⟩, ⟨by omega⟩, HS, HB⟩
  clear HS HB
  obtain ⟨i, p, rfl, HP, HQ, HS, HB⟩ := hrel
  by_cases hlt : p ≤ k
  · obtain ⟨k1, rfl⟩ : ∃ k1, gk = k1 + 1 := ⟨gk - 1, by have := HQ.out; have := HP.out; omega⟩
    have hd0 : decide (p ≤ k) = true := decide_eq_true hlt
    have hd1 : decide ((p : Int) ≤ (k : Int)) = true := decide_eq_true (by omega)
    have HI40 := Aside0.mk (show i ≤ 40 by have := HP.out; have := HK.out; omega)
    have HR := Aside0.mk (y_round HI40.out)
    have HIV := Aside0.mk (show InvS (yS (yM i)) from yS_inv _ (by unfold yM; split <;> omega))
    have HT := Aside0.mk (show (⟨(p : Int), 0, ⟨#[97]⟩, ⟨#[122]⟩, (p : Int)⟩ : S32) = yT (i + 1) by rw [HP.out.1]; rfl)
    have HPK := Aside0.mk hlt
    clear hlt
    by_cases h40 : i < 40
    · have hq0 : decide (p ≤ 40) = true := decide_eq_true (by have := HP.out; omega)
      have hq1 : decide ((p : Int) ≤ 40) = true := decide_eq_true (by have := HP.out; omega)
      have HER := Aside0.mk (show yEr i = 0 by unfold yEr; rw [if_pos h40])
      rw [HER.out] at HR
      clear h40
      go_wp2_with (first | ((with_reducible refine gate_dst (N := 30) rfl ?_); go_loud (refine Kd.R_lit k32 _ 32 ?hg (N := 30) ?hd (xs := [(⟨(p : Int), 0, ⟨#[97]⟩, ⟨#[122]⟩, (p : Int)⟩ : S32)]) (inner := [.int .i64 (p : Int), .int .i64 0, .string ⟨#[97]⟩, .string ⟨#[122]⟩, .int .i64 (p : Int)]) (ok := fun _ => True) (okp := fun _ => True) ?hr ?hp (fun _ hk => hk) trivial (Below.refl _ _) (Nat.le_refl _) (by simp) ?_; (case hd => rfl); (case hg => rfl); (case hr => first | (go_simp; done) | (go_simp; rfl)); (case hp => exact (Reps.c5 (k32_mkM _ _ _ _) (Reps.none _ _))); intro v3 wa ho hb hg_ hnew_; rw [HT.out] at ho; obtain ⟨A3, c3, e3_, hc3_, _⟩ := Kd.R_reads ho; have e3 : v3 = .slice A3 1 c3 := e3_; clear e3_; subst e3; have HC3 := Aside0.mk (Kd.R_reads' ho).2.2; have HCC := Aside0.mk hc3_; have nHS_ := Aside0.mk (HS.out.below hb); have nHB_ := Aside0.mk (below_step HB.out hb); clear HS HB hb; have HS := nHS_; have HB := nHB_; clear nHS_ nHB_; clear ho hg_ hnew_ hc3_)) | (go_at_call 13; go_loud (with_reducible refine (DoN _ g (yS (yM i)) HS.out HIV.out [] none 0 [yT (i + 1)] A3 c3 0 0 0 1 (Kd.C_nil _ _) (Nat.le_refl _) HC3.out HCC.out (by simp) (by simp) 0 (yS (yM (i + 1))) HR.out.1 HR.out.2 rfl rfl).mono ?_; rintro e_ wc ⟨rfl, hs, hi, hf⟩; have nHB_ := Aside0.mk (Fr.to_below HB.out hf (fun k hk => by rw [hk]; exact HGE.out)); clear HS HB; have HB := nHB_; have HS := Aside0.mk hs; clear hs hi hf nHB_; clear HC3 HCC)))
      go_roundg k1
      case measure => have := HQ.out; omega
      case rel => exact ⟨i + 1, p + 1, by have h_ := HP.out; have h2_ := HK.out; simp; unfold wrap64; omega, ⟨by have := HP.out; have := HPK.out; omega⟩, ⟨by have := HQ.out; omega⟩, HS, HB⟩
    · have hq0 : decide (p ≤ 40) = false := decide_eq_false (by have := HP.out; omega)
      have hq1 : decide ((p : Int) ≤ 40) = false := decide_eq_false (by have := HP.out; omega)
      have HER := Aside0.mk (show yEr i = 25 by unfold yEr; rw [if_neg h40])
      rw [HER.out] at HR
      clear h40
      go_wp2_with (first | ((with_reducible refine gate_dst (N := 30) rfl ?_); go_loud (refine Kd.R_lit k32 _ 32 ?hg (N := 30) ?hd (xs := [(⟨(p : Int), 0, ⟨#[97]⟩, ⟨#[122]⟩, (p : Int)⟩ : S32)]) (inner := [.int .i64 (p : Int), .int .i64 0, .string ⟨#[97]⟩, .string ⟨#[122]⟩, .int .i64 (p : Int)]) (ok := fun _ => True) (okp := fun _ => True) ?hr ?hp (fun _ hk => hk) trivial (Below.refl _ _) (Nat.le_refl _) (by simp) ?_; (case hd => rfl); (case hg => rfl); (case hr => first | (go_simp; done) | (go_simp; rfl)); (case hp => exact (Reps.c5 (k32_mkM _ _ _ _) (Reps.none _ _))); intro v3 wa ho hb hg_ hnew_; rw [HT.out] at ho; obtain ⟨A3, c3, e3_, hc3_, _⟩ := Kd.R_reads ho; have e3 : v3 = .slice A3 1 c3 := e3_; clear e3_; subst e3; have HC3 := Aside0.mk (Kd.R_reads' ho).2.2; have HCC := Aside0.mk hc3_; have nHS_ := Aside0.mk (HS.out.below hb); have nHB_ := Aside0.mk (below_step HB.out hb); clear HS HB hb; have HS := nHS_; have HB := nHB_; clear nHS_ nHB_; clear ho hg_ hnew_ hc3_)) | (go_at_call 13; go_loud (with_reducible refine (DoN _ g (yS (yM i)) HS.out HIV.out [] none 0 [yT (i + 1)] A3 c3 0 0 0 1 (Kd.C_nil _ _) (Nat.le_refl _) HC3.out HCC.out (by simp) (by simp) 25 (yS (yM (i + 1))) HR.out.1 HR.out.2 rfl rfl).mono ?_; rintro e_ wc ⟨rfl, hs, hi, hf⟩; have nHB_ := Aside0.mk (Fr.to_below HB.out hf (fun k hk => by rw [hk]; exact HGE.out)); clear HS HB; have HB := nHB_; have HS := Aside0.mk hs; clear hs hi hf nHB_; clear HC3 HCC)))
      go_roundg k1
      case measure => have := HQ.out; omega
      case rel => exact ⟨i + 1, p + 1, by have h_ := HP.out; have h2_ := HK.out; simp; unfold wrap64; omega, ⟨by have := HP.out; have := HPK.out; omega⟩, ⟨by have := HQ.out; omega⟩, HS, HB⟩
  have hd0 : decide (p ≤ k) = false := decide_eq_false hlt
  have hd1 : decide ((p : Int) ≤ (k : Int)) = false := decide_eq_false (by omega)
  obtain rfl : i = k := by have := HP.out; omega
  obtain ⟨m, hm⟩ : ∃ m, m = yM i := ⟨_, rfl⟩
  rw [← hm] at HS
  have HM := Aside0.mk (show 39 ≤ m ∧ m ≤ 40 by have := HK.out; rw [hm]; unfold yM; split <;> omega)
  have hmin : Builtin.min2 (.int .i64 (i : Int)) (.int .i64 40) = pure (.int .i64 (m : Int)) := by
    rw [min2_int, hm]
    unfold yM
    by_cases h : i ≤ 40
    · rw [if_neg (show ¬ (40 : Int) < (i : Int) by omega), if_pos h]
    · rw [if_pos (show (40 : Int) < (i : Int) by omega), if_neg h]; rfl
  clear hm
  go_upto_region 12 with (fail)
  clear hmin
  have HL := Aside0.mk (show (yS m).l.length = m from yL_len m)
  have HIM := Aside0.mk (yS_inv m HM.out.2)
  go_upto_region 13 with (go_at_call 22; go_loud (with_reducible refine (TablesN _ g (yS m).l (yS m).lg (yS m).sq (yS m).nx m HS.out HL.out (by have := HM.out; omega)).mono ?_; rintro e_ wt ⟨A9, c9, rfl, _, hr_, hb⟩; have HC := Aside0.mk (show Kd.C k32 wt A9 m (yS m).l by have h_ := HL.out; have h2_ := (Kd.R_reads' (show Kd.R k32 32 wt _ (fun _ => True) (.slice A9 (yS m).l.length c9) (yS m).l by rw [h_]; exact hr_)).2.2; rwa [h_] at h2_); have nHS_ := Aside0.mk (HS.out.below hb); have nHB_ := Aside0.mk (below_step HB.out hb); clear HS HB hb; have HS := nHS_; have HB := nHB_; clear nHS_ nHB_; clear hr_))
  obtain ⟨m1, hm1⟩ : ∃ x : Nat, m = x + 1 := ⟨m - 1, by have := HM.out; omega⟩
  obtain ⟨mp, hmp⟩ : ∃ x : Nat, x = m + 1 := ⟨_, rfl⟩
  obtain ⟨ad, e_, hx0, _, _, _, _⟩ := at_T32 HC.out (0 : Int) (by omega) (by have := HM.out; omega)
  obtain ⟨ad2, e2_, hy0, _, _, _, _⟩ := at_T32 HC.out (m1 : Int) (by omega) (by omega)
  subst e_
  injection e2_ with e3_
  subst e3_
  rw [show (rd_T32 (yS m).l (0 : Int)).f0 = (m : Int) by rw [show (yS m).l = yL m from rfl, hm1]; rfl] at hx0
  rw [show (rd_T32 (yS m).l (m1 : Int)).f0 = 1 by
    have hl1 : m1 < (yL m).length := by rw [yL_len]; omega
    rw [show (yS m).l = yL m from rfl, rdT (yL m) m1 hl1]
    have h_ := yL_last m (by omega) (by rw [yL_len]; omega)
    have e_ : m - 1 = m1 := by omega
    simp only [e_] at h_
    rw [h_]; rfl, Int.toNat_natCast] at hy0
  have hz0 : wt.cell? ad = some (.int .i64 (m : Int)) := by simpa [Addr.add] using hx0
  have r1 : wrap64 ((m : Int) - 1) = (m1 : Int) := by rw [w64 (by have := HM.out; omega)]; omega
  have r2 : wrap64 ((m : Int) + 1) = (mp : Int) := by clear r1; rw [w64 (by have := HM.out; omega)]; omega
  have p1 : (0 : Int) < (m : Int) := by clear r1 r2; omega
  have p2 : 0 < m := by clear r1 r2; omega
  have p3 : (m1 : Int) < (m : Int) := by clear r1 r2; omega
  have p4 : 0 ≤ (m1 : Int) := by clear r1 r2; omega
  have HNX := Aside0.mk (show (yS m).nx = (mp : Int) by show ((m + 1 : Nat) : Int) = (mp : Int); rw [hmp])
  have HMP := Aside0.mk hmp
  clear hx0 hm1 hmp
  go_upto_region 15 with (go_at_call 21; go_loud (with_reducible refine (SNext _ g (yS m).l (yS m).lg (yS m).sq (yS m).nx HS.out).mono ?_; rintro e_ wn ⟨rfl, hb⟩; rw [HNX.out]; have nHS_ := Aside0.mk (HS.out.below hb); have nHB_ := Aside0.mk (below_step HB.out hb); clear HS HB hb; have HS := nHS_; have HB := nHB_; clear nHS_ nHB_; clear HC))
  clear hz0 hy0 r1 p1 p3 p4
  obtain ⟨q, hq⟩ : ∃ x : Nat, x = d % m := ⟨_, rfl⟩
  obtain ⟨gg, hgg⟩ : ∃ x : Nat, x = q + 1 := ⟨_, rfl⟩
  have HG1 := Aside0.mk (show 1 ≤ gg ∧ gg ≤ m by have := Nat.mod_lt d p2; omega)
  have e1 : (d : Int) % (m : Int) = (q : Int) := by rw [hq]; exact (Int.natCast_emod d m).symm
  have e2 : Int.tmod (d : Int) (m : Int) = (q : Int) := by rw [Int.tmod_eq_emod_of_nonneg (by omega)]; exact e1
  have e5 : wrap64 (d : Int) = (d : Int) := by clear r2; exact w64 (by have := HDD.out; omega)
  have e4 : wrap64 (q : Int) = (q : Int) := by clear r2 e5; exact w64 (by have := HG1.out; have := HM.out; omega)
  have e3 : wrap64 ((q : Int) + 1) = (gg : Int) := by clear r2 e4 e5; rw [w64 (by have := HG1.out; have := HM.out; omega)]; omega
  have hm0 : ((m : Int) == 0) = false := by rw [beq_eq_false_iff_ne]; omega
  have hm2 : ¬ (m : Int) = 0 := by omega
  have hm3 : ¬ m = 0 := by omega
  have HQ2 := Aside0.mk hq
  clear hq hgg
  go_upto_region 16 with (fail)
  (try rw [e3])
  clear e1 e2 e3 e4 e5
  have HE := Aside0.mk (z_e HG1.out.1 HG1.out.2 HM.out.2)
  have HIZ := Aside0.mk (zS_inv gg HM.out.2)
  have HLZ := Aside0.mk (zS_len HG1.out.1 HG1.out.2 HM.out.2)
  have HFZ := Aside0.mk (zS_first HG1.out.1 HG1.out.2 HM.out.2)
  have HEG := Aside0.mk (z_gone HG1.out.1 HG1.out.2 HM.out.2)
  have HSG := Aside0.mk (z_same HG1.out.1 HG1.out.2 HM.out.2)
  have HZT := Aside0.mk (show (⟨(mp : Int), 0, ⟨#[113]⟩, ⟨#[113]⟩, 1⟩ : S32) = zT m by rw [HMP.out]; rfl)
  go_upto_region 17 with (first | ((with_reducible refine gate_dst (N := 85) rfl ?_); go_loud (refine Kd.R_lit (Kd.int .i64) _ 3 ?hg (N := 85) ?hd (xs := [(gg : Int)]) (inner := [.int .i64 (gg : Int)]) (ok := fun _ => True) (okp := fun _ => True) ?hr ?hp (fun _ hk => hk) trivial (Below.refl _ _) (Nat.le_refl _) (by simp) ?_; (case hd => rfl); (case hg => rfl); (case hr => first | (go_simp; done) | (go_simp; rfl)); (case hp => exact Reps.one rfl (Reps.none _ _)); intro v7 wg ho hb hg_ hnew_; obtain ⟨A7, c7, e7_, hc7_, _⟩ := Kd.R_reads ho; have e7 : v7 = .slice A7 1 c7 := e7_; clear e7_; subst e7; have HG := Aside0.mk (show (Kd.int .i64).C wg A7 ([(gg : Int)] : List Int).length [(gg : Int)] from (Kd.R_reads' ho).2.2); have HCG := Aside0.mk (show ([(gg : Int)] : List Int).length ≤ c7 from hc7_); have nHS_ := Aside0.mk (HS.out.below hb); have nHB_ := Aside0.mk (below_step HB.out hb); clear HS HB hb; have HS := nHS_; have HB := nHB_; clear nHS_ nHB_; clear ho hg_ hnew_ hc7_)) | ((with_reducible refine gate_dst (N := 89) rfl ?_); go_loud (refine Kd.R_lit k32 _ 32 ?hg (N := 89) ?hd (xs := [(⟨(mp : Int), 0, ⟨#[113]⟩, ⟨#[113]⟩, 1⟩ : S32)]) (inner := [.int .i64 (mp : Int), .int .i64 0, .string ⟨#[113]⟩, .string ⟨#[113]⟩, .int .i64 1]) (ok := fun _ => True) (okp := fun _ => True) ?hr ?hp (fun _ hk => hk) trivial (Below.refl _ _) (Nat.le_refl _) (by simp) ?_; (case hd => rfl); (case hg => rfl); (case hr => first | (go_simp; done) | (go_simp; rfl)); (case hp => exact (Reps.c5 (k32_mkM _ _ _ _) (Reps.none _ _))); intro v3 wz ho hb hg_ hnew_; rw [HZT.out] at ho; have nHG_ := Aside0.mk (Kd.C_below HG.out hb); clear HG; have HG := nHG_; clear nHG_; obtain ⟨A3, c3, e3_, hc3_, _⟩ := Kd.R_reads ho; have e3 : v3 = .slice A3 1 c3 := e3_; clear e3_; subst e3; have HC3 := Aside0.mk (Kd.R_reads' ho).2.2; have HCC := Aside0.mk hc3_; have nHS_ := Aside0.mk (HS.out.below hb); have nHB_ := Aside0.mk (below_step HB.out hb); clear HS HB hb; have HS := nHS_; have HB := nHB_; clear nHS_ nHB_; clear ho hg_ hnew_ hc3_)) | (go_at_call 13; go_loud (with_reducible refine (DoN _ g (yS m) HS.out HIM.out [(gg : Int)] A7 c7 [zT m] A3 c3 0 0 1 1 HG.out HCG.out HC3.out HCC.out (by simp) (by simp) 0 (zS m gg) HE.out rfl rfl rfl).mono ?_; rintro e_ wc ⟨rfl, hs, hi, hf⟩; have nHB_ := Aside0.mk (Fr.to_below HB.out hf (fun k hk => by rw [hk]; exact HGE.out)); clear HS HB; have HB := nHB_; have HS := Aside0.mk hs; clear hs hi hf nHB_; clear HC3 HCC HG HCG)))
  go_upto_region 18 with (first | ((with_reducible refine gate_dst (N := 94) rfl ?_); go_loud (refine Kd.R_lit (Kd.int .i64) _ 3 ?hg (N := 94) ?hd (xs := [(gg : Int)]) (inner := [.int .i64 (gg : Int)]) (ok := fun _ => True) (okp := fun _ => True) ?hr ?hp (fun _ hk => hk) trivial (Below.refl _ _) (Nat.le_refl _) (by simp) ?_; (case hd => rfl); (case hg => rfl); (case hr => first | (go_simp; done) | (go_simp; rfl)); (case hp => exact Reps.one rfl (Reps.none _ _)); intro v7 wg2 ho hb hg_ hnew_; obtain ⟨A7, c7, e7_, hc7_, _⟩ := Kd.R_reads ho; have e7 : v7 = .slice A7 1 c7 := e7_; clear e7_; subst e7; have HG := Aside0.mk (show (Kd.int .i64).C wg2 A7 ([(gg : Int)] : List Int).length [(gg : Int)] from (Kd.R_reads' ho).2.2); have HCG := Aside0.mk (show ([(gg : Int)] : List Int).length ≤ c7 from hc7_); have nHS_ := Aside0.mk (HS.out.below hb); have nHB_ := Aside0.mk (below_step HB.out hb); clear HS HB hb; have HS := nHS_; have HB := nHB_; clear nHS_ nHB_; clear ho hg_ hnew_ hc7_)) | (go_at_call 13; go_loud (with_reducible refine (DoN _ g (zS m gg) HS.out HIZ.out [(gg : Int)] A7 c7 [] none 0 0 0 1 0 HG.out HCG.out (Kd.C_nil _ _) (Nat.le_refl _) (by simp) (by simp) 18 (zS m gg) HEG.out HSG.out rfl rfl).mono ?_; rintro e_ wc ⟨rfl, hs, hi, hf⟩; have nHB_ := Aside0.mk (Fr.to_below HB.out hf (fun k hk => by rw [hk]; exact HGE.out)); clear HS HB; have HB := nHB_; have HS := Aside0.mk hs; clear hs hi hf nHB_; clear HG HCG)))
  go_wp2_with (first | (go_at_call 22; go_loud (with_reducible refine (TablesN _ g (zS m gg).l (zS m gg).lg (zS m gg).sq (zS m gg).nx m HS.out HLZ.out (by have := HM.out; omega)).mono ?_; rintro e_ wt ⟨A9, c9, rfl, _, hr_, hb⟩; obtain ⟨r_, hr9_⟩ := HFZ.out; have hC9_ : Kd.C k32 wt A9 m (zS m gg).l := (by have h_ := HLZ.out; have h2_ := (Kd.R_reads' (show Kd.R k32 32 wt _ (fun _ => True) (.slice A9 (zS m gg).l.length c9) (zS m gg).l by rw [h_]; exact hr_)).2.2; rwa [h_] at h2_); obtain ⟨adz, ez_, hz0_, _, _, _, _⟩ := at_T32 hC9_ (0 : Int) (by omega) (by have := HM.out; omega); subst ez_; rw [z_rd hr9_, ← HMP.out] at hz0_; have hz0 : wt.cell? adz = some (.int .i64 (mp : Int)) := (by simpa [Addr.add] using hz0_); have p1 : (0 : Int) < (m : Int) := (by have := HM.out; omega); have nHS_ := Aside0.mk (HS.out.below hb); have nHB_ := Aside0.mk (below_step HB.out hb); clear HS HB hb; have HS := nHS_; have HB := nHB_; clear nHS_ nHB_; clear hr_ hC9_ hz0_ hr9_)))
  go_ret
  exact ⟨rfl, HB.out⟩
theorem LManySI (w : World) (a d : Int) (ha : (Lit.int .u8 a).wf = true) (hd : (Lit.int .u8 d).wf = true) :
    Calls Try.prog 7 #[.int .u8 a, .int .u8 d] w fun e w' => e = .returned (.bool true) ∧ Below w.heap.size w w' := by
  have h1 := wf_u8 ha
  have h2 := wf_u8 hd
  obtain ⟨a, rfl⟩ := Int.eq_ofNat_of_zero_le h1.1
  obtain ⟨d, rfl⟩ := Int.eq_ofNat_of_zero_le h2.1
  exact LManyS w a d (by omega) (by omega)
end Go.Proofs.Ytmbedgopceigaaa.Q
