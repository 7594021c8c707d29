import Derived.Test.YtdkdnfgpgedglaaQHeapKnown
import Derived.Test.YtdkdnfgpgedglaaQHeapMny
namespace Go.Proofs.Ytdkdnfgpgedglaa.Q
open Go.RowKit Go.Lib Go.Proofs.Ytdkdnfgpgedglaa.P Go.Proofs.YtdkdnfgpgedglaaW.PrintWords Go.Proofs.YtdkdnfgpgedglaaW.PrintLast Go.Proofs.YtdkdnfgpgedglaaW.PrintMore
set_option linter.unusedVariables false
set_option linter.unusedSimpArgs false
attribute [local go_sem high] string_leq string_geq string_gtr
theorem u8w' {n : Int} (h : 0 ≤ n ∧ n < 256) : IntKind.u8.wrap n = n := by
  unfold IntKind.wrap
  simp only [IntKind.bits, IntKind.signed]
  simp
  omega
theorem mK_str (j : Nat) (hj : j < 256) : strOfNums [((97 + j / 16 : Nat) : Int), ((97 + j % 16 : Nat) : Int)] = S (mK j) := by
  have h := strOf (mK j)
  have e0 : (UInt8.ofNat (97 + j / 16)).toNat = 97 + j / 16 := by simp; omega
  have e1 : (UInt8.ofNat (97 + j % 16)).toNat = 97 + j % 16 := by simp; omega
  simp only [mK, List.map_cons, List.map_nil, e0, e1] at h
  exact h
theorem mK_conv (W : World) (b0 b1 j : Nat) (hj : j < 256) (h0 : b0 = 97 + j / 16) (h1 : b1 = 97 + j % 16) : (convert 43 9 (.slice (some ⟨W.heap.size, 0, none⟩) 2 2)).run Try.prog (W.alloc (.cells #[.int .u8 (b0 : Int), .int .u8 (b1 : Int)] 5)) = .ok (.string (S (mK j))) (W.alloc (.cells #[.int .u8 (b0 : Int), .int .u8 (b1 : Int)] 5)) := by
  subst h0 h1
  rw [← mK_str j hj]
  refine run_convert_bytes_arg _ 43 5 Try.underlying43 Try.underlying5 W.heap.size 0 2 2 _ rfl (fun i hi => ?_) 9 Try.underlying9
  have hb := blk_new W (.cells #[.int .u8 ((97 + j / 16 : Nat) : Int), .int .u8 ((97 + j % 16 : Nat) : Int)] 5)
  have hc := blk_cell hb i
  rcases i with _ | _ | i
  · exact hc
  · exact hc
  · omega
theorem mK_conv2 (w : World) (g b0 b1 j : Nat) (hb : w.heap[g]? = some (.cells #[.int .u8 (b0 : Int), .int .u8 (b1 : Int)] 5 (0, 0))) (hj : j < 256) (h0 : b0 = 97 + j / 16) (h1 : b1 = 97 + j % 16) : (convert 43 9 (.slice (some ⟨g, 0, none⟩) 2 2)).run Try.prog w = .ok (.string (S (mK j))) w := by
  subst h0 h1
  rw [← mK_str j hj]
  refine run_convert_bytes_arg _ 43 5 Try.underlying43 Try.underlying5 g 0 2 2 _ rfl (fun i hi => ?_) 9 Try.underlying9
  have hc := blk_cell hb i
  rcases i with _ | _ | i
  · exact hc
  · exact hc
  · omega
theorem PMany (w0 w : World) (g : Nat) (k h q j : Nat) (F : Nat → Prop) (hp : HpA w0 w g (putAll [] (mS k h q)) F) (hl : (putAll [] (mS k h q)).length ≤ 1000000) (hB : putB (putAll [] (mS k h q)) (mE j) = true) (hE : putE (putAll [] (mS k h q)) (mE j) = putAll [] (mS k h (q + 1))) :
    Calls Try.prog 12 #[.pointer (some ⟨g, 0, none⟩), .agg #[.string (S (mK j)), .int .i64 1, .bool false, .string ⟨#[]⟩]] w fun r w' => ∃ F' : Nat → Prop, r = .returned (.bool true) ∧ HpA w0 w' g (putAll [] (mS k h (q + 1))) F' := by
  have := HPutA w0 w g _ F (mE j) hp hl
  rw [hB, hE] at this
  exact this.mono (fun r w' ⟨F', a, b, _⟩ => ⟨F', a, b⟩)
theorem mS_length (k h q : Nat) : (mS k h q).length = q := by simp [mS]
theorem AMany (w0 w : World) (g k : Nat) (F : Nat → Prop) (h : HpA w0 w g (mR k) F) (hk : k ≤ 256) : Calls Try.prog 17 #[.pointer (some ⟨g, 0, none⟩)] w fun e w' => ∃ (A : Option Addr) (c : Nat), e = .returned (.slice A k c) ∧ RdE w' A c (mR k) ∧ Below w.heap.size w w' := by
  have h1 := HAllC w0 w g (mR k) F h (by rw [mR_length]; omega)
  rw [mR_length] at h1
  exact h1
theorem RgMany (w0 w : World) (g k L : Nat) (F : Nat → Prop) (h : HpA w0 w g (mR k) F) (hk : k ≤ 256) (hL : L = (rangeE (mR k) [98] [99]).length) : Calls Try.prog 18 #[.pointer (some ⟨g, 0, none⟩), .string ⟨#[98]⟩, .string ⟨#[99]⟩] w fun e w' => ∃ (A : Option Addr) (c : Nat), e = .returned (.slice A L c) ∧ Below w.heap.size w w' := by
  subst hL
  exact (HRangeC w0 w g (mR k) F ⟨#[98]⟩ ⟨#[99]⟩ h (by rw [mR_length]; omega)).mono (fun e w' ⟨A, c, a, _, b⟩ => ⟨A, c, a, b⟩)
theorem PtMany (w0 w : World) (g k : Nat) (F : Nat → Prop) (h : HpA w0 w g (mR k) F) (hk : 1 ≤ k ∧ k ≤ 256) : Calls Try.prog 12 #[.pointer (some ⟨g, 0, none⟩), .agg #[.string (S (mK 0)), .int .i64 1, .bool false, .string ⟨#[]⟩]] w fun r w' => r = .returned (.bool false) ∧ Below w0.heap.size w0 w' := by
  have := HPutA w0 w g (mR k) F (mE 0) h (by rw [mR_length]; omega)
  rw [mR_there hk.2 hk.1] at this
  exact this.mono (fun r w' ⟨F', a, b, _⟩ => ⟨a, b.low⟩)
theorem LnMany (w0 w : World) (g k : Nat) (F : Nat → Prop) (h : HpA w0 w g (mR k) F) : Calls Try.prog 20 #[.pointer (some ⟨g, 0, none⟩)] w fun e w' => e = .returned (.int .i64 (k : Int)) ∧ Below w.heap.size w w' := by
  have h1 := HLen w g (mR k) _ h.rd
  rw [mR_length] at h1
  exact h1
theorem ByMany (w0 w : World) (g k : Nat) (F : Nat → Prop) (h : HpA w0 w g (mR k) F) : Calls Try.prog 21 #[.pointer (some ⟨g, 0, none⟩)] w fun e w' => e = .returned (.int .i64 (2 * (k : Int))) ∧ Below w.heap.size w w' := by
  have h1 := HBytes w g (mR k) _ h.rd
  rw [mR_sum] at h1
  exact h1
set_option maxHeartbeats 4000000 in
set_option maxRecDepth 100000 in
theorem LMany (w : World) (n how : Int) (hn : 0 ≤ n ∧ n ≤ 255) (hh_ : 0 ≤ how ∧ how ≤ 255) :
    Calls Try.prog 5 #[.int .u8 n, .int .u8 how] w fun e w' => e = .returned (.bool true) ∧ Below w.heap.size w w' := by
  obtain ⟨k, hk⟩ : ∃ k : Nat, k = n.toNat + 1 := ⟨_, rfl⟩
  obtain ⟨h, hh⟩ : ∃ h : Nat, h = how.toNat % 3 := ⟨_, rfl⟩
  have HKn := Aside0.mk (show (k : Int) = n + 1 by omega)
  have HKl := Aside0.mk (show 1 ≤ k ∧ k ≤ 256 by omega)
  have HHl := Aside0.mk (show (h : Int) = how.tmod 3 by rw [hh, Int.tmod_eq_emod_of_nonneg hh_.1]; omega)
  have HH3 := Aside0.mk (show h < 3 by omega)
  have HNn := Aside0.mk hn
  have HHn := Aside0.mk hh_
  have HB := Aside0.mk (Below.refl w.heap.size w)
  clear hk hh hn hh_
  go_enter Try.func5, Try.ntmps5
  go_upto_region 5 with (first
    | (go_at_call 8; refine (HKnown _).mono ?_; rintro e w1 ⟨rfl, hb⟩; have n0_ := Aside0.mk (below_step HB.out hb); clear HB hb; have HB := n0_; clear n0_)
    | (go_at_call 10; with_reducible refine (HNewA w _ HB.out).mono ?_; rintro e w3 ⟨g, F0, rfl, hh, hn_, hb⟩; have HH := Aside0.mk hh; clear HB hh hn_ hb))
  have hk0 : wrap64 (wrap64 n + 1) = (k : Int) := by rw [w64 (n := n) (by have := HNn.out; omega), w64 (by have := HNn.out; omega), HKn.out]
  rw [hk0]
  clear hk0
  go_wp2
  go_loopg [7] k (fun kq v7 w' => ∃ (q : Nat) (F : Nat → Prop), v7 = .int .i64 (q : Int) ∧ Aside0 (kq + q = k) ∧ Aside0 (HpA w w' g (putAll [] (mS k h q)) F))
  case atStart => exact ⟨0, F0, rfl, ⟨by omega⟩, HH⟩
  clear HH
  obtain ⟨q, F1, rfl, HQ, HH⟩ := hrel
  by_cases hlt : q < k
  · obtain ⟨k1, rfl⟩ : ∃ k1, gk = k1 + 1 := ⟨gk - 1, by have := HQ.out; omega⟩
    have hd0 : decide (q < k) = true := decide_eq_true hlt
    have hd1 : decide ((q : Int) < (k : Int)) = true := decide_eq_true (by omega)
    go_upto_block 2 with (fail)
    rw [← HHl.out]
    go_cut [8] (fun v8 wc => v8 = .int .i64 ((sg k h q : Nat) : Int) ∧ wr = wc)
    case first =>
      by_cases h1 : h = 1
      · have b1 : ((h : Int) == 1) = true := beq_iff_eq.mpr (by omega)
        have b2 : (h == 1) = true := beq_iff_eq.mpr h1
        have HS := Aside0.mk (show sg k h q = k - 1 - q by unfold sg; rw [if_pos h1])
        clear h1
        go_wp2
        go_meet
        case rel => exact ⟨by rw [HS.out, w64 (n := (k : Int) - 1) (by have := HKl.out; omega), w64 (by have := HKl.out; omega)]; congr 1; omega, rfl⟩
      have b1 : ((h : Int) == 1) = false := beq_eq_false_iff_ne.mpr (by omega)
      have b2 : (h == 1) = false := beq_eq_false_iff_ne.mpr h1
      by_cases h2 : h = 2
      · have b3 : ((h : Int) == 2) = true := beq_iff_eq.mpr (by omega)
        have b4 : (h == 2) = true := beq_iff_eq.mpr h2
        by_cases h3 : q % 2 = 1
        · have c1 : ((q : Int) % 2 == 1) = true := beq_iff_eq.mpr (by omega)
          have HS := Aside0.mk (show sg k h q = k - 1 - q / 2 by unfold sg; rw [if_neg h1, if_pos h2, if_pos h3])
          clear h1 h2 h3
          go_wp2
          go_meet
          case rel => exact ⟨by rw [HS.out, w64 (n := (k : Int) - 1) (by have := HKl.out; omega), w64 (n := (q : Int) / 2) (by have := HKl.out; omega), w64 (by have := HKl.out; omega)]; congr 1; omega, rfl⟩
        · have c1 : ((q : Int) % 2 == 1) = false := beq_eq_false_iff_ne.mpr (by omega)
          have HS := Aside0.mk (show sg k h q = q / 2 by unfold sg; rw [if_neg h1, if_pos h2, if_neg h3])
          clear h1 h2 h3
          go_wp2
          go_meet
          case rel => exact ⟨by rw [HS.out, w64 (n := (q : Int) / 2) (by have := HKl.out; omega)]; congr 1, rfl⟩
      have b3 : ((h : Int) == 2) = false := beq_eq_false_iff_ne.mpr (by omega)
      have b4 : (h == 2) = false := beq_eq_false_iff_ne.mpr h2
      have HS := Aside0.mk (show sg k h q = q by unfold sg; rw [if_neg h1, if_neg h2])
      clear h1 h2
      go_wp2
      go_meet
      case rel => exact ⟨by rw [HS.out], rfl⟩
    obtain ⟨rfl, rfl⟩ := hcut
    have HJ := Aside0.mk (show sg k h q < 256 by have := sg_lt (h := h) hlt; have := HKl.out; omega)
    have HPB := Aside0.mk (mS_new (h := h) HKl.out.2 hlt)
    have HPE := Aside0.mk (mS_put k h q)
    obtain ⟨j, hj⟩ : ∃ j, sg k h q = j := ⟨_, rfl⟩
    rw [hj] at HJ HPB HPE ⊢
    clear hj
    have HLn := Aside0.mk (show (putAll [] (mS k h q)).length ≤ 1000000 by have h1 := putAll_length (mS k h q) []; have h2 := HKl.out; rw [mS_length, List.length_nil] at h1; omega)
    obtain ⟨d, hd⟩ : ∃ d : Nat, d = j / 16 := ⟨_, rfl⟩
    obtain ⟨m, hm⟩ : ∃ m : Nat, m = j % 16 := ⟨_, rfl⟩
    obtain ⟨b0, hb0⟩ : ∃ b0 : Nat, b0 = 97 + j / 16 := ⟨_, rfl⟩
    obtain ⟨b1, hb1⟩ : ∃ b1 : Nat, b1 = 97 + j % 16 := ⟨_, rfl⟩
    have r1 : wrap64 ((j : Int) / 16) = (d : Int) := by rw [w64 (by have := HJ.out; omega)]; omega
    have r2 : wrap64 (97 + (d : Int)) = (b0 : Int) := by rw [w64 (by have := HJ.out; clear r1; omega)]; clear r1; omega
    have r3 : (b0 : Int) % 256 = (b0 : Int) := by have := HJ.out; clear r1 r2; omega
    have r4 : (j : Int) % 16 = (m : Int) := by clear r1 r2; omega
    have r5 : 97 + (m : Int) = (b1 : Int) := by clear r1 r2; omega
    have hcv := mK_conv wr b0 b1 j HJ.out hb0 hb1
    clear hd hm hb0 hb1
    go_upto_region 7 with (go_at_call 12; go_loud (with_reducible refine (PMany w _ g k h q j F1 (HH.out.below (below_alloc (Below.refl _ _) _)) HLn.out HPB.out HPE.out).mono ?_; rintro e w5 ⟨F2, rfl, hh⟩; have H2 := Aside0.mk hh; clear HH hh))
    clear r1 r2 r3 r4 r5 hcv
    go_wp2
    go_roundg k1
    case measure => have := HQ.out; omega
    case rel => exact ⟨q + 1, F2, by have h_ := HQ.out; have h2_ := HKl.out; simp; unfold wrap64; omega, ⟨by have := HQ.out; omega⟩, H2⟩
  have hd0 : decide (q < k) = false := decide_eq_false hlt
  have hd1 : decide ((q : Int) < (k : Int)) = false := decide_eq_false (by omega)
  have hqk : q = k := by have := HQ.out; omega
  rw [hqk, mS_all HKl.out.2] at HH
  clear HQ HHl HH3
  go_upto_region 19 with (go_at_call 17; with_reducible refine (AMany w _ g k F1 HH.out HKl.out.2).mono ?_; rintro e w9 ⟨A9, c9, rfl, hr, hb⟩; have n0_ := Aside0.mk (HH.out.below hb); clear HH hb; have HH := n0_; clear n0_; have RX := Aside0.mk hr; clear hr)
  clear hd0 hd1 hlt hqk
  have wm : wrap64 (2 * (k : Int)) = 2 * (k : Int) := w64 (by have := HKl.out; omega)
  go_upto_region 21 with (first
    | (go_at_call 20; with_reducible refine (LnMany w _ g k F1 HH.out).mono ?_; rintro e w11 ⟨rfl, hb⟩; have n0_ := Aside0.mk (HH.out.below hb); have n1_ := Aside0.mk (RX.out.below hb); clear HH RX hb; have HH := n0_; have RX := n1_; clear n0_ n1_)
    | (go_at_call 21; with_reducible refine (ByMany w _ g k F1 HH.out).mono ?_; rintro e w12 ⟨rfl, hb⟩; have n0_ := Aside0.mk (HH.out.below hb); have n1_ := Aside0.mk (RX.out.below hb); clear HH RX hb; have HH := n0_; have RX := n1_; clear n0_ n1_))
  clear wm
  go_wp2
  go_loopg [10] k (fun kq v10 w' => ∃ (q : Nat), v10 = .int .i64 (q : Int) ∧ Aside0 (kq + q = k) ∧ Aside0 (HpA w w' g (mR k) F1) ∧ Aside0 (RdE w' A9 c9 (mR k)))
  case atStart => exact ⟨0, rfl, ⟨by omega⟩, HH, RX⟩
  clear HH RX
  obtain ⟨q2, rfl, HQ, HH, RX⟩ := hrel
  by_cases hlt : q2 < k
  · obtain ⟨k1, rfl⟩ : ∃ k1, gk = k1 + 1 := ⟨gk - 1, by have := HQ.out; omega⟩
    have hd0 : decide (q2 < k) = true := decide_eq_true hlt
    have hd1 : decide ((q2 : Int) < (k : Int)) = true := decide_eq_true (by omega)
    have p0 : 0 ≤ (q2 : Int) := by omega
    have q0 : (q2 : Int) < (k : Int) := by omega
    have HJ := Aside0.mk (show q2 < 256 by have := HKl.out; omega)
    obtain ⟨ad, e_, hx0, hx1, hx2, hx3⟩ := at_T29 RX.out.rd (q2 : Int) p0 (by rw [mR_length]; exact q0)
    cases e_
    rw [Int.toNat_natCast, hrd, mR_get hlt] at hx0
    replace hx0 : wr.cell? (ad.add (q2 * 4)) = some (.string (S (mK q2))) := hx0
    clear hx1 hx2 hx3
    obtain ⟨d, hd⟩ : ∃ d : Nat, d = q2 / 16 := ⟨_, rfl⟩
    obtain ⟨m, hm⟩ : ∃ m : Nat, m = q2 % 16 := ⟨_, rfl⟩
    obtain ⟨b0, hb0⟩ : ∃ b0 : Nat, b0 = 97 + q2 / 16 := ⟨_, rfl⟩
    obtain ⟨b1, hb1⟩ : ∃ b1 : Nat, b1 = 97 + q2 % 16 := ⟨_, rfl⟩
    have r1 : wrap64 ((q2 : Int) / 16) = (d : Int) := by rw [w64 (by have := HJ.out; omega)]; omega
    have r2 : wrap64 (97 + (d : Int)) = (b0 : Int) := by rw [w64 (by have := HJ.out; clear r1; omega)]; clear r1; omega
    have r3 : (b0 : Int) % 256 = (b0 : Int) := by have := HJ.out; clear r1 r2; omega
    have r4 : (q2 : Int) % 16 = (m : Int) := by clear r1 r2; omega
    have r5 : 97 + (m : Int) = (b1 : Int) := by clear r1 r2; omega
    have s3 : IntKind.u8.wrap (b0 : Int) = (b0 : Int) := u8w' (by have := HJ.out; clear r1 r2; omega)
    have s4 : (q2 : Int).tmod 16 = (m : Int) := by rw [hm]; rfl
    have s5 : wrap64 (97 + (m : Int)) = (b1 : Int) := by rw [w64 (by have := HJ.out; clear r1 r2 s3; omega)]; exact r5
    have s7 : wrap64 (b1 : Int) = (b1 : Int) := w64 (by have := HJ.out; clear r1 r2 s3 s5; omega)
    have s6 : IntKind.u8.wrap (b1 : Int) = (b1 : Int) := u8w' (by have := HJ.out; clear r1 r2 s3 s5 s7; omega)
    have t1 : wrap64 ((q2 : Int).tdiv 16) = (d : Int) := by rw [show (q2 : Int).tdiv 16 = ((q2 / 16 : Nat) : Int) from rfl, ← hd, w64 (by have := HJ.out; clear r1 r2 s3 s5 s6 s7; omega)]
    have hcv := mK_conv2 (wr.alloc (.cells #[.int .u8 (b0 : Int), .int .u8 (b1 : Int)] 5)).drew wr.heap.size b0 b1 q2 (blk_drew (blk_new wr _)) HJ.out hb0 hb1
    clear hd hm hb0 hb1
    go_upto_region 24 with (fail)
    refine start_ (n := 16) (S := fun w' => w'.cell? (ad.add (q2 * 4)) = some (.string (S (mK q2)))) (ds := []) #[false, false, false, false, false, false, false, false, false, false, false, false, false, false, false, false] (by kernel_rfl) rfl rfl (hx0) (fun hHeld => ?_)
    refine pure_ (i := 0) (N := some 81) (v := ?_) (a' := ?_) #[true, false, false, false, false, false, false, false, false, false, false, false, false, false, false, false] rfl rfl (by kernel_rfl) (fun _ _ _ h => h) (Or.inl ⟨by rfl, ?_⟩) ?_ ?_
    rotate_left
    · intro w'
      go_simp
      with_reducible rfl
    rotate_left
    · simp only [Act.put, List.setIfInBounds_toArray, List.set_cons_zero, List.set_cons_succ, i64_w, i32_w]
      rfl
    refine pure_ (i := 1) (N := some 82) (v := ?_) (a' := ?_) #[true, true, false, false, false, false, false, false, false, false, false, false, false, false, false, false] rfl rfl (by kernel_rfl) (fun _ _ _ h => h) (Or.inl ⟨by rfl, ?_⟩) ?_ ?_
    rotate_left
    · intro w'
      go_simp
      with_reducible rfl
    rotate_left
    · simp only [Act.put, List.setIfInBounds_toArray, List.set_cons_zero, List.set_cons_succ, i64_w, i32_w]
      rfl
    refine pure_ (i := 2) (N := some 83) (v := ?_) (a' := ?_) #[true, true, true, false, false, false, false, false, false, false, false, false, false, false, false, false] rfl rfl (by kernel_rfl) (fun _ _ _ h => h) (Or.inl ⟨by rfl, ?_⟩) ?_ ?_
    rotate_left
    · intro w'
      go_simp
      with_reducible rfl
    rotate_left
    · simp only [Act.put, List.setIfInBounds_toArray, List.set_cons_zero, List.set_cons_succ, i64_w, i32_w]
      rfl
    refine pure_ (i := 3) (N := some 84) (v := ?_) (a' := ?_) #[true, true, true, true, false, false, false, false, false, false, false, false, false, false, false, false] rfl rfl (by kernel_rfl) (fun _ _ _ h => h) (Or.inl ⟨by rfl, ?_⟩) ?_ ?_
    rotate_left
    · intro w'
      go_simp
      with_reducible rfl
    rotate_left
    · simp only [Act.put, List.setIfInBounds_toArray, List.set_cons_zero, List.set_cons_succ, i64_w, i32_w]
      rfl
    refine pure_ (i := 5) (N := some 86) (v := ?_) (a' := ?_) #[true, true, true, true, false, true, false, false, false, false, false, false, false, false, false, false] rfl rfl (by kernel_rfl) (fun _ _ _ h => h) (Or.inl ⟨by rfl, ?_⟩) ?_ ?_
    rotate_left
    · intro w'
      go_simp
      with_reducible rfl
    rotate_left
    · simp only [Act.put, List.setIfInBounds_toArray, List.set_cons_zero, List.set_cons_succ, i64_w, i32_w]
      rfl
    refine pure_ (i := 6) (N := some 87) (v := ?_) (a' := ?_) #[true, true, true, true, false, true, true, false, false, false, false, false, false, false, false, false] rfl rfl (by kernel_rfl) (fun _ _ _ h => h) (Or.inl ⟨by rfl, ?_⟩) ?_ ?_
    rotate_left
    · intro w'
      go_simp
      with_reducible rfl
    rotate_left
    · simp only [Act.put, List.setIfInBounds_toArray, List.set_cons_zero, List.set_cons_succ, i64_w, i32_w]
      rfl
    refine pure_ (i := 7) (N := some 88) (v := ?_) (a' := ?_) #[true, true, true, true, false, true, true, true, false, false, false, false, false, false, false, false] rfl rfl (by kernel_rfl) (fun _ _ _ h => h) (Or.inl ⟨by rfl, ?_⟩) ?_ ?_
    rotate_left
    · intro w'
      go_simp
      with_reducible rfl
    rotate_left
    · simp only [Act.put, List.setIfInBounds_toArray, List.set_cons_zero, List.set_cons_succ, i64_w, i32_w]
      rfl
    refine pure_ (i := 8) (N := some 89) (v := ?_) (a' := ?_) #[true, true, true, true, false, true, true, true, true, false, false, false, false, false, false, false] rfl rfl (by kernel_rfl) (fun _ _ _ h => h) (Or.inl ⟨by rfl, ?_⟩) ?_ ?_
    rotate_left
    · intro w'
      go_simp
      with_reducible rfl
    rotate_left
    · simp only [Act.put, List.setIfInBounds_toArray, List.set_cons_zero, List.set_cons_succ, i64_w, i32_w]
      rfl
    refine pure_ (i := 9) (N := some 90) (v := ?_) (a' := ?_) #[true, true, true, true, false, true, true, true, true, true, false, false, false, false, false, false] rfl rfl (by kernel_rfl) (fun _ _ _ h => h) (Or.inl ⟨by rfl, ?_⟩) ?_ ?_
    rotate_left
    · intro w'
      go_simp
      with_reducible rfl
    rotate_left
    · simp only [Act.put, List.setIfInBounds_toArray, List.set_cons_zero, List.set_cons_succ, i64_w, i32_w]
      rfl
    refine pure_ (i := 10) (N := some 91) (v := ?_) (a' := ?_) #[true, true, true, true, false, true, true, true, true, true, true, false, false, false, false, false] rfl rfl (by kernel_rfl) (fun _ _ _ h => h) (Or.inl ⟨by rfl, ?_⟩) ?_ ?_
    rotate_left
    · intro w'
      go_simp
      with_reducible rfl
    rotate_left
    · simp only [Act.put, List.setIfInBounds_toArray, List.set_cons_zero, List.set_cons_succ, i64_w, i32_w]
      rfl
    refine pure_ (i := 11) (N := some 92) (v := ?_) (a' := ?_) #[true, true, true, true, false, true, true, true, true, true, true, true, false, false, false, false] rfl rfl (by kernel_rfl) (fun _ _ _ h => h) (Or.inl ⟨by rfl, ?_⟩) ?_ ?_
    rotate_left
    · intro w'
      go_simp
      with_reducible rfl
    rotate_left
    · simp only [Act.put, List.setIfInBounds_toArray, List.set_cons_zero, List.set_cons_succ, i64_w, i32_w]
      rfl
    refine pure_ (i := 12) (N := some 93) (v := ?_) (a' := ?_) #[true, true, true, true, false, true, true, true, true, true, true, true, true, false, false, false] rfl rfl (by kernel_rfl) (fun _ _ _ h => h) (Or.inl ⟨by rfl, ?_⟩) ?_ ?_
    rotate_left
    · intro w'
      go_simp
      with_reducible rfl
    rotate_left
    · simp only [Act.put, List.setIfInBounds_toArray, List.set_cons_zero, List.set_cons_succ, i64_w, i32_w]
      rfl
    refine take_ (i := 4) (N := some 85) (v := ?_) (a' := ?_) #[true, true, true, true, true, true, true, true, true, true, true, true, true, false, false, false] rfl rfl (by kernel_rfl) (fun _ _ _ h => h) (Or.inl ⟨by rfl, ?_⟩) hHeld ?_ ?_
    rotate_left
    · intro w' s0
      go_simp
      with_reducible rfl
    rotate_left
    · simp only [Act.put, List.setIfInBounds_toArray, List.set_cons_zero, List.set_cons_succ, i64_w, i32_w]
      rfl
    refine one_ (i := 13) (N := some 94) #[true, true, true, true, true, true, true, true, true, true, true, true, true, true, false, false] rfl rfl (by kernel_rfl) (by decide) (fun K hK => ?_)
    refine value_ (w1 := ?_) (v := ?_) (by rfl) rfl ?_ ?_
    rotate_left 2
    · go_simp
      constructor
      · rfl
      · rfl
    refine hK.out _ _ ((pw_cell_below (below_drew1 (below_alloc (Below.refl _ _) _)) hx0)) (fun hHeld => ?_)
    clear hK K
    refine norm_ (a' := ?_) ?_ ?_
    rotate_left
    · show Act.put _ (some 94) _ = _
      simp only [Act.put, List.setIfInBounds_toArray, List.set_cons_zero, List.set_cons_succ, i64_w, i32_w]
      rfl
    refine one_ (i := 14) (N := some 95) #[true, true, true, true, true, true, true, true, true, true, true, true, true, true, true, false] rfl rfl (by kernel_rfl) (by decide) (fun K hK => ?_)
    refine value_ (w1 := ?_) (v := ?_) (by rfl) rfl ?_ ?_
    rotate_left 2
    · go_simp
      constructor
      · rfl
      · rfl
    refine hK.out _ _ ((pw_cell_below (below_drew1 (below_alloc (Below.refl _ _) _)) hx0)) (fun hHeld => ?_)
    clear hK K
    refine norm_ (a' := ?_) ?_ ?_
    rotate_left
    · show Act.put _ (some 95) _ = _
      simp only [Act.put, List.setIfInBounds_toArray, List.set_cons_zero, List.set_cons_succ, i64_w, i32_w]
      rfl
    refine pure_ (i := 15) (N := some 96) (v := ?_) (a' := ?_) #[true, true, true, true, true, true, true, true, true, true, true, true, true, true, true, true] rfl rfl (by kernel_rfl) (fun _ _ _ h => h) (Or.inl ⟨by rfl, ?_⟩) ?_ ?_
    rotate_left
    · intro w'
      go_simp
      with_reducible rfl
    rotate_left
    · simp only [Act.put, List.setIfInBounds_toArray, List.set_cons_zero, List.set_cons_succ, i64_w, i32_w]
      rfl
    refine done_ (by kernel_rfl) ?_

    have n0_ := Aside0.mk (HH.out.below (below_drew1 (below_alloc (Below.refl _ wr) (.cells #[.int .u8 (b0 : Int), .int .u8 (b1 : Int)] 5))))
    have n1_ := Aside0.mk (RX.out.below (below_drew1 (below_alloc (Below.refl _ wr) (.cells #[.int .u8 (b0 : Int), .int .u8 (b1 : Int)] 5))))
    clear HH RX r1 r2 r3 r4 r5 s3 s4 s5 s6 s7 t1 hcv hx0
    have HH := n0_
    have RX := n1_
    clear n0_ n1_
    go_wp2
    go_roundg k1
    case measure => have := HQ.out; omega
    case rel => exact ⟨q2 + 1, by have h_ := HQ.out; have h2_ := HKl.out; simp; unfold wrap64; omega, ⟨by have := HQ.out; omega⟩, HH, RX⟩
  have hd0 : decide (q2 < k) = false := decide_eq_false hlt
  have hd1 : decide ((q2 : Int) < (k : Int)) = false := decide_eq_false (by omega)
  obtain ⟨L, hL⟩ : ∃ L, L = (rangeE (mR k) [98] [99]).length := ⟨_, rfl⟩
  have HL := Aside0.mk (show (L : Int) = max 0 (min 16 ((k : Int) - 16)) by rw [hL]; exact mR_range HKl.out.2)
  have HLe := Aside0.mk hL
  obtain ⟨ad, e_, hx0, hx1, hx2, hx3⟩ := at_T29 RX.out.rd 0 (by decide) (by rw [mR_length]; have := HKl.out; omega)
  cases e_
  have e0 : rd_T29 (mR k) 0 = mE 0 := mR_get HKl.out.1
  rw [e0] at hx0 hx1 hx2 hx3
  replace hx0 : wr.cell? ad = some (.string (S (mK 0))) := hx0
  replace hx1 : wr.cell? ⟨ad.block, ad.off + 1, none⟩ = some (.int .i64 1) := hx1
  replace hx2 : wr.cell? ⟨ad.block, ad.off + 2, none⟩ = some (.bool false) := hx2
  replace hx3 : wr.cell? ⟨ad.block, ad.off + 3, none⟩ = some (.string ⟨#[]⟩) := hx3
  have wk : wrap64 ((k : Int) - 16) = (k : Int) - 16 := w64 (by have := HKl.out; omega)
  have eL : ((L : Int) == max 0 (min 16 ((k : Int) - 16))) = true := beq_iff_eq.mpr HL.out
  have hk0 : 0 < k := HKl.out.1
  have hk1 : (0 : Int) < (k : Int) := by omega
  clear hL e0 HQ
  go_wp2_with (first
    | (go_at_call 18; go_loud (with_reducible refine (RgMany w _ g k L F1 HH.out HKl.out.2 HLe.out).mono ?_; rintro e w13 ⟨A13, c13, rfl, hb⟩; have n0_ := Aside0.mk (HH.out.below hb); have n1_ := pw_cell_below hb hx0; have n2_ := pw_cell_below hb hx1; have n3_ := pw_cell_below hb hx2; have n4_ := pw_cell_below hb hx3; clear HH RX hb hx0 hx1 hx2 hx3; have HH := n0_; have hx0 := n1_; have hx1 := n2_; have hx2 := n3_; have hx3 := n4_; clear n0_ n1_ n2_ n3_ n4_))
    | (go_at_call 12; go_loud (with_reducible refine (PtMany w _ g k F1 HH.out HKl.out).mono ?_; rintro e w14 ⟨rfl, hb⟩; have HB2 := Aside0.mk hb; clear HH hb)))
  go_ret
  exact ⟨rfl, HB2.out⟩
end Go.Proofs.Ytdkdnfgpgedglaa.Q
