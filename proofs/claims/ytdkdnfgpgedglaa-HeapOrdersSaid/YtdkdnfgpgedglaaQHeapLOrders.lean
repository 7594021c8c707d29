import Derived.Test.YtdkdnfgpgedglaaQHeapKnown
import Derived.Test.YtdkdnfgpgedglaaQHeapOrd
import Derived.Test.YtdkdnfgpgedglaaQHeapRefS
import Derived.Test.YtdkdnfgpgedglaaQHeapRefE
import Derived.Test.YtdkdnfgpgedglaaPx5
import Derived.Test.YtdkdnfgpgedglaaPx3
namespace Go.Proofs.Ytdkdnfgpgedglaa.Q
open Go.RowKit Go.Lib Go.Proofs.Ytdkdnfgpgedglaa.P Go.Proofs.YtdkdnfgpgedglaaW.PrintWords Go.Proofs.YtdkdnfgpgedglaaW.PrintLast Go.Proofs.YtdkdnfgpgedglaaW.PrintMore
set_option linter.unusedVariables false
set_option linter.unusedSimpArgs false
attribute [local go_sem high] string_leq string_geq string_gtr
set_option maxHeartbeats 4000000 in
set_option maxRecDepth 100000 in
theorem LOrders (w : World) (A0 : Option Addr) (c0 : Nat) (l : List S29) (turn : Int) (hr0 : Kd.C k29 w A0 l.length l) (hc0 : l.length ≤ c0) (hl0 : l.length ≤ 9223372036854775807) (ht : 0 ≤ turn ∧ turn ≤ 255) :
    Calls Try.prog 4 #[.slice A0 l.length c0, .int .u8 turn] w fun e w' => e = .returned (.bool true) ∧ Below w.heap.size w w' := by
  obtain ⟨K, hK⟩ := few_ev l hl0
  have HF := Aside0.mk (hK K (Nat.le_refl _))
  have HR := Aside0.mk hr0
  have HC := Aside0.mk hc0
  have HT := Aside0.mk ht
  have HB := Aside0.mk (Below.refl w.heap.size w)
  clear hK hr0 hc0 hl0 ht
  go_enter Try.func4, Try.ntmps4
  go_upto_region 3 with (go_at_call 8; refine (HKnown _).mono ?_; rintro e w1 ⟨rfl, hb⟩; have n0_ := Aside0.mk (below_step HB.out hb); clear HB hb; have HB := n0_; clear n0_)
  cases hf : fewB l with
  | false =>
    rw [hf] at HF
    go_wp2_with (go_at_call 9; with_reducible refine (ravelinlaw10_few.calls K _ _ l false _ (Kd.C_below HR.out HB.out) HC.out HF.out).mono ?_; rintro e w2 ⟨rfl, hd⟩; have n0_ := Aside0.mk (below_step HB.out hd.below); clear HB hd; have HB := n0_; clear n0_)
    go_ret
    exact ⟨rfl, HB.out⟩
  | true =>
    rw [hf] at HF
    have hl60 : l.length ≤ 60 := by unfold fewB at hf; rw [Bool.and_eq_true] at hf; exact of_decide_eq_true hf.2
    by_cases hn : l.length = 0
    · have e1 : ((l.length : Int) == 0) = true := beq_iff_eq.mpr (by omega)
      have e2 : (l.length == 0) = true := beq_iff_eq.mpr hn
      clear hn hf hl60
      go_wp2_with (go_at_call 9; with_reducible refine (ravelinlaw10_few.calls K _ _ l true _ (Kd.C_below HR.out HB.out) HC.out HF.out).mono ?_; rintro e w2 ⟨rfl, hd⟩; have n0_ := Aside0.mk (below_step HB.out hd.below); clear HB hd; have HB := n0_; clear n0_)
      go_ret
      exact ⟨rfl, HB.out⟩
    have e1 : ((l.length : Int) == 0) = false := beq_eq_false_iff_ne.mpr (by omega)
    have e2 : (l.length == 0) = false := beq_eq_false_iff_ne.mpr hn
    have HL := Aside0.mk hl60
    clear hl60 hf
    go_upto_region 6 with (first
      | (go_at_call 9; with_reducible refine (ravelinlaw10_few.calls K _ _ l true _ (Kd.C_below HR.out HB.out) HC.out HF.out).mono ?_; rintro e w2 ⟨rfl, hd⟩; have n0_ := Aside0.mk (below_step HB.out hd.below); clear HB hd; have HB := n0_; clear n0_)
      | (go_at_call 10; with_reducible refine (HNewA w _ HB.out).mono ?_; rintro e w3 ⟨ga, Fa, rfl, hh, hn_, hb⟩; have HA := Aside0.mk hh; clear HB hh hn_ hb)
      | (go_at_call 10; with_reducible refine (HNewA w _ HA.out.low).mono ?_; rintro e w4 ⟨gb, Fb, rfl, hh, hn_, hb⟩; have HH := Aside0.mk (HpA2.mk_new HA.out hb hh hn_); clear HA hh hn_ hb))
    go_upto_region 7 with (fail)
    obtain ⟨kk, hkk⟩ : ∃ kk : Nat, (wrap64 turn).tmod (l.length : Int) = (kk : Int) := ⟨(turn.tmod (l.length : Int)).toNat, by have h1 := Int.tmod_nonneg (l.length : Int) HT.out.1; rw [w64 (by have := HT.out; omega)]; omega⟩
    have hkl : kk < l.length := by have h1 := Int.tmod_lt_of_pos turn (show (0 : Int) < (l.length : Int) by omega); rw [w64 (by have := HT.out; omega)] at hkk; omega
    rw [hkk]
    have HKL := Aside0.mk hkl
    clear hkk hkl hn e1 e2
    go_wp2
    go_loopg [8] l.length (fun kq v8 w' => ∃ (q : Nat) (F : Nat → Prop), v8 = .int .i64 (q : Int) ∧ Aside0 (kq + q = l.length) ∧ Aside0 (HpA2 w w' ga (putAll [] (l.take q)) F gb [] Fb) ∧ Aside0 (∀ i, i < q → ∀ j, j < i → ¬ KS (l.getD j z29) (l.getD i z29)))
    case atStart => exact ⟨0, Fa, rfl, ⟨by omega⟩, HH, ⟨fun i hi => by omega⟩⟩
    clear HH
    obtain ⟨q, F1, rfl, HQ, HH, HN⟩ := hrel
    by_cases hlt : q < l.length
    · obtain ⟨k1, rfl⟩ : ∃ k1, gk = k1 + 1 := ⟨gk - 1, by have := HQ.out; omega⟩
      have hd0 : decide (q < l.length) = true := decide_eq_true hlt
      have hd1 : decide ((q : Int) < (l.length : Int)) = true := decide_eq_true (by omega)
      have p0 : 0 ≤ (q : Int) := by omega
      have q0 : (q : Int) < (l.length : Int) := by omega
      obtain ⟨ad, e_, hx0, hx1, hx2, hx3⟩ := at_T29 (Kd.C_below HR.out HH.out.one.low) (q : Int) p0 q0
      cases e_
      rw [Int.toNat_natCast] at hx0 hx1 hx2 hx3
      have HLn := Aside0.mk (show (putAll [] (l.take q)).length ≤ 1000000 by have h1 := putAll_length (l.take q) []; have h2 := HL.out; rw [List.length_take, List.length_nil] at h1; omega)
      have HT1 := Aside0.mk (show putE (putAll [] (l.take q)) (rd_T29 l (q : Int)) = putAll [] (l.take (q + 1)) by rw [take_putAll hlt, hrd])
      go_upto_region 11 with (go_at_call 12; with_reducible refine (HPutA2 w _ ga _ F1 gb [] Fb (rd_T29 l (q : Int)) HH.out HLn.out).mono ?_; rintro e w5 ⟨F2, rfl, hh, hn_, hb⟩; rw [HT1.out] at hh; have H2 := Aside0.mk hh; clear HH hh hn_ hb)
      clear hx0 hx1 hx2 hx3 HT1 HLn
      go_wp2
      go_loopg [9] q (fun kq v9 w' => ∃ (p : Nat), v9 = .int .i64 (p : Int) ∧ Aside0 (kq + p = q) ∧ Aside0 (HpA2 w w' ga (putAll [] (l.take (q + 1))) F2 gb [] Fb) ∧ Aside0 (∀ j, j < p → ¬ KS (l.getD j z29) (l.getD q z29)))
      case atStart => exact ⟨0, rfl, ⟨by omega⟩, H2, ⟨fun j hj => by omega⟩⟩
      clear H2
      obtain ⟨p, rfl, HP, HH, HM⟩ := hrel
      by_cases hpq : p < q
      · obtain ⟨k2, rfl⟩ : ∃ k2, gk = k2 + 1 := ⟨gk - 1, by have := HP.out; omega⟩
        have hf0 : decide (p < q) = true := decide_eq_true hpq
        have hf1 : decide ((p : Int) < (q : Int)) = true := decide_eq_true (by omega)
        have r0 : 0 ≤ (p : Int) := by omega
        have s0 : (p : Int) < (l.length : Int) := by omega
        go_upto_region 14 with (fail)
        obtain ⟨ad1, e1_, hp0, hp1, hp2, hp3⟩ := at_T29 (Kd.C_below HR.out HH.out.one.low) (p : Int) r0 s0
        obtain ⟨ad2, e2_, hx0, hx1, hx2, hx3⟩ := at_T29 (Kd.C_below HR.out HH.out.one.low) (q : Int) p0 q0
        obtain rfl := Option.some.inj e1_
        obtain rfl := Option.some.inj e2_
        rw [Int.toNat_natCast] at hp0 hp1 hp2 hp3 hx0 hx1 hx2 hx3
        by_cases hk : (rd_T29 l (p : Int)).f0.toList = (rd_T29 l (q : Int)).f0.toList
        · have hkb : ((rd_T29 l (p : Int)).f0.toList == (rd_T29 l (q : Int)).f0.toList) = true := beq_iff_eq.mpr hk
          by_cases hs : (rd_T29 l (p : Int)).f1 = (rd_T29 l (q : Int)).f1
          · have hsb : ((rd_T29 l (p : Int)).f1 == (rd_T29 l (q : Int)).f1) = true := beq_iff_eq.mpr hs
            have HL2 := Aside0.mk HH.out.one.low
            clear hk hs
            refine start_ (n := 24) (S := fun w' => w'.cell? (ad.add (p * 4)) = some (.string (rd_T29 l (p : Int)).f0) ∧ w'.cell? (ad.add (q * 4)) = some (.string (rd_T29 l (q : Int)).f0) ∧ w'.cell? ⟨(ad.add (p * 4)).block, (ad.add (p * 4)).off + 1, none⟩ = some (.int .i64 (rd_T29 l (p : Int)).f1) ∧ w'.cell? ⟨(ad.add (q * 4)).block, (ad.add (q * 4)).off + 1, none⟩ = some (.int .i64 (rd_T29 l (q : Int)).f1)) (ds := []) #[false, false, false, false, false, false, false, false, false, false, false, false, false, false, false, false, false, false, false, false, false, false, false, false] (by kernel_rfl) rfl rfl ⟨hp0, hx0, hp1, hx1⟩ (fun hHeld => ?_)
            refine pure_ (i := 0) (N := some 47) (v := ?_) (a' := ?_) #[true, false, false, false, false, false, false, false, false, false, false, false, false, false, false, false, false, false, false, false, false, false, false, false] rfl rfl (by kernel_rfl) (fun _ _ _ h => h) (Or.inl ⟨by rfl, ?_⟩) ?_ ?_
            rotate_left
            · intro w'
              go_simp
              with_reducible rfl
            rotate_left
            · simp only [Act.put, List.setIfInBounds_toArray, List.set_cons_zero, List.set_cons_succ, i64_w, i32_w]
              rfl
            refine pure_ (i := 1) (N := some 48) (v := ?_) (a' := ?_) #[true, true, false, false, false, false, false, false, false, false, false, false, false, false, false, false, false, false, false, false, false, false, false, false] rfl rfl (by kernel_rfl) (fun _ _ _ h => h) (Or.inl ⟨by rfl, ?_⟩) ?_ ?_
            rotate_left
            · intro w'
              go_simp
              with_reducible rfl
            rotate_left
            · simp only [Act.put, List.setIfInBounds_toArray, List.set_cons_zero, List.set_cons_succ, i64_w, i32_w]
              rfl
            refine pure_ (i := 2) (N := some 49) (v := ?_) (a' := ?_) #[true, true, true, false, false, false, false, false, false, false, false, false, false, false, false, false, false, false, false, false, false, false, false, false] rfl rfl (by kernel_rfl) (fun _ _ _ h => h) (Or.inl ⟨by rfl, ?_⟩) ?_ ?_
            rotate_left
            · intro w'
              go_simp
              with_reducible rfl
            rotate_left
            · simp only [Act.put, List.setIfInBounds_toArray, List.set_cons_zero, List.set_cons_succ, i64_w, i32_w]
              rfl
            refine pure_ (i := 3) (N := some 50) (v := ?_) (a' := ?_) #[true, true, true, true, false, false, false, false, false, false, false, false, false, false, false, false, false, false, false, false, false, false, false, false] rfl rfl (by kernel_rfl) (fun _ _ _ h => h) (Or.inl ⟨by rfl, ?_⟩) ?_ ?_
            rotate_left
            · intro w'
              go_simp
              with_reducible rfl
            rotate_left
            · simp only [Act.put, List.setIfInBounds_toArray, List.set_cons_zero, List.set_cons_succ, i64_w, i32_w]
              rfl
            refine pure_ (i := 5) (N := some 52) (v := ?_) (a' := ?_) #[true, true, true, true, false, true, false, false, false, false, false, false, false, false, false, false, false, false, false, false, false, false, false, false] rfl rfl (by kernel_rfl) (fun _ _ _ h => h) (Or.inl ⟨by rfl, ?_⟩) ?_ ?_
            rotate_left
            · intro w'
              go_simp
              with_reducible rfl
            rotate_left
            · simp only [Act.put, List.setIfInBounds_toArray, List.set_cons_zero, List.set_cons_succ, i64_w, i32_w]
              rfl
            refine pure_ (i := 6) (N := some 53) (v := ?_) (a' := ?_) #[true, true, true, true, false, true, true, false, false, false, false, false, false, false, false, false, false, false, false, false, false, false, false, false] rfl rfl (by kernel_rfl) (fun _ _ _ h => h) (Or.inl ⟨by rfl, ?_⟩) ?_ ?_
            rotate_left
            · intro w'
              go_simp
              with_reducible rfl
            rotate_left
            · simp only [Act.put, List.setIfInBounds_toArray, List.set_cons_zero, List.set_cons_succ, i64_w, i32_w]
              rfl
            refine pure_ (i := 7) (N := some 54) (v := ?_) (a' := ?_) #[true, true, true, true, false, true, true, true, false, false, false, false, false, false, false, false, false, false, false, false, false, false, false, false] rfl rfl (by kernel_rfl) (fun _ _ _ h => h) (Or.inl ⟨by rfl, ?_⟩) ?_ ?_
            rotate_left
            · intro w'
              go_simp
              with_reducible rfl
            rotate_left
            · simp only [Act.put, List.setIfInBounds_toArray, List.set_cons_zero, List.set_cons_succ, i64_w, i32_w]
              rfl
            refine pure_ (i := 8) (N := some 55) (v := ?_) (a' := ?_) #[true, true, true, true, false, true, true, true, true, false, false, false, false, false, false, false, false, false, false, false, false, false, false, false] rfl rfl (by kernel_rfl) (fun _ _ _ h => h) (Or.inl ⟨by rfl, ?_⟩) ?_ ?_
            rotate_left
            · intro w'
              go_simp
              with_reducible rfl
            rotate_left
            · simp only [Act.put, List.setIfInBounds_toArray, List.set_cons_zero, List.set_cons_succ, i64_w, i32_w]
              rfl
            refine take_ (i := 4) (N := some 51) (v := ?_) (a' := ?_) #[true, true, true, true, true, true, true, true, true, false, false, false, false, false, false, false, false, false, false, false, false, false, false, false] rfl rfl (by kernel_rfl) (fun _ _ _ h => h) (Or.inl ⟨by rfl, ?_⟩) hHeld ?_ ?_
            rotate_left
            · rintro w' ⟨s0, s1, s2, s3⟩
              go_simp
              with_reducible rfl
            rotate_left
            · simp only [Act.put, List.setIfInBounds_toArray, List.set_cons_zero, List.set_cons_succ, i64_w, i32_w]
              rfl
            refine take_ (i := 9) (N := some 56) (v := ?_) (a' := ?_) #[true, true, true, true, true, true, true, true, true, true, false, false, false, false, false, false, false, false, false, false, false, false, false, false] rfl rfl (by kernel_rfl) (fun _ _ _ h => h) (Or.inl ⟨by rfl, ?_⟩) hHeld ?_ ?_
            rotate_left
            · rintro w' ⟨s0, s1, s2, s3⟩
              go_simp
              with_reducible rfl
            rotate_left
            · simp only [Act.put, List.setIfInBounds_toArray, List.set_cons_zero, List.set_cons_succ, i64_w, i32_w]
              rfl
            refine pure_ (i := 10) (N := some 57) (v := ?_) (a' := ?_) #[true, true, true, true, true, true, true, true, true, true, true, false, false, false, false, false, false, false, false, false, false, false, false, false] rfl rfl (by kernel_rfl) (fun _ _ _ h => h) (Or.inl ⟨by rfl, ?_⟩) ?_ ?_
            rotate_left
            · intro w'
              go_simp
              with_reducible rfl
            rotate_left
            · simp only [Act.put, List.setIfInBounds_toArray, List.set_cons_zero, List.set_cons_succ, i64_w, i32_w]
              rfl
            refine pure_ (i := 11) (N := some 58) (v := ?_) (a' := ?_) #[true, true, true, true, true, true, true, true, true, true, true, true, false, false, false, false, false, false, false, false, false, false, false, false] rfl rfl (by kernel_rfl) (fun _ _ _ h => h) (Or.inl ⟨by rfl, ?_⟩) ?_ ?_
            rotate_left
            · intro w'
              go_simp
              with_reducible rfl
            rotate_left
            · simp only [Act.put, List.setIfInBounds_toArray, List.set_cons_zero, List.set_cons_succ, i64_w, i32_w]
              rfl
            refine pure_ (i := 12) (N := some 59) (v := ?_) (a' := ?_) #[true, true, true, true, true, true, true, true, true, true, true, true, true, false, false, false, false, false, false, false, false, false, false, false] rfl rfl (by kernel_rfl) (fun _ _ _ h => h) (Or.inl ⟨by rfl, ?_⟩) ?_ ?_
            rotate_left
            · intro w'
              go_simp
              with_reducible rfl
            rotate_left
            · simp only [Act.put, List.setIfInBounds_toArray, List.set_cons_zero, List.set_cons_succ, i64_w, i32_w]
              rfl
            refine pure_ (i := 13) (N := some 60) (v := ?_) (a' := ?_) #[true, true, true, true, true, true, true, true, true, true, true, true, true, true, false, false, false, false, false, false, false, false, false, false] rfl rfl (by kernel_rfl) (fun _ _ _ h => h) (Or.inl ⟨by rfl, ?_⟩) ?_ ?_
            rotate_left
            · intro w'
              go_simp
              with_reducible rfl
            rotate_left
            · simp only [Act.put, List.setIfInBounds_toArray, List.set_cons_zero, List.set_cons_succ, i64_w, i32_w]
              rfl
            refine pure_ (i := 14) (N := some 61) (v := ?_) (a' := ?_) #[true, true, true, true, true, true, true, true, true, true, true, true, true, true, true, false, false, false, false, false, false, false, false, false] rfl rfl (by kernel_rfl) (fun _ _ _ h => h) (Or.inl ⟨by rfl, ?_⟩) ?_ ?_
            rotate_left
            · intro w'
              go_simp
              with_reducible rfl
            rotate_left
            · simp only [Act.put, List.setIfInBounds_toArray, List.set_cons_zero, List.set_cons_succ, i64_w, i32_w]
              rfl
            refine pure_ (i := 15) (N := some 62) (v := ?_) (a' := ?_) #[true, true, true, true, true, true, true, true, true, true, true, true, true, true, true, true, false, false, false, false, false, false, false, false] rfl rfl (by kernel_rfl) (fun _ _ _ h => h) (Or.inl ⟨by rfl, ?_⟩) ?_ ?_
            rotate_left
            · intro w'
              go_simp
              with_reducible rfl
            rotate_left
            · simp only [Act.put, List.setIfInBounds_toArray, List.set_cons_zero, List.set_cons_succ, i64_w, i32_w]
              rfl
            refine pure_ (i := 17) (N := some 64) (v := ?_) (a' := ?_) #[true, true, true, true, true, true, true, true, true, true, true, true, true, true, true, true, false, true, false, false, false, false, false, false] rfl rfl (by kernel_rfl) (fun _ _ _ h => h) (Or.inl ⟨by rfl, ?_⟩) ?_ ?_
            rotate_left
            · intro w'
              go_simp
              with_reducible rfl
            rotate_left
            · simp only [Act.put, List.setIfInBounds_toArray, List.set_cons_zero, List.set_cons_succ, i64_w, i32_w]
              rfl
            refine pure_ (i := 18) (N := some 65) (v := ?_) (a' := ?_) #[true, true, true, true, true, true, true, true, true, true, true, true, true, true, true, true, false, true, true, false, false, false, false, false] rfl rfl (by kernel_rfl) (fun _ _ _ h => h) (Or.inl ⟨by rfl, ?_⟩) ?_ ?_
            rotate_left
            · intro w'
              go_simp
              with_reducible rfl
            rotate_left
            · simp only [Act.put, List.setIfInBounds_toArray, List.set_cons_zero, List.set_cons_succ, i64_w, i32_w]
              rfl
            refine pure_ (i := 19) (N := some 66) (v := ?_) (a' := ?_) #[true, true, true, true, true, true, true, true, true, true, true, true, true, true, true, true, false, true, true, true, false, false, false, false] rfl rfl (by kernel_rfl) (fun _ _ _ h => h) (Or.inl ⟨by rfl, ?_⟩) ?_ ?_
            rotate_left
            · intro w'
              go_simp
              with_reducible rfl
            rotate_left
            · simp only [Act.put, List.setIfInBounds_toArray, List.set_cons_zero, List.set_cons_succ, i64_w, i32_w]
              rfl
            refine pure_ (i := 20) (N := some 67) (v := ?_) (a' := ?_) #[true, true, true, true, true, true, true, true, true, true, true, true, true, true, true, true, false, true, true, true, true, false, false, false] rfl rfl (by kernel_rfl) (fun _ _ _ h => h) (Or.inl ⟨by rfl, ?_⟩) ?_ ?_
            rotate_left
            · intro w'
              go_simp
              with_reducible rfl
            rotate_left
            · simp only [Act.put, List.setIfInBounds_toArray, List.set_cons_zero, List.set_cons_succ, i64_w, i32_w]
              rfl
            refine take_ (i := 16) (N := some 63) (v := ?_) (a' := ?_) #[true, true, true, true, true, true, true, true, true, true, true, true, true, true, true, true, true, true, true, true, true, false, false, false] rfl rfl (by kernel_rfl) (fun _ _ _ h => h) (Or.inl ⟨by rfl, ?_⟩) hHeld ?_ ?_
            rotate_left
            · rintro w' ⟨s0, s1, s2, s3⟩
              go_simp
              with_reducible rfl
            rotate_left
            · simp only [Act.put, List.setIfInBounds_toArray, List.set_cons_zero, List.set_cons_succ, i64_w, i32_w]
              rfl
            refine take_ (i := 21) (N := some 68) (v := ?_) (a' := ?_) #[true, true, true, true, true, true, true, true, true, true, true, true, true, true, true, true, true, true, true, true, true, true, false, false] rfl rfl (by kernel_rfl) (fun _ _ _ h => h) (Or.inl ⟨by rfl, ?_⟩) hHeld ?_ ?_
            rotate_left
            · rintro w' ⟨s0, s1, s2, s3⟩
              go_simp
              with_reducible rfl
            rotate_left
            · simp only [Act.put, List.setIfInBounds_toArray, List.set_cons_zero, List.set_cons_succ, i64_w, i32_w]
              rfl
            refine pure_ (i := 22) (N := some 69) (v := ?_) (a' := ?_) #[true, true, true, true, true, true, true, true, true, true, true, true, true, true, true, true, true, true, true, true, true, true, true, false] rfl rfl (by kernel_rfl) (fun _ _ _ h => h) (Or.inl ⟨by rfl, ?_⟩) ?_ ?_
            rotate_left
            · intro w'
              go_simp
              with_reducible rfl
            rotate_left
            · simp only [Act.put, List.setIfInBounds_toArray, List.set_cons_zero, List.set_cons_succ, i64_w, i32_w]
              rfl
            refine pure_ (i := 23) (N := some 70) (v := ?_) (a' := ?_) #[true, true, true, true, true, true, true, true, true, true, true, true, true, true, true, true, true, true, true, true, true, true, true, true] rfl rfl (by kernel_rfl) (fun _ _ _ h => h) (Or.inl ⟨by rfl, ?_⟩) ?_ ?_
            rotate_left
            · intro w'
              go_simp
              with_reducible rfl
            rotate_left
            · simp only [Act.put, List.setIfInBounds_toArray, List.set_cons_zero, List.set_cons_succ, i64_w, i32_w]
              rfl
            refine done_ (by kernel_rfl) ?_

            go_wp2
            go_ret
            exact ⟨rfl, below_drew HL2.out⟩
          have hsb : ((rd_T29 l (p : Int)).f1 == (rd_T29 l (q : Int)).f1) = false := beq_eq_false_iff_ne.mpr hs
          have HM2 := Aside0.mk (show ∀ j, j < p + 1 → ¬ KS (l.getD j z29) (l.getD q z29) from fun j hj => by
            rcases Nat.lt_or_ge j p with h1 | h1
            · exact HM.out j h1
            · obtain rfl : j = p := by omega
              rw [hrd, hrd] at hs
              exact fun h2 => hs h2.2)
          have HH2 := Aside0.mk (HH.out.below (below_drew (Below.refl _ _)))
          clear hk hs HM HH
          refine start_ (n := 24) (S := fun w' => w'.cell? (ad.add (p * 4)) = some (.string (rd_T29 l (p : Int)).f0) ∧ w'.cell? (ad.add (q * 4)) = some (.string (rd_T29 l (q : Int)).f0) ∧ w'.cell? ⟨(ad.add (p * 4)).block, (ad.add (p * 4)).off + 1, none⟩ = some (.int .i64 (rd_T29 l (p : Int)).f1) ∧ w'.cell? ⟨(ad.add (q * 4)).block, (ad.add (q * 4)).off + 1, none⟩ = some (.int .i64 (rd_T29 l (q : Int)).f1)) (ds := []) #[false, false, false, false, false, false, false, false, false, false, false, false, false, false, false, false, false, false, false, false, false, false, false, false] (by kernel_rfl) rfl rfl ⟨hp0, hx0, hp1, hx1⟩ (fun hHeld => ?_)
          refine pure_ (i := 0) (N := some 47) (v := ?_) (a' := ?_) #[true, false, false, false, false, false, false, false, false, false, false, false, false, false, false, false, false, false, false, false, false, false, false, false] rfl rfl (by kernel_rfl) (fun _ _ _ h => h) (Or.inl ⟨by rfl, ?_⟩) ?_ ?_
          rotate_left
          · intro w'
            go_simp
            with_reducible rfl
          rotate_left
          · simp only [Act.put, List.setIfInBounds_toArray, List.set_cons_zero, List.set_cons_succ, i64_w, i32_w]
            rfl
          refine pure_ (i := 1) (N := some 48) (v := ?_) (a' := ?_) #[true, true, false, false, false, false, false, false, false, false, false, false, false, false, false, false, false, false, false, false, false, false, false, false] rfl rfl (by kernel_rfl) (fun _ _ _ h => h) (Or.inl ⟨by rfl, ?_⟩) ?_ ?_
          rotate_left
          · intro w'
            go_simp
            with_reducible rfl
          rotate_left
          · simp only [Act.put, List.setIfInBounds_toArray, List.set_cons_zero, List.set_cons_succ, i64_w, i32_w]
            rfl
          refine pure_ (i := 2) (N := some 49) (v := ?_) (a' := ?_) #[true, true, true, false, false, false, false, false, false, false, false, false, false, false, false, false, false, false, false, false, false, false, false, false] rfl rfl (by kernel_rfl) (fun _ _ _ h => h) (Or.inl ⟨by rfl, ?_⟩) ?_ ?_
          rotate_left
          · intro w'
            go_simp
            with_reducible rfl
          rotate_left
          · simp only [Act.put, List.setIfInBounds_toArray, List.set_cons_zero, List.set_cons_succ, i64_w, i32_w]
            rfl
          refine pure_ (i := 3) (N := some 50) (v := ?_) (a' := ?_) #[true, true, true, true, false, false, false, false, false, false, false, false, false, false, false, false, false, false, false, false, false, false, false, false] rfl rfl (by kernel_rfl) (fun _ _ _ h => h) (Or.inl ⟨by rfl, ?_⟩) ?_ ?_
          rotate_left
          · intro w'
            go_simp
            with_reducible rfl
          rotate_left
          · simp only [Act.put, List.setIfInBounds_toArray, List.set_cons_zero, List.set_cons_succ, i64_w, i32_w]
            rfl
          refine pure_ (i := 5) (N := some 52) (v := ?_) (a' := ?_) #[true, true, true, true, false, true, false, false, false, false, false, false, false, false, false, false, false, false, false, false, false, false, false, false] rfl rfl (by kernel_rfl) (fun _ _ _ h => h) (Or.inl ⟨by rfl, ?_⟩) ?_ ?_
          rotate_left
          · intro w'
            go_simp
            with_reducible rfl
          rotate_left
          · simp only [Act.put, List.setIfInBounds_toArray, List.set_cons_zero, List.set_cons_succ, i64_w, i32_w]
            rfl
          refine pure_ (i := 6) (N := some 53) (v := ?_) (a' := ?_) #[true, true, true, true, false, true, true, false, false, false, false, false, false, false, false, false, false, false, false, false, false, false, false, false] rfl rfl (by kernel_rfl) (fun _ _ _ h => h) (Or.inl ⟨by rfl, ?_⟩) ?_ ?_
          rotate_left
          · intro w'
            go_simp
            with_reducible rfl
          rotate_left
          · simp only [Act.put, List.setIfInBounds_toArray, List.set_cons_zero, List.set_cons_succ, i64_w, i32_w]
            rfl
          refine pure_ (i := 7) (N := some 54) (v := ?_) (a' := ?_) #[true, true, true, true, false, true, true, true, false, false, false, false, false, false, false, false, false, false, false, false, false, false, false, false] rfl rfl (by kernel_rfl) (fun _ _ _ h => h) (Or.inl ⟨by rfl, ?_⟩) ?_ ?_
          rotate_left
          · intro w'
            go_simp
            with_reducible rfl
          rotate_left
          · simp only [Act.put, List.setIfInBounds_toArray, List.set_cons_zero, List.set_cons_succ, i64_w, i32_w]
            rfl
          refine pure_ (i := 8) (N := some 55) (v := ?_) (a' := ?_) #[true, true, true, true, false, true, true, true, true, false, false, false, false, false, false, false, false, false, false, false, false, false, false, false] rfl rfl (by kernel_rfl) (fun _ _ _ h => h) (Or.inl ⟨by rfl, ?_⟩) ?_ ?_
          rotate_left
          · intro w'
            go_simp
            with_reducible rfl
          rotate_left
          · simp only [Act.put, List.setIfInBounds_toArray, List.set_cons_zero, List.set_cons_succ, i64_w, i32_w]
            rfl
          refine take_ (i := 4) (N := some 51) (v := ?_) (a' := ?_) #[true, true, true, true, true, true, true, true, true, false, false, false, false, false, false, false, false, false, false, false, false, false, false, false] rfl rfl (by kernel_rfl) (fun _ _ _ h => h) (Or.inl ⟨by rfl, ?_⟩) hHeld ?_ ?_
          rotate_left
          · rintro w' ⟨s0, s1, s2, s3⟩
            go_simp
            with_reducible rfl
          rotate_left
          · simp only [Act.put, List.setIfInBounds_toArray, List.set_cons_zero, List.set_cons_succ, i64_w, i32_w]
            rfl
          refine take_ (i := 9) (N := some 56) (v := ?_) (a' := ?_) #[true, true, true, true, true, true, true, true, true, true, false, false, false, false, false, false, false, false, false, false, false, false, false, false] rfl rfl (by kernel_rfl) (fun _ _ _ h => h) (Or.inl ⟨by rfl, ?_⟩) hHeld ?_ ?_
          rotate_left
          · rintro w' ⟨s0, s1, s2, s3⟩
            go_simp
            with_reducible rfl
          rotate_left
          · simp only [Act.put, List.setIfInBounds_toArray, List.set_cons_zero, List.set_cons_succ, i64_w, i32_w]
            rfl
          refine pure_ (i := 10) (N := some 57) (v := ?_) (a' := ?_) #[true, true, true, true, true, true, true, true, true, true, true, false, false, false, false, false, false, false, false, false, false, false, false, false] rfl rfl (by kernel_rfl) (fun _ _ _ h => h) (Or.inl ⟨by rfl, ?_⟩) ?_ ?_
          rotate_left
          · intro w'
            go_simp
            with_reducible rfl
          rotate_left
          · simp only [Act.put, List.setIfInBounds_toArray, List.set_cons_zero, List.set_cons_succ, i64_w, i32_w]
            rfl
          refine pure_ (i := 11) (N := some 58) (v := ?_) (a' := ?_) #[true, true, true, true, true, true, true, true, true, true, true, true, false, false, false, false, false, false, false, false, false, false, false, false] rfl rfl (by kernel_rfl) (fun _ _ _ h => h) (Or.inl ⟨by rfl, ?_⟩) ?_ ?_
          rotate_left
          · intro w'
            go_simp
            with_reducible rfl
          rotate_left
          · simp only [Act.put, List.setIfInBounds_toArray, List.set_cons_zero, List.set_cons_succ, i64_w, i32_w]
            rfl
          refine pure_ (i := 12) (N := some 59) (v := ?_) (a' := ?_) #[true, true, true, true, true, true, true, true, true, true, true, true, true, false, false, false, false, false, false, false, false, false, false, false] rfl rfl (by kernel_rfl) (fun _ _ _ h => h) (Or.inl ⟨by rfl, ?_⟩) ?_ ?_
          rotate_left
          · intro w'
            go_simp
            with_reducible rfl
          rotate_left
          · simp only [Act.put, List.setIfInBounds_toArray, List.set_cons_zero, List.set_cons_succ, i64_w, i32_w]
            rfl
          refine pure_ (i := 13) (N := some 60) (v := ?_) (a' := ?_) #[true, true, true, true, true, true, true, true, true, true, true, true, true, true, false, false, false, false, false, false, false, false, false, false] rfl rfl (by kernel_rfl) (fun _ _ _ h => h) (Or.inl ⟨by rfl, ?_⟩) ?_ ?_
          rotate_left
          · intro w'
            go_simp
            with_reducible rfl
          rotate_left
          · simp only [Act.put, List.setIfInBounds_toArray, List.set_cons_zero, List.set_cons_succ, i64_w, i32_w]
            rfl
          refine pure_ (i := 14) (N := some 61) (v := ?_) (a' := ?_) #[true, true, true, true, true, true, true, true, true, true, true, true, true, true, true, false, false, false, false, false, false, false, false, false] rfl rfl (by kernel_rfl) (fun _ _ _ h => h) (Or.inl ⟨by rfl, ?_⟩) ?_ ?_
          rotate_left
          · intro w'
            go_simp
            with_reducible rfl
          rotate_left
          · simp only [Act.put, List.setIfInBounds_toArray, List.set_cons_zero, List.set_cons_succ, i64_w, i32_w]
            rfl
          refine pure_ (i := 15) (N := some 62) (v := ?_) (a' := ?_) #[true, true, true, true, true, true, true, true, true, true, true, true, true, true, true, true, false, false, false, false, false, false, false, false] rfl rfl (by kernel_rfl) (fun _ _ _ h => h) (Or.inl ⟨by rfl, ?_⟩) ?_ ?_
          rotate_left
          · intro w'
            go_simp
            with_reducible rfl
          rotate_left
          · simp only [Act.put, List.setIfInBounds_toArray, List.set_cons_zero, List.set_cons_succ, i64_w, i32_w]
            rfl
          refine pure_ (i := 17) (N := some 64) (v := ?_) (a' := ?_) #[true, true, true, true, true, true, true, true, true, true, true, true, true, true, true, true, false, true, false, false, false, false, false, false] rfl rfl (by kernel_rfl) (fun _ _ _ h => h) (Or.inl ⟨by rfl, ?_⟩) ?_ ?_
          rotate_left
          · intro w'
            go_simp
            with_reducible rfl
          rotate_left
          · simp only [Act.put, List.setIfInBounds_toArray, List.set_cons_zero, List.set_cons_succ, i64_w, i32_w]
            rfl
          refine pure_ (i := 18) (N := some 65) (v := ?_) (a' := ?_) #[true, true, true, true, true, true, true, true, true, true, true, true, true, true, true, true, false, true, true, false, false, false, false, false] rfl rfl (by kernel_rfl) (fun _ _ _ h => h) (Or.inl ⟨by rfl, ?_⟩) ?_ ?_
          rotate_left
          · intro w'
            go_simp
            with_reducible rfl
          rotate_left
          · simp only [Act.put, List.setIfInBounds_toArray, List.set_cons_zero, List.set_cons_succ, i64_w, i32_w]
            rfl
          refine pure_ (i := 19) (N := some 66) (v := ?_) (a' := ?_) #[true, true, true, true, true, true, true, true, true, true, true, true, true, true, true, true, false, true, true, true, false, false, false, false] rfl rfl (by kernel_rfl) (fun _ _ _ h => h) (Or.inl ⟨by rfl, ?_⟩) ?_ ?_
          rotate_left
          · intro w'
            go_simp
            with_reducible rfl
          rotate_left
          · simp only [Act.put, List.setIfInBounds_toArray, List.set_cons_zero, List.set_cons_succ, i64_w, i32_w]
            rfl
          refine pure_ (i := 20) (N := some 67) (v := ?_) (a' := ?_) #[true, true, true, true, true, true, true, true, true, true, true, true, true, true, true, true, false, true, true, true, true, false, false, false] rfl rfl (by kernel_rfl) (fun _ _ _ h => h) (Or.inl ⟨by rfl, ?_⟩) ?_ ?_
          rotate_left
          · intro w'
            go_simp
            with_reducible rfl
          rotate_left
          · simp only [Act.put, List.setIfInBounds_toArray, List.set_cons_zero, List.set_cons_succ, i64_w, i32_w]
            rfl
          refine take_ (i := 16) (N := some 63) (v := ?_) (a' := ?_) #[true, true, true, true, true, true, true, true, true, true, true, true, true, true, true, true, true, true, true, true, true, false, false, false] rfl rfl (by kernel_rfl) (fun _ _ _ h => h) (Or.inl ⟨by rfl, ?_⟩) hHeld ?_ ?_
          rotate_left
          · rintro w' ⟨s0, s1, s2, s3⟩
            go_simp
            with_reducible rfl
          rotate_left
          · simp only [Act.put, List.setIfInBounds_toArray, List.set_cons_zero, List.set_cons_succ, i64_w, i32_w]
            rfl
          refine take_ (i := 21) (N := some 68) (v := ?_) (a' := ?_) #[true, true, true, true, true, true, true, true, true, true, true, true, true, true, true, true, true, true, true, true, true, true, false, false] rfl rfl (by kernel_rfl) (fun _ _ _ h => h) (Or.inl ⟨by rfl, ?_⟩) hHeld ?_ ?_
          rotate_left
          · rintro w' ⟨s0, s1, s2, s3⟩
            go_simp
            with_reducible rfl
          rotate_left
          · simp only [Act.put, List.setIfInBounds_toArray, List.set_cons_zero, List.set_cons_succ, i64_w, i32_w]
            rfl
          refine pure_ (i := 22) (N := some 69) (v := ?_) (a' := ?_) #[true, true, true, true, true, true, true, true, true, true, true, true, true, true, true, true, true, true, true, true, true, true, true, false] rfl rfl (by kernel_rfl) (fun _ _ _ h => h) (Or.inl ⟨by rfl, ?_⟩) ?_ ?_
          rotate_left
          · intro w'
            go_simp
            with_reducible rfl
          rotate_left
          · simp only [Act.put, List.setIfInBounds_toArray, List.set_cons_zero, List.set_cons_succ, i64_w, i32_w]
            rfl
          refine pure_ (i := 23) (N := some 70) (v := ?_) (a' := ?_) #[true, true, true, true, true, true, true, true, true, true, true, true, true, true, true, true, true, true, true, true, true, true, true, true] rfl rfl (by kernel_rfl) (fun _ _ _ h => h) (Or.inl ⟨by rfl, ?_⟩) ?_ ?_
          rotate_left
          · intro w'
            go_simp
            with_reducible rfl
          rotate_left
          · simp only [Act.put, List.setIfInBounds_toArray, List.set_cons_zero, List.set_cons_succ, i64_w, i32_w]
            rfl
          refine done_ (by kernel_rfl) ?_

          go_wp2
          go_roundg k2
          case measure => have := HP.out; omega
          case rel => exact ⟨p + 1, by have h_ := HP.out; have h2_ := HQ.out; have h3_ := HL.out; simp; unfold wrap64; omega, ⟨by have := HP.out; omega⟩, HH2, HM2⟩
        have hkb : ((rd_T29 l (p : Int)).f0.toList == (rd_T29 l (q : Int)).f0.toList) = false := beq_eq_false_iff_ne.mpr hk
        have HM2 := Aside0.mk (show ∀ j, j < p + 1 → ¬ KS (l.getD j z29) (l.getD q z29) from fun j hj => by
          rcases Nat.lt_or_ge j p with h1 | h1
          · exact HM.out j h1
          · obtain rfl : j = p := by omega
            rw [hrd, hrd, toL, toL] at hk
            exact fun h2 => hk h2.1)
        have HH2 := Aside0.mk (HH.out.below (below_drew (Below.refl _ _)))
        clear hk HM HH
        refine start_ (n := 24) (S := fun w' => w'.cell? (ad.add (p * 4)) = some (.string (rd_T29 l (p : Int)).f0) ∧ w'.cell? (ad.add (q * 4)) = some (.string (rd_T29 l (q : Int)).f0)) (ds := []) #[false, false, false, false, false, false, false, false, false, false, false, false, false, false, false, false, false, false, false, false, false, false, false, false] (by kernel_rfl) rfl rfl ⟨hp0, hx0⟩ (fun hHeld => ?_)
        refine pure_ (i := 0) (N := some 47) (v := ?_) (a' := ?_) #[true, false, false, false, false, false, false, false, false, false, false, false, false, false, false, false, false, false, false, false, false, false, false, false] rfl rfl (by kernel_rfl) (fun _ _ _ h => h) (Or.inl ⟨by rfl, ?_⟩) ?_ ?_
        rotate_left
        · intro w'
          go_simp
          with_reducible rfl
        rotate_left
        · simp only [Act.put, List.setIfInBounds_toArray, List.set_cons_zero, List.set_cons_succ, i64_w, i32_w]
          rfl
        refine pure_ (i := 1) (N := some 48) (v := ?_) (a' := ?_) #[true, true, false, false, false, false, false, false, false, false, false, false, false, false, false, false, false, false, false, false, false, false, false, false] rfl rfl (by kernel_rfl) (fun _ _ _ h => h) (Or.inl ⟨by rfl, ?_⟩) ?_ ?_
        rotate_left
        · intro w'
          go_simp
          with_reducible rfl
        rotate_left
        · simp only [Act.put, List.setIfInBounds_toArray, List.set_cons_zero, List.set_cons_succ, i64_w, i32_w]
          rfl
        refine pure_ (i := 2) (N := some 49) (v := ?_) (a' := ?_) #[true, true, true, false, false, false, false, false, false, false, false, false, false, false, false, false, false, false, false, false, false, false, false, false] rfl rfl (by kernel_rfl) (fun _ _ _ h => h) (Or.inl ⟨by rfl, ?_⟩) ?_ ?_
        rotate_left
        · intro w'
          go_simp
          with_reducible rfl
        rotate_left
        · simp only [Act.put, List.setIfInBounds_toArray, List.set_cons_zero, List.set_cons_succ, i64_w, i32_w]
          rfl
        refine pure_ (i := 3) (N := some 50) (v := ?_) (a' := ?_) #[true, true, true, true, false, false, false, false, false, false, false, false, false, false, false, false, false, false, false, false, false, false, false, false] rfl rfl (by kernel_rfl) (fun _ _ _ h => h) (Or.inl ⟨by rfl, ?_⟩) ?_ ?_
        rotate_left
        · intro w'
          go_simp
          with_reducible rfl
        rotate_left
        · simp only [Act.put, List.setIfInBounds_toArray, List.set_cons_zero, List.set_cons_succ, i64_w, i32_w]
          rfl
        refine pure_ (i := 5) (N := some 52) (v := ?_) (a' := ?_) #[true, true, true, true, false, true, false, false, false, false, false, false, false, false, false, false, false, false, false, false, false, false, false, false] rfl rfl (by kernel_rfl) (fun _ _ _ h => h) (Or.inl ⟨by rfl, ?_⟩) ?_ ?_
        rotate_left
        · intro w'
          go_simp
          with_reducible rfl
        rotate_left
        · simp only [Act.put, List.setIfInBounds_toArray, List.set_cons_zero, List.set_cons_succ, i64_w, i32_w]
          rfl
        refine pure_ (i := 6) (N := some 53) (v := ?_) (a' := ?_) #[true, true, true, true, false, true, true, false, false, false, false, false, false, false, false, false, false, false, false, false, false, false, false, false] rfl rfl (by kernel_rfl) (fun _ _ _ h => h) (Or.inl ⟨by rfl, ?_⟩) ?_ ?_
        rotate_left
        · intro w'
          go_simp
          with_reducible rfl
        rotate_left
        · simp only [Act.put, List.setIfInBounds_toArray, List.set_cons_zero, List.set_cons_succ, i64_w, i32_w]
          rfl
        refine pure_ (i := 7) (N := some 54) (v := ?_) (a' := ?_) #[true, true, true, true, false, true, true, true, false, false, false, false, false, false, false, false, false, false, false, false, false, false, false, false] rfl rfl (by kernel_rfl) (fun _ _ _ h => h) (Or.inl ⟨by rfl, ?_⟩) ?_ ?_
        rotate_left
        · intro w'
          go_simp
          with_reducible rfl
        rotate_left
        · simp only [Act.put, List.setIfInBounds_toArray, List.set_cons_zero, List.set_cons_succ, i64_w, i32_w]
          rfl
        refine pure_ (i := 8) (N := some 55) (v := ?_) (a' := ?_) #[true, true, true, true, false, true, true, true, true, false, false, false, false, false, false, false, false, false, false, false, false, false, false, false] rfl rfl (by kernel_rfl) (fun _ _ _ h => h) (Or.inl ⟨by rfl, ?_⟩) ?_ ?_
        rotate_left
        · intro w'
          go_simp
          with_reducible rfl
        rotate_left
        · simp only [Act.put, List.setIfInBounds_toArray, List.set_cons_zero, List.set_cons_succ, i64_w, i32_w]
          rfl
        refine take_ (i := 4) (N := some 51) (v := ?_) (a' := ?_) #[true, true, true, true, true, true, true, true, true, false, false, false, false, false, false, false, false, false, false, false, false, false, false, false] rfl rfl (by kernel_rfl) (fun _ _ _ h => h) (Or.inl ⟨by rfl, ?_⟩) hHeld ?_ ?_
        rotate_left
        · rintro w' ⟨s0, s1⟩
          go_simp
          with_reducible rfl
        rotate_left
        · simp only [Act.put, List.setIfInBounds_toArray, List.set_cons_zero, List.set_cons_succ, i64_w, i32_w]
          rfl
        refine take_ (i := 9) (N := some 56) (v := ?_) (a' := ?_) #[true, true, true, true, true, true, true, true, true, true, false, false, false, false, false, false, false, false, false, false, false, false, false, false] rfl rfl (by kernel_rfl) (fun _ _ _ h => h) (Or.inl ⟨by rfl, ?_⟩) hHeld ?_ ?_
        rotate_left
        · rintro w' ⟨s0, s1⟩
          go_simp
          with_reducible rfl
        rotate_left
        · simp only [Act.put, List.setIfInBounds_toArray, List.set_cons_zero, List.set_cons_succ, i64_w, i32_w]
          rfl
        refine pure_ (i := 10) (N := some 57) (v := ?_) (a' := ?_) #[true, true, true, true, true, true, true, true, true, true, true, false, false, false, false, false, false, false, false, false, false, false, false, false] rfl rfl (by kernel_rfl) (fun _ _ _ h => h) (Or.inl ⟨by rfl, ?_⟩) ?_ ?_
        rotate_left
        · intro w'
          go_simp
          with_reducible rfl
        rotate_left
        · simp only [Act.put, List.setIfInBounds_toArray, List.set_cons_zero, List.set_cons_succ, i64_w, i32_w]
          rfl
        refine pure_ (i := 11) (N := some 58) (v := ?_) (a' := ?_) #[true, true, true, true, true, true, true, true, true, true, true, true, false, false, false, false, false, false, false, false, false, false, false, false] rfl rfl (by kernel_rfl) (fun _ _ _ h => h) (Or.inl ⟨by rfl, ?_⟩) ?_ ?_
        rotate_left
        · intro w'
          go_simp
          with_reducible rfl
        rotate_left
        · simp only [Act.put, List.setIfInBounds_toArray, List.set_cons_zero, List.set_cons_succ, i64_w, i32_w]
          rfl
        refine pure_ (i := 12) (N := some 59) (v := undef) (a' := ?_) #[true, true, true, true, true, true, true, true, true, true, true, true, true, false, false, false, false, false, false, false, false, false, false, false] rfl rfl (by kernel_rfl) (fun _ _ _ h => h) (Or.inr ⟨by rfl, rfl⟩) ?_ ?_
        rotate_left
        · simp only [Act.put, List.setIfInBounds_toArray, List.set_cons_zero, List.set_cons_succ, i64_w, i32_w]
          rfl
        refine pure_ (i := 13) (N := some 60) (v := undef) (a' := ?_) #[true, true, true, true, true, true, true, true, true, true, true, true, true, true, false, false, false, false, false, false, false, false, false, false] rfl rfl (by kernel_rfl) (fun _ _ _ h => h) (Or.inr ⟨by rfl, rfl⟩) ?_ ?_
        rotate_left
        · simp only [Act.put, List.setIfInBounds_toArray, List.set_cons_zero, List.set_cons_succ, i64_w, i32_w]
          rfl
        refine pure_ (i := 14) (N := some 61) (v := undef) (a' := ?_) #[true, true, true, true, true, true, true, true, true, true, true, true, true, true, true, false, false, false, false, false, false, false, false, false] rfl rfl (by kernel_rfl) (fun _ _ _ h => h) (Or.inr ⟨by rfl, rfl⟩) ?_ ?_
        rotate_left
        · simp only [Act.put, List.setIfInBounds_toArray, List.set_cons_zero, List.set_cons_succ, i64_w, i32_w]
          rfl
        refine pure_ (i := 15) (N := some 62) (v := undef) (a' := ?_) #[true, true, true, true, true, true, true, true, true, true, true, true, true, true, true, true, false, false, false, false, false, false, false, false] rfl rfl (by kernel_rfl) (fun _ _ _ h => h) (Or.inr ⟨by rfl, rfl⟩) ?_ ?_
        rotate_left
        · simp only [Act.put, List.setIfInBounds_toArray, List.set_cons_zero, List.set_cons_succ, i64_w, i32_w]
          rfl
        refine pure_ (i := 16) (N := some 63) (v := undef) (a' := ?_) #[true, true, true, true, true, true, true, true, true, true, true, true, true, true, true, true, true, false, false, false, false, false, false, false] rfl rfl (by kernel_rfl) (fun _ _ _ h => h) (Or.inr ⟨by rfl, rfl⟩) ?_ ?_
        rotate_left
        · simp only [Act.put, List.setIfInBounds_toArray, List.set_cons_zero, List.set_cons_succ, i64_w, i32_w]
          rfl
        refine pure_ (i := 17) (N := some 64) (v := undef) (a' := ?_) #[true, true, true, true, true, true, true, true, true, true, true, true, true, true, true, true, true, true, false, false, false, false, false, false] rfl rfl (by kernel_rfl) (fun _ _ _ h => h) (Or.inr ⟨by rfl, rfl⟩) ?_ ?_
        rotate_left
        · simp only [Act.put, List.setIfInBounds_toArray, List.set_cons_zero, List.set_cons_succ, i64_w, i32_w]
          rfl
        refine pure_ (i := 18) (N := some 65) (v := undef) (a' := ?_) #[true, true, true, true, true, true, true, true, true, true, true, true, true, true, true, true, true, true, true, false, false, false, false, false] rfl rfl (by kernel_rfl) (fun _ _ _ h => h) (Or.inr ⟨by rfl, rfl⟩) ?_ ?_
        rotate_left
        · simp only [Act.put, List.setIfInBounds_toArray, List.set_cons_zero, List.set_cons_succ, i64_w, i32_w]
          rfl
        refine pure_ (i := 19) (N := some 66) (v := undef) (a' := ?_) #[true, true, true, true, true, true, true, true, true, true, true, true, true, true, true, true, true, true, true, true, false, false, false, false] rfl rfl (by kernel_rfl) (fun _ _ _ h => h) (Or.inr ⟨by rfl, rfl⟩) ?_ ?_
        rotate_left
        · simp only [Act.put, List.setIfInBounds_toArray, List.set_cons_zero, List.set_cons_succ, i64_w, i32_w]
          rfl
        refine pure_ (i := 20) (N := some 67) (v := undef) (a' := ?_) #[true, true, true, true, true, true, true, true, true, true, true, true, true, true, true, true, true, true, true, true, true, false, false, false] rfl rfl (by kernel_rfl) (fun _ _ _ h => h) (Or.inr ⟨by rfl, rfl⟩) ?_ ?_
        rotate_left
        · simp only [Act.put, List.setIfInBounds_toArray, List.set_cons_zero, List.set_cons_succ, i64_w, i32_w]
          rfl
        refine pure_ (i := 21) (N := some 68) (v := undef) (a' := ?_) #[true, true, true, true, true, true, true, true, true, true, true, true, true, true, true, true, true, true, true, true, true, true, false, false] rfl rfl (by kernel_rfl) (fun _ _ _ h => h) (Or.inr ⟨by rfl, rfl⟩) ?_ ?_
        rotate_left
        · simp only [Act.put, List.setIfInBounds_toArray, List.set_cons_zero, List.set_cons_succ, i64_w, i32_w]
          rfl
        refine pure_ (i := 22) (N := some 69) (v := undef) (a' := ?_) #[true, true, true, true, true, true, true, true, true, true, true, true, true, true, true, true, true, true, true, true, true, true, true, false] rfl rfl (by kernel_rfl) (fun _ _ _ h => h) (Or.inr ⟨by rfl, rfl⟩) ?_ ?_
        rotate_left
        · simp only [Act.put, List.setIfInBounds_toArray, List.set_cons_zero, List.set_cons_succ, i64_w, i32_w]
          rfl
        refine pure_ (i := 23) (N := some 70) (v := ?_) (a' := ?_) #[true, true, true, true, true, true, true, true, true, true, true, true, true, true, true, true, true, true, true, true, true, true, true, true] rfl rfl (by kernel_rfl) (fun _ _ _ h => h) (Or.inl ⟨by rfl, ?_⟩) ?_ ?_
        rotate_left
        · intro w'
          go_simp
          with_reducible rfl
        rotate_left
        · simp only [Act.put, List.setIfInBounds_toArray, List.set_cons_zero, List.set_cons_succ, i64_w, i32_w]
          rfl
        refine done_ (by kernel_rfl) ?_

        go_wp2
        go_roundg k2
        case measure => have := HP.out; omega
        case rel => exact ⟨p + 1, by have h_ := HP.out; have h2_ := HQ.out; have h3_ := HL.out; simp; unfold wrap64; omega, ⟨by have := HP.out; omega⟩, HH2, HM2⟩
      have hf0 : decide (p < q) = false := decide_eq_false hpq
      have hf1 : decide ((p : Int) < (q : Int)) = false := decide_eq_false (by omega)
      have HN2 := Aside0.mk (show ∀ i, i < q + 1 → ∀ j, j < i → ¬ KS (l.getD j z29) (l.getD i z29) from fun i hi j hj => by
        rcases Nat.lt_or_ge i q with h1 | h1
        · exact HN.out i h1 j hj
        · obtain rfl : i = q := by omega
          exact HM.out j (by omega))
      clear HN HM
      go_wp2
      go_roundg k1
      case measure => have := HQ.out; omega
      case rel => exact ⟨q + 1, F2, by have h_ := HQ.out; have h2_ := HL.out; simp; unfold wrap64; omega, ⟨by have := HQ.out; omega⟩, HH, HN2⟩
    have hd0 : decide (q < l.length) = false := decide_eq_false hlt
    have hd1 : decide ((q : Int) < (l.length : Int)) = false := decide_eq_false (by omega)
    have HUN := Aside0.mk (show UN l from un_of (fun i hi j hj => HN.out i (by omega) j hj))
    obtain ⟨P, hP⟩ : ∃ P, putAll [] l = P := ⟨_, rfl⟩
    rw [List.take_of_length_le (by omega), hP] at HH
    have HPl := Aside0.mk (show P.length ≤ 1000000 by have h1 := putAll_length l []; have h2 := HL.out; rw [hP, List.length_nil] at h1; omega)
    have HPe := Aside0.mk hP
    clear hP HN HQ
    go_wp2
    clear hd0 hd1 hlt
    go_loopg [10] l.length (fun kq v10 w' => ∃ (q : Nat) (G : Nat → Prop), v10 = .int .i64 (q : Int) ∧ Aside0 (kq + q = l.length) ∧ Aside0 (HpA2 w w' ga P F1 gb (putAll [] ((rot l kk).take q)) G))
    case atStart => exact ⟨0, Fb, rfl, ⟨by omega⟩, HH⟩
    clear HH
    obtain ⟨q2, G, rfl, HQ, HH⟩ := hrel
    by_cases hlt : q2 < l.length
    · obtain ⟨k1, rfl⟩ : ∃ k1, gk = k1 + 1 := ⟨gk - 1, by have := HQ.out; omega⟩
      have hd0 : decide (q2 < l.length) = true := decide_eq_true hlt
      have hd1 : decide ((q2 : Int) < (l.length : Int)) = true := decide_eq_true (by omega)
      obtain ⟨j, hj⟩ : ∃ j, (q2 + kk) % l.length = j := ⟨_, rfl⟩
      have hjl : j < l.length := by rw [← hj]; exact Nat.mod_lt _ (by omega)
      have p0 : 0 ≤ (j : Int) := by omega
      have q0 : (j : Int) < (l.length : Int) := by omega
      obtain ⟨ad, e_, hx0, hx1, hx2, hx3⟩ := at_T29 (Kd.C_below HR.out HH.out.one.low) (j : Int) p0 q0
      cases e_
      rw [Int.toNat_natCast] at hx0 hx1 hx2 hx3
      have HLn := Aside0.mk (show (putAll [] ((rot l kk).take q2)).length ≤ 1000000 by have h1 := putAll_length ((rot l kk).take q2) []; have h2 := HL.out; rw [List.length_take, rot_length l kk (by have := HKL.out; omega), List.length_nil] at h1; omega)
      have HT1 := Aside0.mk (show putE (putAll [] ((rot l kk).take q2)) (rd_T29 l (j : Int)) = putAll [] ((rot l kk).take (q2 + 1)) by rw [take_putAll (by rw [rot_length l kk (by have := HKL.out; omega)]; exact hlt), rot_get l kk q2 HKL.out hlt, hj, hrd])
      have nz : ((l.length : Int) == 0) = false := beq_eq_false_iff_ne.mpr (by omega)
      have hw0 : wrap64 ((q2 : Int) + (kk : Int)) = ((q2 + kk : Nat) : Int) := by rw [w64 (by have := HL.out; have := HKL.out; omega)]; omega
      have hw1 : (wrap64 ((q2 : Int) + (kk : Int))).tmod (l.length : Int) = (j : Int) := by rw [hw0, ← hj]; rfl
      have hw2 : (IntKind.i64.wrap ((q2 : Int) + (kk : Int))).tmod (l.length : Int) = (j : Int) := by rw [i64_w]; exact hw1
      have hw3 : wrap64 (j : Int) = (j : Int) := w64 (by have := HL.out; omega)
      clear hj hw0
      go_upto_region 18 with (go_at_call 12; go_loud (with_reducible refine (HPutA2 w _ gb _ G ga P F1 (rd_T29 l (j : Int)) HH.out.swap HLn.out).mono ?_; rintro e w5 ⟨G2, rfl, hh, hn_, hb⟩; rw [HT1.out] at hh; have H2 := Aside0.mk hh.swap; clear HH hh hn_ hb))
      clear hw1 hw2 hw3 nz hx0 hx1 hx2 hx3
      go_wp2
      go_roundg k1
      case measure => have := HQ.out; omega
      case rel => exact ⟨q2 + 1, G2, by have h_ := HQ.out; have h2_ := HL.out; simp; unfold wrap64; omega, ⟨by have := HQ.out; omega⟩, H2⟩
    have hd0 : decide (q2 < l.length) = false := decide_eq_false hlt
    have hd1 : decide ((q2 : Int) < (l.length : Int)) = false := decide_eq_false (by omega)
    rw [List.take_of_length_le (by rw [rot_length l kk (by have := HKL.out; omega)]; omega), orders_eq HUN.out kk, HPe.out] at HH
    have HPW := Aside0.mk HH.out.one.good.1
    clear HUN HPe HQ
    go_wp2_with (go_at_call 17; with_reducible refine (HAllC w _ ga P F1 HH.out.one HPl.out).mono ?_; rintro e w9 ⟨A9, c9, rfl, hr, hb⟩; have n0_ := Aside0.mk (HH.out.below hb); clear HH hb; have HH := n0_; clear n0_; have RX := Aside0.mk hr; clear hr)
    clear hd0 hd1 hlt
    go_loopg [12] P.length (fun kq v12 w' => ∃ (q : Nat) (x : Int), v12 = .int .i64 x ∧ Aside0 (x = (q : Int) + 1) ∧ Aside0 (kq + q = P.length) ∧ Aside0 (HpA2 w w' ga P F1 gb P G) ∧ Aside0 (RdE w' A9 c9 P))
    case atStart => exact ⟨0, 1, rfl, ⟨rfl⟩, ⟨by omega⟩, HH, RX⟩
    clear HH RX
    obtain ⟨q, x, rfl, HX, HQ, HH, RX⟩ := hrel
    by_cases hlt : x < (P.length : Int)
    · have hq1 : q + 1 < P.length := by have := HX.out; omega
      obtain ⟨k1, rfl⟩ : ∃ k1, gk = k1 + 1 := ⟨gk - 1, by have := HQ.out; omega⟩
      have hd1 : decide (x < (P.length : Int)) = true := decide_eq_true hlt
      obtain ⟨ji, hji⟩ : ∃ ji : Int, wrap64 (x - 1) = ji := ⟨_, rfl⟩
      have hjiw : IntKind.i64.wrap (x - 1) = ji := (i64_w _).trans hji
      have HJ := Aside0.mk (show ji = (q : Int) by rw [← hji, w64 (by have := HX.out; have := HPl.out; omega)]; have := HX.out; omega)
      have HLs := Aside0.mk (show ravelinref6_Less.f (rd_T29 P ji).f0 (rd_T29 P ji).f1 (rd_T29 P ji).f2 (rd_T29 P ji).f3 (rd_T29 P x).f0 (rd_T29 P x).f1 (rd_T29 P x).f2 (rd_T29 P x).f3 = some true by
        rw [rless_ev, HJ.out, HX.out, show (q : Int) + 1 = ((q + 1 : Nat) : Int) by omega, hrd, hrd, less_at HPW.out hq1])
      have p0 : 0 ≤ ji := by have := HJ.out; clear hji hjiw; omega
      have q0 : ji < (P.length : Int) := by have := HJ.out; clear hji hjiw; omega
      have r0 : 0 ≤ x := by have := HX.out; clear hji hjiw; omega
      have HXN := Aside0.mk (show wrap64 (x + 1) = ((q + 1 : Nat) : Int) + 1 by rw [w64 (by have := HX.out; have := HPl.out; clear hji hjiw; omega)]; have := HX.out; clear hji hjiw; omega)
      obtain ⟨ad, e1_, hx0, hx1, hx2, hx3⟩ := at_T29 RX.out.rd ji p0 q0
      obtain ⟨ad2, e2_, hy0, hy1, hy2, hy3⟩ := at_T29 RX.out.rd x r0 hlt
      cases e1_
      obtain rfl := Option.some.inj e2_
      go_upto_region 24 with (fail)
      refine start_ (n := 11) (S := fun w' => w'.cell? (ad.add (ji.toNat * 4)) = some (.string (rd_T29 P ji).f0) ∧ w'.cell? ⟨(ad.add (ji.toNat * 4)).block, (ad.add (ji.toNat * 4)).off + 1, none⟩ = some (.int .i64 (rd_T29 P ji).f1) ∧ w'.cell? ⟨(ad.add (ji.toNat * 4)).block, (ad.add (ji.toNat * 4)).off + 2, none⟩ = some (.bool (rd_T29 P ji).f2) ∧ w'.cell? ⟨(ad.add (ji.toNat * 4)).block, (ad.add (ji.toNat * 4)).off + 3, none⟩ = some (.string (rd_T29 P ji).f3) ∧ w'.cell? (ad.add (x.toNat * 4)) = some (.string (rd_T29 P x).f0) ∧ w'.cell? ⟨(ad.add (x.toNat * 4)).block, (ad.add (x.toNat * 4)).off + 1, none⟩ = some (.int .i64 (rd_T29 P x).f1) ∧ w'.cell? ⟨(ad.add (x.toNat * 4)).block, (ad.add (x.toNat * 4)).off + 2, none⟩ = some (.bool (rd_T29 P x).f2) ∧ w'.cell? ⟨(ad.add (x.toNat * 4)).block, (ad.add (x.toNat * 4)).off + 3, none⟩ = some (.string (rd_T29 P x).f3)) (ds := []) #[false, false, false, false, false, false, false, false, false, false, false] (by kernel_rfl) rfl rfl ⟨hx0, hx1, hx2, hx3, hy0, hy1, hy2, hy3⟩ (fun hHeld => ?_)
      refine pure_ (i := 0) (N := some 96) (v := ?_) (a' := ?_) #[true, false, false, false, false, false, false, false, false, false, false] rfl rfl (by kernel_rfl) (fun _ _ _ h => h) (Or.inl ⟨by rfl, ?_⟩) ?_ ?_
      rotate_left
      · intro w'
        go_simp
        with_reducible rfl
      rotate_left
      · simp only [Act.put, List.setIfInBounds_toArray, List.set_cons_zero, List.set_cons_succ, i64_w, i32_w]
        rfl
      refine pure_ (i := 1) (N := some 97) (v := ?_) (a' := ?_) #[true, true, false, false, false, false, false, false, false, false, false] rfl rfl (by kernel_rfl) (fun _ _ _ h => h) (Or.inl ⟨by rfl, ?_⟩) ?_ ?_
      rotate_left
      · intro w'
        go_simp
        with_reducible rfl
      rotate_left
      · simp only [Act.put, List.setIfInBounds_toArray, List.set_cons_zero, List.set_cons_succ, i64_w, i32_w]
        rfl
      refine pure_ (i := 2) (N := some 98) (v := ?_) (a' := ?_) #[true, true, true, false, false, false, false, false, false, false, false] rfl rfl (by kernel_rfl) (fun _ _ _ h => h) (Or.inl ⟨by rfl, ?_⟩) ?_ ?_
      rotate_left
      · intro w'
        go_simp
        with_reducible rfl
      rotate_left
      · simp only [Act.put, List.setIfInBounds_toArray, List.set_cons_zero, List.set_cons_succ, i64_w, i32_w]
        rfl
      refine pure_ (i := 3) (N := some 99) (v := ?_) (a' := ?_) #[true, true, true, true, false, false, false, false, false, false, false] rfl rfl (by kernel_rfl) (fun _ _ _ h => h) (Or.inl ⟨by rfl, ?_⟩) ?_ ?_
      rotate_left
      · intro w'
        go_simp
        with_reducible rfl
      rotate_left
      · simp only [Act.put, List.setIfInBounds_toArray, List.set_cons_zero, List.set_cons_succ, i64_w, i32_w]
        rfl
      refine pure_ (i := 5) (N := some 101) (v := ?_) (a' := ?_) #[true, true, true, true, false, true, false, false, false, false, false] rfl rfl (by kernel_rfl) (fun _ _ _ h => h) (Or.inl ⟨by rfl, ?_⟩) ?_ ?_
      rotate_left
      · intro w'
        go_simp
        with_reducible rfl
      rotate_left
      · simp only [Act.put, List.setIfInBounds_toArray, List.set_cons_zero, List.set_cons_succ, i64_w, i32_w]
        rfl
      refine pure_ (i := 6) (N := some 102) (v := ?_) (a' := ?_) #[true, true, true, true, false, true, true, false, false, false, false] rfl rfl (by kernel_rfl) (fun _ _ _ h => h) (Or.inl ⟨by rfl, ?_⟩) ?_ ?_
      rotate_left
      · intro w'
        go_simp
        with_reducible rfl
      rotate_left
      · simp only [Act.put, List.setIfInBounds_toArray, List.set_cons_zero, List.set_cons_succ, i64_w, i32_w]
        rfl
      refine pure_ (i := 7) (N := some 103) (v := ?_) (a' := ?_) #[true, true, true, true, false, true, true, true, false, false, false] rfl rfl (by kernel_rfl) (fun _ _ _ h => h) (Or.inl ⟨by rfl, ?_⟩) ?_ ?_
      rotate_left
      · intro w'
        go_simp
        with_reducible rfl
      rotate_left
      · simp only [Act.put, List.setIfInBounds_toArray, List.set_cons_zero, List.set_cons_succ, i64_w, i32_w]
        rfl
      refine take_ (i := 4) (N := some 100) (v := ?_) (a' := ?_) #[true, true, true, true, true, true, true, true, false, false, false] rfl rfl (by kernel_rfl) (fun _ _ _ h => h) (Or.inl ⟨by rfl, ?_⟩) hHeld ?_ ?_
      rotate_left
      · rintro w' ⟨s0, s1, s2, s3, s4, s5, s6, s7⟩
        go_simp
        with_reducible rfl
      rotate_left
      · simp only [Act.put, List.setIfInBounds_toArray, List.set_cons_zero, List.set_cons_succ, i64_w, i32_w]
        rfl
      refine take_ (i := 8) (N := some 104) (v := ?_) (a' := ?_) #[true, true, true, true, true, true, true, true, true, false, false] rfl rfl (by kernel_rfl) (fun _ _ _ h => h) (Or.inl ⟨by rfl, ?_⟩) hHeld ?_ ?_
      rotate_left
      · rintro w' ⟨s0, s1, s2, s3, s4, s5, s6, s7⟩
        go_simp
        with_reducible rfl
      rotate_left
      · simp only [Act.put, List.setIfInBounds_toArray, List.set_cons_zero, List.set_cons_succ, i64_w, i32_w]
        rfl
      refine one_ (i := 9) (N := some 105) #[true, true, true, true, true, true, true, true, true, true, false] rfl rfl (by kernel_rfl) (by decide) (fun K hK => ?_)
      refine goes_ Try.func22 (by kernel_rfl) rfl #[.agg #[.string (rd_T29 P ji).f0, .int .i64 (rd_T29 P ji).f1, .bool (rd_T29 P ji).f2, .string (rd_T29 P ji).f3], .agg #[.string (rd_T29 P x).f0, .int .i64 (rd_T29 P x).f1, .bool (rd_T29 P x).f2, .string (rd_T29 P x).f3]] (by rfl) rfl rfl (by simp only [List.map_toArray, List.map_cons, List.map_nil]; rfl) ?_
      with_reducible refine (ravelinref6_Less.calls (rd_T29 P ji).f0 (rd_T29 P ji).f1 (rd_T29 P ji).f2 (rd_T29 P ji).f3 (rd_T29 P x).f0 (rd_T29 P x).f1 (rd_T29 P x).f2 (rd_T29 P x).f3 true _ HLs.out).mono ?_
      rintro e w10 ⟨rfl, hb⟩
      refine ⟨_, rfl, ?_⟩
      refine hK.out _ _ ⟨(pw_cell_below (below_drewB hb) hx0), (pw_cell_below (below_drewB hb) hx1), (pw_cell_below (below_drewB hb) hx2), (pw_cell_below (below_drewB hb) hx3), (pw_cell_below (below_drewB hb) hy0), (pw_cell_below (below_drewB hb) hy1), (pw_cell_below (below_drewB hb) hy2), (pw_cell_below (below_drewB hb) hy3)⟩ (fun hHeld => ?_)
      clear hK K
      refine norm_ (a' := ?_) ?_ ?_
      rotate_left
      · show Act.put _ (some 105) _ = _
        simp only [Act.put, List.setIfInBounds_toArray, List.set_cons_zero, List.set_cons_succ, i64_w, i32_w]
        rfl
      refine pure_ (i := 10) (N := some 106) (v := ?_) (a' := ?_) #[true, true, true, true, true, true, true, true, true, true, true] rfl rfl (by kernel_rfl) (fun _ _ _ h => h) (Or.inl ⟨by rfl, ?_⟩) ?_ ?_
      rotate_left
      · intro w'
        go_simp
        with_reducible rfl
      rotate_left
      · simp only [Act.put, List.setIfInBounds_toArray, List.set_cons_zero, List.set_cons_succ, i64_w, i32_w]
        rfl
      refine done_ (by kernel_rfl) ?_

      have n0_ := Aside0.mk (HH.out.below (below_drewB hb))
      have n1_ := Aside0.mk (RX.out.below (below_drewB hb))
      clear HH RX hb
      have HH := n0_
      have RX := n1_
      clear n0_ n1_
      go_wp2
      go_roundg k1
      case measure => clear hji hjiw; have := HQ.out; omega
      case rel => exact ⟨q + 1, _, rfl, ⟨HXN.out⟩, ⟨by clear hji hjiw; have := HQ.out; omega⟩, HH, RX⟩
    have hd1 : decide (x < (P.length : Int)) = false := decide_eq_false hlt
    obtain ⟨KS_, hKS⟩ := same_ev P (by have := HPl.out; omega)
    have HS := Aside0.mk (hKS KS_ (Nat.le_refl _))
    clear hKS HQ HX
    go_wp2_with (first
      | (go_at_call 17; with_reducible refine (HAllC w _ gb P G HH.out.two HPl.out).mono ?_; rintro e w11 ⟨A11, c11, rfl, hr, hb⟩; have n0_ := Aside0.mk (HH.out.below hb); have n1_ := Aside0.mk (RX.out.below hb); clear HH RX hb; have HH := n0_; have RX := n1_; clear n0_ n1_; have RC := Aside0.mk hr; clear hr)
      | (go_at_call 16; with_reducible refine (ravelinref6_Same.calls KS_ _ _ P _ _ P true _ RX.out.rd RX.out.le RC.out.rd RC.out.le HS.out).mono ?_; rintro e w12 ⟨rfl, hd⟩; have n0_ := Aside0.mk (HH.out.below hd.below); clear HH RX RC hd; have HH := n0_; clear n0_)
      | (go_at_call 21; with_reducible refine (B1 w _ ga _ _ HH.out.one).mono ?_; rintro e w13 ⟨rfl, hb⟩; have n0_ := Aside0.mk (HH.out.below hb); clear HH hb; have HH := n0_; clear n0_)
      | (go_at_call 21; with_reducible refine (B1 w _ gb _ _ HH.out.two).mono ?_; rintro e w14 ⟨rfl, hb⟩; have n0_ := Aside0.mk (HH.out.below hb); clear HH hb; have HH := n0_; clear n0_))
    go_ret
    exact ⟨rfl, HH.out.one.low⟩
end Go.Proofs.Ytdkdnfgpgedglaa.Q
