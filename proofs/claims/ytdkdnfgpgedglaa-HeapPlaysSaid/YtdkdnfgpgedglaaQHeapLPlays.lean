import Derived.Test.YtdkdnfgpgedglaaQHeapKnown
import Derived.Test.YtdkdnfgpgedglaaQHeapPl
import Derived.Test.YtdkdnfgpgedglaaQHeapOrd
import Derived.Test.YtdkdnfgpgedglaaPx5
import Derived.Test.YtdkdnfgpgedglaaPx6
import Derived.Test.YtdkdnfgpgedglaaPx3
import Derived.Test.YtdkdnfgpgedglaaPx1
namespace Go.Proofs.Ytdkdnfgpgedglaa.Q
open Go.RowKit Go.Lib Go.Proofs.Ytdkdnfgpgedglaa.P Go.Proofs.YtdkdnfgpgedglaaW.PrintWords Go.Proofs.YtdkdnfgpgedglaaW.PrintLast Go.Proofs.YtdkdnfgpgedglaaW.PrintMore
set_option linter.unusedVariables false
set_option linter.unusedSimpArgs false
attribute [local go_sem high] string_leq string_geq string_gtr
attribute [local go_sem high] eqA29
def kO : S29 := ⟨⟨#[111, 116, 104, 101, 114]⟩, 7, false, ⟨#[]⟩⟩
theorem POther (w0 w : World) (g : Nat) (L : List S29) (F : Nat → Prop) (v : Value) (M : List S29) (R : Nat → Prop) (g' : Nat) (F' : Nat → Prop) (h : Pl w0 w g L F v M R) (h' : HpA w0 w g' L F') (hd : ∀ k, F' k → ¬ F k) (hr : ∀ k, F' k → ¬ R k) (hl : L.length ≤ 1000000) :
    Calls Try.prog 12 #[.pointer (some ⟨g, 0, none⟩), .agg #[.string ⟨#[111, 116, 104, 101, 114]⟩, .int .i64 7, .bool false, .string ⟨#[]⟩]] w fun r w' => ∃ b : Bool, r = .returned (.bool b) ∧ Pl w0 w' g' L F' v M R :=
  PlOther w0 w g L F v M R g' F' kO h h' hd hr hl
theorem GetX (w0 w : World) (g : Nat) (l : List S29) (F : Nat → Prop) (key : ByteArray) (seq : Int) (x0 : ByteArray) (x1 : Int) (x2 : Bool) (x3 : ByteArray) (x4 : Bool) (h : HpA w0 w g l F) (hl : l.length ≤ 1000000) (hx : getE l key.data.toList seq = (x0, x1, x2, x3, x4)) :
    Calls Try.prog 14 #[.pointer (some ⟨g, 0, none⟩), .string key, .int .i64 seq] w fun e w' => e = .returned (.tuple #[.agg #[.string x0, .int .i64 x1, .bool x2, .string x3], .bool x4]) ∧ Below w.heap.size w w' :=
  HGetA w0 w g l F key seq _ h hl hx
theorem sum_step {L2 : List S29} (hg : Good L2) (hl : L2.length ≤ 61) {q : Nat} (hq : q < L2.length) {x : Int} (hx : x = sumE (L2.take q)) : wrap64 (wrap64 (x + ((rd_T29 L2 (q : Int)).f0.size : Int)) + ((rd_T29 L2 (q : Int)).f3.size : Int)) = sumE (L2.take (q + 1)) := by
  have h1 := sum_le (l := L2.take q) (fun e he => hg.2 e (List.mem_of_mem_take he))
  have h2 : (L2.take q).length ≤ 61 := by rw [List.length_take]; omega
  have h3 := isF_iff.1 (hg.2 L2[q] (List.getElem_mem hq))
  have e0 : rd_T29 L2 (q : Int) = L2[q] := by rw [hrd, List.getD_eq_getElem?_getD, List.getElem?_eq_getElem hq]; rfl
  have a0 : (ky L2[q]).length = L2[q].f0.size := rfl
  have a1 : (vl L2[q]).length = L2[q].f3.size := rfl
  rw [e0, List.take_succ_eq_append_getElem hq, sumE_append, ← hx, w64 (n := x + (L2[q].f0.size : Int)) (by omega), w64 (by omega)]
  have : sumE [L2[q]] = (L2[q].f0.size : Int) + (L2[q].f3.size : Int) := by rw [sumE_cons]; show szE L2[q] + 0 = _; unfold szE; omega
  rw [this]; omega
set_option maxHeartbeats 4000000 in
set_option maxRecDepth 100000 in
theorem LPlays (w : World) (A0 : Option Addr) (c0 : Nat) (l : List S29) (key : ByteArray) (seq : Int) (from_ to_ : ByteArray) (hr0 : Kd.C k29 w A0 l.length l) (hc0 : l.length ≤ c0) (hl0 : l.length ≤ 9223372036854775807) :
    Calls Try.prog 3 #[.slice A0 l.length c0, .string key, .int .i64 seq, .string from_, .string to_] w fun e w' => e = .returned (.bool true) ∧ Below w.heap.size w w' := by
  obtain ⟨K, hK⟩ := few_ev l hl0
  have HF := Aside0.mk (hK K (Nat.le_refl _))
  have HR := Aside0.mk hr0
  have HC := Aside0.mk hc0
  have HB := Aside0.mk (Below.refl w.heap.size w)
  clear hK hr0 hc0 hl0
  go_enter Try.func3, Try.ntmps3
  go_upto_region 3 with (go_at_call 8; refine (HKnown _).mono ?_; rintro e w1 ⟨rfl, hb⟩; have n0_ := Aside0.mk (below_step HB.out hb); clear HB hb; have HB := n0_; clear n0_)
  cases hf : fewB l with
  | false =>
    rw [hf] at HF
    go_wp2_with (go_at_call 9; with_reducible refine (ravelinlaw10_few.calls K _ _ l false _ (Kd.C_below HR.out HB.out) HC.out HF.out).mono ?_; rintro e w2 ⟨rfl, hd⟩; have n0_ := Aside0.mk (below_step HB.out hd.below); clear HB hd; have HB := n0_; clear n0_)
    go_ret
    exact ⟨rfl, HB.out⟩
  | true =>
    rw [hf] at HF
    have HL := Aside0.mk (show l.length ≤ 60 by unfold fewB at hf; rw [Bool.and_eq_true] at hf; exact of_decide_eq_true hf.2)
    clear hf
    by_cases hkey : key.size > 20
    · have b1 : decide (20 < (key.size : Int)) = true := decide_eq_true (by omega)
      have b2 : decide (20 < key.size) = true := decide_eq_true (by omega)
      clear hkey
      go_wp2_with (go_at_call 9; with_reducible refine (ravelinlaw10_few.calls K _ _ l true _ (Kd.C_below HR.out HB.out) HC.out HF.out).mono ?_; rintro e w2 ⟨rfl, hd⟩; have n0_ := Aside0.mk (below_step HB.out hd.below); clear HB hd; have HB := n0_; clear n0_)
      go_ret
      exact ⟨rfl, HB.out⟩
    have bkey1 : decide (20 < (key.size : Int)) = false := decide_eq_false (by omega)
    have bkey2 : decide (20 < key.size) = false := decide_eq_false (by omega)
    clear hkey
    by_cases hfrom_ : from_.size > 20
    · have b1 : decide (20 < (from_.size : Int)) = true := decide_eq_true (by omega)
      have b2 : decide (20 < from_.size) = true := decide_eq_true (by omega)
      clear hfrom_
      go_wp2_with (go_at_call 9; with_reducible refine (ravelinlaw10_few.calls K _ _ l true _ (Kd.C_below HR.out HB.out) HC.out HF.out).mono ?_; rintro e w2 ⟨rfl, hd⟩; have n0_ := Aside0.mk (below_step HB.out hd.below); clear HB hd; have HB := n0_; clear n0_)
      go_ret
      exact ⟨rfl, HB.out⟩
    have bfrom_1 : decide (20 < (from_.size : Int)) = false := decide_eq_false (by omega)
    have bfrom_2 : decide (20 < from_.size) = false := decide_eq_false (by omega)
    clear hfrom_
    by_cases hto_ : to_.size > 20
    · have b1 : decide (20 < (to_.size : Int)) = true := decide_eq_true (by omega)
      have b2 : decide (20 < to_.size) = true := decide_eq_true (by omega)
      clear hto_
      go_wp2_with (go_at_call 9; with_reducible refine (ravelinlaw10_few.calls K _ _ l true _ (Kd.C_below HR.out HB.out) HC.out HF.out).mono ?_; rintro e w2 ⟨rfl, hd⟩; have n0_ := Aside0.mk (below_step HB.out hd.below); clear HB hd; have HB := n0_; clear n0_)
      go_ret
      exact ⟨rfl, HB.out⟩
    have bto_1 : decide (20 < (to_.size : Int)) = false := decide_eq_false (by omega)
    have bto_2 : decide (20 < to_.size) = false := decide_eq_false (by omega)
    clear hto_
    go_wp2_with (first
      | (go_at_call 9; with_reducible refine (ravelinlaw10_few.calls K _ _ l true _ (Kd.C_below HR.out HB.out) HC.out HF.out).mono ?_; rintro e w2 ⟨rfl, hd⟩; have n0_ := Aside0.mk (below_step HB.out hd.below); clear HB hd; have HB := n0_; clear n0_)
      | (go_at_call 10; with_reducible refine (HNewA w _ HB.out).mono ?_; rintro e w3 ⟨g0, F0, rfl, hh, hn_, hb⟩; have H := Aside0.mk (Pl.nil hh); clear HB hh hn_ hb))
    clear bkey1 bkey2 bfrom_1 bfrom_2 bto_1 bto_2
    go_loopg [11, 12, 13] l.length (fun kq v11 v12 v13 w' => ∃ (i g : Nat) (F R : Nat → Prop), v13 = .int .i64 (i : Int) ∧ v11 = .pointer (some ⟨g, 0, none⟩) ∧ Aside0 (kq + i = l.length) ∧ Aside0 (Pl w w' g (putAll [] (l.take i)) F v12 (putAll [] (l.take i)) R))
    case atStart => exact ⟨0, g0, F0, _, rfl, rfl, ⟨by omega⟩, H⟩
    clear H
    obtain ⟨i, g, F, R, rfl, rfl, HQ, H⟩ := hrel
    by_cases hlt : i < l.length
    · obtain ⟨k1, rfl⟩ : ∃ k1, gk = k1 + 1 := ⟨gk - 1, by have := HQ.out; omega⟩
      have hd0 : decide (i < l.length) = true := decide_eq_true hlt
      have hd1 : decide ((i : Int) < (l.length : Int)) = true := decide_eq_true (by omega)
      have p0 : 0 ≤ (i : Int) := by omega
      have q0 : (i : Int) < (l.length : Int) := by omega
      obtain ⟨ad, e_, hs0, hs1, hs2, hs3⟩ := at_T29 HR.out (i : Int) p0 q0
      cases e_
      rw [Int.toNat_natCast] at hs0 hs1 hs2 hs3
      obtain ⟨L, hL⟩ : ∃ L, L = putAll [] (l.take i) := ⟨_, rfl⟩
      obtain ⟨L2, hL2⟩ : ∃ L2, putE L (rd_T29 l (i : Int)) = L2 := ⟨_, rfl⟩
      have HL2 := Aside0.mk hL2
      have HT := Aside0.mk (show L2 = putAll [] (l.take (i + 1)) by rw [take_putAll hlt, ← hL2, hL, hrd])
      have HLn := Aside0.mk (show L.length ≤ 60 by have h1 := putAll_length (l.take i) []; have h2 := HL.out; rw [hL]; rw [List.length_take, List.length_nil] at h1; omega)
      have HLn2 := Aside0.mk (show L2.length ≤ 61 by have h1 := putE_le L (rd_T29 l (i : Int)); rw [hL2] at h1; have := HLn.out; omega)
      rw [← hL] at H
      have HGd := Aside0.mk H.out.hp.good
      have HPW := Aside0.mk (show PW L from H.out.hp.good.1)
      have HGd2 := Aside0.mk (show Good L2 by rw [← hL2]; exact good_put HGd.out _)
      obtain ⟨pb, hpb⟩ : ∃ pb, putB L (rd_T29 l (i : Int)) = pb := ⟨_, rfl⟩
      have HPb := Aside0.mk hpb
      clear hL hL2 hpb
      go_upto_region 13 with (first
        | (go_at_call 11; go_loud (with_reducible refine (PlCopy w _ g L F _ L R H.out (by have := HLn.out; omega)).mono ?_; rintro e w4 ⟨g2, F2, rfl, ha_, hb_, hc_, hd_⟩; have HA_ := Aside0.mk ha_; have HB_ := Aside0.mk hb_; have HC_ := Aside0.mk hc_; have HD_ := Aside0.mk hd_; clear H ha_ hb_ hc_ hd_))
        | (go_at_call 12; go_loud (with_reducible refine (POther w _ g L F _ L R g2 F2 HC_.out HA_.out HB_.out HD_.out (by have := HLn.out; omega)).mono ?_; rintro e w5 ⟨ob, rfl, hh⟩; have H := Aside0.mk hh; clear HA_ HB_ HC_ HD_ hh)))
      have hx0 := (H.out.hp.low.cell (World.block_lt_of_cell? w _ hs0)).trans hs0
      have hx1 := (H.out.hp.low.cell (World.block_lt_of_cell? w _ hs1)).trans hs1
      have hx2 := (H.out.hp.low.cell (World.block_lt_of_cell? w _ hs2)).trans hs2
      have hx3 := (H.out.hp.low.cell (World.block_lt_of_cell? w _ hs3)).trans hs3
      go_upto_region 14 with (go_at_call 12; go_loud (with_reducible refine (PlPut w _ g2 L F2 _ L R (rd_T29 l (i : Int)) H.out (by have := HLn.out; omega)).mono ?_; rintro e w6 ⟨F3, rfl, hh⟩; rw [HL2.out] at hh; rw [HPb.out]; have H6 := Aside0.mk hh; clear H hh))
      clear hx0 hx1 hx2 hx3
      have H := H6
      clear H6
      have hx0 := (H.out.hp.low.cell (World.block_lt_of_cell? w _ hs0)).trans hs0
      have hx1 := (H.out.hp.low.cell (World.block_lt_of_cell? w _ hs1)).trans hs1
      have hx2 := (H.out.hp.low.cell (World.block_lt_of_cell? w _ hs2)).trans hs2
      have hx3 := (H.out.hp.low.cell (World.block_lt_of_cell? w _ hs3)).trans hs3
      go_upto_region 15 with (go_at_call 13; go_loud (with_reducible refine (PlRef w _ g2 L2 F3 _ L R (rd_T29 l (i : Int)) H.out HPW.out (by have := HLn.out; omega)).mono ?_; rintro e w7 ⟨v7, R3, rfl, hh⟩; rw [HL2.out] at hh; rw [HPb.out]; obtain ⟨A7, c7, rfl, hr⟩ := hh.rd; have H7 := Aside0.mk hh; have RX := Aside0.mk hr; clear H hh hr))
      clear hx0 hx1 hx2 hx3
      have H := H7
      clear H7
      clear hs0 hs1 hs2 hs3 HL2 HPb HPW HGd
      obtain ⟨x, hx⟩ : ∃ x, getE L2 key.data.toList seq = x := ⟨_, rfl⟩
      obtain ⟨x0, x1, x2, x3, x4⟩ := x
      have HX := Aside0.mk hx
      obtain ⟨K2, hK2⟩ := rnewest_ev L2 (by have := HLn2.out; omega) HGd2.out.1 key seq
      have HN := Aside0.mk (show ravelinref6_Newest.f K2 L2 key seq = some (x0, x1, x2, x3, x4) by rw [← hx]; exact hK2 K2 (Nat.le_refl _))
      clear hx hK2
      go_upto_region 17 with (go_at_call 14; go_loud (with_reducible refine (GetX w _ g2 L2 F3 key seq x0 x1 x2 x3 x4 H.out.hp (by have := HLn2.out; omega) HX.out).mono ?_; rintro e w8 ⟨rfl, hb⟩; have n0_ := Aside0.mk (H.out.below hb); have n1_ := Aside0.mk (RX.out.below hb); clear H RX hb; have H := n0_; have RX := n1_; clear n0_ n1_))
      have n0_ := Aside0.mk (H.out.below (below_alloc (Below.refl _ w8) (.cells #[.string x0, .int .i64 x1, .bool x2, .string x3] 29)))
      have n1_ := Aside0.mk (RX.out.below (below_alloc (Below.refl _ w8) (.cells #[.string x0, .int .i64 x1, .bool x2, .string x3] 29)))
      have BA := Aside0.mk (blk_new w8 (.cells #[.string x0, .int .i64 x1, .bool x2, .string x3] 29))
      clear H RX
      have H := n0_
      have RX := n1_
      clear n0_ n1_
      generalize w8.alloc (.cells #[.string x0, .int .i64 x1, .bool x2, .string x3] 29) = w9 at H RX BA ⊢
      generalize w8.heap.size = ga at BA ⊢
      go_upto_region 18 with (go_at_call 15; go_loud (with_reducible refine (ravelinref6_Newest.calls K2 A7 c7 L2 key seq x0 x1 x2 x3 x4 _ RX.out.rd RX.out.le HN.out).mono ?_; rintro e w10 ⟨rfl, hb⟩; have n0_ := Aside0.mk (H.out.below hb); have n1_ := Aside0.mk (RX.out.below hb); have n2_ := bb_ BA hb; clear H RX BA hb; have H := n0_; have RX := n1_; have BA := n2_; clear n0_ n1_ n2_))
      have n0_ := Aside0.mk (H.out.below (below_alloc (Below.refl _ w10) (.cells #[.string x0, .int .i64 x1, .bool x2, .string x3] 29)))
      have n1_ := Aside0.mk (RX.out.below (below_alloc (Below.refl _ w10) (.cells #[.string x0, .int .i64 x1, .bool x2, .string x3] 29)))
      have n2_ := Aside0.mk (blk_below BA.out (below_alloc (Below.refl _ w10) (.cells #[.string x0, .int .i64 x1, .bool x2, .string x3] 29)))
      have BB := Aside0.mk (blk_new w10 (.cells #[.string x0, .int .i64 x1, .bool x2, .string x3] 29))
      clear H RX BA
      have H := n0_
      have RX := n1_
      have BA := n2_
      clear n0_ n1_ n2_
      generalize w10.alloc (.cells #[.string x0, .int .i64 x1, .bool x2, .string x3] 29) = w11 at H RX BA BB ⊢
      generalize w10.heap.size = gb at BB ⊢
      clear HX HN
      go_wp2
      go_loopg [22, 23] L2.length (fun kq v22 v23 w' => ∃ (q : Nat) (x : Int), v23 = .int .i64 (q : Int) ∧ v22 = .int .i64 x ∧ Aside0 (x = sumE (L2.take q)) ∧ Aside0 (kq + q = L2.length) ∧ Aside0 (Pl w w' g2 L2 F3 (.slice A7 L2.length c7) L2 R3) ∧ Aside0 (RdE w' A7 c7 L2) ∧ Aside0 (w'.heap[ga]? = some (.cells #[.string x0, .int .i64 x1, .bool x2, .string x3] 29 (0, 0))) ∧ Aside0 (w'.heap[gb]? = some (.cells #[.string x0, .int .i64 x1, .bool x2, .string x3] 29 (0, 0))))
      case atStart => exact ⟨0, 0, rfl, rfl, ⟨rfl⟩, ⟨by omega⟩, H, RX, BA, BB⟩
      clear H RX BA BB
      obtain ⟨q, x, rfl, rfl, HXs, HQ2, H, RX, BA, BB⟩ := hrel
      by_cases hlt2 : q < L2.length
      · obtain ⟨k2, rfl⟩ : ∃ k2, gk = k2 + 1 := ⟨gk - 1, by have := HQ2.out; omega⟩
        have he0 : decide (q < L2.length) = true := decide_eq_true hlt2
        have he1 : decide ((q : Int) < (L2.length : Int)) = true := decide_eq_true (by omega)
        have r0 : 0 ≤ (q : Int) := by omega
        have s0 : (q : Int) < (L2.length : Int) := by omega
        obtain ⟨ad2, e2_, hx0, hx1, hx2, hx3⟩ := at_T29 RX.out.rd (q : Int) r0 s0
        cases e2_
        rw [Int.toNat_natCast] at hx0 hx1 hx2 hx3
        clear hx1 hx2
        have HSm := Aside0.mk (show wrap64 (wrap64 (x + ((rd_T29 L2 (q : Int)).f0.size : Int)) + ((rd_T29 L2 (q : Int)).f3.size : Int)) = sumE (L2.take (q + 1)) from sum_step HGd2.out HLn2.out hlt2 HXs.out)
        clear HXs
        go_upto_region 22 with (fail)
        refine start_ (n := 16) (S := fun w' => w'.cell? (ad2.add (q * 4)) = some (.string (rd_T29 L2 (q : Int)).f0) ∧ w'.cell? ⟨(ad2.add (q * 4)).block, (ad2.add (q * 4)).off + 3, none⟩ = some (.string (rd_T29 L2 (q : Int)).f3)) (ds := []) #[false, false, false, false, false, false, false, false, false, false, false, false, false, false, false, false] (by kernel_rfl) rfl rfl ⟨hx0, hx3⟩ (fun hHeld => ?_)
        refine pure_ (i := 0) (N := some 93) (v := ?_) (a' := ?_) #[true, false, false, false, false, false, false, false, false, false, false, false, false, false, false, false] rfl rfl (by kernel_rfl) (fun _ _ _ h => h) (Or.inl ⟨by rfl, ?_⟩) ?_ ?_
        rotate_left
        · intro w'
          go_simp
          with_reducible rfl
        rotate_left
        · simp only [Act.put, List.setIfInBounds_toArray, List.set_cons_zero, List.set_cons_succ, i64_w, i32_w]
          rfl
        refine pure_ (i := 1) (N := some 94) (v := ?_) (a' := ?_) #[true, true, false, false, false, false, false, false, false, false, false, false, false, false, false, false] rfl rfl (by kernel_rfl) (fun _ _ _ h => h) (Or.inl ⟨by rfl, ?_⟩) ?_ ?_
        rotate_left
        · intro w'
          go_simp
          with_reducible rfl
        rotate_left
        · simp only [Act.put, List.setIfInBounds_toArray, List.set_cons_zero, List.set_cons_succ, i64_w, i32_w]
          rfl
        refine pure_ (i := 2) (N := some 95) (v := ?_) (a' := ?_) #[true, true, true, false, false, false, false, false, false, false, false, false, false, false, false, false] rfl rfl (by kernel_rfl) (fun _ _ _ h => h) (Or.inl ⟨by rfl, ?_⟩) ?_ ?_
        rotate_left
        · intro w'
          go_simp
          with_reducible rfl
        rotate_left
        · simp only [Act.put, List.setIfInBounds_toArray, List.set_cons_zero, List.set_cons_succ, i64_w, i32_w]
          rfl
        refine pure_ (i := 3) (N := some 96) (v := ?_) (a' := ?_) #[true, true, true, true, false, false, false, false, false, false, false, false, false, false, false, false] rfl rfl (by kernel_rfl) (fun _ _ _ h => h) (Or.inl ⟨by rfl, ?_⟩) ?_ ?_
        rotate_left
        · intro w'
          go_simp
          with_reducible rfl
        rotate_left
        · simp only [Act.put, List.setIfInBounds_toArray, List.set_cons_zero, List.set_cons_succ, i64_w, i32_w]
          rfl
        refine pure_ (i := 4) (N := some 97) (v := ?_) (a' := ?_) #[true, true, true, true, true, false, false, false, false, false, false, false, false, false, false, false] rfl rfl (by kernel_rfl) (fun _ _ _ h => h) (Or.inl ⟨by rfl, ?_⟩) ?_ ?_
        rotate_left
        · intro w'
          go_simp
          with_reducible rfl
        rotate_left
        · simp only [Act.put, List.setIfInBounds_toArray, List.set_cons_zero, List.set_cons_succ, i64_w, i32_w]
          rfl
        refine pure_ (i := 8) (N := some 101) (v := ?_) (a' := ?_) #[true, true, true, true, true, false, false, false, true, false, false, false, false, false, false, false] rfl rfl (by kernel_rfl) (fun _ _ _ h => h) (Or.inl ⟨by rfl, ?_⟩) ?_ ?_
        rotate_left
        · intro w'
          go_simp
          with_reducible rfl
        rotate_left
        · simp only [Act.put, List.setIfInBounds_toArray, List.set_cons_zero, List.set_cons_succ, i64_w, i32_w]
          rfl
        refine pure_ (i := 9) (N := some 102) (v := ?_) (a' := ?_) #[true, true, true, true, true, false, false, false, true, true, false, false, false, false, false, false] rfl rfl (by kernel_rfl) (fun _ _ _ h => h) (Or.inl ⟨by rfl, ?_⟩) ?_ ?_
        rotate_left
        · intro w'
          go_simp
          with_reducible rfl
        rotate_left
        · simp only [Act.put, List.setIfInBounds_toArray, List.set_cons_zero, List.set_cons_succ, i64_w, i32_w]
          rfl
        refine pure_ (i := 10) (N := some 103) (v := ?_) (a' := ?_) #[true, true, true, true, true, false, false, false, true, true, true, false, false, false, false, false] rfl rfl (by kernel_rfl) (fun _ _ _ h => h) (Or.inl ⟨by rfl, ?_⟩) ?_ ?_
        rotate_left
        · intro w'
          go_simp
          with_reducible rfl
        rotate_left
        · simp only [Act.put, List.setIfInBounds_toArray, List.set_cons_zero, List.set_cons_succ, i64_w, i32_w]
          rfl
        refine pure_ (i := 11) (N := some 104) (v := ?_) (a' := ?_) #[true, true, true, true, true, false, false, false, true, true, true, true, false, false, false, false] rfl rfl (by kernel_rfl) (fun _ _ _ h => h) (Or.inl ⟨by rfl, ?_⟩) ?_ ?_
        rotate_left
        · intro w'
          go_simp
          with_reducible rfl
        rotate_left
        · simp only [Act.put, List.setIfInBounds_toArray, List.set_cons_zero, List.set_cons_succ, i64_w, i32_w]
          rfl
        refine take_ (i := 5) (N := some 98) (v := ?_) (a' := ?_) #[true, true, true, true, true, true, false, false, true, true, true, true, false, false, false, false] rfl rfl (by kernel_rfl) (fun _ _ _ h => h) (Or.inl ⟨by rfl, ?_⟩) hHeld ?_ ?_
        rotate_left
        · rintro w' ⟨s0, s1⟩
          go_simp
          with_reducible rfl
        rotate_left
        · simp only [Act.put, List.setIfInBounds_toArray, List.set_cons_zero, List.set_cons_succ, i64_w, i32_w]
          rfl
        refine pure_ (i := 6) (N := some 99) (v := ?_) (a' := ?_) #[true, true, true, true, true, true, true, false, true, true, true, true, false, false, false, false] rfl rfl (by kernel_rfl) (fun _ _ _ h => h) (Or.inl ⟨by rfl, ?_⟩) ?_ ?_
        rotate_left
        · intro w'
          go_simp
          with_reducible rfl
        rotate_left
        · simp only [Act.put, List.setIfInBounds_toArray, List.set_cons_zero, List.set_cons_succ, i64_w, i32_w]
          rfl
        refine pure_ (i := 7) (N := some 100) (v := ?_) (a' := ?_) #[true, true, true, true, true, true, true, true, true, true, true, true, false, false, false, false] rfl rfl (by kernel_rfl) (fun _ _ _ h => h) (Or.inl ⟨by rfl, ?_⟩) ?_ ?_
        rotate_left
        · intro w'
          go_simp
          with_reducible rfl
        rotate_left
        · simp only [Act.put, List.setIfInBounds_toArray, List.set_cons_zero, List.set_cons_succ, i64_w, i32_w]
          rfl
        refine take_ (i := 12) (N := some 105) (v := ?_) (a' := ?_) #[true, true, true, true, true, true, true, true, true, true, true, true, true, false, false, false] rfl rfl (by kernel_rfl) (fun _ _ _ h => h) (Or.inl ⟨by rfl, ?_⟩) hHeld ?_ ?_
        rotate_left
        · rintro w' ⟨s0, s1⟩
          go_simp
          with_reducible rfl
        rotate_left
        · simp only [Act.put, List.setIfInBounds_toArray, List.set_cons_zero, List.set_cons_succ, i64_w, i32_w]
          rfl
        refine pure_ (i := 13) (N := some 106) (v := ?_) (a' := ?_) #[true, true, true, true, true, true, true, true, true, true, true, true, true, true, false, false] rfl rfl (by kernel_rfl) (fun _ _ _ h => h) (Or.inl ⟨by rfl, ?_⟩) ?_ ?_
        rotate_left
        · intro w'
          go_simp
          with_reducible rfl
        rotate_left
        · simp only [Act.put, List.setIfInBounds_toArray, List.set_cons_zero, List.set_cons_succ, i64_w, i32_w]
          rfl
        refine pure_ (i := 14) (N := some 107) (v := ?_) (a' := ?_) #[true, true, true, true, true, true, true, true, true, true, true, true, true, true, true, false] rfl rfl (by kernel_rfl) (fun _ _ _ h => h) (Or.inl ⟨by rfl, ?_⟩) ?_ ?_
        rotate_left
        · intro w'
          go_simp
          with_reducible rfl
        rotate_left
        · simp only [Act.put, List.setIfInBounds_toArray, List.set_cons_zero, List.set_cons_succ, i64_w, i32_w]
          rfl
        refine pure_ (i := 15) (N := some 22) (v := ?_) (a' := ?_) #[true, true, true, true, true, true, true, true, true, true, true, true, true, true, true, true] rfl rfl (by kernel_rfl) (fun _ _ _ h => h) (Or.inl ⟨by rfl, ?_⟩) ?_ ?_
        rotate_left
        · intro w'
          go_simp
          with_reducible rfl
        rotate_left
        · simp only [Act.put, List.setIfInBounds_toArray, List.set_cons_zero, List.set_cons_succ, i64_w, i32_w]
          rfl
        refine done_ (by kernel_rfl) ?_

        have n0_ := Aside0.mk (H.out.below (below_drew (Below.refl _ _)))
        have n1_ := Aside0.mk (RX.out.below (below_drew (Below.refl _ _)))
        have n2_ := Aside0.mk (blk_drew BA.out)
        have n3_ := Aside0.mk (blk_drew BB.out)
        clear H RX BA BB hx0 hx3
        go_wp2
        go_roundg k2
        case measure => have := HQ2.out; omega
        case rel => exact ⟨q + 1, _, by have h_ := HQ2.out; have h2_ := HLn2.out; simp; unfold wrap64; omega, rfl, HSm, ⟨by have := HQ2.out; omega⟩, n0_, n1_, n2_, n3_⟩
      have he0 : decide (q < L2.length) = false := decide_eq_false hlt2
      have he1 : decide ((q : Int) < (L2.length : Int)) = false := decide_eq_false (by omega)
      have hxe : x = sumE L2 := by have := HXs.out; rw [List.take_of_length_le (by omega)] at this; exact this
      subst hxe
      obtain ⟨LR, hLR⟩ : ∃ LR, LR = rangeE L2 from_.data.toList to_.data.toList := ⟨_, rfl⟩
      have HLR := Aside0.mk hLR
      have hLRl : LR.length ≤ 61 := by rw [hLR, range_filter _ _ HGd2.out]; exact Nat.le_trans (List.length_filter_le _ _) HLn2.out
      obtain ⟨K3, hK3⟩ := rrange_ev L2 from_ to_ (by have := HLn2.out; omega) HGd2.out
      have HRg := Aside0.mk (show ravelinref6_Range.f K3 L2 from_ to_ = some LR by rw [hLR]; exact hK3 K3 (Nat.le_refl _))
      obtain ⟨K4, hK4⟩ := same_ev L2 (by have := HLn2.out; omega)
      have HS1 := Aside0.mk (hK4 K4 (Nat.le_refl _))
      obtain ⟨K5, hK5⟩ := same_ev LR (by omega)
      have HS2 := Aside0.mk (hK5 K5 (Nat.le_refl _))
      clear hLR hLRl hK3 hK4 hK5 HXs HQ2
      have hza0 := bc0 BA
      have hza1 := bc1 BA
      have hza2 := bc2 BA
      have hza3 := bc3 BA
      have hzb0 := bc0 BB
      have hzb1 := bc1 BB
      have hzb2 := bc2 BB
      have hzb3 := bc3 BB
      go_upto_region 9 with (first
        | (go_at_call 17; go_loud (with_reducible refine (HAllC w _ g2 L2 F3 H.out.hp (by have := HLn2.out; omega)).mono ?_; rintro e w12 ⟨A8, c8, rfl, hr, hb⟩; have n0_ := Aside0.mk (H.out.below hb); have n1_ := Aside0.mk (RX.out.below hb); clear H RX ; have H := n0_; have RX := n1_; clear n0_ n1_; have RC := Aside0.mk hr; clear hr hb))
        | (go_at_call 16; with_reducible refine (ravelinref6_Same.calls K4 _ _ L2 _ _ L2 true _ RC.out.rd RC.out.le RX.out.rd RX.out.le HS1.out).mono ?_; rintro e w13 ⟨rfl, hd⟩; have n0_ := Aside0.mk (H.out.below hd.below); have n1_ := Aside0.mk (RX.out.below hd.below); clear H RX ; have H := n0_; have RX := n1_; clear n0_ n1_; clear RC hd)
        | (go_at_call 18; go_loud (with_reducible refine (HRangeX w _ g2 L2 F3 from_ to_ LR H.out.hp (by have := HLn2.out; omega) HLR.out).mono ?_; rintro e w14 ⟨A9, c9, rfl, hr, hb⟩; have n0_ := Aside0.mk (H.out.below hb); have n1_ := Aside0.mk (RX.out.below hb); clear H RX ; have H := n0_; have RX := n1_; clear n0_ n1_; have RD := Aside0.mk hr; clear hr hb))
        | (go_at_call 19; go_loud (with_reducible refine (ravelinref6_Range.calls K3 _ _ L2 from_ to_ LR _ RX.out.rd RX.out.le HRg.out).mono ?_; rintro e w15 ⟨v15, rfl, ho, hb⟩; obtain ⟨A10, c10, rfl, h1_, h2_⟩ := Kd.R_reads ho; have n0_ := Aside0.mk (H.out.below hb); have n1_ := Aside0.mk (RX.out.below hb); have n2_ := Aside0.mk (RD.out.below hb); clear H RX RD; have H := n0_; have RX := n1_; have RD := n2_; clear n0_ n1_ n2_; have RE := Aside0.mk (RdE.mk h2_ h1_); clear ho hb h1_ h2_))
        | (go_at_call 16; with_reducible refine (ravelinref6_Same.calls K5 _ _ LR _ _ LR true _ RD.out.rd RD.out.le RE.out.rd RE.out.le HS2.out).mono ?_; rintro e w16 ⟨rfl, hd⟩; have n0_ := Aside0.mk (H.out.below hd.below); have n1_ := Aside0.mk (RX.out.below hd.below); clear H RX ; have H := n0_; have RX := n1_; clear n0_ n1_; clear RD RE hd)
        | (go_at_call 20; go_loud (with_reducible refine (L1 w _ g2 L2 F3 H.out.hp).mono ?_; rintro e w17 ⟨rfl, hb⟩; have n0_ := Aside0.mk (H.out.below hb); have n1_ := Aside0.mk (RX.out.below hb); clear H RX ; have H := n0_; have RX := n1_; clear n0_ n1_; clear hb))
        | (go_at_call 21; go_loud (with_reducible refine (B1 w _ g2 L2 F3 H.out.hp).mono ?_; rintro e w18 ⟨rfl, hb⟩; have n0_ := Aside0.mk (H.out.below hb); have n1_ := Aside0.mk (RX.out.below hb); clear H RX ; have H := n0_; have RX := n1_; clear n0_ n1_; clear hb)))
      clear hza0 hza1 hza2 hza3 hzb0 hzb1 hzb2 hzb3 BA BB
      go_wp2
      go_roundg k1
      case measure => have := HQ.out; omega
      case rel => exact ⟨i + 1, g2, F3, R3, by have h_ := HQ.out; have h2_ := HL.out; simp; unfold wrap64; omega, rfl, ⟨by have := HQ.out; omega⟩, ⟨by rw [← HT.out]; exact H.out⟩⟩
    have hd0 : decide (i < l.length) = false := decide_eq_false hlt
    have hd1 : decide ((i : Int) < (l.length : Int)) = false := decide_eq_false (by omega)
    obtain ⟨A7, c7, e7, hr7⟩ := H.out.rd
    obtain ⟨L, hL⟩ : ∃ L, L = putAll [] (l.take i) := ⟨_, rfl⟩
    rw [← hL] at e7 H
    subst e7
    clear hL hr7
    go_wp2_with (go_at_call 20; go_loud (with_reducible refine (L1 w _ g L F H.out.hp).mono ?_; rintro e w17 ⟨rfl, hb⟩; have n0_ := Aside0.mk (H.out.below hb); clear H hb; have H := n0_; clear n0_))
    go_ret
    exact ⟨rfl, H.out.hp.low⟩
end Go.Proofs.Ytdkdnfgpgedglaa.Q
