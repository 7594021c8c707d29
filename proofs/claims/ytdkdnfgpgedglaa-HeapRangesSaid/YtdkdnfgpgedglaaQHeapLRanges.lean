import Derived.Test.YtdkdnfgpgedglaaQHeapKnown
import Derived.Test.YtdkdnfgpgedglaaQHeapRng
import Derived.Test.YtdkdnfgpgedglaaQHeapRefS
import Derived.Test.YtdkdnfgpgedglaaPx5
namespace Go.Proofs.Ytdkdnfgpgedglaa.Q
open Go.RowKit Go.Lib Go.Proofs.Ytdkdnfgpgedglaa.P Go.Proofs.YtdkdnfgpgedglaaW.PrintWords Go.Proofs.YtdkdnfgpgedglaaW.PrintLast Go.Proofs.YtdkdnfgpgedglaaW.PrintMore
set_option linter.unusedVariables false
set_option linter.unusedSimpArgs false
attribute [local go_sem high] string_leq string_geq string_gtr
theorem range_len (l : List S29) (a tx : List UInt8) (h : Good l) : (rangeE l a tx).length ≤ l.length := by
  rw [range_filter a tx h]; exact List.length_filter_le _ _
theorem RLow (w0 w : World) (g : Nat) (P : List S29) (F : Nat → Prop) (key : ByteArray) (La : List S29) (h : HpA w0 w g P F) (hl : P.length ≤ 1000000) (hLa : La = rangeE P [] key.data.toList) : Calls Try.prog 18 #[.pointer (some ⟨g, 0, none⟩), .string ⟨#[]⟩, .string key] w fun e w' => ∃ (A : Option Addr) (c : Nat), e = .returned (.slice A La.length c) ∧ RdE w' A c La ∧ Below w.heap.size w w' := by
  subst hLa; exact HRangeC w0 w g P F ⟨#[]⟩ key h hl
theorem RHigh (w0 w : World) (g : Nat) (P : List S29) (F : Nat → Prop) (key : ByteArray) (La : List S29) (h : HpA w0 w g P F) (hl : P.length ≤ 1000000) (hLa : La = rangeE P key.data.toList []) : Calls Try.prog 18 #[.pointer (some ⟨g, 0, none⟩), .string key, .string ⟨#[]⟩] w fun e w' => ∃ (A : Option Addr) (c : Nat), e = .returned (.slice A La.length c) ∧ RdE w' A c La ∧ Below w.heap.size w w' := by
  subst hLa; exact HRangeC w0 w g P F key ⟨#[]⟩ h hl
theorem RAll (w0 w : World) (g : Nat) (P : List S29) (F : Nat → Prop) (h : HpA w0 w g P F) (hl : P.length ≤ 1000000) : Calls Try.prog 18 #[.pointer (some ⟨g, 0, none⟩), .string ⟨#[]⟩, .string ⟨#[]⟩] w fun e w' => ∃ (A : Option Addr) (c : Nat), e = .returned (.slice A P.length c) ∧ RdE w' A c P ∧ Below w.heap.size w w' := by
  have h1 := HRangeC w0 w g P F ⟨#[]⟩ ⟨#[]⟩ h hl
  have e0 : rangeE P (⟨#[]⟩ : ByteArray).data.toList (⟨#[]⟩ : ByteArray).data.toList = P := range_all h.good
  rw [e0] at h1; exact h1
theorem RNone (w0 w : World) (g : Nat) (P : List S29) (F : Nat → Prop) (key : ByteArray) (h : HpA w0 w g P F) (hl : P.length ≤ 1000000) (hk : key.data.toList ≠ []) : Calls Try.prog 18 #[.pointer (some ⟨g, 0, none⟩), .string key, .string key] w fun e w' => ∃ (A : Option Addr) (c : Nat), e = .returned (.slice A 0 c) ∧ Below w.heap.size w w' := by
  have h1 := HRangeC w0 w g P F key key h hl
  rw [range_none h.good hk] at h1
  exact h1.mono (fun e w' ⟨A, c, a, _, b⟩ => ⟨A, c, a, b⟩)
set_option maxHeartbeats 4000000 in
set_option maxRecDepth 100000 in
theorem LRanges (w : World) (A0 : Option Addr) (c0 : Nat) (l : List S29) (key : ByteArray) (hr0 : Kd.C k29 w A0 l.length l) (hc0 : l.length ≤ c0) (hl0 : l.length ≤ 9223372036854775807) :
    Calls Try.prog 7 #[.slice A0 l.length c0, .string key] w fun e w' => e = .returned (.bool true) ∧ Below w.heap.size w w' := by
  obtain ⟨K, hK⟩ := few_ev l hl0
  have HF := Aside0.mk (hK K (Nat.le_refl _))
  have HR := Aside0.mk hr0
  have HC := Aside0.mk hc0
  have HB := Aside0.mk (Below.refl w.heap.size w)
  clear hK hr0 hc0 hl0
  go_enter Try.func7, Try.ntmps7
  go_upto_region 3 with (go_at_call 8; with_reducible refine (HKnown _).mono ?_; rintro e w1 ⟨rfl, hb⟩; have n0_ := Aside0.mk (below_step HB.out hb); clear HB hb; have HB := n0_; clear n0_)
  cases hf : fewB l with
  | false =>
    rw [hf] at HF
    go_wp2_with (go_at_call 9; with_reducible refine (ravelinlaw10_few.calls K _ _ l false _ (Kd.C_below HR.out HB.out) HC.out HF.out).mono ?_; rintro e w2 ⟨rfl, hd⟩; have n0_ := Aside0.mk (below_step HB.out hd.below); clear HB hd; have HB := n0_; clear n0_)
    go_ret
    exact ⟨rfl, HB.out⟩
  | true =>
    rw [hf] at HF
    by_cases h20 : key.size > 20
    · have b1 : decide (20 < (key.size : Int)) = true := decide_eq_true (by omega)
      have b2 : decide (20 < key.size) = true := decide_eq_true (by omega)
      go_wp2_with (go_at_call 9; with_reducible refine (ravelinlaw10_few.calls K _ _ l true _ (Kd.C_below HR.out HB.out) HC.out HF.out).mono ?_; rintro e w2 ⟨rfl, hd⟩; have n0_ := Aside0.mk (below_step HB.out hd.below); clear HB hd; have HB := n0_; clear n0_)
      go_ret
      exact ⟨rfl, HB.out⟩
    have b1 : decide (20 < (key.size : Int)) = false := decide_eq_false (by omega)
    have b2 : decide (20 < key.size) = false := decide_eq_false (by omega)
    by_cases hke : key.toList = ([] : List UInt8)
    · have c1 : (key.toList == ([] : List UInt8)) = true := beq_iff_eq.mpr hke
      have c2 : (key.toList != ([] : List UInt8)) = false := bne_eq_false_iff_eq.mpr hke
      go_wp2_with (go_at_call 9; with_reducible refine (ravelinlaw10_few.calls K _ _ l true _ (Kd.C_below HR.out HB.out) HC.out HF.out).mono ?_; rintro e w2 ⟨rfl, hd⟩; have n0_ := Aside0.mk (below_step HB.out hd.below); clear HB hd; have HB := n0_; clear n0_)
      go_ret
      exact ⟨rfl, HB.out⟩
    have c1 : (key.toList == ([] : List UInt8)) = false := beq_eq_false_iff_ne.mpr hke
    have c2 : (key.toList != ([] : List UInt8)) = true := bne_iff_ne.mpr hke
    have hl60 : l.length ≤ 60 := by unfold fewB at hf; rw [Bool.and_eq_true] at hf; exact of_decide_eq_true hf.2
    have HL := Aside0.mk hl60
    have HK := Aside0.mk (show key.data.toList ≠ [] by rw [← toL]; exact hke)
    clear hl60 hke h20 hf
    go_wp2_with (first | (go_at_call 9; with_reducible refine (ravelinlaw10_few.calls K _ _ l true _ (Kd.C_below HR.out HB.out) HC.out HF.out).mono ?_; rintro e w2 ⟨rfl, hd⟩; have n0_ := Aside0.mk (below_step HB.out hd.below); clear HB hd; have HB := n0_; clear n0_) | (go_at_call 10; with_reducible refine (HNewA w _ HB.out).mono ?_; rintro e w3 ⟨g, F, rfl, hh, hn, hb⟩; have HH := Aside0.mk hh; clear HB hh hn hb))
    go_loopg [6] l.length (fun kq v6 w' => ∃ (q : Nat) (F : Nat → Prop), v6 = .int .i64 (q : Int) ∧ Aside0 (kq + q = l.length) ∧ Aside0 (HpA w w' g (putAll [] (l.take q)) F))
    case atStart => exact ⟨0, F, rfl, ⟨by omega⟩, HH⟩
    clear HH
    obtain ⟨q, F1, rfl, HQ, HH⟩ := hrel
    by_cases hlt : q < l.length
    · obtain ⟨k1, rfl⟩ : ∃ k1, gk = k1 + 1 := ⟨gk - 1, by have := HQ.out; omega⟩
      have hd1 : decide ((q : Int) < (l.length : Int)) = true := decide_eq_true (by omega)
      have p0 : 0 ≤ (q : Int) := by omega
      have q0 : (q : Int) < (l.length : Int) := by omega
      obtain ⟨ad, e_, hx0, hx1, hx2, hx3⟩ := at_T29 (Kd.C_below HR.out HH.out.low) (q : Int) p0 q0
      cases e_
      rw [Int.toNat_natCast] at hx0 hx1 hx2 hx3
      have hlen : (putAll [] (l.take q)).length ≤ 1000000 := by have h1 := putAll_length (l.take q) []; have h2 := HL.out; rw [List.length_take, List.length_nil] at h1; omega
      have HLn := Aside0.mk hlen
      clear hlen
      go_wp2_with (go_at_call 12; with_reducible refine (HPutA w _ g _ F1 (rd_T29 l (q : Int)) HH.out HLn.out).mono ?_; rintro e w4 ⟨F2, rfl, hh, hn, hb⟩; have H2 := Aside0.mk hh; clear HH hh hn hb)
      go_roundg k1
      case measure => have := HQ.out; omega
      case rel =>
        have e0 : rd_T29 l (q : Int) = l[q] := by rw [hrd, List.getD_eq_getElem?_getD, List.getElem?_eq_getElem hlt]; rfl
        have e1 : putAll [] (l.take (q + 1)) = putE (putAll [] (l.take q)) (rd_T29 l (q : Int)) := by rw [List.take_succ_eq_append_getElem hlt, putAll_snoc, e0]
        exact ⟨q + 1, F2, by have h_ := HQ.out; have h2_ := HL.out; simp; unfold wrap64; omega, ⟨by have := HQ.out; omega⟩, ⟨by rw [e1]; exact H2.out⟩⟩
    have hd1 : decide ((q : Int) < (l.length : Int)) = false := decide_eq_false (by omega)
    obtain ⟨P, hP⟩ : ∃ P, P = putAll [] (l.take q) := ⟨_, rfl⟩
    rw [← hP] at HH
    have hPl : P.length ≤ 1000000 := by have h1 := putAll_length (l.take q) []; have h2 := HL.out; rw [← hP, List.length_take, List.length_nil] at h1; omega
    obtain ⟨La, hLa⟩ : ∃ La, La = rangeE P [] key.data.toList := ⟨_, rfl⟩
    obtain ⟨Lb, hLb⟩ : ∃ Lb, Lb = rangeE P key.data.toList [] := ⟨_, rfl⟩
    have hG := HH.out.good
    have hall : La ++ Lb = P := by rw [hLa, hLb]; exact parts_all hG HK.out
    have hlow : ∀ e ∈ La, Op.bytesLess e.f0.toList key.toList = true := fun e he => by rw [toL, toL]; exact low_at hG HK.out (hLa ▸ he)
    have hhigh : ∀ e ∈ Lb, Op.bytesLess e.f0.toList key.toList = false := fun e he => by rw [toL, toL]; exact high_at hG (hLb ▸ he)
    have hLal : La.length ≤ 1000000 := by have h1 := range_len P [] key.data.toList hG; rw [← hLa] at h1; omega
    have hLbl : Lb.length ≤ 1000000 := by have h1 := range_len P key.data.toList [] hG; rw [← hLb] at h1; omega
    have HA := Aside0.mk hLa
    have HBq := Aside0.mk hLb
    have HPl := Aside0.mk hPl
    have HAll_ := Aside0.mk hall
    have HLow := Aside0.mk hlow
    have HHigh := Aside0.mk hhigh
    have HLal := Aside0.mk hLal
    have HLbl := Aside0.mk hLbl
    clear hLa hLb hPl hall hlow hhigh hLal hLbl hP hG
    go_wp2_with (first
      | (go_at_call 18; with_reducible refine (RLow w _ g P F1 key La HH.out HPl.out HA.out).mono ?_; rintro e w5 ⟨A5, c5, rfl, hr, hb⟩; have n0_ := Aside0.mk (HH.out.below hb); clear HH hb; have HH := n0_; clear n0_; have RA := Aside0.mk hr; clear hr)
      | (go_at_call 18; with_reducible refine (RHigh w _ g P F1 key Lb HH.out HPl.out HBq.out).mono ?_; rintro e w6 ⟨A6, c6, rfl, hr, hb⟩; have n0_ := Aside0.mk (HH.out.below hb); have n1_ := Aside0.mk (RA.out.below hb); clear HH RA hb; have HH := n0_; have RA := n1_; clear n0_ n1_; have RB := Aside0.mk hr; clear hr))
    go_loopg [9] La.length (fun kq v9 w' => ∃ (q : Nat), v9 = .int .i64 (q : Int) ∧ Aside0 (kq + q = La.length) ∧ w6 = w')
    case atStart => exact ⟨0, rfl, ⟨by omega⟩, rfl⟩
    obtain ⟨q2, rfl, HQ2, rfl⟩ := hrel
    by_cases hlt2 : q2 < La.length
    · obtain ⟨k1, rfl⟩ : ∃ k1, gk = k1 + 1 := ⟨gk - 1, by have := HQ2.out; omega⟩
      have hd2 : decide ((q2 : Int) < (La.length : Int)) = true := decide_eq_true (by omega)
      have p0 : 0 ≤ (q2 : Int) := by omega
      have q0 : (q2 : Int) < (La.length : Int) := by omega
      obtain ⟨ad, e_, hx0, hx1, hx2, hx3⟩ := at_T29 RA.out.1 (q2 : Int) p0 q0
      cases e_
      rw [Int.toNat_natCast] at hx0 hx1 hx2 hx3
      have hs : Op.bytesLess (rd_T29 La (q2 : Int)).f0.toList key.toList = true := HLow.out _ (by rw [hrd, List.getD_eq_getElem?_getD, List.getElem?_eq_getElem hlt2]; exact List.getElem_mem hlt2)
      go_wp2
      go_roundg k1
      case measure => have := HQ2.out; omega
      case rel => exact ⟨q2 + 1, by have h_ := HQ2.out; have h2_ := HLal.out; simp; unfold wrap64; omega, ⟨by have := HQ2.out; omega⟩, rfl⟩
    have hd2 : decide ((q2 : Int) < (La.length : Int)) = false := decide_eq_false (by omega)
    go_wp2
    go_loopg [10] Lb.length (fun kq v10 w' => ∃ (q : Nat), v10 = .int .i64 (q : Int) ∧ Aside0 (kq + q = Lb.length) ∧ w6 = w')
    case atStart => exact ⟨0, rfl, ⟨by omega⟩, rfl⟩
    obtain ⟨q3, rfl, HQ3, rfl⟩ := hrel
    by_cases hlt3 : q3 < Lb.length
    · obtain ⟨k1, rfl⟩ : ∃ k1, gk = k1 + 1 := ⟨gk - 1, by have := HQ3.out; omega⟩
      have hd3 : decide ((q3 : Int) < (Lb.length : Int)) = true := decide_eq_true (by omega)
      have p0 : 0 ≤ (q3 : Int) := by omega
      have q0 : (q3 : Int) < (Lb.length : Int) := by omega
      obtain ⟨ad, e_, hx0, hx1, hx2, hx3⟩ := at_T29 RB.out.1 (q3 : Int) p0 q0
      cases e_
      rw [Int.toNat_natCast] at hx0 hx1 hx2 hx3
      have hs : Op.bytesLess (rd_T29 Lb (q3 : Int)).f0.toList key.toList = false := HHigh.out _ (by rw [hrd, List.getD_eq_getElem?_getD, List.getElem?_eq_getElem hlt3]; exact List.getElem_mem hlt3)
      go_wp2
      go_roundg k1
      case measure => have := HQ3.out; omega
      case rel => exact ⟨q3 + 1, by have h_ := HQ3.out; have h2_ := HLbl.out; simp; unfold wrap64; omega, ⟨by have := HQ3.out; omega⟩, rfl⟩
    have hd3 : decide ((q3 : Int) < (Lb.length : Int)) = false := decide_eq_false (by omega)
    clear HQ2 HQ3 hd2 hlt2 hlt hd1 HQ
    obtain ⟨KS, hKS⟩ := same_ev P (by have := HPl.out; omega)
    have HS := Aside0.mk (hKS KS (Nat.le_refl _))
    clear hKS
    go_wp2_with (first
      | ((with_reducible refine gate_builtin (b := .append) (xs := #[.const (.slice none 0 0), .tmp 70]) rfl ?_); refine Kd.R_append_rows k29 (Rr := k29.K w6) (w0 := w6) w6.heap.size rfl (.const (.slice none 0 0)) (.tmp 70) 22 29 _ 48 rfl Try.underlying22 info29 rfl (by decide) (by omega) (.slice none 0 0) ([] : List S29) La A5 La.length c5 (fun _ => True) (fun _ => False) rfl rfl (Kd.R_nil _ _ _ _ _) RA.out.1 (fun x cs h => by obtain rfl := k29_open h; exact k_M x) (fun _ h => h.elim) (fun _ _ => trivial) (Below.refl _ _) (Nat.le_refl _) (by have := HLal.out; have := HLbl.out; simp only [List.length_nil]; omega) ?_; intro v7 w7 ho hb hg hat; rw [List.nil_append] at ho; have HO := Aside0.mk ho; have HW := Aside0.mk hb; clear ho hb hg hat)
      | ((with_reducible refine gate_builtin (b := .append) (xs := #[.tmp 71, .tmp 72]) rfl ?_); refine Kd.R_append_rows k29 (Rr := k29.K w7) (w0 := w6) w6.heap.size rfl (.tmp 71) (.tmp 72) 22 29 _ 48 rfl Try.underlying22 info29 rfl (by decide) (by omega) v7 La Lb A6 Lb.length c6 (fun _ => True) (fun _ => False) rfl rfl HO.out (Kd.C_below RB.out.1 HW.out) (fun x cs h => by obtain rfl := k29_open h; exact k_M x) (fun _ h => h.elim) (fun _ _ => trivial) HW.out HW.out.size (by have := HLal.out; have := HLbl.out; omega) ?_; intro v8 w8 ho hb hg hat; rw [HAll_.out] at ho; obtain ⟨A8, c8, rfl, hc8, hC8⟩ := Kd.R_reads ho; have RX := Aside0.mk (show RdE w8 A8 c8 P from ⟨hC8, hc8⟩); have n0_ := Aside0.mk (HH.out.below hb); clear HH HO HW RA RB ho hb hg hat hc8 hC8; have HH := n0_; clear n0_)
      | (go_at_call 17; with_reducible refine (HAllC w _ g P F1 HH.out HPl.out).mono ?_; rintro e w9 ⟨A9, c9, rfl, hr, hb⟩; have n0_ := Aside0.mk (HH.out.below hb); have n1_ := Aside0.mk (RX.out.below hb); clear HH RX hb; have HH := n0_; have RX := n1_; clear n0_ n1_; have RC := Aside0.mk hr; clear hr)
      | (go_at_call 16; with_reducible refine (ravelinref6_Same.calls KS _ _ P _ _ P true _ RX.out.1 RX.out.2 RC.out.1 RC.out.2 HS.out).mono ?_; rintro e w10 ⟨rfl, hd⟩; have n0_ := Aside0.mk (HH.out.below hd.below); clear HH RX RC hd; have HH := n0_; clear n0_)
      | (go_at_call 18; with_reducible refine (RAll w _ g P F1 HH.out HPl.out).mono ?_; rintro e w11 ⟨A11, c11, rfl, hr, hb⟩; have n0_ := Aside0.mk (HH.out.below hb); clear HH hb; have HH := n0_; clear n0_; have RX := Aside0.mk hr; clear hr)
      | (go_at_call 18; with_reducible refine (RNone w _ g P F1 key HH.out HPl.out HK.out).mono ?_; rintro e w12 ⟨A12, c12, rfl, hb⟩; have n0_ := Aside0.mk (HH.out.below hb); clear HH hb; have HH := n0_; clear n0_))
    go_ret
    exact ⟨rfl, HH.out.low⟩
end Go.Proofs.Ytdkdnfgpgedglaa.Q
