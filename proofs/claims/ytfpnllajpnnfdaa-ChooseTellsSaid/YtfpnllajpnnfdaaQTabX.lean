import Derived.Test.YtfpnllajpnnfdaaQTabU
import Derived.Test.YtfpnllajpnnfdaaQTabV
import Derived.Test.YtfpnllajpnnfdaaQTabK
import Derived.Test.YtfpnllajpnnfdaaQTabL
import Derived.Test.YtfpnllajpnnfdaaM4
import Derived.Test.YtfpnllajpnnfdaaM7
namespace Go.Proofs.Ytfpnllajpnnfdaa.Q
open Go.RowKit Go.Lib Go.Proofs Go.Proofs.Ytfpnllajpnnfdaa.P Go.Proofs.YtfpnllajpnnfdaaW.PrintWords Go.Proofs.YtfpnllajpnnfdaaW.PrintLast Go.Proofs.YtfpnllajpnnfdaaW.PrintMore
set_option linter.unusedVariables false
set_option linter.unusedSimpArgs false
attribute [local go_sem] max_two min_two
attribute [local go_sem high] string_leq string_geq string_gtr
/-! ravelinlaw14.ChooseTells -/
theorem inv_newX : InvS new0 := inv_new
theorem RDoX (w : World) (g : Nat) (s : St) (hs : Rh w g s.l s.lg s.sq s.nx) (hinv : InvS s) (G : List Int) (AG : Option Addr) (cG : Nat) (C : List S46) (AC : Option Addr) (cC : Nat) (lg sq : Int)
    (hG : (Kd.int .i64).C w AG G.length G) (hcG : G.length ≤ cG) (hC : Kd.C k46 w AC C.length C) (hcC : C.length ≤ cC) (hlG : G.length ≤ 1000000) (hlC : C.length ≤ 1000000) (n : Int) (s2 : St) (hn : doE s G C lg sq = n) (h2 : doS s G C lg sq = s2) :
    Calls Try.prog 11 #[.pointer (some ⟨g, 0, none⟩), .agg #[.slice AG G.length cG, .slice AC C.length cC, .int .i64 lg, .int .i64 sq]] w fun e w' => e = .returned (.int .i64 n) ∧ Rh w' g s2.l s2.lg s2.sq s2.nx ∧ Fr w w' (fun k => k = g) := by
  refine (RDo w g s hs hinv G AG cG C AC cC lg sq hG hcG hC hcC hlG hlC).mono ?_
  rintro e w' ⟨rfl, h3, h4⟩
  rw [h2] at h3
  exact ⟨by rw [hn], h3, h4⟩
/-- A row that is handed back. -/
structure RowC (w w' : World) (v : Value) (p : List S46) : Prop where
  out : ∃ (A : Option Addr) (c : Nat), v = .slice A p.length c ∧ p.length ≤ c ∧ Kd.C k46 w' A p.length p ∧ Below w.heap.size w w'
theorem rowC {w w' : World} {v : Value} {p : List S46} {base : Nat} {ok : Nat → Prop} (hr : Kd.R k46 46 w' base ok v p) (hb : Below w.heap.size w w') : RowC w w' v p := by
  obtain ⟨A, c, rfl, h5, h6⟩ := Kd.R_reads hr
  exact ⟨A, c, rfl, h5, h6, hb⟩
theorem pick_lenX (l : List S46) : (pickL l).length ≤ 2 * l.length := by
  unfold pickL
  split
  · simp
  · rw [List.length_append]
    have h1 := tier_len l 0
    have h2 := List.length_filter_le (reB (loP l) (hiP l)) (tierL l 1)
    have h3 := tier_len l 1
    omega
set_option maxHeartbeats 8000000 in
set_option maxRecDepth 100000 in
theorem LTells (w : World) (A0 : Option Addr) (c0 : Nat) (l : List S34) (key from_ to_ : ByteArray) (hr0 : Kd.C k34 w A0 l.length l) (hc0 : l.length ≤ c0) (hl0 : l.length ≤ 9223372036854775807) :
    Calls Try.prog 3 #[.slice A0 l.length c0, .string key, .string from_, .string to_] w fun e w' => e = .returned (.bool true) ∧ Below w.heap.size w w' := by
  obtain ⟨K, hK⟩ := few_ev l hl0
  have HF := Aside0.mk (hK K (Nat.le_refl _))
  have HR := Aside0.mk hr0
  have HC := Aside0.mk hc0
  have HB := Aside0.mk (Below.refl w.heap.size w)
  clear hK hr0 hc0 hl0
  go_enter Try.func3, Try.ntmps3
  go_upto_region 3 with (go_at_call 6; refine (SKnown _).mono ?_; rintro e w1 ⟨rfl, hb⟩; have n0_ := Aside0.mk (below_step HB.out hb); clear HB hb; have HB := n0_; clear n0_)
  cases hf : fewB l with
  | false =>
    rw [hf] at HF
    go_wp2_with (go_at_call 7; go_loud (with_reducible refine (ravelinlaw14_few.calls K _ _ l false _ (Kd.C_below HR.out HB.out) HC.out HF.out).mono ?_; rintro e w2 ⟨rfl, hd⟩; have n0_ := Aside0.mk (below_step HB.out hd.below); clear HB hd; have HB := n0_; clear n0_))
    go_ret
    exact ⟨rfl, HB.out⟩
  | true =>
  rw [hf] at HF
  have HFW := Aside0.mk hf
  have HLN := Aside0.mk (few_len hf)
  clear hf
  by_cases hk1 : 20 < key.size
  · have hd1 : decide (20 < key.size) = true := decide_eq_true hk1
    have hd2 : decide ((20 : Int) < (key.size : Int)) = true := decide_eq_true (by omega)
    go_wp2_with (go_at_call 7; go_loud (with_reducible refine (ravelinlaw14_few.calls K _ _ l true _ (Kd.C_below HR.out HB.out) HC.out HF.out).mono ?_; rintro e w2 ⟨rfl, hd⟩; have n0_ := Aside0.mk (below_step HB.out hd.below); clear HB hd; have HB := n0_; clear n0_))
    go_ret
    exact ⟨rfl, HB.out⟩
  have hd1 : decide (20 < key.size) = false := decide_eq_false hk1
  have hd2 : decide ((20 : Int) < (key.size : Int)) = false := decide_eq_false (by omega)
  by_cases hk2 : 20 < from_.size
  · have hd3 : decide (20 < from_.size) = true := decide_eq_true hk2
    have hd4 : decide ((20 : Int) < (from_.size : Int)) = true := decide_eq_true (by omega)
    go_wp2_with (go_at_call 7; go_loud (with_reducible refine (ravelinlaw14_few.calls K _ _ l true _ (Kd.C_below HR.out HB.out) HC.out HF.out).mono ?_; rintro e w2 ⟨rfl, hd⟩; have n0_ := Aside0.mk (below_step HB.out hd.below); clear HB hd; have HB := n0_; clear n0_))
    go_ret
    exact ⟨rfl, HB.out⟩
  have hd3 : decide (20 < from_.size) = false := decide_eq_false hk2
  have hd4 : decide ((20 : Int) < (from_.size : Int)) = false := decide_eq_false (by omega)
  by_cases hk3 : 20 < to_.size
  · have hd5 : decide (20 < to_.size) = true := decide_eq_true hk3
    have hd6 : decide ((20 : Int) < (to_.size : Int)) = true := decide_eq_true (by omega)
    go_wp2_with (go_at_call 7; go_loud (with_reducible refine (ravelinlaw14_few.calls K _ _ l true _ (Kd.C_below HR.out HB.out) HC.out HF.out).mono ?_; rintro e w2 ⟨rfl, hd⟩; have n0_ := Aside0.mk (below_step HB.out hd.below); clear HB hd; have HB := n0_; clear n0_))
    go_ret
    exact ⟨rfl, HB.out⟩
  have hd5 : decide (20 < to_.size) = false := decide_eq_false hk3
  have hd6 : decide ((20 : Int) < (to_.size : Int)) = false := decide_eq_false (by omega)
  clear hk1 hk2 hk3
  go_upto_region 6 with (first
    | (go_at_call 7; go_loud (with_reducible refine (ravelinlaw14_few.calls K _ _ l true _ (Kd.C_below HR.out HB.out) HC.out HF.out).mono ?_; rintro e w2 ⟨rfl, hd⟩; have n0_ := Aside0.mk (below_step HB.out hd.below); clear HB hd; have HB := n0_; clear n0_))
    | (go_at_call 8; go_loud (with_reducible refine (SNew _).mono ?_; rintro e w3 ⟨g, rfl, hs, hge, hb⟩; have HS := Aside0.mk hs; have HGE := Aside0.mk (Nat.le_trans (below_size HB.out) hge); have n0_ := Aside0.mk (below_step HB.out hb); clear HB hs hge hb; have HB := n0_; clear n0_))
    | (go_at_call 9; go_loud (with_reducible refine (RNew _).mono ?_; rintro e w4 ⟨g2, rfl, hs, hge, hb⟩; have HT := Aside0.mk hs; have HGE2 := Aside0.mk (Nat.le_trans (below_size HB.out) hge); have n0_ := Aside0.mk (below_step HB.out hb); have n1_ := Aside0.mk (HS.out.below hb); clear HB HS hs hge hb; have HB := n0_; have HS := n1_; clear n0_ n1_)))
  clear hd1 hd2 hd3 hd4 hd5 hd6
  go_wp2
  go_loopg [11] l.length (fun kq v11 w' => ∃ (i : Nat), v11 = .int .i64 (i : Int) ∧ Aside0 (kq + i = l.length) ∧ Aside0 (Sh w' g (runS new0 (l.take i)).l (runS new0 (l.take i)).lg (runS new0 (l.take i)).sq (runS new0 (l.take i)).nx) ∧ Aside0 (Rh w' g2 (runS new0 (l.take i)).l (runS new0 (l.take i)).lg (runS new0 (l.take i)).sq (runS new0 (l.take i)).nx) ∧ Aside0 (Below w.heap.size w w'))
  case atStart => exact ⟨0, rfl, ⟨by omega⟩, HS, HT, HB⟩
  clear HS HB HT
  obtain ⟨i, rfl, HQ, HS, HT, HB⟩ := hrel
  by_cases hlt : i < l.length
  · obtain ⟨k1, rfl⟩ : ∃ k1, gk = k1 + 1 := ⟨gk - 1, by have := HQ.out; omega⟩
    have hd0 : decide (i < l.length) = true := decide_eq_true hlt
    have hd1 : decide ((i : Int) < (l.length : Int)) = true := decide_eq_true (by omega)
    have p0 : 0 ≤ (i : Int) := by omega
    have q0 : (i : Int) < (l.length : Int) := by omega
    obtain ⟨ad, A4, c4, A5, c5, e_, hx0, hx1, hx2, hx3, h4, h5, h6, h7⟩ := at_T34 (Kd.C_below HR.out HB.out) (i : Int) p0 q0
    cases e_
    rw [Int.toNat_natCast, rdE l i hlt] at hx0 hx1 hx2 hx3
    rw [rdE l i hlt] at h4 h5 h6 h7
    have HL4 := Aside0.mk h4
    have HG4 := Aside0.mk h5
    have HL5 := Aside0.mk h6
    have HC5 := Aside0.mk h7
    clear h4 h5 h6 h7
    go_upto_region 10 with (go_at_call 10; go_loud (with_reducible refine (DoX wr g (runS new0 (l.take i)) HS.out (run_inv inv_newX _) l[i].f0 A4 c4 l[i].f1 A5 c5 l[i].f2 l[i].f3 HG4.out HL4.out HC5.out HL5.out (by have := (few_at HFW.out i hlt).1; omega) (by have := (few_at HFW.out i hlt).2; omega) _ _ rfl (run_take new0 l i hlt).symm).mono ?_; rintro e w5 ⟨rfl, hs, _, hf⟩; have n0_ := Aside0.mk (Fr.to_below HB.out hf (fun k hk => hk ▸ HGE.out)); have n1_ := Aside0.mk (HT.out.fr HS.out hf); clear HB HS HT hf HG4 HC5 HL4 HL5 hx0 hx1 hx2 hx3; have HS := Aside0.mk hs; have HB := n0_; have HT := n1_; clear hs n0_ n1_))
    obtain ⟨ad3, A4', c4', A5', c5', e_, hx0, hx1, hx2, hx3, h4, h5, h6, h7⟩ := at_T34 (Kd.C_below HR.out HB.out) (i : Int) p0 q0
    cases e_
    rw [Int.toNat_natCast, rdE l i hlt] at hx0 hx1 hx2 hx3
    rw [rdE l i hlt] at h4 h5 h6 h7
    have HL4 := Aside0.mk h4
    have HG4 := Aside0.mk h5
    have HL5 := Aside0.mk h6
    have HC5 := Aside0.mk h7
    clear h4 h5 h6 h7
    go_wp2_with (go_at_call 11; go_loud (with_reducible refine (RDoX w5 g2 (runS new0 (l.take i)) HT.out (run_inv inv_newX _) l[i].f0 A4' c4' l[i].f1 A5' c5' l[i].f2 l[i].f3 HG4.out HL4.out HC5.out HL5.out (by have := (few_at HFW.out i hlt).1; omega) (by have := (few_at HFW.out i hlt).2; omega) _ _ rfl (run_take new0 l i hlt).symm).mono ?_; rintro e w6 ⟨rfl, hs, hf⟩; have n0_ := Aside0.mk (Fr.to_below HB.out hf (fun k hk => hk ▸ HGE2.out)); have n1_ := Aside0.mk (HS.out.frR HT.out hf); clear HB HS HT hf HG4 HC5 HL4 HL5 hx0 hx1 hx2 hx3; have HT := Aside0.mk hs; have HB := n0_; have HS := n1_; clear hs n0_ n1_))
    go_roundg k1
    case measure => have := HQ.out; omega
    case rel => exact ⟨i + 1, by have h2_ := HLN.out; simp; unfold wrap64; omega, ⟨by have := HQ.out; omega⟩, HS, HT, HB⟩
  have hd0 : decide (i < l.length) = false := decide_eq_false hlt
  have hd1 : decide ((i : Int) < (l.length : Int)) = false := decide_eq_false (by omega)
  obtain ⟨s, hs⟩ : ∃ s, s = runS new0 l := ⟨_, rfl⟩
  have HI := Aside0.mk (show InvS s by rw [hs]; exact run_inv inv_newX l)
  have n0_ := Aside0.mk (show Sh wr g s.l s.lg s.sq s.nx by have h_ := HS.out; rw [List.take_of_length_le (by omega), ← hs] at h_; exact h_)
  have n1_ := Aside0.mk (show Rh wr g2 s.l s.lg s.sq s.nx by have h_ := HT.out; rw [List.take_of_length_le (by omega), ← hs] at h_; exact h_)
  clear HS HT hs
  have HS := n0_
  have HT := n1_
  clear n0_ n1_
  have HSL := Aside0.mk (show s.l.length ≤ 1000000 by have := HI.out.len; omega)
  obtain ⟨pb, hpb⟩ : ∃ pb, pb = pickB s.l := ⟨_, rfl⟩
  obtain ⟨p, hp⟩ : ∃ p, p = pickL s.l := ⟨_, rfl⟩
  have HPB := Aside0.mk hpb
  have HPL := Aside0.mk hp
  have hbb : (pb == pb) = true := by simp
  have HPN := Aside0.mk (show p.length ≤ 1000000 by rw [hp]; exact Nat.le_trans (pick_lenX _) (by have := HI.out.len; omega))
  clear hpb hp
  obtain ⟨Ks, hKs⟩ := same_ev p HPN.out
  have HE1 := Aside0.mk (hKs Ks (Nat.le_refl _))
  clear hKs
  obtain ⟨p2, hp2⟩ : ∃ p2, p2 = s.l.filter (cvB key) := ⟨_, rfl⟩
  have HPL2 := Aside0.mk hp2
  obtain ⟨Ks2, hKs⟩ := same_ev p2 (by rw [hp2]; exact Nat.le_trans (List.length_filter_le _ _) HSL.out)
  have HE2 := Aside0.mk (hKs Ks2 (Nat.le_refl _))
  clear hKs
  obtain ⟨p3, hp3⟩ : ∃ p3, p3 = s.l.filter (bwB from_ to_) := ⟨_, rfl⟩
  have HPL3 := Aside0.mk hp3
  obtain ⟨Ks3, hKs⟩ := same_ev p3 (by rw [hp3]; exact Nat.le_trans (List.length_filter_le _ _) HSL.out)
  have HE3 := Aside0.mk (hKs Ks3 (Nat.le_refl _))
  clear hKs hp2 hp3
  go_upto_region 13 with (first | (go_at_call 12; go_loud (with_reducible refine (SPick _ g s.l s.lg s.sq s.nx HS.out HSL.out).mono ?_; rintro e w7 ⟨v_, rfl, hr, hb⟩; rw [← HPB.out]; rw [← HPL.out] at hr; obtain ⟨A7, c7, e_, h5, h6⟩ := Kd.R_reads hr; subst e_; have n0_ := Aside0.mk (HS.out.below hb); have n1_ := Aside0.mk (HT.out.below hb); have n2_ := Aside0.mk (below_step HB.out hb); clear HS HT HB hb; have HS := n0_; have HT := n1_; have HB := n2_; clear n0_ n1_ n2_; have HC7 := Aside0.mk h5; have HR7 := Aside0.mk h6; clear h5 h6 hr)) | (go_at_call 13; go_loud (with_reducible refine (RPick _ g2 s.l s.lg s.sq s.nx HT.out HSL.out).mono ?_; rintro e w8 ⟨v_, rfl, hr, hb⟩; rw [← HPB.out]; rw [← HPL.out] at hr; obtain ⟨A8, c8, e_, h5, h6⟩ := Kd.R_reads hr; subst e_; have n0_ := Aside0.mk (HS.out.below hb); have n1_ := Aside0.mk (HT.out.below hb); have n2_ := Aside0.mk (below_step HB.out hb); have n3_ := Aside0.mk (Kd.C_below HR7.out hb); clear HS HT HB HR7 hb; have HS := n0_; have HT := n1_; have HB := n2_; have HR7 := n3_; clear n0_ n1_ n2_ n3_; have HC8 := Aside0.mk h5; have HR8 := Aside0.mk h6; clear h5 h6 hr)))
  go_wp2_with (first | (go_at_call 14; with_reducible refine (ravelinref9_Same.calls Ks A7 c7 p A8 c8 p true _ HR7.out HC7.out HR8.out HC8.out HE1.out).mono ?_; rintro e w9 ⟨rfl, hd⟩; have hb := hd.below; clear hd; have n0_ := Aside0.mk (HS.out.below hb); have n1_ := Aside0.mk (HT.out.below hb); have n2_ := Aside0.mk (below_step HB.out hb); clear HS HT HB hb; have HS := n0_; have HT := n1_; have HB := n2_; clear n0_ n1_ n2_) | (go_at_call 15; go_loud (with_reducible refine (SCover _ g s.l s.lg s.sq s.nx key HS.out HSL.out).mono ?_; rintro e wA ⟨v_, rfl, hr, hb⟩; rw [← HPL2.out] at hr; obtain ⟨AA, cA, e_, h5, h6⟩ := Kd.R_reads hr; subst e_; have n0_ := Aside0.mk (HS.out.below hb); have n1_ := Aside0.mk (HT.out.below hb); have n2_ := Aside0.mk (below_step HB.out hb); clear HS HT HB hb; have HS := n0_; have HT := n1_; have HB := n2_; clear n0_ n1_ n2_; have HCA := Aside0.mk h5; have HRA := Aside0.mk h6; clear h5 h6 hr)) | (go_at_call 16; (with_reducible refine (ROne _ g2 s.l s.lg s.sq s.nx key _ HT.out HSL.out).mono ?_; rintro e wB ⟨v_, rfl, hr, hb⟩; rw [← HPL2.out] at hr; obtain ⟨AB, cB, e_, h5, h6⟩ := Kd.R_reads hr; subst e_; have n0_ := Aside0.mk (HS.out.below hb); have n1_ := Aside0.mk (HT.out.below hb); have n2_ := Aside0.mk (below_step HB.out hb); have n3_ := Aside0.mk (Kd.C_below HRA.out hb); clear HS HT HB HRA hb; have HS := n0_; have HT := n1_; have HB := n2_; have HRA := n3_; clear n0_ n1_ n2_ n3_; have HCB := Aside0.mk h5; have HRB := Aside0.mk h6; clear h5 h6 hr)) | (go_at_call 14; with_reducible refine (ravelinref9_Same.calls Ks2 AA cA p2 AB cB p2 true _ HRA.out HCA.out HRB.out HCB.out HE2.out).mono ?_; rintro e wC ⟨rfl, hd⟩; have hb := hd.below; clear hd; have n0_ := Aside0.mk (HS.out.below hb); have n1_ := Aside0.mk (HT.out.below hb); have n2_ := Aside0.mk (below_step HB.out hb); clear HS HT HB hb; have HS := n0_; have HT := n1_; have HB := n2_; clear n0_ n1_ n2_) | (go_at_call 17; go_loud (with_reducible refine (SBetween _ g s.l s.lg s.sq s.nx from_ to_ HS.out HSL.out).mono ?_; rintro e wD ⟨v_, rfl, hr, hb⟩; rw [← HPL3.out] at hr; obtain ⟨AD, cD, e_, h5, h6⟩ := Kd.R_reads hr; subst e_; have n0_ := Aside0.mk (HS.out.below hb); have n1_ := Aside0.mk (HT.out.below hb); have n2_ := Aside0.mk (below_step HB.out hb); clear HS HT HB hb; have HS := n0_; have HT := n1_; have HB := n2_; clear n0_ n1_ n2_; have HCD := Aside0.mk h5; have HRD := Aside0.mk h6; clear h5 h6 hr)) | (go_at_call 16; (with_reducible refine (RBetween _ g2 s.l s.lg s.sq s.nx from_ to_ HT.out HSL.out).mono ?_; rintro e wE ⟨v_, rfl, hr, hb⟩; rw [← HPL3.out] at hr; obtain ⟨AE, cE, e_, h5, h6⟩ := Kd.R_reads hr; subst e_; have n0_ := Aside0.mk (HS.out.below hb); have n1_ := Aside0.mk (HT.out.below hb); have n2_ := Aside0.mk (below_step HB.out hb); have n3_ := Aside0.mk (Kd.C_below HRD.out hb); clear HS HT HB HRD hb; have HS := n0_; have HT := n1_; have HB := n2_; have HRD := n3_; clear n0_ n1_ n2_ n3_; have HCE := Aside0.mk h5; have HRE := Aside0.mk h6; clear h5 h6 hr)) | (go_at_call 14; with_reducible refine (ravelinref9_Same.calls Ks3 AD cD p3 AE cE p3 true _ HRD.out HCD.out HRE.out HCE.out HE3.out).mono ?_; rintro e wF ⟨rfl, hd⟩; have hb := hd.below; clear hd; have n0_ := Aside0.mk (HS.out.below hb); have n1_ := Aside0.mk (HT.out.below hb); have n2_ := Aside0.mk (below_step HB.out hb); clear HS HT HB hb; have HS := n0_; have HT := n1_; have HB := n2_; clear n0_ n1_ n2_))
  go_ret
  exact ⟨rfl, HB.out⟩
end Go.Proofs.Ytfpnllajpnnfdaa.Q
