import Derived.Test.YtmbedgopceigaaaQTabN
import Derived.Test.YtmbedgopceigaaaM7
import Derived.Test.YtmbedgopceigaaaM0
import Derived.Test.YtmbedgopceigaaaQTabRs
namespace Go.Proofs.Ytmbedgopceigaaa.Q
open Go.RowKit Go.Lib Go.Proofs Go.Proofs.Ytmbedgopceigaaa.P Go.Proofs.YtmbedgopceigaaaW.PrintWords Go.Proofs.YtmbedgopceigaaaW.PrintLast Go.Proofs.YtmbedgopceigaaaW.PrintMore
set_option linter.unusedVariables false
set_option linter.unusedSimpArgs false
attribute [local go_sem high] string_leq string_geq string_gtr
/-! ravelinlaw13.SheetRules -/
theorem nx_le {s : St} {G : List Int} {C : List S32} {lg sq : Int} (h : doE s G C lg sq = 0) : s.nx ≤ nxS s.nx C := by
  obtain ⟨hf, _, hl, _, _⟩ := doE_late h
  have he := late_early hl
  unfold formedB at hf
  rw [Bool.and_eq_true] at hf
  obtain ⟨_, hp⟩ := ris_iff hf.1
  unfold nxS
  cases hq : C.getLast? with
  | none => exact Int.le_refl _
  | some c =>
    show s.nx ≤ c.f0 + 1
    have hm := List.mem_of_getLast? hq
    cases C with
    | nil => cases hq
    | cons d r =>
      have h1 := of_decide_eq_false he
      rcases List.mem_cons.1 hm with e | hm
      · rw [e]; omega
      · have := (List.pairwise_cons.1 hp).1 c hm
        omega
theorem do_mono (s : St) (G : List Int) (C : List S32) (lg sq : Int) : s.lg ≤ (doS s G C lg sq).lg ∧ s.sq ≤ (doS s G C lg sq).sq ∧ s.nx ≤ (doS s G C lg sq).nx := by
  unfold doS
  by_cases h : doE s G C lg sq = 0
  · rw [if_pos h]
    refine ⟨?_, ?_, nx_le h⟩
    · show s.lg ≤ maxI s.lg lg; unfold maxI; split <;> omega
    · show s.sq ≤ maxI s.sq sq; unfold maxI; split <;> omega
  · rw [if_neg h]; exact ⟨Int.le_refl _, Int.le_refl _, Int.le_refl _⟩
theorem do_same {s : St} {G : List Int} {C : List S32} {lg sq : Int} (h : doE s G C lg sq ≠ 0) : doS s G C lg sq = s := by unfold doS; rw [if_neg h]
theorem tier_sep {a b : S32} (ha : a.f1 = 1) (hb : b.f1 = 1) (hi : isT b = true) (hl : ltT b a = false) (hm : meetT b a = false) : Op.bytesLess a.f3.data.toList b.f2.data.toList = true := by
  unfold ltT at hl
  rw [if_pos (by rw [ha, hb]), if_neg (by rw [hb]; decide)] at hl
  unfold meetT at hm
  rw [decide_eq_false (by rw [hb]; decide), decide_eq_false (by rw [ha]; decide)] at hm
  have h1 := (isT_iff.1 hi).2.2.2.2.1
  cases hab : Op.bytesLess a.f3.data.toList b.f2.data.toList with
  | true => rfl
  | false =>
    rw [hab] at hm
    have h2 : Op.bytesLess b.f3.data.toList a.f2.data.toList = true := by
      cases h3 : Op.bytesLess b.f3.data.toList a.f2.data.toList with
      | true => rfl
      | false => rw [h3] at hm; cases hm
    rcases not_lt h1 with e | h3
    · rw [e, hl] at h2; cases h2
    · have h4 := lt_trans h3 h2
      rw [hl] at h4; cases h4
theorem tier_pw {s : St} (h : InvS s) : (tierL s.l 1).Pairwise (fun a b => Op.bytesLess a.f3.data.toList b.f2.data.toList = true) := by
  have h1 : (tierL s.l 1).Pairwise (fun a b => meetT b a = false ∧ ltT b a = false) := by
    unfold tierL
    exact List.Pairwise.filter _ (h.apart.imp₂ (fun a b x y => ⟨x, y⟩) h.sorted)
  refine List.Pairwise.imp_of_mem ?_ h1
  intro a b ha hb hab
  unfold tierL at ha hb
  have a1 := (List.mem_filter.1 ha).2
  have b1 := List.mem_filter.1 hb
  exact tier_sep (beq_iff_eq.1 a1) (beq_iff_eq.1 b1.2) (h.is b b1.1).1 hab.2 hab.1
theorem tier_count {s : St} (h : InvS s) : (tierL s.l 0).length + (tierL s.l 1).length = s.l.length := by
  have key : ∀ l : List S32, (∀ t ∈ l, t.f1 = 0 ∨ t.f1 = 1) → (tierL l 0).length + (tierL l 1).length = l.length := by
    intro l
    induction l with
    | nil => intro _; rfl
    | cons t r ih =>
      intro hh
      have i2 := ih (fun x hx => hh x (by simp [hx]))
      unfold tierL at i2 ⊢
      rcases hh t (by simp) with h0 | h0
      · rw [List.filter_cons, if_pos (by rw [h0]; rfl), List.filter_cons, if_neg (by rw [h0]; decide), List.length_cons, List.length_cons]; omega
      · rw [List.filter_cons, if_neg (by rw [h0]; decide), List.filter_cons, if_pos (by rw [h0]; rfl), List.length_cons, List.length_cons]; omega
  exact key s.l (fun t ht => (isT_iff.1 (h.is t ht).1).2.1)
theorem SameN (w : World) (K : Nat) (A0 : Option Addr) (c0 : Nat) (A1 : Option Addr) (c1 : Nat) (l : List S32) (n : Nat) (hn : l.length = n) {b0 b1 : Nat} {o0 o1 : Nat → Prop} (h0 : Kd.R k32 32 w b0 o0 (.slice A0 n c0) l) (hc0 : n ≤ c0) (h1 : Kd.R k32 32 w b1 o1 (.slice A1 n c1) l) (hc1 : n ≤ c1) (h : ravelinref9_Same.f K l l = some true) :
    Calls Try.prog 23 #[.slice A0 n c0, .slice A1 n c1] w fun e w' => e = .returned (.bool true) ∧ Below w.heap.size w w' := by
  subst hn
  refine (ravelinref9_Same.calls K A0 c0 l A1 c1 l true w (Kd.R_reads' h0).2.2 hc0 (Kd.R_reads' h1).2.2 hc1 h).mono ?_
  rintro e w' ⟨rfl, hd⟩
  exact ⟨rfl, hd.below⟩
set_option maxHeartbeats 8000000 in
set_option maxRecDepth 100000 in
theorem LRules (w : World) (A0 : Option Addr) (c0 : Nat) (l : List S36) (hr0 : Kd.C k36 w A0 l.length l) (hc0 : l.length ≤ c0) (hl0 : l.length ≤ 9223372036854775807) :
    Calls Try.prog 5 #[.slice A0 l.length c0] w fun e w' => e = .returned (.bool true) ∧ Below w.heap.size w w' := by
  obtain ⟨K, hK⟩ := few_ev l hl0
  have HF := Aside0.mk (hK K (Nat.le_refl _))
  have HR := Aside0.mk hr0
  have HC := Aside0.mk hc0
  have HB := Aside0.mk (Below.refl w.heap.size w)
  clear hK hr0 hc0 hl0
  go_enter Try.func5, Try.ntmps5
  go_upto_region 3 with (go_at_call 8; refine (SKnown _).mono ?_; rintro e w1 ⟨rfl, hb⟩; have n0_ := Aside0.mk (below_step HB.out hb); clear HB hb; have HB := n0_; clear n0_)
  cases hf : fewB l with
  | false =>
    rw [hf] at HF
    go_wp2_with (go_at_call 9; go_loud (with_reducible refine (ravelinlaw13_few.calls K _ _ l false _ (Kd.C_below HR.out HB.out) HC.out HF.out).mono ?_; rintro e w2 ⟨rfl, hd⟩; have n0_ := Aside0.mk (below_step HB.out hd.below); clear HB hd; have HB := n0_; clear n0_))
    go_ret
    exact ⟨rfl, HB.out⟩
  | true =>
  rw [hf] at HF
  have HFW := Aside0.mk hf
  have HLN := Aside0.mk (few_len hf)
  clear hf
  go_wp2_with (first | (go_at_call 9; go_loud (with_reducible refine (ravelinlaw13_few.calls K _ _ l true _ (Kd.C_below HR.out HB.out) HC.out HF.out).mono ?_; rintro e w2 ⟨rfl, hd⟩; have n0_ := Aside0.mk (below_step HB.out hd.below); clear HB hd; have HB := n0_; clear n0_)) | (go_at_call 10; go_loud (with_reducible refine (SNew0 _).mono ?_; rintro e w3 ⟨g, rfl, hs, hge, hb⟩; have HS := Aside0.mk hs; have HGE := Aside0.mk (Nat.le_trans (below_size HB.out) hge); have n0_ := Aside0.mk (below_step HB.out hb); clear HB hs hge hb; have HB := n0_; clear n0_)))
  go_loopg [4] l.length (fun kq v4 w' => ∃ (i : Nat), v4 = .int .i64 (i : Int) ∧ Aside0 (kq + i = l.length) ∧ Aside0 (Sh w' g (runS new0 (l.take i)).l (runS new0 (l.take i)).lg (runS new0 (l.take i)).sq (runS new0 (l.take i)).nx) ∧ Aside0 (Below w.heap.size w w'))
  case atStart => exact ⟨0, rfl, ⟨by omega⟩, HS, HB⟩
  clear HS HB
  obtain ⟨i, rfl, HQ, HS, HB⟩ := hrel
  by_cases hlt : i < l.length
  · obtain ⟨k1, rfl⟩ : ∃ k1, gk = k1 + 1 := ⟨gk - 1, by have := HQ.out; omega⟩
    have hd0 : decide (i < l.length) = true := decide_eq_true hlt
    have hd1 : decide ((i : Int) < (l.length : Int)) = true := decide_eq_true (by omega)
    have p0 : 0 ≤ (i : Int) := by omega
    have q0 : (i : Int) < (l.length : Int) := by omega
    have HI := Aside0.mk (run_inv kInv0 (l.take i))
    have HT := Aside0.mk (run_take new0 l i hlt)
    generalize runS new0 (l.take i) = s at HS HI HT
    obtain ⟨n, hn⟩ : ∃ n, n = s.l.length := ⟨_, rfl⟩
    have HNL := Aside0.mk hn.symm
    have HN40 := Aside0.mk (show n ≤ 40 by rw [hn]; exact HI.out.len)
    clear hn
    go_upto_region 10 with (first | (go_at_call 19; with_reducible refine (SLog _ g s.l s.lg s.sq s.nx HS.out).mono ?_; rintro e_ wa ⟨rfl, hb⟩; have nHS_ := Aside0.mk (HS.out.below hb); have nHB_ := Aside0.mk (below_step HB.out hb); clear HS HB hb; have HS := nHS_; have HB := nHB_; clear nHS_ nHB_) | (go_at_call 20; with_reducible refine (SSeq _ g s.l s.lg s.sq s.nx HS.out).mono ?_; rintro e_ wa ⟨rfl, hb⟩; have nHS_ := Aside0.mk (HS.out.below hb); have nHB_ := Aside0.mk (below_step HB.out hb); clear HS HB hb; have HS := nHS_; have HB := nHB_; clear nHS_ nHB_) | (go_at_call 21; with_reducible refine (SNext _ g s.l s.lg s.sq s.nx HS.out).mono ?_; rintro e_ wa ⟨rfl, hb⟩; have nHS_ := Aside0.mk (HS.out.below hb); have nHB_ := Aside0.mk (below_step HB.out hb); clear HS HB hb; have HS := nHS_; have HB := nHB_; clear nHS_ nHB_) | (go_at_call 22; with_reducible refine (TablesN _ g s.l s.lg s.sq s.nx n HS.out HNL.out (by have := HN40.out; omega)).mono ?_; rintro e_ wa ⟨AW, cW, rfl, hcw, hrw, hb⟩; have nHS_ := Aside0.mk (HS.out.below hb); have nHB_ := Aside0.mk (below_step HB.out hb); clear HS HB hb; have HS := nHS_; have HB := nHB_; clear nHS_ nHB_; have HW := Aside0.mk hrw; have HWC := Aside0.mk hcw; clear hrw hcw))
    obtain ⟨ad, A4, c4, A5, c5, e_, hx0, hx1, hx2, hx3, h4, h5, h6, h7⟩ := at_T36 (Kd.C_below HR.out HB.out) (i : Int) p0 q0
    cases e_
    rw [Int.toNat_natCast, rdE l i hlt] at hx0 hx1 hx2 hx3
    rw [rdE l i hlt] at h4 h5 h6 h7
    have HL4 := Aside0.mk h4
    have HG4 := Aside0.mk h5
    have HL5 := Aside0.mk h6
    have HC5 := Aside0.mk h7
    clear h4 h5 h6 h7
    have HM := Aside0.mk (do_mono s l[i].f0 l[i].f1 l[i].f2 l[i].f3)
    have HFA := Aside0.mk (few_at HFW.out i hlt)
    obtain ⟨er, her⟩ : ∃ er, er = doE s l[i].f0 l[i].f1 l[i].f2 l[i].f3 := ⟨_, rfl⟩
    have HER := Aside0.mk her.symm
    have HBS := Aside0.mk (show er ≠ 0 → doS s l[i].f0 l[i].f1 l[i].f2 l[i].f3 = s from fun h => do_same (her ▸ h))
    clear her
    rw [← HT.out] at HM HBS
    obtain ⟨s2, hs2⟩ : ∃ s2, s2 = runS new0 (l.take (i + 1)) := ⟨_, rfl⟩
    have HS2 := Aside0.mk hs2
    rw [← hs2] at HM HBS HT
    clear hs2
    go_upto_region 11 with (go_at_call 13; go_loud (with_reducible refine (DoX _ g s HS.out HI.out l[i].f0 A4 c4 l[i].f1 A5 c5 l[i].f2 l[i].f3 HG4.out HL4.out HC5.out HL5.out (by have := HFA.out.1; omega) (by have := HFA.out.2; omega) er s2 HER.out HT.out.symm).mono ?_; rintro e_ wd ⟨rfl, hs, hi, hf⟩; have nHB_ := Aside0.mk (Fr.to_below HB.out hf (fun k hk => by rw [hk]; exact HGE.out)); have nHW_ := Aside0.mk (row_frS HW.out HS.out hf); clear HS HB HW; have HB := nHB_; have HW := nHW_; have HS := Aside0.mk hs; clear hs hi hf nHB_ nHW_; clear HG4 HL4 HC5 HL5 hx0 hx1 hx2 hx3))
    (try simp only [Act.put, lists_])
    go_cut [82] (fun v82 wc => v82 = .bool false ∧ Aside0 (Sh wc g s2.l s2.lg s2.sq s2.nx) ∧ Aside0 (Below w.heap.size w wc))
    case first =>
      by_cases he : er = 0
      · have hn1 : (er != 0) = false := by rw [he]; rfl
        have hn2 : (er == 0) = true := by rw [he]; rfl
        have d1 : decide (s2.lg < s.lg) = false := decide_eq_false (by have := HM.out; omega)
        have d2 : decide (s2.sq < s.sq) = false := decide_eq_false (by have := HM.out; omega)
        have d3 : decide (s2.nx < s.nx) = false := decide_eq_false (by have := HM.out; omega)
        clear he
        go_wp2_with (first | (go_at_call 19; with_reducible refine (SLog _ g s2.l s2.lg s2.sq s2.nx HS.out).mono ?_; rintro e_ wa ⟨rfl, hb⟩; have nHS_ := Aside0.mk (HS.out.below hb); have nHB_ := Aside0.mk (below_step HB.out hb); have nHW_ := Aside0.mk (Kd.R_below HW.out hb); clear HS HB HW hb; have HS := nHS_; have HB := nHB_; have HW := nHW_; clear nHS_ nHB_ nHW_) | (go_at_call 20; with_reducible refine (SSeq _ g s2.l s2.lg s2.sq s2.nx HS.out).mono ?_; rintro e_ wa ⟨rfl, hb⟩; have nHS_ := Aside0.mk (HS.out.below hb); have nHB_ := Aside0.mk (below_step HB.out hb); have nHW_ := Aside0.mk (Kd.R_below HW.out hb); clear HS HB HW hb; have HS := nHS_; have HB := nHB_; have HW := nHW_; clear nHS_ nHB_ nHW_) | (go_at_call 21; with_reducible refine (SNext _ g s2.l s2.lg s2.sq s2.nx HS.out).mono ?_; rintro e_ wa ⟨rfl, hb⟩; have nHS_ := Aside0.mk (HS.out.below hb); have nHB_ := Aside0.mk (below_step HB.out hb); have nHW_ := Aside0.mk (Kd.R_below HW.out hb); clear HS HB HW hb; have HS := nHS_; have HB := nHB_; have HW := nHW_; clear nHS_ nHB_ nHW_))
        go_meet
        case rel => exact ⟨rfl, HS, HB⟩
      · have hn1 : (er != 0) = true := by rw [bne_iff_ne]; exact he
        have hn2 : (er == 0) = false := by rw [beq_eq_false_iff_ne]; exact he
        obtain rfl := HBS.out he
        obtain ⟨Ks, hKs⟩ := same_ev s2.l (by rw [HNL.out]; have := HN40.out; omega)
        have HSE := Aside0.mk (hKs Ks (Nat.le_refl _))
        clear hKs he
        go_wp2_with (first | (go_at_call 19; with_reducible refine (SLog _ g s2.l s2.lg s2.sq s2.nx HS.out).mono ?_; rintro e_ wa ⟨rfl, hb⟩; have nHS_ := Aside0.mk (HS.out.below hb); have nHB_ := Aside0.mk (below_step HB.out hb); have nHW_ := Aside0.mk (Kd.R_below HW.out hb); clear HS HB HW hb; have HS := nHS_; have HB := nHB_; have HW := nHW_; clear nHS_ nHB_ nHW_) | (go_at_call 20; with_reducible refine (SSeq _ g s2.l s2.lg s2.sq s2.nx HS.out).mono ?_; rintro e_ wa ⟨rfl, hb⟩; have nHS_ := Aside0.mk (HS.out.below hb); have nHB_ := Aside0.mk (below_step HB.out hb); have nHW_ := Aside0.mk (Kd.R_below HW.out hb); clear HS HB HW hb; have HS := nHS_; have HB := nHB_; have HW := nHW_; clear nHS_ nHB_ nHW_) | (go_at_call 21; with_reducible refine (SNext _ g s2.l s2.lg s2.sq s2.nx HS.out).mono ?_; rintro e_ wa ⟨rfl, hb⟩; have nHS_ := Aside0.mk (HS.out.below hb); have nHB_ := Aside0.mk (below_step HB.out hb); have nHW_ := Aside0.mk (Kd.R_below HW.out hb); clear HS HB HW hb; have HS := nHS_; have HB := nHB_; have HW := nHW_; clear nHS_ nHB_ nHW_) | (go_at_call 22; with_reducible refine (TablesN _ g s2.l s2.lg s2.sq s2.nx n HS.out HNL.out (by have := HN40.out; omega)).mono ?_; rintro e_ wa ⟨AW2, cW2, rfl, hcw, hrw, hb⟩; have nHS_ := Aside0.mk (HS.out.below hb); have nHB_ := Aside0.mk (below_step HB.out hb); have nHW_ := Aside0.mk (Kd.R_below HW.out hb); clear HS HB HW hb; have HS := nHS_; have HB := nHB_; have HW := nHW_; clear nHS_ nHB_ nHW_; have HW2 := Aside0.mk hrw; have HWC2 := Aside0.mk hcw; clear hrw hcw) | (go_at_call 23; with_reducible refine (SameN _ Ks AW2 cW2 AW cW s2.l n HNL.out HW2.out HWC2.out HW.out HWC.out HSE.out).mono ?_; rintro e_ ws ⟨rfl, hb⟩; have nHS_ := Aside0.mk (HS.out.below hb); have nHB_ := Aside0.mk (below_step HB.out hb); have nHW_ := Aside0.mk (Kd.R_below HW.out hb); clear HS HB HW hb; have HS := nHS_; have HB := nHB_; have HW := nHW_; clear nHS_ nHB_ nHW_))
        go_meet
        case rel => exact ⟨rfl, HS, HB⟩
    clear HS HB HW HWC
    obtain ⟨rfl, HS, HB⟩ := hcut
    have n0_ := Aside0.mk (show InvS s2 by rw [HT.out]; exact doS_inv HI.out _ _ _ _)
    clear HI HNL HN40 HM HBS
    have HI := n0_
    clear n0_
    have HPW := Aside0.mk (tier_pw HI.out)
    have HTC := Aside0.mk (tier_count HI.out)
    obtain ⟨one, hone⟩ : ∃ one, one = tierL s2.l 1 := ⟨_, rfl⟩
    have HONE := Aside0.mk hone.symm
    rw [← hone] at HPW HTC
    obtain ⟨n1, hn1⟩ : ∃ n1, n1 = one.length := ⟨_, rfl⟩
    have HN1 := Aside0.mk hn1.symm
    obtain ⟨n0, hn0⟩ : ∃ n0, n0 = (tierL s2.l 0).length := ⟨_, rfl⟩
    have HN0 := Aside0.mk hn0.symm
    obtain ⟨n2, hn2⟩ : ∃ n2, n2 = s2.l.length := ⟨_, rfl⟩
    have HN2 := Aside0.mk hn2.symm
    have HSUM := Aside0.mk (show n0 + n1 = n2 ∧ n2 ≤ 40 by rw [hn0, hn1, hn2]; exact ⟨HTC.out, HI.out.len⟩)
    clear hone hn1 hn0 hn2
    go_upto_region 14 with (go_at_call 24; go_loud (with_reducible refine (TierN _ g s2.l s2.lg s2.sq s2.nx 1 n1 HS.out (by rw [HN2.out]; have := HSUM.out; omega) (by rw [HONE.out, HN1.out])).mono ?_; rintro e_ wt ⟨A1, c1, rfl, _, ho1, hb⟩; rw [HONE.out] at ho1; have nHS_ := Aside0.mk (HS.out.below hb); have nHB_ := Aside0.mk (below_step HB.out hb); clear HS HB hb; have HS := nHS_; have HB := nHB_; clear nHS_ nHB_; have HO1 := Aside0.mk (Kd.R_lower ho1 (Nat.zero_le _)); clear ho1))
    go_wp2
    go_loopg [11] (n1 + 1) (fun kq v11 w' => ∃ (j : Nat), v11 = .int .i64 ((j + 1 : Nat) : Int) ∧ Aside0 (kq + j = n1 + 1) ∧ Aside0 (Kd.R k32 32 w' 0 (fun _ => True) (.slice A1 n1 c1) one) ∧ Aside0 (Sh w' g s2.l s2.lg s2.sq s2.nx) ∧ Aside0 (Below w.heap.size w w'))
    case atStart => exact ⟨0, rfl, ⟨by omega⟩, HO1, HS, HB⟩
    clear HO1 HS HB
    obtain ⟨j, rfl, HQ2, HO1, HS, HB⟩ := hrel
    by_cases hltj : j + 1 < n1
    · obtain ⟨k2, rfl⟩ : ∃ k2, gk = k2 + 1 := ⟨gk - 1, by have := HQ2.out; omega⟩
      have hd2 : decide (j + 1 < n1) = true := decide_eq_true hltj
      have hd3 : decide (((j + 1 : Nat) : Int) < (n1 : Int)) = true := decide_eq_true (by omega)
      have hl1 := HN1.out
      have HR1 := Aside0.mk (show Kd.C k32 wr A1 n1 one by have h_ := (Kd.R_reads' (show Kd.R k32 32 wr 0 (fun _ => True) (.slice A1 one.length c1) one by rw [hl1]; exact HO1.out)).2.2; rwa [hl1] at h_)
      have hj1 : j < one.length := by omega
      have hj2 : j + 1 < one.length := by omega
      have hsep : Op.bytesLess (one[j]'hj1).f3.toList (one[j + 1]'hj2).f2.toList = true := by rw [toL, toL]; exact List.pairwise_iff_getElem.1 HPW.out j (j + 1) hj1 hj2 (by omega)
      obtain ⟨jv, hjv⟩ : ∃ jv : Int, jv = ((j + 1 : Nat) : Int) := ⟨_, rfl⟩
      have p2 : 0 ≤ (j : Int) := by omega
      have q2 : (j : Int) < (n1 : Int) := by omega
      have p3 : 0 ≤ jv := by omega
      have q3 : jv < (n1 : Int) := by omega
      obtain ⟨ad2, e_, _, _, _, hx3, _⟩ := at_T32 HR1.out (j : Int) p2 q2
      obtain ⟨ad3, e2_, _, _, hy2, _, _⟩ := at_T32 HR1.out jv p3 q3
      subst e_
      injection e2_ with e3_
      subst e3_
      rw [Int.toNat_natCast, rdT one j hj1] at hx3
      rw [show rd_T32 one jv = one[j + 1]'hj2 by rw [hjv]; exact rdT one (j + 1) hj2] at hy2
      rw [← hjv] at hd3 ⊢
      have hwj : wrap64 (jv - 1) = (j : Int) := by rw [w64 (by have := HSUM.out; omega)]; omega
      have HJV := Aside0.mk hjv
      clear hl1 hjv
      generalize (one[j]'hj1).f3 = fa at hx3 hsep
      generalize (one[j + 1]'hj2).f2 = fb at hy2 hsep
      go_wp2
      go_quiet (fail)
      have hjv := HJV.out
      subst hjv
      clear hwj
      go_wp2
      go_roundg k2
      case measure => have := HQ2.out; omega
      case rel => exact ⟨j + 1, by have h_ := HSUM.out; simp; unfold wrap64; omega, ⟨by have := HQ2.out; omega⟩, ⟨Kd.R_below HO1.out (pw_below_drewN (Below.refl _ wr) nq)⟩, ⟨HS.out.below (pw_below_drewN (Below.refl _ wr) nq)⟩, bs_ HB (pw_below_drewN (Below.refl _ wr) nq)⟩
    have hd2 : decide (j + 1 < n1) = false := decide_eq_false hltj
    have hd3 : decide (((j + 1 : Nat) : Int) < (n1 : Int)) = false := decide_eq_false (by omega)
    have hd4 : decide (40 < (n2 : Int)) = false := decide_eq_false (by have := HSUM.out; omega)
    have hd5 : decide (40 < n2) = false := decide_eq_false (by have := HSUM.out; omega)
    have hsum : wrap64 ((n0 : Int) + (n1 : Int)) = (n2 : Int) := by have := HSUM.out; rw [w64 (by omega)]; omega
    go_wp2_with (first | (go_at_call 22; with_reducible refine (TablesN _ g s2.l s2.lg s2.sq s2.nx n2 HS.out HN2.out (by have := HSUM.out; omega)).mono ?_; rintro e_ wa ⟨A_, c_, rfl, _, _, hb⟩; have nHS_ := Aside0.mk (HS.out.below hb); have nHB_ := Aside0.mk (below_step HB.out hb); clear HS HB hb; have HS := nHS_; have HB := nHB_; clear nHS_ nHB_) | (go_at_call 24; with_reducible refine (TierN _ g s2.l s2.lg s2.sq s2.nx 0 n0 HS.out (by rw [HN2.out]; have := HSUM.out; omega) HN0.out).mono ?_; rintro e_ wa ⟨A_, c_, rfl, _, _, hb⟩; have nHS_ := Aside0.mk (HS.out.below hb); have nHB_ := Aside0.mk (below_step HB.out hb); clear HS HB hb; have HS := nHS_; have HB := nHB_; clear nHS_ nHB_))
    clear hsum
    go_roundg k1
    case measure => have := HQ.out; omega
    case rel => exact ⟨i + 1, by have h2_ := HLN.out; simp; unfold wrap64; omega, ⟨by have := HQ.out; omega⟩, ⟨by rw [← HS2.out]; exact HS.out⟩, HB⟩
  have hd0 : decide (i < l.length) = false := decide_eq_false hlt
  have hd1 : decide ((i : Int) < (l.length : Int)) = false := decide_eq_false (by omega)
  go_wp2
  go_ret
  exact ⟨rfl, HB.out⟩
end Go.Proofs.Ytmbedgopceigaaa.Q
