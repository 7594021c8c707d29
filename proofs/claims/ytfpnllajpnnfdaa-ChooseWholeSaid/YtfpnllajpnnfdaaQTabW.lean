import Derived.Test.YtfpnllajpnnfdaaQTabK
import Derived.Test.YtfpnllajpnnfdaaQTabM
namespace Go.Proofs.Ytfpnllajpnnfdaa.Q
open Go.RowKit Go.Lib Go.Proofs Go.Proofs.Ytfpnllajpnnfdaa.P Go.Proofs.YtfpnllajpnnfdaaW.PrintWords Go.Proofs.YtfpnllajpnnfdaaW.PrintLast Go.Proofs.YtfpnllajpnnfdaaW.PrintMore
set_option linter.unusedVariables false
set_option linter.unusedSimpArgs false
attribute [local go_sem] max_two min_two
attribute [local go_sem high] string_leq string_geq string_gtr
/-! ravelinlaw14.ChooseWhole -/
theorem inv_new0 : InvS new0 := inv_new
theorem DoG (w : World) (g : Nat) (s : St) (hs : Sh w g s.l s.lg s.sq s.nx) (hinv : InvS s) (G : List Int) (AG : Option Addr) (cG : Nat) (hG : (Kd.int .i64).C w AG G.length G) (hcG : G.length ≤ cG) (hlG : G.length ≤ 1000000) (n : Int) (s2 : St) (hn : doE s G [] 0 0 = n) (h2 : doS s G [] 0 0 = s2) :
    Calls Try.prog 10 #[.pointer (some ⟨g, 0, none⟩), .agg #[.slice AG G.length cG, .slice none 0 0, .int .i64 0, .int .i64 0]] w fun e w' => e = .returned (.int .i64 n) ∧ Sh w' g s2.l s2.lg s2.sq s2.nx ∧ InvS s2 ∧ Fr w w' (fun k => k = g) :=
  DoX w g s hs hinv G AG cG [] none 0 0 0 hG hcG (Kd.C_nil _ _) (Nat.le_refl _) hlG (Nat.zero_le _) n s2 hn h2
theorem TierX (w : World) (g : Nat) (l : List S46) (lg sq nx tier : Int) (n : Nat) (h : Sh w g l lg sq nx) (hl : l.length ≤ 1000000) (hn : (tierL l tier).length = n) : Calls Try.prog 18 #[.pointer (some ⟨g, 0, none⟩), .int .i64 tier] w fun e w' => ∃ (A : Option Addr) (c : Nat), e = .returned (.slice A n c) ∧ Kd.C k46 w' A n (tierL l tier) ∧ Below w.heap.size w w' := by
  refine (STierL w g l lg sq nx tier h hl).mono ?_
  rintro e w' ⟨v, rfl, hr, hb2⟩
  obtain ⟨A, c, rfl, h5, h6⟩ := Kd.R_reads hr
  rw [hn] at h6
  exact ⟨A, c, by rw [hn], h6, hb2⟩
theorem TablesX (w : World) (g : Nat) (l : List S46) (lg sq nx : Int) (h : Sh w g l lg sq nx) (hl : l.length ≤ 1000000) : Calls Try.prog 19 #[.pointer (some ⟨g, 0, none⟩)] w fun e w' => ∃ (A : Option Addr) (c : Nat), e = .returned (.slice A l.length c) ∧ Kd.C k46 w' A l.length l ∧ Kd.R k46 46 w' w.heap.size (fun _ => True) (.slice A l.length c) l ∧ Below w.heap.size w w' := by
  refine (STables w g l lg sq nx h hl).mono ?_
  rintro e w' ⟨v, rfl, hr, hb2⟩
  obtain ⟨A, c, rfl, h5, h6⟩ := Kd.R_reads hr
  exact ⟨A, c, rfl, h6, hr, hb2⟩
set_option maxHeartbeats 8000000 in
set_option maxRecDepth 100000 in
theorem LWhole (w : World) (A0 : Option Addr) (c0 : Nat) (l : List S34) (hr0 : Kd.C k34 w A0 l.length l) (hc0 : l.length ≤ c0) (hl0 : l.length ≤ 9223372036854775807) :
    Calls Try.prog 4 #[.slice A0 l.length c0] w fun e w' => e = .returned (.bool true) ∧ Below w.heap.size w w' := by
  obtain ⟨K, hK⟩ := few_ev l hl0
  have HF := Aside0.mk (hK K (Nat.le_refl _))
  have HR := Aside0.mk hr0
  have HC := Aside0.mk hc0
  have HB := Aside0.mk (Below.refl w.heap.size w)
  clear hK hr0 hc0 hl0
  go_enter Try.func4, Try.ntmps4
  go_upto_region 3 with (go_at_call 6; refine (SKnown _).mono ?_; rintro e w1 ⟨rfl, hb⟩; have n0_ := Aside0.mk (below_step HB.out hb); clear HB hb; have HB := n0_; clear n0_)
  cases hf : fewB l with
  | false =>
    rw [hf] at HF
    go_wp2_with (go_at_call 7; go_loud (with_reducible refine (ravelinlaw14_few.calls K _ _ l false _ (Kd.C_below HR.out HB.out) HC.out HF.out).mono ?_; rintro e w2 ⟨rfl, hd⟩; have n0_ := Aside0.mk (below_step HB.out hd.below); clear HB hd; have HB := n0_; clear n0_))
    go_ret
    exact ⟨rfl, HB.out⟩
  | true =>
  rw [hf] at HF
  have HFW := Aside0.mk hf
  have HLN := Aside0.mk (few_len hf)
  clear hf
  go_wp2_with (first | (go_at_call 7; go_loud (with_reducible refine (ravelinlaw14_few.calls K _ _ l true _ (Kd.C_below HR.out HB.out) HC.out HF.out).mono ?_; rintro e w2 ⟨rfl, hd⟩; have n0_ := Aside0.mk (below_step HB.out hd.below); clear HB hd; have HB := n0_; clear n0_)) | (go_at_call 8; go_loud (with_reducible refine (SNew _).mono ?_; rintro e w3 ⟨g, rfl, hs, hge, hb⟩; have HS := Aside0.mk hs; have HGE := Aside0.mk (Nat.le_trans (below_size HB.out) hge); have n0_ := Aside0.mk (below_step HB.out hb); clear HB hs hge hb; have HB := n0_; clear n0_)))
  go_loopg [4] l.length (fun kq v4 w' => ∃ (i : Nat), v4 = .int .i64 (i : Int) ∧ Aside0 (kq + i = l.length) ∧ Aside0 (Sh w' g (runS new0 (l.take i)).l (runS new0 (l.take i)).lg (runS new0 (l.take i)).sq (runS new0 (l.take i)).nx) ∧ Aside0 (Below w.heap.size w w'))
  case atStart => exact ⟨0, rfl, ⟨by omega⟩, HS, HB⟩
  clear HS HB
  obtain ⟨i, rfl, HQ, HS, HB⟩ := hrel
  by_cases hlt : i < l.length
  · obtain ⟨k1, rfl⟩ : ∃ k1, gk = k1 + 1 := ⟨gk - 1, by have := HQ.out; omega⟩
    have hd0 : decide (i < l.length) = true := decide_eq_true hlt
    have hd1 : decide ((i : Int) < (l.length : Int)) = true := decide_eq_true (by omega)
    have p0 : 0 ≤ (i : Int) := by omega
    have q0 : (i : Int) < (l.length : Int) := by omega
    obtain ⟨ad, A4, c4, A5, c5, e_, hx0, hx1, hx2, hx3, h4, h5, h6, h7⟩ := at_T34 (Kd.C_below HR.out HB.out) (i : Int) p0 q0
    cases e_
    rw [Int.toNat_natCast, rdE l i hlt] at hx0 hx1 hx2 hx3
    rw [rdE l i hlt] at h4 h5 h6 h7
    have HL4 := Aside0.mk h4
    have HG4 := Aside0.mk h5
    have HL5 := Aside0.mk h6
    have HC5 := Aside0.mk h7
    clear h4 h5 h6 h7
    go_wp2_with (go_at_call 10; go_loud (with_reducible refine (DoX wr g (runS new0 (l.take i)) HS.out (run_inv inv_new0 _) l[i].f0 A4 c4 l[i].f1 A5 c5 l[i].f2 l[i].f3 HG4.out HL4.out HC5.out HL5.out (by have := (few_at HFW.out i hlt).1; omega) (by have := (few_at HFW.out i hlt).2; omega) _ _ rfl (run_take new0 l i hlt).symm).mono ?_; rintro e w5 ⟨rfl, hs, _, hf⟩; have n0_ := Aside0.mk (Fr.to_below HB.out hf (fun k hk => by rw [hk]; exact HGE.out)); clear HS HB hx0 hx1 hx2 hx3 HG4 HC5; have HS := Aside0.mk hs; have HB := n0_; clear n0_ hs hf))
    go_roundg k1
    case measure => have := HQ.out; omega
    case rel => exact ⟨i + 1, by have h2_ := HLN.out; simp; unfold wrap64; omega, ⟨by have := HQ.out; omega⟩, HS, HB⟩
  have hd0 : decide (i < l.length) = false := decide_eq_false hlt
  have hd1 : decide ((i : Int) < (l.length : Int)) = false := decide_eq_false (by omega)
  obtain ⟨s, hs⟩ : ∃ s, s = runS new0 l := ⟨_, rfl⟩
  have HI := Aside0.mk (show InvS s by rw [hs]; exact run_inv inv_new l)
  have n0_ := Aside0.mk (show Sh wr g s.l s.lg s.sq s.nx by have h_ := HS.out; rw [List.take_of_length_le (by omega), ← hs] at h_; exact h_)
  clear HS hs
  have HS := n0_
  clear n0_
  have HSL := Aside0.mk (show s.l.length ≤ 1000000 by have := HI.out.len; omega)
  cases hb : pickB s.l with
  | false =>
    have HP := Aside0.mk (⟨hb, (pick_none hb).2⟩ : pickB s.l = false ∧ pickL s.l = [])
    have hlt2 := (pick_none hb).1
    have hf0 : decide ((tierL s.l 0).length < 2) = true := decide_eq_true hlt2
    have hf1 : decide (((tierL s.l 0).length : Int) < 2) = true := decide_eq_true (by omega)
    clear hb hlt2
    go_wp2_with (first | (go_at_call 12; go_loud (with_reducible refine (PickX _ g s.l s.lg s.sq s.nx [] false HS.out HSL.out HP.out.2 HP.out.1).mono ?_; rintro e w7 ⟨A6, c6, rfl, h6, h7, h8, hb⟩; have n0_ := Aside0.mk (HS.out.below hb); have n1_ := bs_ HB hb; have HPR := Aside0.mk h7; have HPC := Aside0.mk h8; have HPL := Aside0.mk h6; clear HS HB hb h6 h7 h8; have HS := n0_; have HB := n1_; clear n0_ n1_)) | (go_at_call 18; go_loud (with_reducible refine (TierX _ g s.l s.lg s.sq s.nx 0 (tierL s.l 0).length HS.out HSL.out rfl).mono ?_; rintro e w8 ⟨A8, c8, rfl, _, hb⟩; have n1_ := bs_ HB hb; clear HB hb; have HB := n1_; clear n1_)))
    go_ret
    exact ⟨rfl, HB.out⟩
  | true =>
  have HPK := Aside0.mk hb
  obtain ⟨p, hp⟩ : ∃ p, p = pickL s.l := ⟨_, rfl⟩
  have HP := Aside0.mk (show pickB s.l = true ∧ pickL s.l = p from ⟨hb, hp.symm⟩)
  have HPN := Aside0.mk (show p.length ≤ 40 by rw [hp]; exact Nat.le_trans (pick_len _) HI.out.len)
  clear hb hp
  go_upto_region 11 with (go_at_call 12; go_loud (with_reducible refine (PickX _ g s.l s.lg s.sq s.nx p true HS.out HSL.out HP.out.2 HP.out.1).mono ?_; rintro e wp ⟨A6, c6, rfl, h6, h7, h8, hb⟩; have n0_ := Aside0.mk (HS.out.below hb); have n1_ := bs_ HB hb; have HPR := Aside0.mk h7; have HPC := Aside0.mk h8; have HPL := Aside0.mk h6; clear HS HB hb h6 h7 h8; have HS := n0_; have HB := n1_; clear n0_ n1_))
  go_wp2
  go_loopg [7, 8, 9, 10] p.length (fun kq v7 v8 v9 v10 w' => ∃ (i : Nat) (a b : ByteArray), v10 = .int .i64 (i : Int) ∧ v8 = .string a ∧ v9 = .string b ∧ Aside0 (kq + i = p.length) ∧ Aside0 (a = loW (p.take i)) ∧ Aside0 (b = hiW (p.take i)) ∧ Aside0 (Kd.R (Kd.int .i64) 3 w' wp.heap.size (fun _ => True) v7 (idsP (p.take i))) ∧ Aside0 (Below wp.heap.size wp w'))
  case atStart => exact ⟨0, _, _, rfl, rfl, rfl, ⟨by omega⟩, ⟨rfl⟩, ⟨rfl⟩, ⟨Kd.R_nil _ _ _ _ _⟩, ⟨Below.refl _ _⟩⟩
  obtain ⟨i, ka, kb, rfl, rfl, rfl, HQ, HLO, HHI, HO, HB2⟩ := hrel
  by_cases hlt : i < p.length
  · obtain ⟨k1, rfl⟩ : ∃ k1, gk = k1 + 1 := ⟨gk - 1, by have := HQ.out; omega⟩
    have hd0 : decide (i < p.length) = true := decide_eq_true hlt
    have hd1 : decide ((i : Int) < (p.length : Int)) = true := decide_eq_true (by omega)
    have p0 : 0 ≤ (i : Int) := by omega
    have q0 : (i : Int) < (p.length : Int) := by omega
    obtain ⟨y, hy⟩ : ∃ y, y = p[i] := ⟨_, rfl⟩
    have HY := Aside0.mk (show rd_T46 p (i : Int) = y by rw [rdT p i hlt, hy])
    have HT := Aside0.mk (show idsP (p.take (i + 1)) = idsP (p.take i) ++ [y.f0] by unfold idsP; rw [List.take_succ_eq_append_getElem hlt, List.map_append, ← hy]; rfl)
    have HLO2 := Aside0.mk (show loW (p.take (i + 1)) = stepLo ka y by rw [HLO.out]; unfold loW; rw [List.take_succ_eq_append_getElem hlt, List.foldl_append, ← hy]; rfl)
    have HHI2 := Aside0.mk (show hiW (p.take (i + 1)) = stepHi kb y by rw [HHI.out]; unfold hiW; rw [List.take_succ_eq_append_getElem hlt, List.foldl_append, ← hy]; rfl)
    clear hy
    obtain ⟨ad, e_, hx0, hx1, hx2, hx3, hx4⟩ := at_T46 (Kd.C_below HPC.out HB2.out) (i : Int) p0 q0
    cases e_
    rw [Int.toNat_natCast, HY.out] at hx0 hx1 hx2 hx3 hx4
    go_upto_region 19 with (first | ((with_reducible refine gate_builtin (b := .append) (xs := #[.tmp 53, .tmp 59]) rfl ?_); at_builtin; go_loud (refine Kd.R_append (Kd.int .i64) (w0 := wp) wp.heap.size rfl (.tmp 53) (.tmp 59) 31 3 (.int .i64 0) 8 rfl Try.underlying31 info3 rfl (by decide) (by omega) u7 (idsP (p.take i)) y.f0 [.int .i64 y.f0] (fun _ => True) (fun _ => False) rfl rfl rfl (fun _ h => h.elim) (fun _ _ => trivial) HO.out HB2.out HB2.out.size (by unfold idsP; rw [List.length_map, List.length_take]; have := HPN.out; omega) ?_; intro v1 w6 ho hb hg hat; rw [← HT.out] at ho; have HO2 := Aside0.mk ho; have HB3 := Aside0.mk hb; clear ho hb hg hat HO HB2 hx0 hx1 hx2 hx3 hx4)))
    obtain ⟨ad2, e_, hx0, hx1, hx2, hx3, hx4⟩ := at_T46 (Kd.C_below HPC.out HB3.out) (i : Int) p0 q0
    cases e_
    rw [Int.toNat_natCast, HY.out] at hx0 hx1 hx2 hx3 hx4
    by_cases hy0 : y.f1 = 0
    · have hy1 : (y.f1 == 0) = true := beq_iff_eq.mpr hy0
      have hm2 := max2_str kb y.f3
      obtain ⟨m2, hm2d⟩ : ∃ m2, m2 = maxS kb y.f3 := ⟨_, rfl⟩
      rw [← hm2d] at hm2
      have HMX := Aside0.mk (show stepHi kb y = m2 by unfold stepHi; rw [if_pos hy0, hm2d])
      clear hm2d
      by_cases hk : ka.toList = ([] : List UInt8)
      · have HKL := Aside0.mk (show stepLo ka y = y.f2 by unfold stepLo; rw [if_pos hy0, if_pos (.inl (by rw [← toL]; exact hk))])
        have hk1 : (ka.toList == ([] : List UInt8)) = true := beq_iff_eq.mpr hk
        have hk2 : (ka.toList != ([] : List UInt8)) = false := bne_eq_false_iff_eq.mpr hk
        clear hk hy0
        have HK := Aside0.mk (show stepLo ka y = y.f2 ∧ stepHi kb y = m2 from ⟨HKL.out, HMX.out⟩)
        go_wp2
        go_roundg k1
        case measure => have := HQ.out; omega
        case rel => exact ⟨i + 1, y.f2, m2, by have h2_ := HPN.out; simp; unfold wrap64; omega, rfl, rfl, ⟨by have := HQ.out; omega⟩, ⟨by rw [HLO2.out, HK.out.1]⟩, ⟨by rw [HHI2.out, HK.out.2]⟩, HO2, HB3⟩
      have hk1 : (ka.toList == ([] : List UInt8)) = false := beq_eq_false_iff_ne.mpr hk
      have hk2 : (ka.toList != ([] : List UInt8)) = true := bne_iff_ne.mpr hk
      cases h2 : Op.bytesLess y.f2.toList ka.toList with
      | true =>
        have HKL := Aside0.mk (show stepLo ka y = y.f2 by unfold stepLo; rw [if_pos hy0, if_pos (.inr (by rw [← toL, ← toL]; exact h2))])
        clear hk hy0
        have HK := Aside0.mk (show stepLo ka y = y.f2 ∧ stepHi kb y = m2 from ⟨HKL.out, HMX.out⟩)
        go_wp2
        go_roundg k1
        case measure => have := HQ.out; omega
        case rel => exact ⟨i + 1, y.f2, m2, by have h2_ := HPN.out; simp; unfold wrap64; omega, rfl, rfl, ⟨by have := HQ.out; omega⟩, ⟨by rw [HLO2.out, HK.out.1]⟩, ⟨by rw [HHI2.out, HK.out.2]⟩, HO2, HB3⟩
      | false =>
        have HKL := Aside0.mk (show stepLo ka y = ka by
          unfold stepLo
          rw [if_pos hy0, if_neg]
          rintro (h | h)
          · rw [← toL] at h; exact hk h
          · rw [← toL, ← toL, h2] at h; cases h)
        clear hk hy0
        have HK := Aside0.mk (show stepLo ka y = ka ∧ stepHi kb y = m2 from ⟨HKL.out, HMX.out⟩)
        go_wp2
        go_roundg k1
        case measure => have := HQ.out; omega
        case rel => exact ⟨i + 1, ka, m2, by have h2_ := HPN.out; simp; unfold wrap64; omega, rfl, rfl, ⟨by have := HQ.out; omega⟩, ⟨by rw [HLO2.out, HK.out.1]⟩, ⟨by rw [HHI2.out, HK.out.2]⟩, HO2, HB3⟩
    have hy1 : (y.f1 == 0) = false := beq_eq_false_iff_ne.mpr hy0
    have HKL := Aside0.mk (show stepLo ka y = ka by unfold stepLo; rw [if_neg hy0])
    have HMX := Aside0.mk (show stepHi kb y = kb by unfold stepHi; rw [if_neg hy0])
    clear hy0
    have HK := Aside0.mk (show stepLo ka y = ka ∧ stepHi kb y = kb from ⟨HKL.out, HMX.out⟩)
    go_wp2
    go_roundg k1
    case measure => have := HQ.out; omega
    case rel => exact ⟨i + 1, ka, kb, by have h2_ := HPN.out; simp; unfold wrap64; omega, rfl, rfl, ⟨by have := HQ.out; omega⟩, ⟨by rw [HLO2.out, HK.out.1]⟩, ⟨by rw [HHI2.out, HK.out.2]⟩, HO2, HB3⟩
  have hd0 : decide (i < p.length) = false := decide_eq_false hlt
  have hd1 : decide ((i : Int) < (p.length : Int)) = false := decide_eq_false (by omega)
  have HTK := Aside0.mk (List.take_of_length_le (show p.length ≤ i by omega))
  rw [HTK.out] at HLO HHI HO
  have HS2 := Aside0.mk (HS.out.below HB2.out)
  have HB4 := Aside0.mk (below_step HB.out HB2.out)
  obtain ⟨A9, c9, e9, h5, h6⟩ := Kd.R_reads HO.out
  subst e9
  have HGR := Aside0.mk h6
  have HGL := Aside0.mk h5
  have HGN := Aside0.mk (show (idsP p).length ≤ 1000000 by unfold idsP; rw [List.length_map]; have := HPN.out; omega)
  have HD0 := Aside0.mk (show doE s (idsP p) [] 0 0 = 0 by rw [← HP.out.2]; exact whole_do HI.out HPK.out)
  obtain ⟨s2, hs2⟩ : ∃ s2, s2 = doS s (idsP p) [] 0 0 := ⟨_, rfl⟩
  have HT2 := Aside0.mk (show (tierL s2.l 0).length = 0 by rw [hs2, ← HP.out.2, whole_tier HI.out HPK.out]; rfl)
  have HA2 := Aside0.mk (show ∀ t ∈ s2.l, reB ka kb t = false by
    intro t ht
    rw [HLO.out, HHI.out, ← HP.out.2]
    rw [hs2, ← HP.out.2] at ht
    exact whole_apart HI.out HPK.out ht)
  have HDS := Aside0.mk hs2.symm
  have HL2 := Aside0.mk (show s2.l.length ≤ 40 by rw [hs2]; exact (doS_inv HI.out _ _ _ _).len)
  clear h5 h6 hs2 HS HB HB2 HO HPR HPC HLO HHI
  go_upto_region 26 with (first | (go_at_call 10; go_loud (with_reducible refine (DoG wr g s HS2.out HI.out (idsP p) A9 c9 HGR.out HGL.out HGN.out 0 s2 HD0.out HDS.out).mono ?_; rintro e w9 ⟨rfl, hs, _, hf⟩; have HS := Aside0.mk hs; have HB := Aside0.mk (Fr.to_below HB4.out hf (fun k hk => by rw [hk]; exact HGE.out)); clear hs hf HS2 HB4 HGR)) | (go_at_call 18; go_loud (with_reducible refine (TierX _ g s2.l s2.lg s2.sq s2.nx 0 0 HS.out (by have := HL2.out; omega) HT2.out).mono ?_; rintro e w10 ⟨A10, c10, rfl, _, hb⟩; have n0_ := Aside0.mk (HS.out.below hb); have n1_ := bs_ HB hb; clear HS HB hb; have HS := n0_; have HB := n1_; clear n0_ n1_)) | (go_at_call 19; go_loud (with_reducible refine (TablesX _ g s2.l s2.lg s2.sq s2.nx HS.out (by have := HL2.out; omega)).mono ?_; rintro e w11 ⟨A11, c11, rfl, h8, _, hb⟩; have n1_ := bs_ HB hb; have HLC := Aside0.mk h8; clear HS HB hb h8; have HB := n1_; clear n1_)))
  go_wp2
  go_loopg [12] s2.l.length (fun kq v12 w' => ∃ (i : Nat), v12 = .int .i64 (i : Int) ∧ Aside0 (kq + i = s2.l.length) ∧ w' = w11)
  case atStart => exact ⟨0, rfl, ⟨by omega⟩, rfl⟩
  obtain ⟨i, rfl, HQ, rfl⟩ := hrel
  by_cases hlt : i < s2.l.length
  · obtain ⟨k1, rfl⟩ : ∃ k1, gk = k1 + 1 := ⟨gk - 1, by have := HQ.out; omega⟩
    have hd0 : decide (i < s2.l.length) = true := decide_eq_true hlt
    have hd1 : decide ((i : Int) < (s2.l.length : Int)) = true := decide_eq_true (by omega)
    have p0 : 0 ≤ (i : Int) := by omega
    have q0 : (i : Int) < (s2.l.length : Int) := by omega
    obtain ⟨ad, e_, hx0, hx1, hx2, hx3, hx4⟩ := at_T46 HLC.out (i : Int) p0 q0
    cases e_
    rw [Int.toNat_natCast, rdT s2.l i hlt] at hx0 hx1 hx2 hx3 hx4
    have HRE := HA2.out s2.l[i] (List.getElem_mem hlt)
    obtain ⟨y, hy⟩ : ∃ y, y = s2.l[i] := ⟨_, rfl⟩
    rw [← hy] at hx0 hx1 hx2 hx3 hx4 HRE
    clear hy
    unfold reB at HRE
    rw [← toL, ← toL, ← toL, ← toL] at HRE
    cases h1 : Op.bytesLess kb.toList y.f2.toList with
    | true =>
      clear HRE
      go_wp2
      go_roundg k1
      case measure => have := HQ.out; omega
      case rel => exact ⟨i + 1, by have h2_ := HL2.out; simp; unfold wrap64; omega, ⟨by have := HQ.out; omega⟩, rfl⟩
    | false =>
      have h2 : Op.bytesLess y.f3.toList ka.toList = true := by
        cases h : Op.bytesLess y.f3.toList ka.toList with
        | true => rfl
        | false => rw [h, h1] at HRE; cases HRE
      clear HRE
      go_wp2
      go_roundg k1
      case measure => have := HQ.out; omega
      case rel => exact ⟨i + 1, by have h2_ := HL2.out; simp; unfold wrap64; omega, ⟨by have := HQ.out; omega⟩, rfl⟩
  have hd0 : decide (i < s2.l.length) = false := decide_eq_false hlt
  have hd1 : decide ((i : Int) < (s2.l.length : Int)) = false := decide_eq_false (by omega)
  go_wp2
  go_ret
  exact ⟨rfl, HB.out⟩
end Go.Proofs.Ytfpnllajpnnfdaa.Q
