import Derived.Test.YtmbedgopceigaaaQTabJ
namespace Go.Proofs.Ytmbedgopceigaaa.Q
open Go.RowKit Go.Lib Go.Proofs Go.Proofs.Ytmbedgopceigaaa.P Go.Proofs.YtmbedgopceigaaaW.PrintWords Go.Proofs.YtmbedgopceigaaaW.PrintLast Go.Proofs.YtmbedgopceigaaaW.PrintMore
set_option linter.unusedVariables false
set_option linter.unusedSimpArgs false
attribute [local go_sem high] string_leq string_geq string_gtr
/-! ravelinlaw13.known -/
theorem fr_box {w w' : World} {g g2 t : Nat} {l : List S32} {lg sq nx : Int} {cs : Array Value} (hb : w.heap[g2]? = some (.cells cs t (0, 0))) (hs : Sh w g l lg sq nx) (ht : t ≠ 57) (hf : Fr w w' (fun k => k = g)) : w'.heap[g2]? = some (.cells cs t (0, 0)) := by
  obtain ⟨u, h1, _⟩ := hs.out
  exact (hf.block g2 (blk_lt hb) (blk_ne hb h1 ht)).trans hb
theorem row_frS {w w' : World} {g base : Nat} {ok : Nat → Prop} {v : Value} {xs l : List S32} {lg sq nx : Int} (hr : Kd.R k32 32 w base ok v xs) (hs : Sh w g l lg sq nx) (hf : Fr w w' (fun k => k = g)) : Kd.R k32 32 w' base ok v xs := by
  obtain ⟨u, h1, _⟩ := hs.out
  exact row_fr hr h1 hf
def kT : S32 := ⟨1, 0, ⟨#[97]⟩, ⟨#[99]⟩, 2⟩
def kS1 : St := ⟨[kT], 2, 5, 2⟩
def kX : ByteArray := ((sheet_Bytes.f 300 [] [kT] 2 5).getD (⟨#[]⟩, 0)).1
def kIn : ByteArray := ((seal_Open.f 300 kX).getD (⟨#[]⟩, 0, 0)).1
theorem kBy : sheet_Bytes.f 300 [] [kT] 2 5 = some (kX, 0) := by decide +kernel
theorem kSz : kX.size ≤ 9223372036854775807 ∧ kX.size ≠ 0 := by decide +kernel
theorem kOp : seal_Open.f 300 (kX.extract 0 kX.size) = some (kIn, ((kX.size : Nat) : Int), 0) := by decide +kernel
theorem kOp2 : ∃ a b, seal_Open.f 300 (kX.extract kX.size kX.size) = some (a, b, 12) := ⟨((seal_Open.f 300 (kX.extract kX.size kX.size)).getD (⟨#[]⟩, 0, 0)).1, ((seal_Open.f 300 (kX.extract kX.size kX.size)).getD (⟨#[]⟩, 0, 0)).2.1, by decide +kernel⟩
theorem kOp3 : ∃ a b, seal_Open.f 300 ((⟨#[]⟩ : ByteArray).extract 0 (⟨#[]⟩ : ByteArray).size) = some (a, b, 12) := ⟨((seal_Open.f 300 ((⟨#[]⟩ : ByteArray).extract 0 (⟨#[]⟩ : ByteArray).size)).getD (⟨#[]⟩, 0, 0)).1, ((seal_Open.f 300 ((⟨#[]⟩ : ByteArray).extract 0 (⟨#[]⟩ : ByteArray).size)).getD (⟨#[]⟩, 0, 0)).2.1, by decide +kernel⟩
theorem kTk : sheet_take.f 300 kIn = some ([], [kT], 2, 5, true) := by kernel_rfl
theorem kE1 : doE new0 [] [kT] 2 5 = 0 := by decide +kernel
theorem kSs1 : doS new0 [] [kT] 2 5 = kS1 := by
  have e : srt (rowS new0.l [] [kT]) = [kT] := (srt_uniq (xs := [kT]) (fun a ha b hb _ _ => by rw [List.mem_singleton.1 ha, List.mem_singleton.1 hb]) (List.Perm.refl _) (List.pairwise_singleton _ _)).symm
  unfold doS
  rw [if_pos kE1]
  unfold doN
  rw [e]; rfl
theorem kE2 : doE kS1 [7] [] 0 0 = 18 := by decide +kernel
theorem kSs2 : doS kS1 [7] [] 0 0 = kS1 := by unfold doS; rw [if_neg (by rw [kE2]; decide)]
theorem kE3 : doE kS1 [] [kT] 2 5 = 16 := by decide +kernel
theorem kSs3 : doS kS1 [] [kT] 2 5 = kS1 := by unfold doS; rw [if_neg (by rw [kE3]; decide)]
theorem kInv0 : InvS new0 := inv_new
theorem kInv1 : InvS kS1 := by rw [← kSs1]; exact doS_inv kInv0 _ _ _ _
theorem kFront : Front kX 0 kIn kX.size ⟨[], [kT], 2, 5⟩ true kX 0 := ⟨⟨300, kOp⟩, ⟨300, kTk⟩, ⟨300, kBy⟩, by omega, by decide⟩
theorem kRd : Rd kX 1 0 new0 kX.size kS1 := by
  have h := Rd.next (m := 0) (b := kX.size) (st2 := kS1) (Nat.zero_le _) kFront (by simp) kE1 (by
    rw [kSs1, Nat.zero_add]
    obtain ⟨a, b, h⟩ := kOp2
    exact Rd.halt (Nat.le_refl _) ⟨300, h⟩ (by decide))
  exact h
theorem kRd0 : Rd (⟨#[]⟩ : ByteArray) 0 0 new0 0 new0 := by
  obtain ⟨a, b, h⟩ := kOp3
  exact Rd.halt (Nat.zero_le _) ⟨300, h⟩ (by decide)
theorem SReadX (w : World) (s : ByteArray) (hsz : s.size ≤ 9223372036854775807) (m b : Nat) (st2 : St) (hr : Rd s m 0 new0 b st2) (er : Int) (he : (if b = 0 then (10 : Int) else 0) = er) :
    Calls Try.prog 18 #[.string s] w fun e w' => ∃ g : Nat, e = .returned (.tuple #[.pointer (some ⟨g, 0, none⟩), .int .i64 (b : Int), .int .i64 er]) ∧ Sh w' g st2.l st2.lg st2.sq st2.nx ∧ InvS st2 ∧ w.heap.size ≤ g ∧ Below w.heap.size w w' := by
  subst he
  exact SRead w s hsz m b st2 hr
theorem DoN (w : World) (g : Nat) (s : St) (hs : Sh w g s.l s.lg s.sq s.nx) (hinv : InvS s) (G : List Int) (AG : Option Addr) (cG : Nat) (C : List S32) (AC : Option Addr) (cC : Nat) (lg sq : Int) (ng nc : Nat)
    (hG : (Kd.int .i64).C w AG G.length G) (hcG : G.length ≤ cG) (hC : Kd.C k32 w AC C.length C) (hcC : C.length ≤ cC) (hlG : G.length ≤ 1000000) (hlC : C.length ≤ 1000000) (n : Int) (s2 : St) (hn : doE s G C lg sq = n) (h2 : doS s G C lg sq = s2) (eg : G.length = ng) (ec : C.length = nc) :
    Calls Try.prog 13 #[.pointer (some ⟨g, 0, none⟩), .agg #[.slice AG ng cG, .slice AC nc cC, .int .i64 lg, .int .i64 sq]] w fun e w' => e = .returned (.int .i64 n) ∧ Sh w' g s2.l s2.lg s2.sq s2.nx ∧ InvS s2 ∧ Fr w w' (fun k => k = g) := by
  subst eg
  subst ec
  exact DoX w g s hs hinv G AG cG C AC cC lg sq hG hcG hC hcC hlG hlC n s2 hn h2
theorem BytesN (w : World) (K : Nat) (G : List Int) (AG : Option Addr) (cG : Nat) (C : List S32) (AC : Option Addr) (cC : Nat) (lg sq : Int) (ng nc : Nat) (r1 : ByteArray) (r2 : Int)
    (hG : (Kd.int .i64).C w AG G.length G) (hcG : G.length ≤ cG) (hC : Kd.C k32 w AC C.length C) (hcC : C.length ≤ cC) (h : sheet_Bytes.f K G C lg sq = some (r1, r2)) (eg : G.length = ng) (ec : C.length = nc) :
    Calls Try.prog 16 #[.agg #[.slice AG ng cG, .slice AC nc cC, .int .i64 lg, .int .i64 sq]] w fun e w' => e = .returned (.tuple #[.string r1, .int .i64 r2]) ∧ Below w.heap.size w w' := by
  subst eg
  subst ec
  exact sheet_Bytes.calls K AG cG G AC cC C lg sq r1 r2 w hG hcG hC hcC h
theorem SNew0 (w : World) : Calls Try.prog 10 #[] w fun e w' => ∃ g : Nat, e = .returned (.pointer (some ⟨g, 0, none⟩)) ∧ Sh w' g new0.l new0.lg new0.sq new0.nx ∧ w.heap.size ≤ g ∧ Below w.heap.size w w' := SNew w
theorem TablesN (w : World) (g : Nat) (l : List S32) (lg sq nx : Int) (n : Nat) (h : Sh w g l lg sq nx) (hl : l.length = n) (hn : n ≤ 1000000) : Calls Try.prog 22 #[.pointer (some ⟨g, 0, none⟩)] w fun e w' => ∃ (A : Option Addr) (c : Nat), e = .returned (.slice A n c) ∧ n ≤ c ∧ Kd.R k32 32 w' w.heap.size (fun _ => True) (.slice A n c) l ∧ Below w.heap.size w w' := by
  subst hl
  refine (STables w g l lg sq nx h hn).mono ?_
  rintro e w' ⟨v, rfl, hr, hb2⟩
  obtain ⟨A, c, rfl, h5, h6⟩ := Kd.R_reads hr
  exact ⟨A, c, rfl, h5, hr, hb2⟩
theorem TierN (w : World) (g : Nat) (l : List S32) (lg sq nx tier : Int) (n : Nat) (h : Sh w g l lg sq nx) (hl : l.length ≤ 1000000) (hn : (tierL l tier).length = n) : Calls Try.prog 24 #[.pointer (some ⟨g, 0, none⟩), .int .i64 tier] w fun e w' => ∃ (A : Option Addr) (c : Nat), e = .returned (.slice A n c) ∧ n ≤ c ∧ Kd.R k32 32 w' w.heap.size (fun _ => True) (.slice A n c) (tierL l tier) ∧ Below w.heap.size w w' := by
  subst hn
  refine (STierL w g l lg sq nx tier h hl).mono ?_
  rintro e w' ⟨v, rfl, hr, hb2⟩
  obtain ⟨A, c, rfl, h5, h6⟩ := Kd.R_reads hr
  exact ⟨A, c, rfl, h5, hr, hb2⟩
set_option maxHeartbeats 8000000 in
set_option maxRecDepth 100000 in
theorem SKnown (w : World) : Calls Try.prog 8 #[] w fun e w' => e = .returned (.bool true) ∧ Below w.heap.size w w' := by
  go_enter Try.func8, Try.ntmps8
  go_upto_region 5 with (go_at_call 10; go_loud (with_reducible refine (SNew0 w).mono ?_; rintro e w3 ⟨g, rfl, hs, hge, hb⟩; have HS := Aside0.mk hs; have HGE := Aside0.mk hge; have HB := Aside0.mk hb; clear hs hge hb))
  have BT := Aside0.mk (blk_new w3 (.cells #[.int .i64 1, .int .i64 0, .string ⟨#[97]⟩, .string ⟨#[99]⟩, .int .i64 2] 32))
  have hbl_ := below_alloc (Below.refl w3.heap.size w3) (.cells #[.int .i64 1, .int .i64 0, .string ⟨#[97]⟩, .string ⟨#[99]⟩, .int .i64 2] 32)
  have nHS_ := Aside0.mk (HS.out.below hbl_); have nHB_ := Aside0.mk (below_step HB.out hbl_); clear HS HB hbl_; have HS := nHS_; have HB := nHB_; clear nHS_ nHB_
  generalize w3.alloc (.cells #[.int .i64 1, .int .i64 0, .string ⟨#[97]⟩, .string ⟨#[99]⟩, .int .i64 2] 32) = w4 at HS HB BT ⊢
  generalize w3.heap.size = gt at BT ⊢
  have ht0 := bc0 BT
  have ht1 := bc1 BT
  have ht2 := bc2 BT
  have ht3 := bc3 BT
  have ht4 := bc4 BT
  go_upto_region 6 with ((with_reducible refine gate_dst (N := 20) rfl ?_); go_loud (refine Kd.R_lit k32 _ 32 ?hg (N := 20) ?hd (xs := [kT]) (inner := [.int .i64 1, .int .i64 0, .string ⟨#[97]⟩, .string ⟨#[99]⟩, .int .i64 2]) (ok := fun _ => True) (okp := fun _ => True) ?hr ?hp (fun _ hk => hk) trivial (Below.refl _ _) (Nat.le_refl _) (by decide) ?_; (case hd => rfl); (case hg => rfl); (case hr => first | (go_simp; done) | (go_simp; rfl)); (case hp => exact (Reps.c5 (k32_mkM _ _ _ kT) (Reps.none _ _))); intro v3 wl ho hb hg_ hnew_; obtain ⟨A3, c3, e3_, hc3_, _⟩ := Kd.R_reads ho; have e3 : v3 = .slice A3 1 c3 := e3_; clear e3_; subst e3; have HC := Aside0.mk (show Kd.R k32 32 wl _ (fun _ => True) (.slice A3 1 c3) [kT] from ho); have HCC := Aside0.mk (show ([kT] : List S32).length ≤ c3 from hc3_); have nHS_ := Aside0.mk (HS.out.below hb); have nHB_ := Aside0.mk (below_step HB.out hb); have nBT_ := bb_ BT hb; clear HS HB BT hb; have HS := nHS_; have HB := nHB_; have BT := nBT_; clear nHS_ nHB_ nBT_; clear ho hg_ hnew_ hc3_ ht0 ht1 ht2 ht3 ht4))
  clear BT
  have BE := Aside0.mk (blk_new wl (.cells #[.slice none 0 0, .slice A3 1 c3, .int .i64 2, .int .i64 5] 36))
  have hbl_ := below_alloc (Below.refl wl.heap.size wl) (.cells #[.slice none 0 0, .slice A3 1 c3, .int .i64 2, .int .i64 5] 36)
  have nHS_ := Aside0.mk (HS.out.below hbl_); have nHB_ := Aside0.mk (below_step HB.out hbl_); have nHC_ := Aside0.mk (Kd.R_below HC.out hbl_); clear HS HB HC hbl_; have HS := nHS_; have HB := nHB_; have HC := nHC_; clear nHS_ nHB_ nHC_
  generalize wl.alloc (.cells #[.slice none 0 0, .slice A3 1 c3, .int .i64 2, .int .i64 5] 36) = w5 at HS HB HC BE ⊢
  generalize wl.heap.size = ge at BE ⊢
  have he0 := bc0 BE
  have he1 := bc1 BE
  have he2 := bc2 BE
  have he3 := bc3 BE
  go_upto_region 7 with (go_at_call 13; go_loud (with_reducible refine (DoN _ g new0 HS.out kInv0 [] none 0 [kT] A3 c3 2 5 0 1 (Kd.C_nil _ _) (Nat.le_refl _) (Kd.R_reads' HC.out).2.2 HCC.out (by decide) (by decide) 0 kS1 kE1 kSs1 rfl rfl).mono ?_; rintro e_ wd ⟨rfl, hs, hi, hf⟩; have nHB_ := Aside0.mk (Fr.to_below HB.out hf (fun k hk => by rw [hk]; exact HGE.out)); have nHC_ := Aside0.mk (row_frS HC.out HS.out hf); have nBE_ := Aside0.mk (fr_box BE.out HS.out (by decide) hf); clear HS HB HC BE; have HB := nHB_; have HC := nHC_; have BE := nBE_; have HS := Aside0.mk hs; clear hs hi hf nHB_ nHC_ nBE_; clear he0 he1 he2 he3))
  go_upto_region 8 with (first | ((with_reducible refine gate_dst (N := 26) rfl ?_); go_loud (refine Kd.R_lit (Kd.int .i64) _ 3 ?hg (N := 26) ?hd (xs := [(7 : Int)]) (inner := [.int .i64 7]) (ok := fun _ => True) (okp := fun _ => True) ?hr ?hp (fun _ hk => hk) trivial (Below.refl _ _) (Nat.le_refl _) (by decide) ?_; (case hd => rfl); (case hg => rfl); (case hr => first | (go_simp; done) | (go_simp; rfl)); (case hp => exact Reps.one rfl (Reps.none _ _)); intro v7 w7 ho hb hg_ hnew_; obtain ⟨A7, c7, e7_, hc7_, _⟩ := Kd.R_reads ho; have e7 : v7 = .slice A7 1 c7 := e7_; clear e7_; subst e7; have HG := Aside0.mk (show (Kd.int .i64).C w7 A7 ([7] : List Int).length [7] from (Kd.R_reads' ho).2.2); have HCG := Aside0.mk (show ([7] : List Int).length ≤ c7 from hc7_); have nHS_ := Aside0.mk (HS.out.below hb); have nHB_ := Aside0.mk (below_step HB.out hb); have nHC_ := Aside0.mk (Kd.R_below HC.out hb); have nBE_ := bb_ BE hb; clear HS HB HC BE hb; have HS := nHS_; have HB := nHB_; have HC := nHC_; have BE := nBE_; clear nHS_ nHB_ nHC_ nBE_; clear ho hg_ hnew_ hc7_)) | (go_at_call 13; go_loud (with_reducible refine (DoN _ g kS1 HS.out kInv1 [7] A7 c7 [] none 0 0 0 1 0 HG.out HCG.out (Kd.C_nil _ _) (Nat.le_refl _) (by decide) (by decide) 18 kS1 kE2 kSs2 rfl rfl).mono ?_; rintro e_ wd ⟨rfl, hs, hi, hf⟩; have nHB_ := Aside0.mk (Fr.to_below HB.out hf (fun k hk => by rw [hk]; exact HGE.out)); have nHC_ := Aside0.mk (row_frS HC.out HS.out hf); have nBE_ := Aside0.mk (fr_box BE.out HS.out (by decide) hf); clear HS HB HC BE; have HB := nHB_; have HC := nHC_; have BE := nBE_; have HS := Aside0.mk hs; clear hs hi hf nHB_ nHC_ nBE_)))
  clear HG
  have he0 := bc0 BE
  have he1 := bc1 BE
  have he2 := bc2 BE
  have he3 := bc3 BE
  go_upto_region 9 with (go_at_call 13; go_loud (with_reducible refine (DoN _ g kS1 HS.out kInv1 [] none 0 [kT] A3 c3 2 5 0 1 (Kd.C_nil _ _) (Nat.le_refl _) (Kd.R_reads' HC.out).2.2 HCC.out (by decide) (by decide) 16 kS1 kE3 kSs3 rfl rfl).mono ?_; rintro e_ wd ⟨rfl, hs, hi, hf⟩; have nHB_ := Aside0.mk (Fr.to_below HB.out hf (fun k hk => by rw [hk]; exact HGE.out)); have nHC_ := Aside0.mk (row_frS HC.out HS.out hf); have nBE_ := Aside0.mk (fr_box BE.out HS.out (by decide) hf); clear HS HB HC BE; have HB := nHB_; have HC := nHC_; have BE := nBE_; have HS := Aside0.mk hs; clear hs hi hf nHB_ nHC_ nBE_; clear he0 he1 he2 he3))
  have he0 := bc0 BE
  have he1 := bc1 BE
  have he2 := bc2 BE
  have he3 := bc3 BE
  go_upto_region 10 with (go_at_call 16; go_loud (with_reducible refine (BytesN _ 300 [] none 0 [kT] A3 c3 2 5 0 1 kX 0 (Kd.C_nil _ _) (Nat.le_refl _) (Kd.R_reads' HC.out).2.2 HCC.out kBy rfl rfl).mono ?_; rintro e_ wb ⟨rfl, hb⟩; have nHS_ := Aside0.mk (HS.out.below hb); have nHB_ := Aside0.mk (below_step HB.out hb); have nHC_ := Aside0.mk (Kd.R_below HC.out hb); have nBE_ := bb_ BE hb; clear HS HB HC BE hb; have HS := nHS_; have HB := nHB_; have HC := nHC_; have BE := nBE_; clear nHS_ nHB_ nHC_ nBE_; clear he0 he1 he2 he3))
  clear HC BE HCC
  go_upto_region 13 with (go_at_call 18; go_loud (with_reducible refine (SReadX _ kX kSz.1 1 kX.size kS1 kRd 0 (if_neg kSz.2)).mono ?_; rintro e_ wr1 ⟨g2, rfl, hs2, _, _, hb⟩; have nHS_ := Aside0.mk (HS.out.below hb); have nHB_ := Aside0.mk (below_step HB.out hb); clear HS HB hb; have HS := nHS_; have HB := nHB_; clear nHS_ nHB_; have HS2 := Aside0.mk hs2; clear hs2))
  go_upto_region 14 with (go_at_call 18; go_loud (with_reducible refine (SReadX _ ⟨#[]⟩ (by decide) 0 0 new0 kRd0 10 rfl).mono ?_; rintro e_ wr2 ⟨g3, rfl, _, _, _, hb⟩; have nHS_ := Aside0.mk (HS.out.below hb); have nHS2_ := Aside0.mk (HS2.out.below hb); have nHB_ := Aside0.mk (below_step HB.out hb); clear HS HS2 HB hb; have HS := nHS_; have HS2 := nHS2_; have HB := nHB_; clear nHS_ nHS2_ nHB_))
  go_wp2_with (first | (go_at_call 22; with_reducible refine (TablesN _ g kS1.l kS1.lg kS1.sq kS1.nx 1 HS.out rfl (by decide)).mono ?_; rintro e_ wa ⟨A_, c_, rfl, _, _, hb⟩; have nHS_ := Aside0.mk (HS.out.below hb); have nHS2_ := Aside0.mk (HS2.out.below hb); have nHB_ := Aside0.mk (below_step HB.out hb); clear HS HS2 HB hb; have HS := nHS_; have HS2 := nHS2_; have HB := nHB_; clear nHS_ nHS2_ nHB_) | (go_at_call 22; with_reducible refine (TablesN _ g2 kS1.l kS1.lg kS1.sq kS1.nx 1 HS2.out rfl (by decide)).mono ?_; rintro e_ wa ⟨A_, c_, rfl, _, _, hb⟩; have nHS_ := Aside0.mk (HS.out.below hb); have nHS2_ := Aside0.mk (HS2.out.below hb); have nHB_ := Aside0.mk (below_step HB.out hb); clear HS HS2 HB hb; have HS := nHS_; have HS2 := nHS2_; have HB := nHB_; clear nHS_ nHS2_ nHB_) | (go_at_call 22; with_reducible refine (TablesN _ g4 kS1.l kS1.lg kS1.sq kS1.nx 1 HS4.out rfl (by decide)).mono ?_; rintro e_ wa ⟨A_, c_, rfl, _, _, hb⟩; have nHS_ := Aside0.mk (HS.out.below hb); have nHS2_ := Aside0.mk (HS2.out.below hb); have nHB_ := Aside0.mk (below_step HB.out hb); clear HS HS2 HB hb; have HS := nHS_; have HS2 := nHS2_; have HB := nHB_; clear nHS_ nHS2_ nHB_) | (go_at_call 21; with_reducible refine (SNext _ g kS1.l kS1.lg kS1.sq kS1.nx HS.out).mono ?_; rintro e_ wa ⟨rfl, hb⟩; have nHS_ := Aside0.mk (HS.out.below hb); have nHS2_ := Aside0.mk (HS2.out.below hb); have nHB_ := Aside0.mk (below_step HB.out hb); clear HS HS2 HB hb; have HS := nHS_; have HS2 := nHS2_; have HB := nHB_; clear nHS_ nHS2_ nHB_) | (go_at_call 19; with_reducible refine (SLog _ g kS1.l kS1.lg kS1.sq kS1.nx HS.out).mono ?_; rintro e_ wa ⟨rfl, hb⟩; have nHS_ := Aside0.mk (HS.out.below hb); have nHS2_ := Aside0.mk (HS2.out.below hb); have nHB_ := Aside0.mk (below_step HB.out hb); clear HS HS2 HB hb; have HS := nHS_; have HS2 := nHS2_; have HB := nHB_; clear nHS_ nHS2_ nHB_) | (go_at_call 20; with_reducible refine (SSeq _ g kS1.l kS1.lg kS1.sq kS1.nx HS.out).mono ?_; rintro e_ wa ⟨rfl, hb⟩; have nHS_ := Aside0.mk (HS.out.below hb); have nHS2_ := Aside0.mk (HS2.out.below hb); have nHB_ := Aside0.mk (below_step HB.out hb); clear HS HS2 HB hb; have HS := nHS_; have HS2 := nHS2_; have HB := nHB_; clear nHS_ nHS2_ nHB_) | (go_at_call 24; with_reducible refine (TierN _ g kS1.l kS1.lg kS1.sq kS1.nx 1 0 HS.out (by decide) (by decide +kernel)).mono ?_; rintro e_ wa ⟨A_, c_, rfl, _, _, hb⟩; have nHS_ := Aside0.mk (HS.out.below hb); have nHS2_ := Aside0.mk (HS2.out.below hb); have nHB_ := Aside0.mk (below_step HB.out hb); clear HS HS2 HB hb; have HS := nHS_; have HS2 := nHS2_; have HB := nHB_; clear nHS_ nHS2_ nHB_) | (go_at_call 12; with_reducible refine (SCopy _ g kS1.l kS1.lg kS1.sq kS1.nx HS.out (by decide)).mono ?_; rintro e_ wa ⟨g4, rfl, hs4, _, hb⟩; have nHS_ := Aside0.mk (HS.out.below hb); have nHS2_ := Aside0.mk (HS2.out.below hb); have nHB_ := Aside0.mk (below_step HB.out hb); clear HS HS2 HB hb; have HS := nHS_; have HS2 := nHS2_; have HB := nHB_; clear nHS_ nHS2_ nHB_; have HS4 := Aside0.mk hs4; clear hs4))
  go_ret
  exact ⟨rfl, HB.out⟩
end Go.Proofs.Ytmbedgopceigaaa.Q
