import Derived.Test.YtdkdnfgpgedglaaQHeapKnown
import Derived.Test.YtdkdnfgpgedglaaQHeapNum
namespace Go.Proofs.Ytdkdnfgpgedglaa.Q
open Go.RowKit Go.Lib Go.Proofs.Ytdkdnfgpgedglaa.P Go.Proofs.YtdkdnfgpgedglaaW.PrintWords Go.Proofs.YtdkdnfgpgedglaaW.PrintLast Go.Proofs.YtdkdnfgpgedglaaW.PrintMore
set_option linter.unusedVariables false
set_option linter.unusedSimpArgs false
attribute [local go_sem high] string_leq string_geq string_gtr
set_option maxRecDepth 100000 in
theorem info45 : (Try.prog.info? 45).map (fun i => i.zero) = some (some (.agg (metA []))) := by kernel_rfl
theorem zero45 (W : World) : (zeroValue 45).run Try.prog W = .ok (.agg (metA [])) W := by
  obtain ⟨i, hi, hz⟩ := Option.map_eq_some_iff.1 info45
  simp [zeroValue, typeInfo, hi, hz]
theorem PNumT (w0 w : World) (g : Nat) (l1 : List Int) (s : Nat) (F : Nat → Prop) (h : HpA w0 w g (nP l1) F) (hu : U8s l1) (hs : s < 256) (hl : (nP l1).length ≤ 1000) (hm : (s : Int) ∈ l1) :
    Calls Try.prog 12 #[.pointer (some ⟨g, 0, none⟩), .agg #[.string ⟨#[107]⟩, .int .i64 ((s : Int) + 1), .bool false, .string ⟨#[]⟩]] w fun r w' => ∃ F' : Nat → Prop, r = .returned (.bool false) ∧ HpA w0 w' g (nP (l1 ++ [(s : Int)])) F' ∧ (∀ k, F' k → F k ∨ w.heap.size ≤ k) ∧ Go.Proofs.Ytdkdnfgpgedglaa.P.Fr w w' F := by
  have := HPutA w0 w g _ F (nE ((s : Int) + 1)) h (by omega)
  rw [nP_put hu (by omega), ← nP_snoc, decide_eq_true hm] at this
  exact this
theorem PNumF (w0 w : World) (g : Nat) (l1 : List Int) (s : Nat) (F : Nat → Prop) (h : HpA w0 w g (nP l1) F) (hu : U8s l1) (hs : s < 256) (hl : (nP l1).length ≤ 1000) (hm : ¬ (s : Int) ∈ l1) :
    Calls Try.prog 12 #[.pointer (some ⟨g, 0, none⟩), .agg #[.string ⟨#[107]⟩, .int .i64 ((s : Int) + 1), .bool false, .string ⟨#[]⟩]] w fun r w' => ∃ F' : Nat → Prop, r = .returned (.bool true) ∧ HpA w0 w' g (nP (l1 ++ [(s : Int)])) F' ∧ (∀ k, F' k → F k ∨ w.heap.size ≤ k) ∧ Go.Proofs.Ytdkdnfgpgedglaa.P.Fr w w' F := by
  have := HPutA w0 w g _ F (nE ((s : Int) + 1)) h (by omega)
  rw [nP_put hu (by omega), ← nP_snoc, decide_eq_false hm] at this
  exact this
theorem GNum (w0 w : World) (g : Nat) (l : List Int) (ask : Int) (F : Nat → Prop) (h : HpA w0 w g (nP l) F) (hu : U8s l) (hl : (nP l).length ≤ 1000) :
    Calls Try.prog 14 #[.pointer (some ⟨g, 0, none⟩), .string ⟨#[107]⟩, .int .i64 ask] w fun e w' => ∃ (a : ByteArray) (d : Bool) (v : ByteArray), e = .returned (.tuple #[.agg #[.string a, .int .i64 (bF ask l), .bool d, .string v], .bool (decide (0 < bF ask l))]) ∧ Below w.heap.size w w' := by
  have h1 := HGetG w g (nP l) _ ⟨#[107]⟩ ask h.rd h.good (by omega)
  have h2 := nP_get hu ask
  refine h1.mono (fun e w' ⟨a, b⟩ => ⟨(getE (nP l) [107] ask).1, (getE (nP l) [107] ask).2.2.1, (getE (nP l) [107] ask).2.2.2.1, ?_, b⟩)
  rw [← h2.2, ← h2.1]; exact a
set_option maxHeartbeats 4000000 in
set_option maxRecDepth 100000 in
theorem LNums (w : World) (A0 : Option Addr) (c0 : Nat) (l : List Int) (ask : Int) (hr0 : (Kd.int .u8).C w A0 l.length l) (hc0 : l.length ≤ c0) (hu : U8s l) (ha : 0 ≤ ask ∧ ask ≤ 255) :
    Calls Try.prog 6 #[.slice A0 l.length c0, .int .u8 ask] w fun e w' => e = .returned (.bool true) ∧ Below w.heap.size w w' := by
  have HR := Aside0.mk hr0
  have HC := Aside0.mk hc0
  have HU := Aside0.mk hu
  have HAk := Aside0.mk ha
  have HB := Aside0.mk (Below.refl w.heap.size w)
  clear hr0 hc0 hu ha
  go_enter Try.func6, Try.ntmps6
  go_upto_region 3 with (go_at_call 8; refine (HKnown _).mono ?_; rintro e w1 ⟨rfl, hb⟩; have n0_ := Aside0.mk (below_step HB.out hb); clear HB hb; have HB := n0_; clear n0_)
  by_cases h40 : l.length > 40
  · have b1 : decide (40 < (l.length : Int)) = true := decide_eq_true (by omega)
    have b2 : decide (40 < l.length) = true := decide_eq_true (by omega)
    clear h40
    go_wp2
    go_ret
    exact ⟨rfl, HB.out⟩
  have b1 : decide (40 < (l.length : Int)) = false := decide_eq_false (by omega)
  have b2 : decide (40 < l.length) = false := decide_eq_false (by omega)
  have HL := Aside0.mk (show l.length ≤ 40 by omega)
  clear h40
  go_upto_region 7 with (go_at_call 10; with_reducible refine (HNewA w _ HB.out).mono ?_; rintro e w3 ⟨g, F0, rfl, hh, hn_, hb⟩; have HH := Aside0.mk hh; clear HB hh hn_ hb)
  have hz := zero45 w3
  go_upto_region 8 with (fail)
  clear hz b1 b2
  obtain ⟨gm, hgm⟩ : ∃ gm, gm = w3.heap.size := ⟨_, rfl⟩
  have HGm := Aside0.mk (show w.heap.size ≤ gm by rw [hgm]; exact HH.out.low.size)
  have HFm := Aside0.mk (show ∀ k, F0 k → k ≠ gm from fun k hk e => by have := (HH.out.own k hk).2; omega)
  have H1 := Aside0.mk (HH.out.below (below_alloc (Below.refl _ w3) (.cells (metA []) 45)))
  have BM := Aside0.mk (show (w3.alloc (.cells (metA []) 45)).heap[gm]? = some (.cells (metA []) 45 (0, 0)) by rw [hgm]; exact blk_new w3 _)
  clear HH
  rw [← hgm]
  generalize w3.alloc (.cells (metA []) 45) = w4 at H1 BM ⊢
  clear hgm
  go_wp2
  go_loopg [6, 7, 9] l.length (fun kq v6 v7 v9 w' => ∃ (i : Nat) (F : Nat → Prop), v9 = .int .i64 (i : Int) ∧ v6 = .int .i64 (bF ask (l.take i)) ∧ v7 = .int .i64 ((nP (l.take i)).length : Int) ∧ Aside0 (kq + i = l.length) ∧ Aside0 (HpA w w' g (nP (l.take i)) F) ∧ Aside0 (∀ k, F k → k ≠ gm) ∧ Aside0 (w'.heap[gm]? = some (.cells (metA (l.take i)) 45 (0, 0))))
  case atStart => exact ⟨0, F0, rfl, rfl, rfl, ⟨by omega⟩, H1, HFm, BM⟩
  clear H1 HFm BM
  obtain ⟨i, F1, rfl, rfl, rfl, HQ, HH, HFm, BM⟩ := hrel
  by_cases hlt : i < l.length
  · obtain ⟨k1, rfl⟩ : ∃ k1, gk = k1 + 1 := ⟨gk - 1, by have := HQ.out; omega⟩
    have hd0 : decide (i < l.length) = true := decide_eq_true hlt
    have hd1 : decide ((i : Int) < (l.length : Int)) = true := decide_eq_true (by omega)
    have p0 : 0 ≤ (i : Int) := by omega
    have q0 : (i : Int) < (l.length : Int) := by omega
    obtain ⟨ad, e_, hs0⟩ := Kd.at_int HR.out (i : Int) p0 q0
    cases e_
    have hy := HU.out (l[i]) (List.getElem_mem hlt)
    obtain ⟨s, hs⟩ : ∃ s : Nat, (s : Int) = l[i] := ⟨(l[i]).toNat, by omega⟩
    have erd : rd l (i : Int) = (s : Int) := by rw [hs]; simp [rd, List.getD_eq_getElem?_getD, hlt]
    rw [Int.toNat_natCast, erd] at hs0
    have T1 := Aside0.mk (show l.take (i + 1) = l.take i ++ [(s : Int)] by rw [List.take_succ_eq_append_getElem hlt, hs])
    have HSs := Aside0.mk (show s < 256 by omega)
    have HU1 := Aside0.mk (show U8s (l.take i) from fun y hy => HU.out y (List.mem_of_mem_take hy))
    have HLn := Aside0.mk (show (nP (l.take i)).length ≤ 1000 by have h1 := nP_length (l.take i); have h2 := HL.out; rw [List.length_take] at h1; omega)
    clear hs hy erd
    have hx0 : wr.cell? (ad.add i) = some (.int .u8 (s : Int)) := (HH.out.low.cell (World.block_lt_of_cell? w _ hs0)).trans hs0
    have a0 : wrap64 (s : Int) = (s : Int) := w64 (by have := HSs.out; omega)
    have a1 : wrap64 ((s : Int) + 1) = (s : Int) + 1 := w64 (by have := HSs.out; clear a0; omega)
    have a2 : wrap64 ask = ask := w64 (by have := HAk.out; clear a0 a1; omega)
    have a3 : IntKind.i64.wrap ask = ask := by rw [i64_w]; exact a2
    have z1 : (s : Int) < 256 := by have := HSs.out; clear a0 a1 a2 a3; omega
    have z2 : s < 256 := HSs.out
    by_cases hmm : (s : Int) ∈ l.take i
    · have HMm := Aside0.mk hmm
      have hm0 : wr.cell? ⟨gm, s, none⟩ = some (.bool true) := (blk_cell BM.out s).trans ((metA_at _ HSs.out).trans (by rw [decide_eq_true hmm]))
      clear hmm
      go_upto_region 12 with (fail)
      refine start_ (n := 11) (S := fun w' => w'.cell? (ad.add i) = some (.int .u8 (s : Int)) ∧ w'.cell? ⟨gm, s, none⟩ = some (.bool true)) (ds := []) #[false, false, false, false, false, false, false, false, false, false, false] (by kernel_rfl) rfl rfl ⟨hx0, hm0⟩ (fun hHeld => ?_)
      refine pure_ (i := 0) (N := some 31) (v := ?_) (a' := ?_) #[true, false, false, false, false, false, false, false, false, false, false] rfl rfl (by kernel_rfl) (fun _ _ _ h => h) (Or.inl ⟨by rfl, ?_⟩) ?_ ?_
      rotate_left
      · intro w'
        go_simp
        with_reducible rfl
      rotate_left
      · simp only [Act.put, List.setIfInBounds_toArray, List.set_cons_zero, List.set_cons_succ, i64_w, i32_w]
        rfl
      refine pure_ (i := 1) (N := some 32) (v := ?_) (a' := ?_) #[true, true, false, false, false, false, false, false, false, false, false] rfl rfl (by kernel_rfl) (fun _ _ _ h => h) (Or.inl ⟨by rfl, ?_⟩) ?_ ?_
      rotate_left
      · intro w'
        go_simp
        with_reducible rfl
      rotate_left
      · simp only [Act.put, List.setIfInBounds_toArray, List.set_cons_zero, List.set_cons_succ, i64_w, i32_w]
        rfl
      refine pure_ (i := 2) (N := some 33) (v := ?_) (a' := ?_) #[true, true, true, false, false, false, false, false, false, false, false] rfl rfl (by kernel_rfl) (fun _ _ _ h => h) (Or.inl ⟨by rfl, ?_⟩) ?_ ?_
      rotate_left
      · intro w'
        go_simp
        with_reducible rfl
      rotate_left
      · simp only [Act.put, List.setIfInBounds_toArray, List.set_cons_zero, List.set_cons_succ, i64_w, i32_w]
        rfl
      refine pure_ (i := 4) (N := some 35) (v := ?_) (a' := ?_) #[true, true, true, false, true, false, false, false, false, false, false] rfl rfl (by kernel_rfl) (fun _ _ _ h => h) (Or.inl ⟨by rfl, ?_⟩) ?_ ?_
      rotate_left
      · intro w'
        go_simp
        with_reducible rfl
      rotate_left
      · simp only [Act.put, List.setIfInBounds_toArray, List.set_cons_zero, List.set_cons_succ, i64_w, i32_w]
        rfl
      refine pure_ (i := 5) (N := some 36) (v := ?_) (a' := ?_) #[true, true, true, false, true, true, false, false, false, false, false] rfl rfl (by kernel_rfl) (fun _ _ _ h => h) (Or.inl ⟨by rfl, ?_⟩) ?_ ?_
      rotate_left
      · intro w'
        go_simp
        with_reducible rfl
      rotate_left
      · simp only [Act.put, List.setIfInBounds_toArray, List.set_cons_zero, List.set_cons_succ, i64_w, i32_w]
        rfl
      refine pure_ (i := 6) (N := some 37) (v := ?_) (a' := ?_) #[true, true, true, false, true, true, true, false, false, false, false] rfl rfl (by kernel_rfl) (fun _ _ _ h => h) (Or.inl ⟨by rfl, ?_⟩) ?_ ?_
      rotate_left
      · intro w'
        go_simp
        with_reducible rfl
      rotate_left
      · simp only [Act.put, List.setIfInBounds_toArray, List.set_cons_zero, List.set_cons_succ, i64_w, i32_w]
        rfl
      refine take_ (i := 7) (N := some 38) (v := ?_) (a' := ?_) #[true, true, true, false, true, true, true, true, false, false, false] rfl rfl (by kernel_rfl) (fun _ _ _ h => h) (Or.inl ⟨by rfl, ?_⟩) hHeld ?_ ?_
      rotate_left
      · rintro w' ⟨s0, s1⟩
        go_simp
        with_reducible rfl
      rotate_left
      · simp only [Act.put, List.setIfInBounds_toArray, List.set_cons_zero, List.set_cons_succ, i64_w, i32_w]
        rfl
      refine pure_ (i := 8) (N := some 39) (v := ?_) (a' := ?_) #[true, true, true, false, true, true, true, true, true, false, false] rfl rfl (by kernel_rfl) (fun _ _ _ h => h) (Or.inl ⟨by rfl, ?_⟩) ?_ ?_
      rotate_left
      · intro w'
        go_simp
        with_reducible rfl
      rotate_left
      · simp only [Act.put, List.setIfInBounds_toArray, List.set_cons_zero, List.set_cons_succ, i64_w, i32_w]
        rfl
      refine take_ (i := 9) (N := some 40) (v := ?_) (a' := ?_) #[true, true, true, false, true, true, true, true, true, true, false] rfl rfl (by kernel_rfl) (fun _ _ _ h => h) (Or.inl ⟨by rfl, ?_⟩) hHeld ?_ ?_
      rotate_left
      · rintro w' ⟨s0, s1⟩
        go_simp
        with_reducible rfl
      rotate_left
      · simp only [Act.put, List.setIfInBounds_toArray, List.set_cons_zero, List.set_cons_succ, i64_w, i32_w]
        rfl
      refine one_ (i := 3) (N := some 34) #[true, true, true, true, true, true, true, true, true, true, false] rfl rfl (by kernel_rfl) (by decide) (fun K hK => ?_)
      refine goes_ Try.func12 (by kernel_rfl) rfl #[.pointer (some ⟨g, 0, none⟩), .agg #[.string ⟨#[107]⟩, .int .i64 ((s : Int) + 1), .bool false, .string ⟨#[]⟩]] (by rfl) rfl rfl (by simp only [List.map_toArray, List.map_cons, List.map_nil]; rfl) ?_
      with_reducible refine (PNumT w _ g (l.take i) s F1 (HH.out.below (below_drew (Below.refl _ _))) HU1.out HSs.out HLn.out HMm.out).mono ?_
      rintro e w10 ⟨F2, rfl, hh, hn_, hb⟩
      refine ⟨_, rfl, ?_⟩
      have H2 := Aside0.mk hh
      have BM2 := Aside0.mk ((hb.block gm (blk_lt BM.out) (fun hF => HFm.out gm hF rfl)).trans BM.out)
      have HF2 := Aside0.mk (show ∀ k, F2 k → k ≠ gm from fun k hk e => (hn_ k hk).elim (fun h1 => HFm.out k h1 e) (fun h1 => absurd (Nat.lt_of_lt_of_le (blk_lt BM.out) (e ▸ h1)) (Nat.lt_irrefl _)))
      refine hK.out _ _ ⟨((H2.out.low.cell (World.block_lt_of_cell? w _ hs0)).trans hs0), ((blk_cell BM2.out s).trans ((metA_at _ HSs.out).trans (by rw [decide_eq_true HMm.out])))⟩ (fun hHeld => ?_)
      clear hK K
      refine norm_ (a' := ?_) ?_ ?_
      rotate_left
      · show Act.put _ (some 34) _ = _
        simp only [Act.put, List.setIfInBounds_toArray, List.set_cons_zero, List.set_cons_succ, i64_w, i32_w]
        rfl
      refine pure_ (i := 10) (N := some 41) (v := ?_) (a' := ?_) #[true, true, true, true, true, true, true, true, true, true, true] rfl rfl (by kernel_rfl) (fun _ _ _ h => h) (Or.inl ⟨by rfl, ?_⟩) ?_ ?_
      rotate_left
      · intro w'
        go_simp
        with_reducible rfl
      rotate_left
      · simp only [Act.put, List.setIfInBounds_toArray, List.set_cons_zero, List.set_cons_succ, i64_w, i32_w]
        rfl
      refine done_ (by kernel_rfl) ?_

      have hx9 : w10.cell? (ad.add i) = some (.int .u8 (s : Int)) := (H2.out.low.cell (World.block_lt_of_cell? w _ hs0)).trans hs0
      have hm9 : w10.cell? ⟨gm, s, none⟩ = some (.bool true) := (blk_cell BM2.out s).trans ((metA_at _ HSs.out).trans (by rw [decide_eq_true HMm.out]))
      have hf9 : w10.frozen? ⟨gm, s, none⟩ = false := blk_frozen BM2.out s
      clear hx0 hm0 HH hn_ hh
      have HC2 := Aside0.mk (show (nP (l.take (i + 1))).length = (nP (l.take i)).length by rw [T1.out, nP_count HU1.out (by have := HSs.out; omega), if_pos HMm.out])
      have H3 := Aside0.mk (H2.out.set HF2.out HGm.out (.bool true) (j := s))
      have BM3 := Aside0.mk (show (w10.setCell ⟨gm, s, none⟩ (.bool true)).heap[gm]? = some (.cells (metA (l.take (i + 1))) 45 (0, 0)) by rw [T1.out, ← metA_set (l.take i) HSs.out]; exact blk_set BM2.out s (.bool true))
      rw [← T1.out] at H3
      clear H2 BM2 BM hb
      by_cases hqa : (s : Int) + 1 ≤ ask
      · have c0 : decide ((s : Int) + 1 ≤ ask) = true := decide_eq_true hqa
        have HBf := Aside0.mk (show bF ask (l.take (i + 1)) = max (bF ask (l.take i)) ((s : Int) + 1) by rw [T1.out, bF_snoc, if_pos hqa])
        clear hqa
        go_wp2
        clear a0 a1 a2 a3 c0
        go_roundg k1
        case measure => have := HQ.out; omega
        case rel => exact ⟨i + 1, F2, by have h_ := HQ.out; have h2_ := HL.out; simp; unfold wrap64; omega, by rw [HBf.out], by rw [HC2.out], ⟨by have := HQ.out; omega⟩, H3, HF2, BM3⟩
      have c0 : decide ((s : Int) + 1 ≤ ask) = false := decide_eq_false hqa
      have HBf := Aside0.mk (show bF ask (l.take (i + 1)) = bF ask (l.take i) by rw [T1.out, bF_snoc, if_neg hqa])
      clear hqa
      go_wp2
      clear a0 a1 a2 a3 c0
      go_roundg k1
      case measure => have := HQ.out; omega
      case rel => exact ⟨i + 1, F2, by have h_ := HQ.out; have h2_ := HL.out; simp; unfold wrap64; omega, by rw [HBf.out], by rw [HC2.out], ⟨by have := HQ.out; omega⟩, H3, HF2, BM3⟩
    have HMm := Aside0.mk hmm
    have hm0 : wr.cell? ⟨gm, s, none⟩ = some (.bool false) := (blk_cell BM.out s).trans ((metA_at _ HSs.out).trans (by rw [decide_eq_false hmm]))
    clear hmm
    go_upto_region 12 with (fail)
    refine start_ (n := 11) (S := fun w' => w'.cell? (ad.add i) = some (.int .u8 (s : Int)) ∧ w'.cell? ⟨gm, s, none⟩ = some (.bool false)) (ds := []) #[false, false, false, false, false, false, false, false, false, false, false] (by kernel_rfl) rfl rfl ⟨hx0, hm0⟩ (fun hHeld => ?_)
    refine pure_ (i := 0) (N := some 31) (v := ?_) (a' := ?_) #[true, false, false, false, false, false, false, false, false, false, false] rfl rfl (by kernel_rfl) (fun _ _ _ h => h) (Or.inl ⟨by rfl, ?_⟩) ?_ ?_
    rotate_left
    · intro w'
      go_simp
      with_reducible rfl
    rotate_left
    · simp only [Act.put, List.setIfInBounds_toArray, List.set_cons_zero, List.set_cons_succ, i64_w, i32_w]
      rfl
    refine pure_ (i := 1) (N := some 32) (v := ?_) (a' := ?_) #[true, true, false, false, false, false, false, false, false, false, false] rfl rfl (by kernel_rfl) (fun _ _ _ h => h) (Or.inl ⟨by rfl, ?_⟩) ?_ ?_
    rotate_left
    · intro w'
      go_simp
      with_reducible rfl
    rotate_left
    · simp only [Act.put, List.setIfInBounds_toArray, List.set_cons_zero, List.set_cons_succ, i64_w, i32_w]
      rfl
    refine pure_ (i := 2) (N := some 33) (v := ?_) (a' := ?_) #[true, true, true, false, false, false, false, false, false, false, false] rfl rfl (by kernel_rfl) (fun _ _ _ h => h) (Or.inl ⟨by rfl, ?_⟩) ?_ ?_
    rotate_left
    · intro w'
      go_simp
      with_reducible rfl
    rotate_left
    · simp only [Act.put, List.setIfInBounds_toArray, List.set_cons_zero, List.set_cons_succ, i64_w, i32_w]
      rfl
    refine pure_ (i := 4) (N := some 35) (v := ?_) (a' := ?_) #[true, true, true, false, true, false, false, false, false, false, false] rfl rfl (by kernel_rfl) (fun _ _ _ h => h) (Or.inl ⟨by rfl, ?_⟩) ?_ ?_
    rotate_left
    · intro w'
      go_simp
      with_reducible rfl
    rotate_left
    · simp only [Act.put, List.setIfInBounds_toArray, List.set_cons_zero, List.set_cons_succ, i64_w, i32_w]
      rfl
    refine pure_ (i := 5) (N := some 36) (v := ?_) (a' := ?_) #[true, true, true, false, true, true, false, false, false, false, false] rfl rfl (by kernel_rfl) (fun _ _ _ h => h) (Or.inl ⟨by rfl, ?_⟩) ?_ ?_
    rotate_left
    · intro w'
      go_simp
      with_reducible rfl
    rotate_left
    · simp only [Act.put, List.setIfInBounds_toArray, List.set_cons_zero, List.set_cons_succ, i64_w, i32_w]
      rfl
    refine pure_ (i := 6) (N := some 37) (v := ?_) (a' := ?_) #[true, true, true, false, true, true, true, false, false, false, false] rfl rfl (by kernel_rfl) (fun _ _ _ h => h) (Or.inl ⟨by rfl, ?_⟩) ?_ ?_
    rotate_left
    · intro w'
      go_simp
      with_reducible rfl
    rotate_left
    · simp only [Act.put, List.setIfInBounds_toArray, List.set_cons_zero, List.set_cons_succ, i64_w, i32_w]
      rfl
    refine take_ (i := 7) (N := some 38) (v := ?_) (a' := ?_) #[true, true, true, false, true, true, true, true, false, false, false] rfl rfl (by kernel_rfl) (fun _ _ _ h => h) (Or.inl ⟨by rfl, ?_⟩) hHeld ?_ ?_
    rotate_left
    · rintro w' ⟨s0, s1⟩
      go_simp
      with_reducible rfl
    rotate_left
    · simp only [Act.put, List.setIfInBounds_toArray, List.set_cons_zero, List.set_cons_succ, i64_w, i32_w]
      rfl
    refine pure_ (i := 8) (N := some 39) (v := ?_) (a' := ?_) #[true, true, true, false, true, true, true, true, true, false, false] rfl rfl (by kernel_rfl) (fun _ _ _ h => h) (Or.inl ⟨by rfl, ?_⟩) ?_ ?_
    rotate_left
    · intro w'
      go_simp
      with_reducible rfl
    rotate_left
    · simp only [Act.put, List.setIfInBounds_toArray, List.set_cons_zero, List.set_cons_succ, i64_w, i32_w]
      rfl
    refine take_ (i := 9) (N := some 40) (v := ?_) (a' := ?_) #[true, true, true, false, true, true, true, true, true, true, false] rfl rfl (by kernel_rfl) (fun _ _ _ h => h) (Or.inl ⟨by rfl, ?_⟩) hHeld ?_ ?_
    rotate_left
    · rintro w' ⟨s0, s1⟩
      go_simp
      with_reducible rfl
    rotate_left
    · simp only [Act.put, List.setIfInBounds_toArray, List.set_cons_zero, List.set_cons_succ, i64_w, i32_w]
      rfl
    refine one_ (i := 3) (N := some 34) #[true, true, true, true, true, true, true, true, true, true, false] rfl rfl (by kernel_rfl) (by decide) (fun K hK => ?_)
    refine goes_ Try.func12 (by kernel_rfl) rfl #[.pointer (some ⟨g, 0, none⟩), .agg #[.string ⟨#[107]⟩, .int .i64 ((s : Int) + 1), .bool false, .string ⟨#[]⟩]] (by rfl) rfl rfl (by simp only [List.map_toArray, List.map_cons, List.map_nil]; rfl) ?_
    with_reducible refine (PNumF w _ g (l.take i) s F1 (HH.out.below (below_drew (Below.refl _ _))) HU1.out HSs.out HLn.out HMm.out).mono ?_
    rintro e w10 ⟨F2, rfl, hh, hn_, hb⟩
    refine ⟨_, rfl, ?_⟩
    have H2 := Aside0.mk hh
    have BM2 := Aside0.mk ((hb.block gm (blk_lt BM.out) (fun hF => HFm.out gm hF rfl)).trans BM.out)
    have HF2 := Aside0.mk (show ∀ k, F2 k → k ≠ gm from fun k hk e => (hn_ k hk).elim (fun h1 => HFm.out k h1 e) (fun h1 => absurd (Nat.lt_of_lt_of_le (blk_lt BM.out) (e ▸ h1)) (Nat.lt_irrefl _)))
    refine hK.out _ _ ⟨((H2.out.low.cell (World.block_lt_of_cell? w _ hs0)).trans hs0), ((blk_cell BM2.out s).trans ((metA_at _ HSs.out).trans (by rw [decide_eq_false HMm.out])))⟩ (fun hHeld => ?_)
    clear hK K
    refine norm_ (a' := ?_) ?_ ?_
    rotate_left
    · show Act.put _ (some 34) _ = _
      simp only [Act.put, List.setIfInBounds_toArray, List.set_cons_zero, List.set_cons_succ, i64_w, i32_w]
      rfl
    refine pure_ (i := 10) (N := some 41) (v := ?_) (a' := ?_) #[true, true, true, true, true, true, true, true, true, true, true] rfl rfl (by kernel_rfl) (fun _ _ _ h => h) (Or.inl ⟨by rfl, ?_⟩) ?_ ?_
    rotate_left
    · intro w'
      go_simp
      with_reducible rfl
    rotate_left
    · simp only [Act.put, List.setIfInBounds_toArray, List.set_cons_zero, List.set_cons_succ, i64_w, i32_w]
      rfl
    refine done_ (by kernel_rfl) ?_

    have hx9 : w10.cell? (ad.add i) = some (.int .u8 (s : Int)) := (H2.out.low.cell (World.block_lt_of_cell? w _ hs0)).trans hs0
    have hm9 : w10.cell? ⟨gm, s, none⟩ = some (.bool false) := (blk_cell BM2.out s).trans ((metA_at _ HSs.out).trans (by rw [decide_eq_false HMm.out]))
    have hf9 : w10.frozen? ⟨gm, s, none⟩ = false := blk_frozen BM2.out s
    clear hx0 hm0 HH hn_ hh
    have HC2 := Aside0.mk (show (nP (l.take (i + 1))).length = (nP (l.take i)).length + 1 by rw [T1.out, nP_count HU1.out (by have := HSs.out; omega), if_neg HMm.out])
    have HA9 := Aside0.mk (show wrap64 (((nP (l.take i)).length : Int) + 1) = (((nP (l.take i)).length + 1 : Nat) : Int) by rw [w64 (by have := HLn.out; clear a0 a1 a2 a3; omega)]; clear a0 a1 a2 a3; omega)
    have H3 := Aside0.mk (H2.out.set HF2.out HGm.out (.bool true) (j := s))
    have BM3 := Aside0.mk (show (w10.setCell ⟨gm, s, none⟩ (.bool true)).heap[gm]? = some (.cells (metA (l.take (i + 1))) 45 (0, 0)) by rw [T1.out, ← metA_set (l.take i) HSs.out]; exact blk_set BM2.out s (.bool true))
    rw [← T1.out] at H3
    clear H2 BM2 BM hb
    by_cases hqa : (s : Int) + 1 ≤ ask
    · have c0 : decide ((s : Int) + 1 ≤ ask) = true := decide_eq_true hqa
      have HBf := Aside0.mk (show bF ask (l.take (i + 1)) = max (bF ask (l.take i)) ((s : Int) + 1) by rw [T1.out, bF_snoc, if_pos hqa])
      clear hqa
      go_wp2
      clear a0 a1 a2 a3 c0
      go_roundg k1
      case measure => have := HQ.out; omega
      case rel => exact ⟨i + 1, F2, by have h_ := HQ.out; have h2_ := HL.out; simp; unfold wrap64; omega, by rw [HBf.out], by rw [HC2.out, HA9.out], ⟨by have := HQ.out; omega⟩, H3, HF2, BM3⟩
    have c0 : decide ((s : Int) + 1 ≤ ask) = false := decide_eq_false hqa
    have HBf := Aside0.mk (show bF ask (l.take (i + 1)) = bF ask (l.take i) by rw [T1.out, bF_snoc, if_neg hqa])
    clear hqa
    go_wp2
    clear a0 a1 a2 a3 c0
    go_roundg k1
    case measure => have := HQ.out; omega
    case rel => exact ⟨i + 1, F2, by have h_ := HQ.out; have h2_ := HL.out; simp; unfold wrap64; omega, by rw [HBf.out], by rw [HC2.out, HA9.out], ⟨by have := HQ.out; omega⟩, H3, HF2, BM3⟩
  have hd0 : decide (i < l.length) = false := decide_eq_false hlt
  have hd1 : decide ((i : Int) < (l.length : Int)) = false := decide_eq_false (by omega)
  rw [List.take_of_length_le (by omega)] at HH ⊢
  have hlt_ := hlt
  have HLn := Aside0.mk (show (nP l).length ≤ 1000 by have h1 := nP_length l; have h2 := HL.out; omega)
  have a2 : wrap64 ask = ask := w64 (by have := HAk.out; omega)
  clear BM HFm HQ hlt hd1 hd0
  have hd0 : decide (i < l.length) = false := decide_eq_false hlt_
  go_upto_region 20 with (go_at_call 14; go_loud (with_reducible refine (GNum w _ g l ask F1 HH.out HU.out HLn.out).mono ?_; rintro e w5 ⟨na, nd, nv, rfl, hb⟩; have n0_ := Aside0.mk (HH.out.below hb); clear HH hb; have HH := n0_; clear n0_))
  have H9 := Aside0.mk (HH.out.below (below_alloc (Below.refl _ w5) (.cells #[.string na, .int .i64 (bF ask l), .bool nd, .string nv] 29)))
  have BX := Aside0.mk (blk_new w5 (.cells #[.string na, .int .i64 (bF ask l), .bool nd, .string nv] 29))
  clear HH
  generalize w5.alloc (.cells #[.string na, .int .i64 (bF ask l), .bool nd, .string nv] 29) = w6 at H9 BX ⊢
  generalize w5.heap.size = gx at BX ⊢
  have hx1 := bc1 BX
  go_wp2_with (go_at_call 20; with_reducible refine (L1 w _ g _ _ H9.out).mono ?_; rintro e w11 ⟨rfl, hb⟩; have n0_ := Aside0.mk (H9.out.below hb); clear H9 hb; have H9 := n0_; clear n0_)
  go_ret
  exact ⟨rfl, H9.out.low⟩
end Go.Proofs.Ytdkdnfgpgedglaa.Q
