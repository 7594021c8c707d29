import Derived.Test.YtmbedgopceigaaaQTabE
import Derived.Test.YtmbedgopceigaaaQTabQ
namespace Go.Proofs.Ytmbedgopceigaaa.Q
open Go.RowKit Go.Lib Go.Proofs Go.Proofs.Ytmbedgopceigaaa.P Go.Proofs.YtmbedgopceigaaaW.PrintWords Go.Proofs.YtmbedgopceigaaaW.PrintLast Go.Proofs.YtmbedgopceigaaaW.PrintMore
set_option linter.unusedVariables false
set_option linter.unusedSimpArgs false
attribute [local go_sem] max_two
attribute [local go_sem high] string_leq string_geq string_gtr
/-! (*sheet.Sheet).Do -/
theorem below_gr {w0 w w' : World} {v : Value} {b : Nat} (h : Below b w0 w) (hle : b ≤ w.heap.size) (hg : w.grownBy w' v.ownBlock) (hv : ∀ k, v.ownBlock = some k → b ≤ k) : Below b w0 w' :=
  ⟨hg.os.trans h.os, hg.tape.trans h.tape, hg.output.trans h.output, Nat.le_trans h.size hg.size, fun k hk => (hg.block k (by omega) (fun e => by have := hv k e.symm; omega)).trans (h.block k hk)⟩
theorem far_c {w : World} {g gp j k : Nat} {v : Value} (h : gp ≠ g) : (w.setCell ⟨g, j, none⟩ v).cell? ⟨gp, k, none⟩ = w.cell? ⟨gp, k, none⟩ := by
  unfold World.cell?
  rw [Below.heap_setCell w ⟨g, j, none⟩ v gp h]
theorem cell_far {w : World} {p a : Addr} {v : Value} (h : a.block ≠ p.block) : (w.setCell p v).cell? a = w.cell? a := by
  unfold World.cell?
  rw [Below.heap_setCell w p v a.block h]
theorem not_box {w : World} {g : Nat} {A : Option Addr} {n c : Nat} {x y z : Int} {t : Nat} {ad : Addr} {s : ByteArray} (hb : w.heap[g]? = some (.cells #[.slice A n c, .int .i64 x, .int .i64 y, .int .i64 z] t (0, 0))) (h : w.cell? ⟨ad.block, ad.off + 2, none⟩ = some (.string s)) : ad.block ≠ g := by
  intro e
  unfold World.cell? at h
  simp only [e, hb] at h
  match ad.off, h with
  | 0, h => simp at h
  | 1, h => simp at h
  | n + 2, h => simp at h
def SDo_.T17 : Bool × List (List Nat × List Nat) := (true, [([], []), ([], []), ([], []), ([], []), ([], []), ([4], [4]), ([5], [5]), ([6], [6]), ([], []), ([8], [8]), ([7, 9], [7, 9]), ([], []), ([11], [11]), ([12], [12]), ([13], [13]), ([], []), ([15], [15]), ([14, 16], [14, 16]), ([0, 0, 3, 7, 14], [0]), ([18, 0, 3, 7, 14], [18]), ([19, 3, 0, 3, 7, 14], [3, 19]), ([1, 0, 1, 3, 4, 5, 6, 7, 8, 9, 10, 14, 18, 19, 20], [1]), ([21, 0, 1, 3, 4, 5, 6, 7, 8, 9, 10, 14, 18, 19, 20], [21]), ([22, 10, 20, 0, 1, 3, 4, 5, 6, 7, 8, 9, 10, 14, 18, 19, 20], [10, 22]), ([2, 0, 1, 2, 3, 4, 5, 6, 7, 8, 9, 10, 11, 12, 13, 14, 15, 16, 17, 18, 19, 20, 21, 22, 23], [2]), ([24, 0, 1, 2, 3, 4, 5, 6, 7, 8, 9, 10, 11, 12, 13, 14, 15, 16, 17, 18, 19, 20, 21, 22, 23], [24]), ([25, 17, 23, 0, 1, 2, 3, 4, 5, 6, 7, 8, 9, 10, 11, 12, 13, 14, 15, 16, 17, 18, 19, 20, 21, 22, 23], [17, 25])])
def SDo_.B17 : List Nat := [0, 0, 0, 0, 0, 16, 48, 112, 0, 256, 1008, 0, 2048, 6144, 14336, 0, 32768, 129024, 30969, 293113, 817401, 1867771, 3964923, 8159227, 16777215, 33554431, 67108863]
theorem SDo_.tab17 : rtab .any (opsOf Try.f13 17) = SDo_.T17 := by kernel_rfl
theorem SDo_.bits17 : waitsOk SDo_.T17.2 SDo_.B17 = true := by kernel_rfl
theorem do_err {w w' : World} {g : Nat} {s : St} {G : List Int} {C : List S32} {lg sq n : Int} (h : doE s G C lg sq = n) (hn : n ≠ 0) (hS : Sh w g s.l s.lg s.sq s.nx) (hb : Below w.heap.size w w') : Sh w' g (doS s G C lg sq).l (doS s G C lg sq).lg (doS s G C lg sq).sq (doS s G C lg sq).nx ∧ Fr w w' (fun k => k = g) := by
  have e : doS s G C lg sq = s := by unfold doS; rw [if_neg (by omega)]
  rw [e]
  exact ⟨hS.below hb, Fr.below hb⟩
set_option maxHeartbeats 8000000 in
set_option maxRecDepth 100000 in
theorem SDo (w : World) (g : Nat) (s : St) (hs : Sh w g s.l s.lg s.sq s.nx) (hinv : InvS s) (G : List Int) (AG : Option Addr) (cG : Nat) (C : List S32) (AC : Option Addr) (cC : Nat) (lg sq : Int)
    (hG : (Kd.int .i64).C w AG G.length G) (hcG : G.length ≤ cG) (hC : Kd.C k32 w AC C.length C) (hcC : C.length ≤ cC) (hlG : G.length ≤ 1000000) (hlC : C.length ≤ 1000000) :
    Calls Try.prog 13 #[.pointer (some ⟨g, 0, none⟩), .agg #[.slice AG G.length cG, .slice AC C.length cC, .int .i64 lg, .int .i64 sq]] w fun e w' => e = .returned (.int .i64 (doE s G C lg sq)) ∧ Sh w' g (doS s G C lg sq).l (doS s G C lg sq).lg (doS s G C lg sq).sq (doS s G C lg sq).nx ∧ Fr w w' (fun k => k = g) := by
  obtain ⟨Kf, hKf⟩ := formed_ev G C lg sq hlC
  have HFM := Aside0.mk (hKf Kf (Nat.le_refl _))
  clear hKf
  have HS0 := Aside0.mk hs
  have HI := Aside0.mk hinv
  have HLG := Aside0.mk hlG
  have HLC := Aside0.mk hlC
  have HCG := Aside0.mk hcG
  have HCC := Aside0.mk hcC
  have HSL := Aside0.mk hinv.len
  have HG0 := Aside0.mk hG
  have HC0 := Aside0.mk hC
  clear hs hinv hlG hlC hcG hcC hG hC
  obtain ⟨A, c, h1, h2, h3⟩ := HS0.out.reads
  have B0 := Aside0.mk h1
  have HSC := Aside0.mk h2
  have HR0 := Aside0.mk h3
  clear h1 h2 h3
  go_enter Try.func13, Try.ntmps13
  go_upto_region 1 with go_step3
  have HW := Aside0.mk (below_alloc (Below.refl _ w) (.cells #[.slice AG G.length cG, .slice AC C.length cC, .int .i64 lg, .int .i64 sq] 36))
  have B := Aside0.mk (blk_below B0.out HW.out)
  have HR := Aside0.mk (Kd.C_below HR0.out HW.out)
  have HG := Aside0.mk (Kd.C_below HG0.out HW.out)
  have HC := Aside0.mk (Kd.C_below HC0.out HW.out)
  have BE := Aside0.mk (blk_new w (.cells #[.slice AG G.length cG, .slice AC C.length cC, .int .i64 lg, .int .i64 sq] 36))
  have HGP := Aside0.mk (Nat.le_refl w.heap.size)
  clear B0 HR0 HG0 HC0
  generalize w.alloc (.cells #[.slice AG G.length cG, .slice AC C.length cC, .int .i64 lg, .int .i64 sq] 36) = w1 at HW B HR HG HC BE ⊢
  generalize hgp : w.heap.size = gp at BE HGP ⊢
  have hc0 := bc0 B
  have he0 := bc0 BE
  have he1 := bc1 BE
  have he2 := bc2 BE
  have he3 := bc3 BE
  cases hf : formedB G C lg sq with
  | false =>
    rw [hf] at HFM
    have HE := Aside0.mk (show doE s G C lg sq = 10 by unfold doE; rw [if_pos hf])
    clear hf
    go_wp2_with (go_at_call 26; go_loud (with_reducible refine (sheet_formed.calls Kf AG cG G AC cC C lg sq _ w1 HG.out HCG.out HC.out HCC.out HFM.out).mono ?_; rintro e w2 ⟨rfl, hb⟩; have HB := Aside0.mk hb; clear hb hc0 he0 he1 he2 he3; have he0 := bc0 (bb_ BE HB.out)))
    go_ret
    exact ⟨by rw [HE.out]; rfl, do_err HE.out (by decide) HS0.out (below_step HW.out HB.out)⟩
  | true =>
  rw [hf] at HFM
  have HF := Aside0.mk hf
  clear hf
  go_wp2_with (go_at_call 26; go_loud (with_reducible refine (sheet_formed.calls Kf AG cG G AC cC C lg sq _ w1 HG.out HCG.out HC.out HCC.out HFM.out).mono ?_; rintro e w2 ⟨rfl, hb⟩; have HB := Aside0.mk hb; clear hb hc0 he0 he1 he2 he3; have he0 := bc0 (bb_ BE HB.out)))
  clear he0
  go_loopg [15] G.length (fun kq v15 w' => ∃ (i : Nat), v15 = .int .i64 (i : Int) ∧ Aside0 (kq + i = G.length) ∧ Aside0 (∀ j (hj : j < G.length), j < i → s.l.any (fun z => z.f0 == G[j]) = true) ∧ Aside0 (Below w1.heap.size w1 w'))
  case atStart => exact ⟨0, rfl, ⟨by omega⟩, ⟨fun j _ h => by omega⟩, HB⟩
  clear HB
  obtain ⟨i, rfl, HQ, HN, HB⟩ := hrel
  by_cases hlt : i < G.length
  · obtain ⟨k1, rfl⟩ : ∃ k1, gk = k1 + 1 := ⟨gk - 1, by have := HQ.out; omega⟩
    have hd0 : decide (i < G.length) = true := decide_eq_true hlt
    have hd1 : decide ((i : Int) < (G.length : Int)) = true := decide_eq_true (by omega)
    have p0 : 0 ≤ (i : Int) := by omega
    have q0 : (i : Int) < (G.length : Int) := by omega
    obtain ⟨ad, e_, hs0⟩ := Kd.at_int (Kd.C_below HG.out HB.out) (i : Int) p0 q0
    cases e_
    have erd : rd G (i : Int) = G[i] := by simp [rd, List.getD_eq_getElem?_getD, hlt]
    rw [Int.toNat_natCast, erd] at hs0
    clear erd
    obtain ⟨y, hy⟩ : ∃ y, y = G[i] := ⟨_, rfl⟩
    rw [← hy] at hs0
    have HY := Aside0.mk hy
    clear hy
    go_upto_region 6 with go_step3
    have n1_ := bs_ HB (below_alloc (Below.refl _ wr) (.cells #[.int .i64 y] 3))
    have BX := Aside0.mk (blk_new wr (.cells #[.int .i64 y] 3))
    clear HB hs0
    have HB := n1_
    clear n1_
    generalize wr.alloc (.cells #[.int .i64 y] 3) = w3 at HB BX ⊢
    generalize wr.heap.size = gx at BX ⊢
    have hz0 := bc0 BX
    have hc0 := bc0 (bb_ B HB.out)
    cases hp : (s.l.any (fun z => z.f0 == y) : Bool) with
    | false =>
      have HT := Aside0.mk hp
      have HE := Aside0.mk (show doE s G C lg sq = 18 by
        unfold doE
        rw [if_neg (by rw [HF.out]; decide), if_pos]
        unfold hereB
        rw [List.all_eq_false]
        exact ⟨G[i], List.getElem_mem hlt, by rw [← HY.out, hp]; decide⟩)
      clear hp
      go_wp2_with (go_at_call 27; go_loud (with_reducible refine (ContA w3 A c s.l gx y (Kd.C_below HR.out HB.out) (by have := HSL.out; omega) hz0).mono ?_; rintro e w4 ⟨rfl, hb⟩; have n0_ := bs_ HB hb; clear HB hb hz0 hc0; have HB := n0_; clear n0_; rw [HT.out]))
      go_ret
      exact ⟨by rw [HE.out]; rfl, do_err HE.out (by decide) HS0.out (below_step HW.out HB.out)⟩
    | true =>
      have HT := Aside0.mk hp
      have HN2 := Aside0.mk (show ∀ j (hj : j < G.length), j < i + 1 → s.l.any (fun z => z.f0 == G[j]) = true from fun j hj h => by
        rcases Nat.lt_or_ge j i with h1 | h1
        · exact HN.out j hj h1
        · obtain rfl : j = i := by omega
          rw [← HY.out]; exact hp)
      clear hp HN
      go_wp2_with (go_at_call 27; go_loud (with_reducible refine (ContA w3 A c s.l gx y (Kd.C_below HR.out HB.out) (by have := HSL.out; omega) hz0).mono ?_; rintro e w4 ⟨rfl, hb⟩; have n0_ := bs_ HB hb; clear HB hb hz0 hc0; have HB := n0_; clear n0_; rw [HT.out]))
      go_roundg k1
      case measure => have := HQ.out; omega
      case rel => exact ⟨i + 1, by have h_ := HQ.out; have h2_ := HLG.out; simp; unfold wrap64; omega, ⟨by have := HQ.out; omega⟩, HN2, HB⟩
  have hd0 : decide (i < G.length) = false := decide_eq_false hlt
  have hd1 : decide ((i : Int) < (G.length : Int)) = false := decide_eq_false (by omega)
  have HH := Aside0.mk (show hereB s.l G = true by
    unfold hereB
    rw [List.all_eq_true]
    intro x hx
    obtain ⟨j, hj, rfl⟩ := List.getElem_of_mem hx
    exact HN.out j hj (by omega))
  clear HN
  have hc0 := bc0 (bb_ B HB.out)
  have HBE := bb_ BE HB.out
  go_upto_region 10 with (first | (go_at_call 25; go_loud (with_reducible refine (CloneT wr A c s.l (Kd.C_below HR.out HB.out) HSC.out (by have := HSL.out; omega)).mono ?_; rintro e w4 ⟨v4, rfl, ho, hb⟩; have HO := Aside0.mk ho; have HBR := Aside0.mk hb; clear ho hb hc0)) | (go_at_call 29; go_loud (with_reducible refine (DelB wr w4 s.l v4 HO.out HBR.out (by have := HSL.out; omega) gp G AG cG _ _ _ HBE.out (Kd.C_below HG.out HB.out) HLG.out).mono ?_; rintro e w5 ⟨v5, rfl, ho, hb⟩; have HO2 := Aside0.mk ho; have HB2 := Aside0.mk hb; clear ho hb HO HBR)))
  have HLF := Aside0.mk (show (s.l.filter (fun z => !(G.any (fun y => z.f0 == y)))).length ≤ 40 from Nat.le_trans (List.length_filter_le _ _) HSL.out)
  have HBW := Aside0.mk (below_step HB.out HB2.out)
  have he1 := bc1 (bb_ BE HBW.out)
  go_upto_region 11 with (first | ((with_reducible refine gate_builtin (b := .append) (xs := #[.tmp 34, .tmp 36]) rfl ?_); at_builtin; go_loud (refine Kd.R_append_rows k32 (w0 := wr) wr.heap.size rfl (.tmp 34) (.tmp 36) 33 32 (.agg #[(.int .i64 0), (.int .i64 0), (.string ⟨#[]⟩), (.string ⟨#[]⟩), (.int .i64 0)]) 56 rfl Try.underlying33 info32 rfl (by decide) (by omega) v5 (s.l.filter (fun z => !(G.any (fun y => z.f0 == y)))) C _ _ _ (fun _ => True) (fun _ => False) rfl rfl ?aO ?aR (fun _ _ h => h) (fun _ h => h.elim) ?aF ?aB ?aS ?aL ?_; (case aR => exact Kd.C_below HC.out HBW.out); (case aB => exact HB2.out); (case aF => exact (fun _ _ => trivial)); (case aO => exact HO2.out); (case aS => exact (below_size HB2.out)); (case aL => have := HLF.out; have := HLC.out; omega); intro v6 w6 ho hb hg hat; have HO3 := Aside0.mk (show Kd.R k32 32 w6 wr.heap.size (fun _ => True) v6 (rowS s.l G C) from ho); have HB3 := Aside0.mk hb; clear ho hb hg hat HO2 HB2 HBW he1)))
  obtain ⟨A6, c6, rfl, hc6, hr6⟩ := Kd.R_reads HO3.out
  have HR6 := Aside0.mk hr6
  have HC6 := Aside0.mk hc6
  have HNL := Aside0.mk (show (rowS s.l G C).length ≤ 1000000 by unfold rowS; rw [List.length_append]; have := HLF.out; have := (formed_bet HF.out).2.2.2; omega)
  have HB6 := Aside0.mk (below_step HB.out HB3.out)
  clear hc6 hr6
  (try simp only [Act.put, lists_])
  go_cut [8] (fun v8 wc => ∃ b : Bool, v8 = .bool b ∧ Aside0 (b = earlyB C s.nx) ∧ Aside0 (Kd.R k32 32 wc wr.heap.size (fun _ => True) (.slice A6 (rowS s.l G C).length c6) (rowS s.l G C)) ∧ Aside0 (Below wr.heap.size wr wc))
  case first =>
    have he1 := bc1 (bb_ BE HB6.out)
    have hc3 := bc3 (bb_ B HB6.out)
    go_wp2
    by_cases hC0 : C.length = 0
    · have hd0 : decide (0 < (C.length : Int)) = false := decide_eq_false (by omega)
      have hd0n : decide (0 < C.length) = false := decide_eq_false (by omega)
      have HEA := Aside0.mk (show false = earlyB C s.nx by rw [List.eq_nil_of_length_eq_zero hC0]; rfl)
      clear hC0
      go_quiet (fail)
      go_wp2
      go_meet
      case rel => exact ⟨_, rfl, HEA, ⟨Kd.R_below HO3.out (pw_below_drewN (Below.refl _ _) nq)⟩, bs_ HB3 (pw_below_drewN (Below.refl _ _) nq)⟩
    have hd0 : decide (0 < (C.length : Int)) = true := decide_eq_true (by omega)
    have hd0n : decide (0 < C.length) = true := decide_eq_true (by omega)
    have hlt : 0 < C.length := by omega
    obtain ⟨ad, e_, hx0, _, _, _, _⟩ := at_T32 (Kd.C_below HC.out HB6.out) (0 : Int) (by omega) (by omega)
    cases e_
    rw [show rd_T32 C (0 : Int) = C[0] from rdT C 0 hlt] at hx0
    have HEA := Aside0.mk (show decide (C[0].f0 < s.nx) = earlyB C s.nx by
      match C, hlt with
      | c :: r, _ => rfl)
    have hx1 : w6.cell? ad = some (.int .i64 C[0].f0) := by simpa [Addr.add] using hx0
    clear hx0 hC0
    have p1 : (0 : Int) < (C.length : Int) := by omega
    generalize hcf : C[0].f0 = cf at hx1 HEA
    clear hcf
    cases hb : decide (cf < s.nx) with
    | true =>
      rw [hb] at HEA
      go_quiet (fail)
      go_wp2
      go_meet
      case rel => exact ⟨_, rfl, HEA, ⟨Kd.R_below HO3.out (pw_below_drewN (Below.refl _ _) nq)⟩, bs_ HB3 (pw_below_drewN (Below.refl _ _) nq)⟩
    | false =>
      rw [hb] at HEA
      go_quiet (fail)
      go_wp2
      go_meet
      case rel => exact ⟨_, rfl, HEA, ⟨Kd.R_below HO3.out (pw_below_drewN (Below.refl _ _) nq)⟩, bs_ HB3 (pw_below_drewN (Below.refl _ _) nq)⟩
  clear HO3 HB3 HR6 HB6
  obtain ⟨b8, rfl, HEA, HO3, HB3⟩ := hcut
  have HB6 := Aside0.mk (below_step HB.out HB3.out)
  have HR6 := Aside0.mk (show Kd.C k32 wc A6 (rowS s.l G C).length (rowS s.l G C) from (Kd.R_reads' HO3.out).2.2)
  obtain ⟨Ka, hKa⟩ := apart_ev (rowS s.l G C) HNL.out
  have HAP := Aside0.mk (hKa Ka (Nat.le_refl _))
  clear hKa
  have HLT := Aside0.mk (show lateB s C lg sq = (b8 || (decide (0 < lg) && decide (lg < s.lg)) || (decide (0 < sq) && decide (sq < s.sq))) by unfold lateB; rw [HEA.out])
  go_upto_region 12 with go_step3
  (try simp only [Act.put, lists_])
  go_cut [54] (fun v54 wc' => ∃ b : Bool, v54 = .bool b ∧ Aside0 (b = (lateB s C lg sq || !(apartB (rowS s.l G C)))) ∧ Aside0 (Kd.R k32 32 wc' wr.heap.size (fun _ => True) (.slice A6 (rowS s.l G C).length c6) (rowS s.l G C)) ∧ Aside0 (Below wr.heap.size wr wc'))
  case first =>
    obtain ⟨ab, hab⟩ : ∃ ab, ab = apartB (rowS s.l G C) := ⟨_, rfl⟩
    rw [← hab] at HAP
    have HAB := Aside0.mk hab
    clear hab
    have he2 := bc2 (bb_ BE HB6.out)
    have he3 := bc3 (bb_ BE HB6.out)
    have hc1 := bc1 (bb_ B HB6.out)
    have hc2 := bc2 (bb_ B HB6.out)
    clear HEA
    go_wp2
    cases b8 with
    | true =>
      go_quiet (fail)
      go_wp2
      go_meet
      case rel => exact ⟨true, rfl, ⟨by rw [HLT.out]; rfl⟩, ⟨Kd.R_below HO3.out (pw_below_drewN (Below.refl _ _) nq)⟩, bs_ HB3 (pw_below_drewN (Below.refl _ _) nq)⟩
    | false =>
      cases h1 : decide (0 < lg) with
      | true =>
        cases h2 : decide (lg < s.lg) with
        | true =>
          rw [h1, h2] at HLT
          go_quiet (fail)
          go_wp2
          go_meet
          case rel => exact ⟨true, rfl, ⟨by rw [HLT.out]; rfl⟩, ⟨Kd.R_below HO3.out (pw_below_drewN (Below.refl _ _) nq)⟩, bs_ HB3 (pw_below_drewN (Below.refl _ _) nq)⟩
        | false =>
          cases h3 : decide (0 < sq) with
          | true =>
            cases h4 : decide (sq < s.sq) with
            | true =>
              rw [h1, h2, h3, h4] at HLT
              go_quiet (fail)
              go_wp2
              go_meet
              case rel => exact ⟨true, rfl, ⟨by rw [HLT.out]; rfl⟩, ⟨Kd.R_below HO3.out (pw_below_drewN (Below.refl _ _) nq)⟩, bs_ HB3 (pw_below_drewN (Below.refl _ _) nq)⟩
            | false =>
              rw [h1, h2, h3, h4] at HLT
              refine start_ (n := 35) (S := fun w' => w'.cell? ⟨gp, 2, none⟩ = some (.int .i64 lg) ∧ w'.cell? ⟨gp, 3, none⟩ = some (.int .i64 sq) ∧ w'.cell? ⟨g, 1, none⟩ = some (.int .i64 s.lg) ∧ w'.cell? ⟨g, 2, none⟩ = some (.int .i64 s.sq)) (ds := []) #[false, false, false, false, false, false, false, false, false, false, false, false, false, false, false, false, false, false, false, false, false, false, false, false, false, false, false, false, false, false, false, false, false, false, false] (by kernel_rfl) rfl rfl ⟨he2, he3, hc1, hc2⟩ (fun hHeld => ?_)
              refine pure_ (i := 0) (N := some 55) (v := ?_) (a' := ?_) #[true, false, false, false, false, false, false, false, false, false, false, false, false, false, false, false, false, false, false, false, false, false, false, false, false, false, false, false, false, false, false, false, false, false, false] rfl rfl (by kernel_rfl) (fun _ _ _ h => h) (Or.inl ⟨by rfl, ?_⟩) ?_ ?_
              rotate_left
              · intro w'
                go_simp
                with_reducible rfl
              rotate_left
              · simp only [Act.put, List.setIfInBounds_toArray, List.set_cons_zero, List.set_cons_succ, i64_w, i32_w]
                rfl
              refine pure_ (i := 1) (N := some 56) (v := ?_) (a' := ?_) #[true, true, false, false, false, false, false, false, false, false, false, false, false, false, false, false, false, false, false, false, false, false, false, false, false, false, false, false, false, false, false, false, false, false, false] rfl rfl (by kernel_rfl) (fun _ _ _ h => h) (Or.inl ⟨by rfl, ?_⟩) ?_ ?_
              rotate_left
              · intro w'
                go_simp
                with_reducible rfl
              rotate_left
              · simp only [Act.put, List.setIfInBounds_toArray, List.set_cons_zero, List.set_cons_succ, i64_w, i32_w]
                rfl
              refine pure_ (i := 2) (N := some 57) (v := ?_) (a' := ?_) #[true, true, true, false, false, false, false, false, false, false, false, false, false, false, false, false, false, false, false, false, false, false, false, false, false, false, false, false, false, false, false, false, false, false, false] rfl rfl (by kernel_rfl) (fun _ _ _ h => h) (Or.inl ⟨by rfl, ?_⟩) ?_ ?_
              rotate_left
              · intro w'
                go_simp
                with_reducible rfl
              rotate_left
              · simp only [Act.put, List.setIfInBounds_toArray, List.set_cons_zero, List.set_cons_succ, i64_w, i32_w]
                rfl
              refine take_ (i := 3) (N := some 58) (v := ?_) (a' := ?_) #[true, true, true, true, false, false, false, false, false, false, false, false, false, false, false, false, false, false, false, false, false, false, false, false, false, false, false, false, false, false, false, false, false, false, false] rfl rfl (by kernel_rfl) (fun _ _ _ h => h) (Or.inl ⟨by rfl, ?_⟩) hHeld ?_ ?_
              rotate_left
              · rintro w' ⟨s0, s1, s2, s3⟩
                go_simp
                with_reducible rfl
              rotate_left
              · simp only [Act.put, List.setIfInBounds_toArray, List.set_cons_zero, List.set_cons_succ, i64_w, i32_w]
                rfl
              refine pure_ (i := 4) (N := some 59) (v := ?_) (a' := ?_) #[true, true, true, true, true, false, false, false, false, false, false, false, false, false, false, false, false, false, false, false, false, false, false, false, false, false, false, false, false, false, false, false, false, false, false] rfl rfl (by kernel_rfl) (fun _ _ _ h => h) (Or.inl ⟨by rfl, ?_⟩) ?_ ?_
              rotate_left
              · intro w'
                go_simp
                with_reducible rfl
              rotate_left
              · simp only [Act.put, List.setIfInBounds_toArray, List.set_cons_zero, List.set_cons_succ, i64_w, i32_w]
                rfl
              refine pure_ (i := 5) (N := some 60) (v := ?_) (a' := ?_) #[true, true, true, true, true, true, false, false, false, false, false, false, false, false, false, false, false, false, false, false, false, false, false, false, false, false, false, false, false, false, false, false, false, false, false] rfl rfl (by kernel_rfl) (fun _ _ _ h => h) (Or.inl ⟨by rfl, ?_⟩) ?_ ?_
              rotate_left
              · intro w'
                go_simp
                with_reducible rfl
              rotate_left
              · simp only [Act.put, List.setIfInBounds_toArray, List.set_cons_zero, List.set_cons_succ, i64_w, i32_w]
                rfl
              refine pure_ (i := 6) (N := some 61) (v := ?_) (a' := ?_) #[true, true, true, true, true, true, true, false, false, false, false, false, false, false, false, false, false, false, false, false, false, false, false, false, false, false, false, false, false, false, false, false, false, false, false] rfl rfl (by kernel_rfl) (fun _ _ _ h => h) (Or.inl ⟨by rfl, ?_⟩) ?_ ?_
              rotate_left
              · intro w'
                go_simp
                with_reducible rfl
              rotate_left
              · simp only [Act.put, List.setIfInBounds_toArray, List.set_cons_zero, List.set_cons_succ, i64_w, i32_w]
                rfl
              refine pure_ (i := 8) (N := some 63) (v := ?_) (a' := ?_) #[true, true, true, true, true, true, true, false, true, false, false, false, false, false, false, false, false, false, false, false, false, false, false, false, false, false, false, false, false, false, false, false, false, false, false] rfl rfl (by kernel_rfl) (fun _ _ _ h => h) (Or.inl ⟨by rfl, ?_⟩) ?_ ?_
              rotate_left
              · intro w'
                go_simp
                with_reducible rfl
              rotate_left
              · simp only [Act.put, List.setIfInBounds_toArray, List.set_cons_zero, List.set_cons_succ, i64_w, i32_w]
                rfl
              refine pure_ (i := 9) (N := some 64) (v := ?_) (a' := ?_) #[true, true, true, true, true, true, true, false, true, true, false, false, false, false, false, false, false, false, false, false, false, false, false, false, false, false, false, false, false, false, false, false, false, false, false] rfl rfl (by kernel_rfl) (fun _ _ _ h => h) (Or.inl ⟨by rfl, ?_⟩) ?_ ?_
              rotate_left
              · intro w'
                go_simp
                with_reducible rfl
              rotate_left
              · simp only [Act.put, List.setIfInBounds_toArray, List.set_cons_zero, List.set_cons_succ, i64_w, i32_w]
                rfl
              refine pure_ (i := 10) (N := some 65) (v := ?_) (a' := ?_) #[true, true, true, true, true, true, true, false, true, true, true, false, false, false, false, false, false, false, false, false, false, false, false, false, false, false, false, false, false, false, false, false, false, false, false] rfl rfl (by kernel_rfl) (fun _ _ _ h => h) (Or.inl ⟨by rfl, ?_⟩) ?_ ?_
              rotate_left
              · intro w'
                go_simp
                with_reducible rfl
              rotate_left
              · simp only [Act.put, List.setIfInBounds_toArray, List.set_cons_zero, List.set_cons_succ, i64_w, i32_w]
                rfl
              refine take_ (i := 7) (N := some 62) (v := ?_) (a' := ?_) #[true, true, true, true, true, true, true, true, true, true, true, false, false, false, false, false, false, false, false, false, false, false, false, false, false, false, false, false, false, false, false, false, false, false, false] rfl rfl (by kernel_rfl) (fun _ _ _ h => h) (Or.inl ⟨by rfl, ?_⟩) hHeld ?_ ?_
              rotate_left
              · rintro w' ⟨s0, s1, s2, s3⟩
                go_simp
                with_reducible rfl
              rotate_left
              · simp only [Act.put, List.setIfInBounds_toArray, List.set_cons_zero, List.set_cons_succ, i64_w, i32_w]
                rfl
              refine take_ (i := 11) (N := some 66) (v := ?_) (a' := ?_) #[true, true, true, true, true, true, true, true, true, true, true, true, false, false, false, false, false, false, false, false, false, false, false, false, false, false, false, false, false, false, false, false, false, false, false] rfl rfl (by kernel_rfl) (fun _ _ _ h => h) (Or.inl ⟨by rfl, ?_⟩) hHeld ?_ ?_
              rotate_left
              · rintro w' ⟨s0, s1, s2, s3⟩
                go_simp
                with_reducible rfl
              rotate_left
              · simp only [Act.put, List.setIfInBounds_toArray, List.set_cons_zero, List.set_cons_succ, i64_w, i32_w]
                rfl
              refine pure_ (i := 12) (N := some 67) (v := ?_) (a' := ?_) #[true, true, true, true, true, true, true, true, true, true, true, true, true, false, false, false, false, false, false, false, false, false, false, false, false, false, false, false, false, false, false, false, false, false, false] rfl rfl (by kernel_rfl) (fun _ _ _ h => h) (Or.inl ⟨by rfl, ?_⟩) ?_ ?_
              rotate_left
              · intro w'
                go_simp
                with_reducible rfl
              rotate_left
              · simp only [Act.put, List.setIfInBounds_toArray, List.set_cons_zero, List.set_cons_succ, i64_w, i32_w]
                rfl
              refine pure_ (i := 13) (N := some 68) (v := ?_) (a' := ?_) #[true, true, true, true, true, true, true, true, true, true, true, true, true, true, false, false, false, false, false, false, false, false, false, false, false, false, false, false, false, false, false, false, false, false, false] rfl rfl (by kernel_rfl) (fun _ _ _ h => h) (Or.inl ⟨by rfl, ?_⟩) ?_ ?_
              rotate_left
              · intro w'
                go_simp
                with_reducible rfl
              rotate_left
              · simp only [Act.put, List.setIfInBounds_toArray, List.set_cons_zero, List.set_cons_succ, i64_w, i32_w]
                rfl
              refine pure_ (i := 14) (N := some 69) (v := ?_) (a' := ?_) #[true, true, true, true, true, true, true, true, true, true, true, true, true, true, true, false, false, false, false, false, false, false, false, false, false, false, false, false, false, false, false, false, false, false, false] rfl rfl (by kernel_rfl) (fun _ _ _ h => h) (Or.inl ⟨by rfl, ?_⟩) ?_ ?_
              rotate_left
              · intro w'
                go_simp
                with_reducible rfl
              rotate_left
              · simp only [Act.put, List.setIfInBounds_toArray, List.set_cons_zero, List.set_cons_succ, i64_w, i32_w]
                rfl
              refine pure_ (i := 15) (N := some 70) (v := ?_) (a' := ?_) #[true, true, true, true, true, true, true, true, true, true, true, true, true, true, true, true, false, false, false, false, false, false, false, false, false, false, false, false, false, false, false, false, false, false, false] rfl rfl (by kernel_rfl) (fun _ _ _ h => h) (Or.inl ⟨by rfl, ?_⟩) ?_ ?_
              rotate_left
              · intro w'
                go_simp
                with_reducible rfl
              rotate_left
              · simp only [Act.put, List.setIfInBounds_toArray, List.set_cons_zero, List.set_cons_succ, i64_w, i32_w]
                rfl
              refine pure_ (i := 16) (N := some 71) (v := ?_) (a' := ?_) #[true, true, true, true, true, true, true, true, true, true, true, true, true, true, true, true, true, false, false, false, false, false, false, false, false, false, false, false, false, false, false, false, false, false, false] rfl rfl (by kernel_rfl) (fun _ _ _ h => h) (Or.inl ⟨by rfl, ?_⟩) ?_ ?_
              rotate_left
              · intro w'
                go_simp
                with_reducible rfl
              rotate_left
              · simp only [Act.put, List.setIfInBounds_toArray, List.set_cons_zero, List.set_cons_succ, i64_w, i32_w]
                rfl
              refine take_ (i := 17) (N := some 72) (v := ?_) (a' := ?_) #[true, true, true, true, true, true, true, true, true, true, true, true, true, true, true, true, true, true, false, false, false, false, false, false, false, false, false, false, false, false, false, false, false, false, false] rfl rfl (by kernel_rfl) (fun _ _ _ h => h) (Or.inl ⟨by rfl, ?_⟩) hHeld ?_ ?_
              rotate_left
              · rintro w' ⟨s0, s1, s2, s3⟩
                go_simp
                with_reducible rfl
              rotate_left
              · simp only [Act.put, List.setIfInBounds_toArray, List.set_cons_zero, List.set_cons_succ, i64_w, i32_w]
                rfl
              refine pure_ (i := 18) (N := some 73) (v := ?_) (a' := ?_) #[true, true, true, true, true, true, true, true, true, true, true, true, true, true, true, true, true, true, true, false, false, false, false, false, false, false, false, false, false, false, false, false, false, false, false] rfl rfl (by kernel_rfl) (fun _ _ _ h => h) (Or.inl ⟨by rfl, ?_⟩) ?_ ?_
              rotate_left
              · intro w'
                go_simp
                with_reducible rfl
              rotate_left
              · simp only [Act.put, List.setIfInBounds_toArray, List.set_cons_zero, List.set_cons_succ, i64_w, i32_w]
                rfl
              refine pure_ (i := 19) (N := some 74) (v := ?_) (a' := ?_) #[true, true, true, true, true, true, true, true, true, true, true, true, true, true, true, true, true, true, true, true, false, false, false, false, false, false, false, false, false, false, false, false, false, false, false] rfl rfl (by kernel_rfl) (fun _ _ _ h => h) (Or.inl ⟨by rfl, ?_⟩) ?_ ?_
              rotate_left
              · intro w'
                go_simp
                with_reducible rfl
              rotate_left
              · simp only [Act.put, List.setIfInBounds_toArray, List.set_cons_zero, List.set_cons_succ, i64_w, i32_w]
                rfl
              refine pure_ (i := 20) (N := some 75) (v := ?_) (a' := ?_) #[true, true, true, true, true, true, true, true, true, true, true, true, true, true, true, true, true, true, true, true, true, false, false, false, false, false, false, false, false, false, false, false, false, false, false] rfl rfl (by kernel_rfl) (fun _ _ _ h => h) (Or.inl ⟨by rfl, ?_⟩) ?_ ?_
              rotate_left
              · intro w'
                go_simp
                with_reducible rfl
              rotate_left
              · simp only [Act.put, List.setIfInBounds_toArray, List.set_cons_zero, List.set_cons_succ, i64_w, i32_w]
                rfl
              refine pure_ (i := 22) (N := some 77) (v := ?_) (a' := ?_) #[true, true, true, true, true, true, true, true, true, true, true, true, true, true, true, true, true, true, true, true, true, false, true, false, false, false, false, false, false, false, false, false, false, false, false] rfl rfl (by kernel_rfl) (fun _ _ _ h => h) (Or.inl ⟨by rfl, ?_⟩) ?_ ?_
              rotate_left
              · intro w'
                go_simp
                with_reducible rfl
              rotate_left
              · simp only [Act.put, List.setIfInBounds_toArray, List.set_cons_zero, List.set_cons_succ, i64_w, i32_w]
                rfl
              refine pure_ (i := 23) (N := some 78) (v := ?_) (a' := ?_) #[true, true, true, true, true, true, true, true, true, true, true, true, true, true, true, true, true, true, true, true, true, false, true, true, false, false, false, false, false, false, false, false, false, false, false] rfl rfl (by kernel_rfl) (fun _ _ _ h => h) (Or.inl ⟨by rfl, ?_⟩) ?_ ?_
              rotate_left
              · intro w'
                go_simp
                with_reducible rfl
              rotate_left
              · simp only [Act.put, List.setIfInBounds_toArray, List.set_cons_zero, List.set_cons_succ, i64_w, i32_w]
                rfl
              refine pure_ (i := 24) (N := some 79) (v := ?_) (a' := ?_) #[true, true, true, true, true, true, true, true, true, true, true, true, true, true, true, true, true, true, true, true, true, false, true, true, true, false, false, false, false, false, false, false, false, false, false] rfl rfl (by kernel_rfl) (fun _ _ _ h => h) (Or.inl ⟨by rfl, ?_⟩) ?_ ?_
              rotate_left
              · intro w'
                go_simp
                with_reducible rfl
              rotate_left
              · simp only [Act.put, List.setIfInBounds_toArray, List.set_cons_zero, List.set_cons_succ, i64_w, i32_w]
                rfl
              refine take_ (i := 21) (N := some 76) (v := ?_) (a' := ?_) #[true, true, true, true, true, true, true, true, true, true, true, true, true, true, true, true, true, true, true, true, true, true, true, true, true, false, false, false, false, false, false, false, false, false, false] rfl rfl (by kernel_rfl) (fun _ _ _ h => h) (Or.inl ⟨by rfl, ?_⟩) hHeld ?_ ?_
              rotate_left
              · rintro w' ⟨s0, s1, s2, s3⟩
                go_simp
                with_reducible rfl
              rotate_left
              · simp only [Act.put, List.setIfInBounds_toArray, List.set_cons_zero, List.set_cons_succ, i64_w, i32_w]
                rfl
              refine take_ (i := 25) (N := some 80) (v := ?_) (a' := ?_) #[true, true, true, true, true, true, true, true, true, true, true, true, true, true, true, true, true, true, true, true, true, true, true, true, true, true, false, false, false, false, false, false, false, false, false] rfl rfl (by kernel_rfl) (fun _ _ _ h => h) (Or.inl ⟨by rfl, ?_⟩) hHeld ?_ ?_
              rotate_left
              · rintro w' ⟨s0, s1, s2, s3⟩
                go_simp
                with_reducible rfl
              rotate_left
              · simp only [Act.put, List.setIfInBounds_toArray, List.set_cons_zero, List.set_cons_succ, i64_w, i32_w]
                rfl
              refine pure_ (i := 26) (N := some 81) (v := ?_) (a' := ?_) #[true, true, true, true, true, true, true, true, true, true, true, true, true, true, true, true, true, true, true, true, true, true, true, true, true, true, true, false, false, false, false, false, false, false, false] rfl rfl (by kernel_rfl) (fun _ _ _ h => h) (Or.inl ⟨by rfl, ?_⟩) ?_ ?_
              rotate_left
              · intro w'
                go_simp
                with_reducible rfl
              rotate_left
              · simp only [Act.put, List.setIfInBounds_toArray, List.set_cons_zero, List.set_cons_succ, i64_w, i32_w]
                rfl
              refine pure_ (i := 27) (N := some 82) (v := ?_) (a' := ?_) #[true, true, true, true, true, true, true, true, true, true, true, true, true, true, true, true, true, true, true, true, true, true, true, true, true, true, true, true, false, false, false, false, false, false, false] rfl rfl (by kernel_rfl) (fun _ _ _ h => h) (Or.inl ⟨by rfl, ?_⟩) ?_ ?_
              rotate_left
              · intro w'
                go_simp
                with_reducible rfl
              rotate_left
              · simp only [Act.put, List.setIfInBounds_toArray, List.set_cons_zero, List.set_cons_succ, i64_w, i32_w]
                rfl
              refine pure_ (i := 28) (N := some 83) (v := ?_) (a' := ?_) #[true, true, true, true, true, true, true, true, true, true, true, true, true, true, true, true, true, true, true, true, true, true, true, true, true, true, true, true, true, false, false, false, false, false, false] rfl rfl (by kernel_rfl) (fun _ _ _ h => h) (Or.inl ⟨by rfl, ?_⟩) ?_ ?_
              rotate_left
              · intro w'
                go_simp
                with_reducible rfl
              rotate_left
              · simp only [Act.put, List.setIfInBounds_toArray, List.set_cons_zero, List.set_cons_succ, i64_w, i32_w]
                rfl
              refine pure_ (i := 29) (N := some 84) (v := ?_) (a' := ?_) #[true, true, true, true, true, true, true, true, true, true, true, true, true, true, true, true, true, true, true, true, true, true, true, true, true, true, true, true, true, true, false, false, false, false, false] rfl rfl (by kernel_rfl) (fun _ _ _ h => h) (Or.inl ⟨by rfl, ?_⟩) ?_ ?_
              rotate_left
              · intro w'
                go_simp
                with_reducible rfl
              rotate_left
              · simp only [Act.put, List.setIfInBounds_toArray, List.set_cons_zero, List.set_cons_succ, i64_w, i32_w]
                rfl
              refine pure_ (i := 30) (N := some 85) (v := ?_) (a' := ?_) #[true, true, true, true, true, true, true, true, true, true, true, true, true, true, true, true, true, true, true, true, true, true, true, true, true, true, true, true, true, true, true, false, false, false, false] rfl rfl (by kernel_rfl) (fun _ _ _ h => h) (Or.inl ⟨by rfl, ?_⟩) ?_ ?_
              rotate_left
              · intro w'
                go_simp
                with_reducible rfl
              rotate_left
              · simp only [Act.put, List.setIfInBounds_toArray, List.set_cons_zero, List.set_cons_succ, i64_w, i32_w]
                rfl
              refine one_ (i := 31) (N := some 86) #[true, true, true, true, true, true, true, true, true, true, true, true, true, true, true, true, true, true, true, true, true, true, true, true, true, true, true, true, true, true, true, true, false, false, false] rfl rfl (by kernel_rfl) (by decide) (fun K hK => ?_)
              refine goes_ Try.func32 (by kernel_rfl) rfl #[.slice A6 (rowS s.l G C).length c6] (by rfl) rfl rfl (by simp only [List.map_toArray, List.map_cons, List.map_nil]; rfl) ?_
              with_reducible refine (sheet_apart.calls Ka A6 c6 (rowS s.l G C) ab _ (Kd.C_below HR6.out (below_drew1 (Below.refl _ wc))) HC6.out HAP.out).mono ?_
              rintro e w7 ⟨rfl, hb⟩
              refine ⟨_, rfl, ?_⟩
              refine hK.out _ _ ⟨(pw_cell_below hb he2), (pw_cell_below hb he3), (pw_cell_below hb hc1), (pw_cell_below hb hc2)⟩ (fun hHeld => ?_)
              clear hK K
              refine norm_ (a' := ?_) ?_ ?_
              rotate_left
              · show Act.put _ (some 86) _ = _
                simp only [Act.put, List.setIfInBounds_toArray, List.set_cons_zero, List.set_cons_succ, i64_w, i32_w]
                rfl
              refine pure_ (i := 32) (N := some 87) (v := ?_) (a' := ?_) #[true, true, true, true, true, true, true, true, true, true, true, true, true, true, true, true, true, true, true, true, true, true, true, true, true, true, true, true, true, true, true, true, true, false, false] rfl rfl (by kernel_rfl) (fun _ _ _ h => h) (Or.inl ⟨by rfl, ?_⟩) ?_ ?_
              rotate_left
              · intro w'
                go_simp
                with_reducible rfl
              rotate_left
              · simp only [Act.put, List.setIfInBounds_toArray, List.set_cons_zero, List.set_cons_succ, i64_w, i32_w]
                rfl
              refine pure_ (i := 33) (N := some 88) (v := ?_) (a' := ?_) #[true, true, true, true, true, true, true, true, true, true, true, true, true, true, true, true, true, true, true, true, true, true, true, true, true, true, true, true, true, true, true, true, true, true, false] rfl rfl (by kernel_rfl) (fun _ _ _ h => h) (Or.inl ⟨by rfl, ?_⟩) ?_ ?_
              rotate_left
              · intro w'
                go_simp
                with_reducible rfl
              rotate_left
              · simp only [Act.put, List.setIfInBounds_toArray, List.set_cons_zero, List.set_cons_succ, i64_w, i32_w]
                rfl
              refine pure_ (i := 34) (N := some 54) (v := ?_) (a' := ?_) #[true, true, true, true, true, true, true, true, true, true, true, true, true, true, true, true, true, true, true, true, true, true, true, true, true, true, true, true, true, true, true, true, true, true, true] rfl rfl (by kernel_rfl) (fun _ _ _ h => h) (Or.inl ⟨by rfl, ?_⟩) ?_ ?_
              rotate_left
              · intro w'
                go_simp
                with_reducible rfl
              rotate_left
              · simp only [Act.put, List.setIfInBounds_toArray, List.set_cons_zero, List.set_cons_succ, i64_w, i32_w]
                rfl
              refine done_ (by kernel_rfl) ?_

              have n0_ := Aside0.mk (Kd.R_below (Kd.R_drew HO3.out) hb)
              have n1_ := Aside0.mk (below_step (below_drew1 HB3.out) hb)
              go_wp2
              go_meet
              case rel => exact ⟨_, rfl, ⟨by rw [HLT.out, ← HAB.out]; rfl⟩, n0_, n1_⟩
          | false =>
            rw [h1, h2, h3] at HLT
            refine start_ (n := 35) (S := fun w' => w'.cell? ⟨gp, 2, none⟩ = some (.int .i64 lg) ∧ w'.cell? ⟨gp, 3, none⟩ = some (.int .i64 sq) ∧ w'.cell? ⟨g, 1, none⟩ = some (.int .i64 s.lg) ∧ w'.cell? ⟨g, 2, none⟩ = some (.int .i64 s.sq)) (ds := []) #[false, false, false, false, false, false, false, false, false, false, false, false, false, false, false, false, false, false, false, false, false, false, false, false, false, false, false, false, false, false, false, false, false, false, false] (by kernel_rfl) rfl rfl ⟨he2, he3, hc1, hc2⟩ (fun hHeld => ?_)
            refine pure_ (i := 0) (N := some 55) (v := ?_) (a' := ?_) #[true, false, false, false, false, false, false, false, false, false, false, false, false, false, false, false, false, false, false, false, false, false, false, false, false, false, false, false, false, false, false, false, false, false, false] rfl rfl (by kernel_rfl) (fun _ _ _ h => h) (Or.inl ⟨by rfl, ?_⟩) ?_ ?_
            rotate_left
            · intro w'
              go_simp
              with_reducible rfl
            rotate_left
            · simp only [Act.put, List.setIfInBounds_toArray, List.set_cons_zero, List.set_cons_succ, i64_w, i32_w]
              rfl
            refine pure_ (i := 1) (N := some 56) (v := ?_) (a' := ?_) #[true, true, false, false, false, false, false, false, false, false, false, false, false, false, false, false, false, false, false, false, false, false, false, false, false, false, false, false, false, false, false, false, false, false, false] rfl rfl (by kernel_rfl) (fun _ _ _ h => h) (Or.inl ⟨by rfl, ?_⟩) ?_ ?_
            rotate_left
            · intro w'
              go_simp
              with_reducible rfl
            rotate_left
            · simp only [Act.put, List.setIfInBounds_toArray, List.set_cons_zero, List.set_cons_succ, i64_w, i32_w]
              rfl
            refine pure_ (i := 2) (N := some 57) (v := ?_) (a' := ?_) #[true, true, true, false, false, false, false, false, false, false, false, false, false, false, false, false, false, false, false, false, false, false, false, false, false, false, false, false, false, false, false, false, false, false, false] rfl rfl (by kernel_rfl) (fun _ _ _ h => h) (Or.inl ⟨by rfl, ?_⟩) ?_ ?_
            rotate_left
            · intro w'
              go_simp
              with_reducible rfl
            rotate_left
            · simp only [Act.put, List.setIfInBounds_toArray, List.set_cons_zero, List.set_cons_succ, i64_w, i32_w]
              rfl
            refine take_ (i := 3) (N := some 58) (v := ?_) (a' := ?_) #[true, true, true, true, false, false, false, false, false, false, false, false, false, false, false, false, false, false, false, false, false, false, false, false, false, false, false, false, false, false, false, false, false, false, false] rfl rfl (by kernel_rfl) (fun _ _ _ h => h) (Or.inl ⟨by rfl, ?_⟩) hHeld ?_ ?_
            rotate_left
            · rintro w' ⟨s0, s1, s2, s3⟩
              go_simp
              with_reducible rfl
            rotate_left
            · simp only [Act.put, List.setIfInBounds_toArray, List.set_cons_zero, List.set_cons_succ, i64_w, i32_w]
              rfl
            refine pure_ (i := 4) (N := some 59) (v := ?_) (a' := ?_) #[true, true, true, true, true, false, false, false, false, false, false, false, false, false, false, false, false, false, false, false, false, false, false, false, false, false, false, false, false, false, false, false, false, false, false] rfl rfl (by kernel_rfl) (fun _ _ _ h => h) (Or.inl ⟨by rfl, ?_⟩) ?_ ?_
            rotate_left
            · intro w'
              go_simp
              with_reducible rfl
            rotate_left
            · simp only [Act.put, List.setIfInBounds_toArray, List.set_cons_zero, List.set_cons_succ, i64_w, i32_w]
              rfl
            refine pure_ (i := 5) (N := some 60) (v := ?_) (a' := ?_) #[true, true, true, true, true, true, false, false, false, false, false, false, false, false, false, false, false, false, false, false, false, false, false, false, false, false, false, false, false, false, false, false, false, false, false] rfl rfl (by kernel_rfl) (fun _ _ _ h => h) (Or.inl ⟨by rfl, ?_⟩) ?_ ?_
            rotate_left
            · intro w'
              go_simp
              with_reducible rfl
            rotate_left
            · simp only [Act.put, List.setIfInBounds_toArray, List.set_cons_zero, List.set_cons_succ, i64_w, i32_w]
              rfl
            refine pure_ (i := 6) (N := some 61) (v := ?_) (a' := ?_) #[true, true, true, true, true, true, true, false, false, false, false, false, false, false, false, false, false, false, false, false, false, false, false, false, false, false, false, false, false, false, false, false, false, false, false] rfl rfl (by kernel_rfl) (fun _ _ _ h => h) (Or.inl ⟨by rfl, ?_⟩) ?_ ?_
            rotate_left
            · intro w'
              go_simp
              with_reducible rfl
            rotate_left
            · simp only [Act.put, List.setIfInBounds_toArray, List.set_cons_zero, List.set_cons_succ, i64_w, i32_w]
              rfl
            refine pure_ (i := 8) (N := some 63) (v := ?_) (a' := ?_) #[true, true, true, true, true, true, true, false, true, false, false, false, false, false, false, false, false, false, false, false, false, false, false, false, false, false, false, false, false, false, false, false, false, false, false] rfl rfl (by kernel_rfl) (fun _ _ _ h => h) (Or.inl ⟨by rfl, ?_⟩) ?_ ?_
            rotate_left
            · intro w'
              go_simp
              with_reducible rfl
            rotate_left
            · simp only [Act.put, List.setIfInBounds_toArray, List.set_cons_zero, List.set_cons_succ, i64_w, i32_w]
              rfl
            refine pure_ (i := 9) (N := some 64) (v := ?_) (a' := ?_) #[true, true, true, true, true, true, true, false, true, true, false, false, false, false, false, false, false, false, false, false, false, false, false, false, false, false, false, false, false, false, false, false, false, false, false] rfl rfl (by kernel_rfl) (fun _ _ _ h => h) (Or.inl ⟨by rfl, ?_⟩) ?_ ?_
            rotate_left
            · intro w'
              go_simp
              with_reducible rfl
            rotate_left
            · simp only [Act.put, List.setIfInBounds_toArray, List.set_cons_zero, List.set_cons_succ, i64_w, i32_w]
              rfl
            refine pure_ (i := 10) (N := some 65) (v := ?_) (a' := ?_) #[true, true, true, true, true, true, true, false, true, true, true, false, false, false, false, false, false, false, false, false, false, false, false, false, false, false, false, false, false, false, false, false, false, false, false] rfl rfl (by kernel_rfl) (fun _ _ _ h => h) (Or.inl ⟨by rfl, ?_⟩) ?_ ?_
            rotate_left
            · intro w'
              go_simp
              with_reducible rfl
            rotate_left
            · simp only [Act.put, List.setIfInBounds_toArray, List.set_cons_zero, List.set_cons_succ, i64_w, i32_w]
              rfl
            refine take_ (i := 7) (N := some 62) (v := ?_) (a' := ?_) #[true, true, true, true, true, true, true, true, true, true, true, false, false, false, false, false, false, false, false, false, false, false, false, false, false, false, false, false, false, false, false, false, false, false, false] rfl rfl (by kernel_rfl) (fun _ _ _ h => h) (Or.inl ⟨by rfl, ?_⟩) hHeld ?_ ?_
            rotate_left
            · rintro w' ⟨s0, s1, s2, s3⟩
              go_simp
              with_reducible rfl
            rotate_left
            · simp only [Act.put, List.setIfInBounds_toArray, List.set_cons_zero, List.set_cons_succ, i64_w, i32_w]
              rfl
            refine take_ (i := 11) (N := some 66) (v := ?_) (a' := ?_) #[true, true, true, true, true, true, true, true, true, true, true, true, false, false, false, false, false, false, false, false, false, false, false, false, false, false, false, false, false, false, false, false, false, false, false] rfl rfl (by kernel_rfl) (fun _ _ _ h => h) (Or.inl ⟨by rfl, ?_⟩) hHeld ?_ ?_
            rotate_left
            · rintro w' ⟨s0, s1, s2, s3⟩
              go_simp
              with_reducible rfl
            rotate_left
            · simp only [Act.put, List.setIfInBounds_toArray, List.set_cons_zero, List.set_cons_succ, i64_w, i32_w]
              rfl
            refine pure_ (i := 12) (N := some 67) (v := ?_) (a' := ?_) #[true, true, true, true, true, true, true, true, true, true, true, true, true, false, false, false, false, false, false, false, false, false, false, false, false, false, false, false, false, false, false, false, false, false, false] rfl rfl (by kernel_rfl) (fun _ _ _ h => h) (Or.inl ⟨by rfl, ?_⟩) ?_ ?_
            rotate_left
            · intro w'
              go_simp
              with_reducible rfl
            rotate_left
            · simp only [Act.put, List.setIfInBounds_toArray, List.set_cons_zero, List.set_cons_succ, i64_w, i32_w]
              rfl
            refine pure_ (i := 13) (N := some 68) (v := ?_) (a' := ?_) #[true, true, true, true, true, true, true, true, true, true, true, true, true, true, false, false, false, false, false, false, false, false, false, false, false, false, false, false, false, false, false, false, false, false, false] rfl rfl (by kernel_rfl) (fun _ _ _ h => h) (Or.inl ⟨by rfl, ?_⟩) ?_ ?_
            rotate_left
            · intro w'
              go_simp
              with_reducible rfl
            rotate_left
            · simp only [Act.put, List.setIfInBounds_toArray, List.set_cons_zero, List.set_cons_succ, i64_w, i32_w]
              rfl
            refine pure_ (i := 14) (N := some 69) (v := ?_) (a' := ?_) #[true, true, true, true, true, true, true, true, true, true, true, true, true, true, true, false, false, false, false, false, false, false, false, false, false, false, false, false, false, false, false, false, false, false, false] rfl rfl (by kernel_rfl) (fun _ _ _ h => h) (Or.inl ⟨by rfl, ?_⟩) ?_ ?_
            rotate_left
            · intro w'
              go_simp
              with_reducible rfl
            rotate_left
            · simp only [Act.put, List.setIfInBounds_toArray, List.set_cons_zero, List.set_cons_succ, i64_w, i32_w]
              rfl
            refine pure_ (i := 15) (N := some 70) (v := ?_) (a' := ?_) #[true, true, true, true, true, true, true, true, true, true, true, true, true, true, true, true, false, false, false, false, false, false, false, false, false, false, false, false, false, false, false, false, false, false, false] rfl rfl (by kernel_rfl) (fun _ _ _ h => h) (Or.inl ⟨by rfl, ?_⟩) ?_ ?_
            rotate_left
            · intro w'
              go_simp
              with_reducible rfl
            rotate_left
            · simp only [Act.put, List.setIfInBounds_toArray, List.set_cons_zero, List.set_cons_succ, i64_w, i32_w]
              rfl
            refine pure_ (i := 16) (N := some 71) (v := ?_) (a' := ?_) #[true, true, true, true, true, true, true, true, true, true, true, true, true, true, true, true, true, false, false, false, false, false, false, false, false, false, false, false, false, false, false, false, false, false, false] rfl rfl (by kernel_rfl) (fun _ _ _ h => h) (Or.inl ⟨by rfl, ?_⟩) ?_ ?_
            rotate_left
            · intro w'
              go_simp
              with_reducible rfl
            rotate_left
            · simp only [Act.put, List.setIfInBounds_toArray, List.set_cons_zero, List.set_cons_succ, i64_w, i32_w]
              rfl
            refine take_ (i := 17) (N := some 72) (v := ?_) (a' := ?_) #[true, true, true, true, true, true, true, true, true, true, true, true, true, true, true, true, true, true, false, false, false, false, false, false, false, false, false, false, false, false, false, false, false, false, false] rfl rfl (by kernel_rfl) (fun _ _ _ h => h) (Or.inl ⟨by rfl, ?_⟩) hHeld ?_ ?_
            rotate_left
            · rintro w' ⟨s0, s1, s2, s3⟩
              go_simp
              with_reducible rfl
            rotate_left
            · simp only [Act.put, List.setIfInBounds_toArray, List.set_cons_zero, List.set_cons_succ, i64_w, i32_w]
              rfl
            refine pure_ (i := 18) (N := some 73) (v := ?_) (a' := ?_) #[true, true, true, true, true, true, true, true, true, true, true, true, true, true, true, true, true, true, true, false, false, false, false, false, false, false, false, false, false, false, false, false, false, false, false] rfl rfl (by kernel_rfl) (fun _ _ _ h => h) (Or.inl ⟨by rfl, ?_⟩) ?_ ?_
            rotate_left
            · intro w'
              go_simp
              with_reducible rfl
            rotate_left
            · simp only [Act.put, List.setIfInBounds_toArray, List.set_cons_zero, List.set_cons_succ, i64_w, i32_w]
              rfl
            refine pure_ (i := 19) (N := some 74) (v := ?_) (a' := ?_) #[true, true, true, true, true, true, true, true, true, true, true, true, true, true, true, true, true, true, true, true, false, false, false, false, false, false, false, false, false, false, false, false, false, false, false] rfl rfl (by kernel_rfl) (fun _ _ _ h => h) (Or.inl ⟨by rfl, ?_⟩) ?_ ?_
            rotate_left
            · intro w'
              go_simp
              with_reducible rfl
            rotate_left
            · simp only [Act.put, List.setIfInBounds_toArray, List.set_cons_zero, List.set_cons_succ, i64_w, i32_w]
              rfl
            refine pure_ (i := 20) (N := some 75) (v := undef) (a' := ?_) #[true, true, true, true, true, true, true, true, true, true, true, true, true, true, true, true, true, true, true, true, true, false, false, false, false, false, false, false, false, false, false, false, false, false, false] rfl rfl (by kernel_rfl) (fun _ _ _ h => h) (Or.inr ⟨by rfl, rfl⟩) ?_ ?_
            rotate_left
            · simp only [Act.put, List.setIfInBounds_toArray, List.set_cons_zero, List.set_cons_succ, i64_w, i32_w]
              rfl
            refine pure_ (i := 21) (N := some 76) (v := undef) (a' := ?_) #[true, true, true, true, true, true, true, true, true, true, true, true, true, true, true, true, true, true, true, true, true, true, false, false, false, false, false, false, false, false, false, false, false, false, false] rfl rfl (by kernel_rfl) (fun _ _ _ h => h) (Or.inr ⟨by rfl, rfl⟩) ?_ ?_
            rotate_left
            · simp only [Act.put, List.setIfInBounds_toArray, List.set_cons_zero, List.set_cons_succ, i64_w, i32_w]
              rfl
            refine pure_ (i := 22) (N := some 77) (v := undef) (a' := ?_) #[true, true, true, true, true, true, true, true, true, true, true, true, true, true, true, true, true, true, true, true, true, true, true, false, false, false, false, false, false, false, false, false, false, false, false] rfl rfl (by kernel_rfl) (fun _ _ _ h => h) (Or.inr ⟨by rfl, rfl⟩) ?_ ?_
            rotate_left
            · simp only [Act.put, List.setIfInBounds_toArray, List.set_cons_zero, List.set_cons_succ, i64_w, i32_w]
              rfl
            refine pure_ (i := 23) (N := some 78) (v := undef) (a' := ?_) #[true, true, true, true, true, true, true, true, true, true, true, true, true, true, true, true, true, true, true, true, true, true, true, true, false, false, false, false, false, false, false, false, false, false, false] rfl rfl (by kernel_rfl) (fun _ _ _ h => h) (Or.inr ⟨by rfl, rfl⟩) ?_ ?_
            rotate_left
            · simp only [Act.put, List.setIfInBounds_toArray, List.set_cons_zero, List.set_cons_succ, i64_w, i32_w]
              rfl
            refine pure_ (i := 24) (N := some 79) (v := undef) (a' := ?_) #[true, true, true, true, true, true, true, true, true, true, true, true, true, true, true, true, true, true, true, true, true, true, true, true, true, false, false, false, false, false, false, false, false, false, false] rfl rfl (by kernel_rfl) (fun _ _ _ h => h) (Or.inr ⟨by rfl, rfl⟩) ?_ ?_
            rotate_left
            · simp only [Act.put, List.setIfInBounds_toArray, List.set_cons_zero, List.set_cons_succ, i64_w, i32_w]
              rfl
            refine pure_ (i := 25) (N := some 80) (v := undef) (a' := ?_) #[true, true, true, true, true, true, true, true, true, true, true, true, true, true, true, true, true, true, true, true, true, true, true, true, true, true, false, false, false, false, false, false, false, false, false] rfl rfl (by kernel_rfl) (fun _ _ _ h => h) (Or.inr ⟨by rfl, rfl⟩) ?_ ?_
            rotate_left
            · simp only [Act.put, List.setIfInBounds_toArray, List.set_cons_zero, List.set_cons_succ, i64_w, i32_w]
              rfl
            refine pure_ (i := 26) (N := some 81) (v := undef) (a' := ?_) #[true, true, true, true, true, true, true, true, true, true, true, true, true, true, true, true, true, true, true, true, true, true, true, true, true, true, true, false, false, false, false, false, false, false, false] rfl rfl (by kernel_rfl) (fun _ _ _ h => h) (Or.inr ⟨by rfl, rfl⟩) ?_ ?_
            rotate_left
            · simp only [Act.put, List.setIfInBounds_toArray, List.set_cons_zero, List.set_cons_succ, i64_w, i32_w]
              rfl
            refine pure_ (i := 27) (N := some 82) (v := ?_) (a' := ?_) #[true, true, true, true, true, true, true, true, true, true, true, true, true, true, true, true, true, true, true, true, true, true, true, true, true, true, true, true, false, false, false, false, false, false, false] rfl rfl (by kernel_rfl) (fun _ _ _ h => h) (Or.inl ⟨by rfl, ?_⟩) ?_ ?_
            rotate_left
            · intro w'
              go_simp
              with_reducible rfl
            rotate_left
            · simp only [Act.put, List.setIfInBounds_toArray, List.set_cons_zero, List.set_cons_succ, i64_w, i32_w]
              rfl
            refine pure_ (i := 28) (N := some 83) (v := ?_) (a' := ?_) #[true, true, true, true, true, true, true, true, true, true, true, true, true, true, true, true, true, true, true, true, true, true, true, true, true, true, true, true, true, false, false, false, false, false, false] rfl rfl (by kernel_rfl) (fun _ _ _ h => h) (Or.inl ⟨by rfl, ?_⟩) ?_ ?_
            rotate_left
            · intro w'
              go_simp
              with_reducible rfl
            rotate_left
            · simp only [Act.put, List.setIfInBounds_toArray, List.set_cons_zero, List.set_cons_succ, i64_w, i32_w]
              rfl
            refine pure_ (i := 29) (N := some 84) (v := ?_) (a' := ?_) #[true, true, true, true, true, true, true, true, true, true, true, true, true, true, true, true, true, true, true, true, true, true, true, true, true, true, true, true, true, true, false, false, false, false, false] rfl rfl (by kernel_rfl) (fun _ _ _ h => h) (Or.inl ⟨by rfl, ?_⟩) ?_ ?_
            rotate_left
            · intro w'
              go_simp
              with_reducible rfl
            rotate_left
            · simp only [Act.put, List.setIfInBounds_toArray, List.set_cons_zero, List.set_cons_succ, i64_w, i32_w]
              rfl
            refine pure_ (i := 30) (N := some 85) (v := ?_) (a' := ?_) #[true, true, true, true, true, true, true, true, true, true, true, true, true, true, true, true, true, true, true, true, true, true, true, true, true, true, true, true, true, true, true, false, false, false, false] rfl rfl (by kernel_rfl) (fun _ _ _ h => h) (Or.inl ⟨by rfl, ?_⟩) ?_ ?_
            rotate_left
            · intro w'
              go_simp
              with_reducible rfl
            rotate_left
            · simp only [Act.put, List.setIfInBounds_toArray, List.set_cons_zero, List.set_cons_succ, i64_w, i32_w]
              rfl
            refine one_ (i := 31) (N := some 86) #[true, true, true, true, true, true, true, true, true, true, true, true, true, true, true, true, true, true, true, true, true, true, true, true, true, true, true, true, true, true, true, true, false, false, false] rfl rfl (by kernel_rfl) (by decide) (fun K hK => ?_)
            refine goes_ Try.func32 (by kernel_rfl) rfl #[.slice A6 (rowS s.l G C).length c6] (by rfl) rfl rfl (by simp only [List.map_toArray, List.map_cons, List.map_nil]; rfl) ?_
            with_reducible refine (sheet_apart.calls Ka A6 c6 (rowS s.l G C) ab _ (Kd.C_below HR6.out (below_drew1 (Below.refl _ wc))) HC6.out HAP.out).mono ?_
            rintro e w7 ⟨rfl, hb⟩
            refine ⟨_, rfl, ?_⟩
            refine hK.out _ _ ⟨(pw_cell_below hb he2), (pw_cell_below hb he3), (pw_cell_below hb hc1), (pw_cell_below hb hc2)⟩ (fun hHeld => ?_)
            clear hK K
            refine norm_ (a' := ?_) ?_ ?_
            rotate_left
            · show Act.put _ (some 86) _ = _
              simp only [Act.put, List.setIfInBounds_toArray, List.set_cons_zero, List.set_cons_succ, i64_w, i32_w]
              rfl
            refine pure_ (i := 32) (N := some 87) (v := ?_) (a' := ?_) #[true, true, true, true, true, true, true, true, true, true, true, true, true, true, true, true, true, true, true, true, true, true, true, true, true, true, true, true, true, true, true, true, true, false, false] rfl rfl (by kernel_rfl) (fun _ _ _ h => h) (Or.inl ⟨by rfl, ?_⟩) ?_ ?_
            rotate_left
            · intro w'
              go_simp
              with_reducible rfl
            rotate_left
            · simp only [Act.put, List.setIfInBounds_toArray, List.set_cons_zero, List.set_cons_succ, i64_w, i32_w]
              rfl
            refine pure_ (i := 33) (N := some 88) (v := ?_) (a' := ?_) #[true, true, true, true, true, true, true, true, true, true, true, true, true, true, true, true, true, true, true, true, true, true, true, true, true, true, true, true, true, true, true, true, true, true, false] rfl rfl (by kernel_rfl) (fun _ _ _ h => h) (Or.inl ⟨by rfl, ?_⟩) ?_ ?_
            rotate_left
            · intro w'
              go_simp
              with_reducible rfl
            rotate_left
            · simp only [Act.put, List.setIfInBounds_toArray, List.set_cons_zero, List.set_cons_succ, i64_w, i32_w]
              rfl
            refine pure_ (i := 34) (N := some 54) (v := ?_) (a' := ?_) #[true, true, true, true, true, true, true, true, true, true, true, true, true, true, true, true, true, true, true, true, true, true, true, true, true, true, true, true, true, true, true, true, true, true, true] rfl rfl (by kernel_rfl) (fun _ _ _ h => h) (Or.inl ⟨by rfl, ?_⟩) ?_ ?_
            rotate_left
            · intro w'
              go_simp
              with_reducible rfl
            rotate_left
            · simp only [Act.put, List.setIfInBounds_toArray, List.set_cons_zero, List.set_cons_succ, i64_w, i32_w]
              rfl
            refine done_ (by kernel_rfl) ?_

            have n0_ := Aside0.mk (Kd.R_below (Kd.R_drew HO3.out) hb)
            have n1_ := Aside0.mk (below_step (below_drew1 HB3.out) hb)
            go_wp2
            go_meet
            case rel => exact ⟨_, rfl, ⟨by rw [HLT.out, ← HAB.out]; rfl⟩, n0_, n1_⟩
      | false =>
        cases h3 : decide (0 < sq) with
        | true =>
          cases h4 : decide (sq < s.sq) with
          | true =>
            rw [h1, h3, h4] at HLT
            go_quiet (fail)
            go_wp2
            go_meet
            case rel => exact ⟨true, rfl, ⟨by rw [HLT.out]; rfl⟩, ⟨Kd.R_below HO3.out (pw_below_drewN (Below.refl _ _) nq)⟩, bs_ HB3 (pw_below_drewN (Below.refl _ _) nq)⟩
          | false =>
            rw [h1, h3, h4] at HLT
            refine start_ (n := 35) (S := fun w' => w'.cell? ⟨gp, 2, none⟩ = some (.int .i64 lg) ∧ w'.cell? ⟨gp, 3, none⟩ = some (.int .i64 sq) ∧ w'.cell? ⟨g, 1, none⟩ = some (.int .i64 s.lg) ∧ w'.cell? ⟨g, 2, none⟩ = some (.int .i64 s.sq)) (ds := []) #[false, false, false, false, false, false, false, false, false, false, false, false, false, false, false, false, false, false, false, false, false, false, false, false, false, false, false, false, false, false, false, false, false, false, false] (by kernel_rfl) rfl rfl ⟨he2, he3, hc1, hc2⟩ (fun hHeld => ?_)
            refine pure_ (i := 0) (N := some 55) (v := ?_) (a' := ?_) #[true, false, false, false, false, false, false, false, false, false, false, false, false, false, false, false, false, false, false, false, false, false, false, false, false, false, false, false, false, false, false, false, false, false, false] rfl rfl (by kernel_rfl) (fun _ _ _ h => h) (Or.inl ⟨by rfl, ?_⟩) ?_ ?_
            rotate_left
            · intro w'
              go_simp
              with_reducible rfl
            rotate_left
            · simp only [Act.put, List.setIfInBounds_toArray, List.set_cons_zero, List.set_cons_succ, i64_w, i32_w]
              rfl
            refine pure_ (i := 1) (N := some 56) (v := ?_) (a' := ?_) #[true, true, false, false, false, false, false, false, false, false, false, false, false, false, false, false, false, false, false, false, false, false, false, false, false, false, false, false, false, false, false, false, false, false, false] rfl rfl (by kernel_rfl) (fun _ _ _ h => h) (Or.inl ⟨by rfl, ?_⟩) ?_ ?_
            rotate_left
            · intro w'
              go_simp
              with_reducible rfl
            rotate_left
            · simp only [Act.put, List.setIfInBounds_toArray, List.set_cons_zero, List.set_cons_succ, i64_w, i32_w]
              rfl
            refine pure_ (i := 2) (N := some 57) (v := ?_) (a' := ?_) #[true, true, true, false, false, false, false, false, false, false, false, false, false, false, false, false, false, false, false, false, false, false, false, false, false, false, false, false, false, false, false, false, false, false, false] rfl rfl (by kernel_rfl) (fun _ _ _ h => h) (Or.inl ⟨by rfl, ?_⟩) ?_ ?_
            rotate_left
            · intro w'
              go_simp
              with_reducible rfl
            rotate_left
            · simp only [Act.put, List.setIfInBounds_toArray, List.set_cons_zero, List.set_cons_succ, i64_w, i32_w]
              rfl
            refine take_ (i := 3) (N := some 58) (v := ?_) (a' := ?_) #[true, true, true, true, false, false, false, false, false, false, false, false, false, false, false, false, false, false, false, false, false, false, false, false, false, false, false, false, false, false, false, false, false, false, false] rfl rfl (by kernel_rfl) (fun _ _ _ h => h) (Or.inl ⟨by rfl, ?_⟩) hHeld ?_ ?_
            rotate_left
            · rintro w' ⟨s0, s1, s2, s3⟩
              go_simp
              with_reducible rfl
            rotate_left
            · simp only [Act.put, List.setIfInBounds_toArray, List.set_cons_zero, List.set_cons_succ, i64_w, i32_w]
              rfl
            refine pure_ (i := 4) (N := some 59) (v := ?_) (a' := ?_) #[true, true, true, true, true, false, false, false, false, false, false, false, false, false, false, false, false, false, false, false, false, false, false, false, false, false, false, false, false, false, false, false, false, false, false] rfl rfl (by kernel_rfl) (fun _ _ _ h => h) (Or.inl ⟨by rfl, ?_⟩) ?_ ?_
            rotate_left
            · intro w'
              go_simp
              with_reducible rfl
            rotate_left
            · simp only [Act.put, List.setIfInBounds_toArray, List.set_cons_zero, List.set_cons_succ, i64_w, i32_w]
              rfl
            refine pure_ (i := 5) (N := some 60) (v := ?_) (a' := ?_) #[true, true, true, true, true, true, false, false, false, false, false, false, false, false, false, false, false, false, false, false, false, false, false, false, false, false, false, false, false, false, false, false, false, false, false] rfl rfl (by kernel_rfl) (fun _ _ _ h => h) (Or.inl ⟨by rfl, ?_⟩) ?_ ?_
            rotate_left
            · intro w'
              go_simp
              with_reducible rfl
            rotate_left
            · simp only [Act.put, List.setIfInBounds_toArray, List.set_cons_zero, List.set_cons_succ, i64_w, i32_w]
              rfl
            refine pure_ (i := 6) (N := some 61) (v := undef) (a' := ?_) #[true, true, true, true, true, true, true, false, false, false, false, false, false, false, false, false, false, false, false, false, false, false, false, false, false, false, false, false, false, false, false, false, false, false, false] rfl rfl (by kernel_rfl) (fun _ _ _ h => h) (Or.inr ⟨by rfl, rfl⟩) ?_ ?_
            rotate_left
            · simp only [Act.put, List.setIfInBounds_toArray, List.set_cons_zero, List.set_cons_succ, i64_w, i32_w]
              rfl
            refine pure_ (i := 7) (N := some 62) (v := undef) (a' := ?_) #[true, true, true, true, true, true, true, true, false, false, false, false, false, false, false, false, false, false, false, false, false, false, false, false, false, false, false, false, false, false, false, false, false, false, false] rfl rfl (by kernel_rfl) (fun _ _ _ h => h) (Or.inr ⟨by rfl, rfl⟩) ?_ ?_
            rotate_left
            · simp only [Act.put, List.setIfInBounds_toArray, List.set_cons_zero, List.set_cons_succ, i64_w, i32_w]
              rfl
            refine pure_ (i := 8) (N := some 63) (v := undef) (a' := ?_) #[true, true, true, true, true, true, true, true, true, false, false, false, false, false, false, false, false, false, false, false, false, false, false, false, false, false, false, false, false, false, false, false, false, false, false] rfl rfl (by kernel_rfl) (fun _ _ _ h => h) (Or.inr ⟨by rfl, rfl⟩) ?_ ?_
            rotate_left
            · simp only [Act.put, List.setIfInBounds_toArray, List.set_cons_zero, List.set_cons_succ, i64_w, i32_w]
              rfl
            refine pure_ (i := 9) (N := some 64) (v := undef) (a' := ?_) #[true, true, true, true, true, true, true, true, true, true, false, false, false, false, false, false, false, false, false, false, false, false, false, false, false, false, false, false, false, false, false, false, false, false, false] rfl rfl (by kernel_rfl) (fun _ _ _ h => h) (Or.inr ⟨by rfl, rfl⟩) ?_ ?_
            rotate_left
            · simp only [Act.put, List.setIfInBounds_toArray, List.set_cons_zero, List.set_cons_succ, i64_w, i32_w]
              rfl
            refine pure_ (i := 10) (N := some 65) (v := undef) (a' := ?_) #[true, true, true, true, true, true, true, true, true, true, true, false, false, false, false, false, false, false, false, false, false, false, false, false, false, false, false, false, false, false, false, false, false, false, false] rfl rfl (by kernel_rfl) (fun _ _ _ h => h) (Or.inr ⟨by rfl, rfl⟩) ?_ ?_
            rotate_left
            · simp only [Act.put, List.setIfInBounds_toArray, List.set_cons_zero, List.set_cons_succ, i64_w, i32_w]
              rfl
            refine pure_ (i := 11) (N := some 66) (v := undef) (a' := ?_) #[true, true, true, true, true, true, true, true, true, true, true, true, false, false, false, false, false, false, false, false, false, false, false, false, false, false, false, false, false, false, false, false, false, false, false] rfl rfl (by kernel_rfl) (fun _ _ _ h => h) (Or.inr ⟨by rfl, rfl⟩) ?_ ?_
            rotate_left
            · simp only [Act.put, List.setIfInBounds_toArray, List.set_cons_zero, List.set_cons_succ, i64_w, i32_w]
              rfl
            refine pure_ (i := 12) (N := some 67) (v := undef) (a' := ?_) #[true, true, true, true, true, true, true, true, true, true, true, true, true, false, false, false, false, false, false, false, false, false, false, false, false, false, false, false, false, false, false, false, false, false, false] rfl rfl (by kernel_rfl) (fun _ _ _ h => h) (Or.inr ⟨by rfl, rfl⟩) ?_ ?_
            rotate_left
            · simp only [Act.put, List.setIfInBounds_toArray, List.set_cons_zero, List.set_cons_succ, i64_w, i32_w]
              rfl
            refine pure_ (i := 13) (N := some 68) (v := ?_) (a' := ?_) #[true, true, true, true, true, true, true, true, true, true, true, true, true, true, false, false, false, false, false, false, false, false, false, false, false, false, false, false, false, false, false, false, false, false, false] rfl rfl (by kernel_rfl) (fun _ _ _ h => h) (Or.inl ⟨by rfl, ?_⟩) ?_ ?_
            rotate_left
            · intro w'
              go_simp
              with_reducible rfl
            rotate_left
            · simp only [Act.put, List.setIfInBounds_toArray, List.set_cons_zero, List.set_cons_succ, i64_w, i32_w]
              rfl
            refine pure_ (i := 14) (N := some 69) (v := ?_) (a' := ?_) #[true, true, true, true, true, true, true, true, true, true, true, true, true, true, true, false, false, false, false, false, false, false, false, false, false, false, false, false, false, false, false, false, false, false, false] rfl rfl (by kernel_rfl) (fun _ _ _ h => h) (Or.inl ⟨by rfl, ?_⟩) ?_ ?_
            rotate_left
            · intro w'
              go_simp
              with_reducible rfl
            rotate_left
            · simp only [Act.put, List.setIfInBounds_toArray, List.set_cons_zero, List.set_cons_succ, i64_w, i32_w]
              rfl
            refine pure_ (i := 15) (N := some 70) (v := ?_) (a' := ?_) #[true, true, true, true, true, true, true, true, true, true, true, true, true, true, true, true, false, false, false, false, false, false, false, false, false, false, false, false, false, false, false, false, false, false, false] rfl rfl (by kernel_rfl) (fun _ _ _ h => h) (Or.inl ⟨by rfl, ?_⟩) ?_ ?_
            rotate_left
            · intro w'
              go_simp
              with_reducible rfl
            rotate_left
            · simp only [Act.put, List.setIfInBounds_toArray, List.set_cons_zero, List.set_cons_succ, i64_w, i32_w]
              rfl
            refine pure_ (i := 16) (N := some 71) (v := ?_) (a' := ?_) #[true, true, true, true, true, true, true, true, true, true, true, true, true, true, true, true, true, false, false, false, false, false, false, false, false, false, false, false, false, false, false, false, false, false, false] rfl rfl (by kernel_rfl) (fun _ _ _ h => h) (Or.inl ⟨by rfl, ?_⟩) ?_ ?_
            rotate_left
            · intro w'
              go_simp
              with_reducible rfl
            rotate_left
            · simp only [Act.put, List.setIfInBounds_toArray, List.set_cons_zero, List.set_cons_succ, i64_w, i32_w]
              rfl
            refine take_ (i := 17) (N := some 72) (v := ?_) (a' := ?_) #[true, true, true, true, true, true, true, true, true, true, true, true, true, true, true, true, true, true, false, false, false, false, false, false, false, false, false, false, false, false, false, false, false, false, false] rfl rfl (by kernel_rfl) (fun _ _ _ h => h) (Or.inl ⟨by rfl, ?_⟩) hHeld ?_ ?_
            rotate_left
            · rintro w' ⟨s0, s1, s2, s3⟩
              go_simp
              with_reducible rfl
            rotate_left
            · simp only [Act.put, List.setIfInBounds_toArray, List.set_cons_zero, List.set_cons_succ, i64_w, i32_w]
              rfl
            refine pure_ (i := 18) (N := some 73) (v := ?_) (a' := ?_) #[true, true, true, true, true, true, true, true, true, true, true, true, true, true, true, true, true, true, true, false, false, false, false, false, false, false, false, false, false, false, false, false, false, false, false] rfl rfl (by kernel_rfl) (fun _ _ _ h => h) (Or.inl ⟨by rfl, ?_⟩) ?_ ?_
            rotate_left
            · intro w'
              go_simp
              with_reducible rfl
            rotate_left
            · simp only [Act.put, List.setIfInBounds_toArray, List.set_cons_zero, List.set_cons_succ, i64_w, i32_w]
              rfl
            refine pure_ (i := 19) (N := some 74) (v := ?_) (a' := ?_) #[true, true, true, true, true, true, true, true, true, true, true, true, true, true, true, true, true, true, true, true, false, false, false, false, false, false, false, false, false, false, false, false, false, false, false] rfl rfl (by kernel_rfl) (fun _ _ _ h => h) (Or.inl ⟨by rfl, ?_⟩) ?_ ?_
            rotate_left
            · intro w'
              go_simp
              with_reducible rfl
            rotate_left
            · simp only [Act.put, List.setIfInBounds_toArray, List.set_cons_zero, List.set_cons_succ, i64_w, i32_w]
              rfl
            refine pure_ (i := 20) (N := some 75) (v := ?_) (a' := ?_) #[true, true, true, true, true, true, true, true, true, true, true, true, true, true, true, true, true, true, true, true, true, false, false, false, false, false, false, false, false, false, false, false, false, false, false] rfl rfl (by kernel_rfl) (fun _ _ _ h => h) (Or.inl ⟨by rfl, ?_⟩) ?_ ?_
            rotate_left
            · intro w'
              go_simp
              with_reducible rfl
            rotate_left
            · simp only [Act.put, List.setIfInBounds_toArray, List.set_cons_zero, List.set_cons_succ, i64_w, i32_w]
              rfl
            refine pure_ (i := 22) (N := some 77) (v := ?_) (a' := ?_) #[true, true, true, true, true, true, true, true, true, true, true, true, true, true, true, true, true, true, true, true, true, false, true, false, false, false, false, false, false, false, false, false, false, false, false] rfl rfl (by kernel_rfl) (fun _ _ _ h => h) (Or.inl ⟨by rfl, ?_⟩) ?_ ?_
            rotate_left
            · intro w'
              go_simp
              with_reducible rfl
            rotate_left
            · simp only [Act.put, List.setIfInBounds_toArray, List.set_cons_zero, List.set_cons_succ, i64_w, i32_w]
              rfl
            refine pure_ (i := 23) (N := some 78) (v := ?_) (a' := ?_) #[true, true, true, true, true, true, true, true, true, true, true, true, true, true, true, true, true, true, true, true, true, false, true, true, false, false, false, false, false, false, false, false, false, false, false] rfl rfl (by kernel_rfl) (fun _ _ _ h => h) (Or.inl ⟨by rfl, ?_⟩) ?_ ?_
            rotate_left
            · intro w'
              go_simp
              with_reducible rfl
            rotate_left
            · simp only [Act.put, List.setIfInBounds_toArray, List.set_cons_zero, List.set_cons_succ, i64_w, i32_w]
              rfl
            refine pure_ (i := 24) (N := some 79) (v := ?_) (a' := ?_) #[true, true, true, true, true, true, true, true, true, true, true, true, true, true, true, true, true, true, true, true, true, false, true, true, true, false, false, false, false, false, false, false, false, false, false] rfl rfl (by kernel_rfl) (fun _ _ _ h => h) (Or.inl ⟨by rfl, ?_⟩) ?_ ?_
            rotate_left
            · intro w'
              go_simp
              with_reducible rfl
            rotate_left
            · simp only [Act.put, List.setIfInBounds_toArray, List.set_cons_zero, List.set_cons_succ, i64_w, i32_w]
              rfl
            refine take_ (i := 21) (N := some 76) (v := ?_) (a' := ?_) #[true, true, true, true, true, true, true, true, true, true, true, true, true, true, true, true, true, true, true, true, true, true, true, true, true, false, false, false, false, false, false, false, false, false, false] rfl rfl (by kernel_rfl) (fun _ _ _ h => h) (Or.inl ⟨by rfl, ?_⟩) hHeld ?_ ?_
            rotate_left
            · rintro w' ⟨s0, s1, s2, s3⟩
              go_simp
              with_reducible rfl
            rotate_left
            · simp only [Act.put, List.setIfInBounds_toArray, List.set_cons_zero, List.set_cons_succ, i64_w, i32_w]
              rfl
            refine take_ (i := 25) (N := some 80) (v := ?_) (a' := ?_) #[true, true, true, true, true, true, true, true, true, true, true, true, true, true, true, true, true, true, true, true, true, true, true, true, true, true, false, false, false, false, false, false, false, false, false] rfl rfl (by kernel_rfl) (fun _ _ _ h => h) (Or.inl ⟨by rfl, ?_⟩) hHeld ?_ ?_
            rotate_left
            · rintro w' ⟨s0, s1, s2, s3⟩
              go_simp
              with_reducible rfl
            rotate_left
            · simp only [Act.put, List.setIfInBounds_toArray, List.set_cons_zero, List.set_cons_succ, i64_w, i32_w]
              rfl
            refine pure_ (i := 26) (N := some 81) (v := ?_) (a' := ?_) #[true, true, true, true, true, true, true, true, true, true, true, true, true, true, true, true, true, true, true, true, true, true, true, true, true, true, true, false, false, false, false, false, false, false, false] rfl rfl (by kernel_rfl) (fun _ _ _ h => h) (Or.inl ⟨by rfl, ?_⟩) ?_ ?_
            rotate_left
            · intro w'
              go_simp
              with_reducible rfl
            rotate_left
            · simp only [Act.put, List.setIfInBounds_toArray, List.set_cons_zero, List.set_cons_succ, i64_w, i32_w]
              rfl
            refine pure_ (i := 27) (N := some 82) (v := ?_) (a' := ?_) #[true, true, true, true, true, true, true, true, true, true, true, true, true, true, true, true, true, true, true, true, true, true, true, true, true, true, true, true, false, false, false, false, false, false, false] rfl rfl (by kernel_rfl) (fun _ _ _ h => h) (Or.inl ⟨by rfl, ?_⟩) ?_ ?_
            rotate_left
            · intro w'
              go_simp
              with_reducible rfl
            rotate_left
            · simp only [Act.put, List.setIfInBounds_toArray, List.set_cons_zero, List.set_cons_succ, i64_w, i32_w]
              rfl
            refine pure_ (i := 28) (N := some 83) (v := ?_) (a' := ?_) #[true, true, true, true, true, true, true, true, true, true, true, true, true, true, true, true, true, true, true, true, true, true, true, true, true, true, true, true, true, false, false, false, false, false, false] rfl rfl (by kernel_rfl) (fun _ _ _ h => h) (Or.inl ⟨by rfl, ?_⟩) ?_ ?_
            rotate_left
            · intro w'
              go_simp
              with_reducible rfl
            rotate_left
            · simp only [Act.put, List.setIfInBounds_toArray, List.set_cons_zero, List.set_cons_succ, i64_w, i32_w]
              rfl
            refine pure_ (i := 29) (N := some 84) (v := ?_) (a' := ?_) #[true, true, true, true, true, true, true, true, true, true, true, true, true, true, true, true, true, true, true, true, true, true, true, true, true, true, true, true, true, true, false, false, false, false, false] rfl rfl (by kernel_rfl) (fun _ _ _ h => h) (Or.inl ⟨by rfl, ?_⟩) ?_ ?_
            rotate_left
            · intro w'
              go_simp
              with_reducible rfl
            rotate_left
            · simp only [Act.put, List.setIfInBounds_toArray, List.set_cons_zero, List.set_cons_succ, i64_w, i32_w]
              rfl
            refine pure_ (i := 30) (N := some 85) (v := ?_) (a' := ?_) #[true, true, true, true, true, true, true, true, true, true, true, true, true, true, true, true, true, true, true, true, true, true, true, true, true, true, true, true, true, true, true, false, false, false, false] rfl rfl (by kernel_rfl) (fun _ _ _ h => h) (Or.inl ⟨by rfl, ?_⟩) ?_ ?_
            rotate_left
            · intro w'
              go_simp
              with_reducible rfl
            rotate_left
            · simp only [Act.put, List.setIfInBounds_toArray, List.set_cons_zero, List.set_cons_succ, i64_w, i32_w]
              rfl
            refine one_ (i := 31) (N := some 86) #[true, true, true, true, true, true, true, true, true, true, true, true, true, true, true, true, true, true, true, true, true, true, true, true, true, true, true, true, true, true, true, true, false, false, false] rfl rfl (by kernel_rfl) (by decide) (fun K hK => ?_)
            refine goes_ Try.func32 (by kernel_rfl) rfl #[.slice A6 (rowS s.l G C).length c6] (by rfl) rfl rfl (by simp only [List.map_toArray, List.map_cons, List.map_nil]; rfl) ?_
            with_reducible refine (sheet_apart.calls Ka A6 c6 (rowS s.l G C) ab _ (Kd.C_below HR6.out (below_drew1 (Below.refl _ wc))) HC6.out HAP.out).mono ?_
            rintro e w7 ⟨rfl, hb⟩
            refine ⟨_, rfl, ?_⟩
            refine hK.out _ _ ⟨(pw_cell_below hb he2), (pw_cell_below hb he3), (pw_cell_below hb hc1), (pw_cell_below hb hc2)⟩ (fun hHeld => ?_)
            clear hK K
            refine norm_ (a' := ?_) ?_ ?_
            rotate_left
            · show Act.put _ (some 86) _ = _
              simp only [Act.put, List.setIfInBounds_toArray, List.set_cons_zero, List.set_cons_succ, i64_w, i32_w]
              rfl
            refine pure_ (i := 32) (N := some 87) (v := ?_) (a' := ?_) #[true, true, true, true, true, true, true, true, true, true, true, true, true, true, true, true, true, true, true, true, true, true, true, true, true, true, true, true, true, true, true, true, true, false, false] rfl rfl (by kernel_rfl) (fun _ _ _ h => h) (Or.inl ⟨by rfl, ?_⟩) ?_ ?_
            rotate_left
            · intro w'
              go_simp
              with_reducible rfl
            rotate_left
            · simp only [Act.put, List.setIfInBounds_toArray, List.set_cons_zero, List.set_cons_succ, i64_w, i32_w]
              rfl
            refine pure_ (i := 33) (N := some 88) (v := ?_) (a' := ?_) #[true, true, true, true, true, true, true, true, true, true, true, true, true, true, true, true, true, true, true, true, true, true, true, true, true, true, true, true, true, true, true, true, true, true, false] rfl rfl (by kernel_rfl) (fun _ _ _ h => h) (Or.inl ⟨by rfl, ?_⟩) ?_ ?_
            rotate_left
            · intro w'
              go_simp
              with_reducible rfl
            rotate_left
            · simp only [Act.put, List.setIfInBounds_toArray, List.set_cons_zero, List.set_cons_succ, i64_w, i32_w]
              rfl
            refine pure_ (i := 34) (N := some 54) (v := ?_) (a' := ?_) #[true, true, true, true, true, true, true, true, true, true, true, true, true, true, true, true, true, true, true, true, true, true, true, true, true, true, true, true, true, true, true, true, true, true, true] rfl rfl (by kernel_rfl) (fun _ _ _ h => h) (Or.inl ⟨by rfl, ?_⟩) ?_ ?_
            rotate_left
            · intro w'
              go_simp
              with_reducible rfl
            rotate_left
            · simp only [Act.put, List.setIfInBounds_toArray, List.set_cons_zero, List.set_cons_succ, i64_w, i32_w]
              rfl
            refine done_ (by kernel_rfl) ?_

            have n0_ := Aside0.mk (Kd.R_below (Kd.R_drew HO3.out) hb)
            have n1_ := Aside0.mk (below_step (below_drew1 HB3.out) hb)
            go_wp2
            go_meet
            case rel => exact ⟨_, rfl, ⟨by rw [HLT.out, ← HAB.out]; rfl⟩, n0_, n1_⟩
        | false =>
          rw [h1, h3] at HLT
          refine start_ (n := 35) (S := fun w' => w'.cell? ⟨gp, 2, none⟩ = some (.int .i64 lg) ∧ w'.cell? ⟨gp, 3, none⟩ = some (.int .i64 sq) ∧ w'.cell? ⟨g, 1, none⟩ = some (.int .i64 s.lg) ∧ w'.cell? ⟨g, 2, none⟩ = some (.int .i64 s.sq)) (ds := []) #[false, false, false, false, false, false, false, false, false, false, false, false, false, false, false, false, false, false, false, false, false, false, false, false, false, false, false, false, false, false, false, false, false, false, false] (by kernel_rfl) rfl rfl ⟨he2, he3, hc1, hc2⟩ (fun hHeld => ?_)
          refine pure_ (i := 0) (N := some 55) (v := ?_) (a' := ?_) #[true, false, false, false, false, false, false, false, false, false, false, false, false, false, false, false, false, false, false, false, false, false, false, false, false, false, false, false, false, false, false, false, false, false, false] rfl rfl (by kernel_rfl) (fun _ _ _ h => h) (Or.inl ⟨by rfl, ?_⟩) ?_ ?_
          rotate_left
          · intro w'
            go_simp
            with_reducible rfl
          rotate_left
          · simp only [Act.put, List.setIfInBounds_toArray, List.set_cons_zero, List.set_cons_succ, i64_w, i32_w]
            rfl
          refine pure_ (i := 1) (N := some 56) (v := ?_) (a' := ?_) #[true, true, false, false, false, false, false, false, false, false, false, false, false, false, false, false, false, false, false, false, false, false, false, false, false, false, false, false, false, false, false, false, false, false, false] rfl rfl (by kernel_rfl) (fun _ _ _ h => h) (Or.inl ⟨by rfl, ?_⟩) ?_ ?_
          rotate_left
          · intro w'
            go_simp
            with_reducible rfl
          rotate_left
          · simp only [Act.put, List.setIfInBounds_toArray, List.set_cons_zero, List.set_cons_succ, i64_w, i32_w]
            rfl
          refine pure_ (i := 2) (N := some 57) (v := ?_) (a' := ?_) #[true, true, true, false, false, false, false, false, false, false, false, false, false, false, false, false, false, false, false, false, false, false, false, false, false, false, false, false, false, false, false, false, false, false, false] rfl rfl (by kernel_rfl) (fun _ _ _ h => h) (Or.inl ⟨by rfl, ?_⟩) ?_ ?_
          rotate_left
          · intro w'
            go_simp
            with_reducible rfl
          rotate_left
          · simp only [Act.put, List.setIfInBounds_toArray, List.set_cons_zero, List.set_cons_succ, i64_w, i32_w]
            rfl
          refine take_ (i := 3) (N := some 58) (v := ?_) (a' := ?_) #[true, true, true, true, false, false, false, false, false, false, false, false, false, false, false, false, false, false, false, false, false, false, false, false, false, false, false, false, false, false, false, false, false, false, false] rfl rfl (by kernel_rfl) (fun _ _ _ h => h) (Or.inl ⟨by rfl, ?_⟩) hHeld ?_ ?_
          rotate_left
          · rintro w' ⟨s0, s1, s2, s3⟩
            go_simp
            with_reducible rfl
          rotate_left
          · simp only [Act.put, List.setIfInBounds_toArray, List.set_cons_zero, List.set_cons_succ, i64_w, i32_w]
            rfl
          refine pure_ (i := 4) (N := some 59) (v := ?_) (a' := ?_) #[true, true, true, true, true, false, false, false, false, false, false, false, false, false, false, false, false, false, false, false, false, false, false, false, false, false, false, false, false, false, false, false, false, false, false] rfl rfl (by kernel_rfl) (fun _ _ _ h => h) (Or.inl ⟨by rfl, ?_⟩) ?_ ?_
          rotate_left
          · intro w'
            go_simp
            with_reducible rfl
          rotate_left
          · simp only [Act.put, List.setIfInBounds_toArray, List.set_cons_zero, List.set_cons_succ, i64_w, i32_w]
            rfl
          refine pure_ (i := 5) (N := some 60) (v := ?_) (a' := ?_) #[true, true, true, true, true, true, false, false, false, false, false, false, false, false, false, false, false, false, false, false, false, false, false, false, false, false, false, false, false, false, false, false, false, false, false] rfl rfl (by kernel_rfl) (fun _ _ _ h => h) (Or.inl ⟨by rfl, ?_⟩) ?_ ?_
          rotate_left
          · intro w'
            go_simp
            with_reducible rfl
          rotate_left
          · simp only [Act.put, List.setIfInBounds_toArray, List.set_cons_zero, List.set_cons_succ, i64_w, i32_w]
            rfl
          refine pure_ (i := 6) (N := some 61) (v := undef) (a' := ?_) #[true, true, true, true, true, true, true, false, false, false, false, false, false, false, false, false, false, false, false, false, false, false, false, false, false, false, false, false, false, false, false, false, false, false, false] rfl rfl (by kernel_rfl) (fun _ _ _ h => h) (Or.inr ⟨by rfl, rfl⟩) ?_ ?_
          rotate_left
          · simp only [Act.put, List.setIfInBounds_toArray, List.set_cons_zero, List.set_cons_succ, i64_w, i32_w]
            rfl
          refine pure_ (i := 7) (N := some 62) (v := undef) (a' := ?_) #[true, true, true, true, true, true, true, true, false, false, false, false, false, false, false, false, false, false, false, false, false, false, false, false, false, false, false, false, false, false, false, false, false, false, false] rfl rfl (by kernel_rfl) (fun _ _ _ h => h) (Or.inr ⟨by rfl, rfl⟩) ?_ ?_
          rotate_left
          · simp only [Act.put, List.setIfInBounds_toArray, List.set_cons_zero, List.set_cons_succ, i64_w, i32_w]
            rfl
          refine pure_ (i := 8) (N := some 63) (v := undef) (a' := ?_) #[true, true, true, true, true, true, true, true, true, false, false, false, false, false, false, false, false, false, false, false, false, false, false, false, false, false, false, false, false, false, false, false, false, false, false] rfl rfl (by kernel_rfl) (fun _ _ _ h => h) (Or.inr ⟨by rfl, rfl⟩) ?_ ?_
          rotate_left
          · simp only [Act.put, List.setIfInBounds_toArray, List.set_cons_zero, List.set_cons_succ, i64_w, i32_w]
            rfl
          refine pure_ (i := 9) (N := some 64) (v := undef) (a' := ?_) #[true, true, true, true, true, true, true, true, true, true, false, false, false, false, false, false, false, false, false, false, false, false, false, false, false, false, false, false, false, false, false, false, false, false, false] rfl rfl (by kernel_rfl) (fun _ _ _ h => h) (Or.inr ⟨by rfl, rfl⟩) ?_ ?_
          rotate_left
          · simp only [Act.put, List.setIfInBounds_toArray, List.set_cons_zero, List.set_cons_succ, i64_w, i32_w]
            rfl
          refine pure_ (i := 10) (N := some 65) (v := undef) (a' := ?_) #[true, true, true, true, true, true, true, true, true, true, true, false, false, false, false, false, false, false, false, false, false, false, false, false, false, false, false, false, false, false, false, false, false, false, false] rfl rfl (by kernel_rfl) (fun _ _ _ h => h) (Or.inr ⟨by rfl, rfl⟩) ?_ ?_
          rotate_left
          · simp only [Act.put, List.setIfInBounds_toArray, List.set_cons_zero, List.set_cons_succ, i64_w, i32_w]
            rfl
          refine pure_ (i := 11) (N := some 66) (v := undef) (a' := ?_) #[true, true, true, true, true, true, true, true, true, true, true, true, false, false, false, false, false, false, false, false, false, false, false, false, false, false, false, false, false, false, false, false, false, false, false] rfl rfl (by kernel_rfl) (fun _ _ _ h => h) (Or.inr ⟨by rfl, rfl⟩) ?_ ?_
          rotate_left
          · simp only [Act.put, List.setIfInBounds_toArray, List.set_cons_zero, List.set_cons_succ, i64_w, i32_w]
            rfl
          refine pure_ (i := 12) (N := some 67) (v := undef) (a' := ?_) #[true, true, true, true, true, true, true, true, true, true, true, true, true, false, false, false, false, false, false, false, false, false, false, false, false, false, false, false, false, false, false, false, false, false, false] rfl rfl (by kernel_rfl) (fun _ _ _ h => h) (Or.inr ⟨by rfl, rfl⟩) ?_ ?_
          rotate_left
          · simp only [Act.put, List.setIfInBounds_toArray, List.set_cons_zero, List.set_cons_succ, i64_w, i32_w]
            rfl
          refine pure_ (i := 13) (N := some 68) (v := ?_) (a' := ?_) #[true, true, true, true, true, true, true, true, true, true, true, true, true, true, false, false, false, false, false, false, false, false, false, false, false, false, false, false, false, false, false, false, false, false, false] rfl rfl (by kernel_rfl) (fun _ _ _ h => h) (Or.inl ⟨by rfl, ?_⟩) ?_ ?_
          rotate_left
          · intro w'
            go_simp
            with_reducible rfl
          rotate_left
          · simp only [Act.put, List.setIfInBounds_toArray, List.set_cons_zero, List.set_cons_succ, i64_w, i32_w]
            rfl
          refine pure_ (i := 14) (N := some 69) (v := ?_) (a' := ?_) #[true, true, true, true, true, true, true, true, true, true, true, true, true, true, true, false, false, false, false, false, false, false, false, false, false, false, false, false, false, false, false, false, false, false, false] rfl rfl (by kernel_rfl) (fun _ _ _ h => h) (Or.inl ⟨by rfl, ?_⟩) ?_ ?_
          rotate_left
          · intro w'
            go_simp
            with_reducible rfl
          rotate_left
          · simp only [Act.put, List.setIfInBounds_toArray, List.set_cons_zero, List.set_cons_succ, i64_w, i32_w]
            rfl
          refine pure_ (i := 15) (N := some 70) (v := ?_) (a' := ?_) #[true, true, true, true, true, true, true, true, true, true, true, true, true, true, true, true, false, false, false, false, false, false, false, false, false, false, false, false, false, false, false, false, false, false, false] rfl rfl (by kernel_rfl) (fun _ _ _ h => h) (Or.inl ⟨by rfl, ?_⟩) ?_ ?_
          rotate_left
          · intro w'
            go_simp
            with_reducible rfl
          rotate_left
          · simp only [Act.put, List.setIfInBounds_toArray, List.set_cons_zero, List.set_cons_succ, i64_w, i32_w]
            rfl
          refine pure_ (i := 16) (N := some 71) (v := ?_) (a' := ?_) #[true, true, true, true, true, true, true, true, true, true, true, true, true, true, true, true, true, false, false, false, false, false, false, false, false, false, false, false, false, false, false, false, false, false, false] rfl rfl (by kernel_rfl) (fun _ _ _ h => h) (Or.inl ⟨by rfl, ?_⟩) ?_ ?_
          rotate_left
          · intro w'
            go_simp
            with_reducible rfl
          rotate_left
          · simp only [Act.put, List.setIfInBounds_toArray, List.set_cons_zero, List.set_cons_succ, i64_w, i32_w]
            rfl
          refine take_ (i := 17) (N := some 72) (v := ?_) (a' := ?_) #[true, true, true, true, true, true, true, true, true, true, true, true, true, true, true, true, true, true, false, false, false, false, false, false, false, false, false, false, false, false, false, false, false, false, false] rfl rfl (by kernel_rfl) (fun _ _ _ h => h) (Or.inl ⟨by rfl, ?_⟩) hHeld ?_ ?_
          rotate_left
          · rintro w' ⟨s0, s1, s2, s3⟩
            go_simp
            with_reducible rfl
          rotate_left
          · simp only [Act.put, List.setIfInBounds_toArray, List.set_cons_zero, List.set_cons_succ, i64_w, i32_w]
            rfl
          refine pure_ (i := 18) (N := some 73) (v := ?_) (a' := ?_) #[true, true, true, true, true, true, true, true, true, true, true, true, true, true, true, true, true, true, true, false, false, false, false, false, false, false, false, false, false, false, false, false, false, false, false] rfl rfl (by kernel_rfl) (fun _ _ _ h => h) (Or.inl ⟨by rfl, ?_⟩) ?_ ?_
          rotate_left
          · intro w'
            go_simp
            with_reducible rfl
          rotate_left
          · simp only [Act.put, List.setIfInBounds_toArray, List.set_cons_zero, List.set_cons_succ, i64_w, i32_w]
            rfl
          refine pure_ (i := 19) (N := some 74) (v := ?_) (a' := ?_) #[true, true, true, true, true, true, true, true, true, true, true, true, true, true, true, true, true, true, true, true, false, false, false, false, false, false, false, false, false, false, false, false, false, false, false] rfl rfl (by kernel_rfl) (fun _ _ _ h => h) (Or.inl ⟨by rfl, ?_⟩) ?_ ?_
          rotate_left
          · intro w'
            go_simp
            with_reducible rfl
          rotate_left
          · simp only [Act.put, List.setIfInBounds_toArray, List.set_cons_zero, List.set_cons_succ, i64_w, i32_w]
            rfl
          refine pure_ (i := 20) (N := some 75) (v := undef) (a' := ?_) #[true, true, true, true, true, true, true, true, true, true, true, true, true, true, true, true, true, true, true, true, true, false, false, false, false, false, false, false, false, false, false, false, false, false, false] rfl rfl (by kernel_rfl) (fun _ _ _ h => h) (Or.inr ⟨by rfl, rfl⟩) ?_ ?_
          rotate_left
          · simp only [Act.put, List.setIfInBounds_toArray, List.set_cons_zero, List.set_cons_succ, i64_w, i32_w]
            rfl
          refine pure_ (i := 21) (N := some 76) (v := undef) (a' := ?_) #[true, true, true, true, true, true, true, true, true, true, true, true, true, true, true, true, true, true, true, true, true, true, false, false, false, false, false, false, false, false, false, false, false, false, false] rfl rfl (by kernel_rfl) (fun _ _ _ h => h) (Or.inr ⟨by rfl, rfl⟩) ?_ ?_
          rotate_left
          · simp only [Act.put, List.setIfInBounds_toArray, List.set_cons_zero, List.set_cons_succ, i64_w, i32_w]
            rfl
          refine pure_ (i := 22) (N := some 77) (v := undef) (a' := ?_) #[true, true, true, true, true, true, true, true, true, true, true, true, true, true, true, true, true, true, true, true, true, true, true, false, false, false, false, false, false, false, false, false, false, false, false] rfl rfl (by kernel_rfl) (fun _ _ _ h => h) (Or.inr ⟨by rfl, rfl⟩) ?_ ?_
          rotate_left
          · simp only [Act.put, List.setIfInBounds_toArray, List.set_cons_zero, List.set_cons_succ, i64_w, i32_w]
            rfl
          refine pure_ (i := 23) (N := some 78) (v := undef) (a' := ?_) #[true, true, true, true, true, true, true, true, true, true, true, true, true, true, true, true, true, true, true, true, true, true, true, true, false, false, false, false, false, false, false, false, false, false, false] rfl rfl (by kernel_rfl) (fun _ _ _ h => h) (Or.inr ⟨by rfl, rfl⟩) ?_ ?_
          rotate_left
          · simp only [Act.put, List.setIfInBounds_toArray, List.set_cons_zero, List.set_cons_succ, i64_w, i32_w]
            rfl
          refine pure_ (i := 24) (N := some 79) (v := undef) (a' := ?_) #[true, true, true, true, true, true, true, true, true, true, true, true, true, true, true, true, true, true, true, true, true, true, true, true, true, false, false, false, false, false, false, false, false, false, false] rfl rfl (by kernel_rfl) (fun _ _ _ h => h) (Or.inr ⟨by rfl, rfl⟩) ?_ ?_
          rotate_left
          · simp only [Act.put, List.setIfInBounds_toArray, List.set_cons_zero, List.set_cons_succ, i64_w, i32_w]
            rfl
          refine pure_ (i := 25) (N := some 80) (v := undef) (a' := ?_) #[true, true, true, true, true, true, true, true, true, true, true, true, true, true, true, true, true, true, true, true, true, true, true, true, true, true, false, false, false, false, false, false, false, false, false] rfl rfl (by kernel_rfl) (fun _ _ _ h => h) (Or.inr ⟨by rfl, rfl⟩) ?_ ?_
          rotate_left
          · simp only [Act.put, List.setIfInBounds_toArray, List.set_cons_zero, List.set_cons_succ, i64_w, i32_w]
            rfl
          refine pure_ (i := 26) (N := some 81) (v := undef) (a' := ?_) #[true, true, true, true, true, true, true, true, true, true, true, true, true, true, true, true, true, true, true, true, true, true, true, true, true, true, true, false, false, false, false, false, false, false, false] rfl rfl (by kernel_rfl) (fun _ _ _ h => h) (Or.inr ⟨by rfl, rfl⟩) ?_ ?_
          rotate_left
          · simp only [Act.put, List.setIfInBounds_toArray, List.set_cons_zero, List.set_cons_succ, i64_w, i32_w]
            rfl
          refine pure_ (i := 27) (N := some 82) (v := ?_) (a' := ?_) #[true, true, true, true, true, true, true, true, true, true, true, true, true, true, true, true, true, true, true, true, true, true, true, true, true, true, true, true, false, false, false, false, false, false, false] rfl rfl (by kernel_rfl) (fun _ _ _ h => h) (Or.inl ⟨by rfl, ?_⟩) ?_ ?_
          rotate_left
          · intro w'
            go_simp
            with_reducible rfl
          rotate_left
          · simp only [Act.put, List.setIfInBounds_toArray, List.set_cons_zero, List.set_cons_succ, i64_w, i32_w]
            rfl
          refine pure_ (i := 28) (N := some 83) (v := ?_) (a' := ?_) #[true, true, true, true, true, true, true, true, true, true, true, true, true, true, true, true, true, true, true, true, true, true, true, true, true, true, true, true, true, false, false, false, false, false, false] rfl rfl (by kernel_rfl) (fun _ _ _ h => h) (Or.inl ⟨by rfl, ?_⟩) ?_ ?_
          rotate_left
          · intro w'
            go_simp
            with_reducible rfl
          rotate_left
          · simp only [Act.put, List.setIfInBounds_toArray, List.set_cons_zero, List.set_cons_succ, i64_w, i32_w]
            rfl
          refine pure_ (i := 29) (N := some 84) (v := ?_) (a' := ?_) #[true, true, true, true, true, true, true, true, true, true, true, true, true, true, true, true, true, true, true, true, true, true, true, true, true, true, true, true, true, true, false, false, false, false, false] rfl rfl (by kernel_rfl) (fun _ _ _ h => h) (Or.inl ⟨by rfl, ?_⟩) ?_ ?_
          rotate_left
          · intro w'
            go_simp
            with_reducible rfl
          rotate_left
          · simp only [Act.put, List.setIfInBounds_toArray, List.set_cons_zero, List.set_cons_succ, i64_w, i32_w]
            rfl
          refine pure_ (i := 30) (N := some 85) (v := ?_) (a' := ?_) #[true, true, true, true, true, true, true, true, true, true, true, true, true, true, true, true, true, true, true, true, true, true, true, true, true, true, true, true, true, true, true, false, false, false, false] rfl rfl (by kernel_rfl) (fun _ _ _ h => h) (Or.inl ⟨by rfl, ?_⟩) ?_ ?_
          rotate_left
          · intro w'
            go_simp
            with_reducible rfl
          rotate_left
          · simp only [Act.put, List.setIfInBounds_toArray, List.set_cons_zero, List.set_cons_succ, i64_w, i32_w]
            rfl
          refine one_ (i := 31) (N := some 86) #[true, true, true, true, true, true, true, true, true, true, true, true, true, true, true, true, true, true, true, true, true, true, true, true, true, true, true, true, true, true, true, true, false, false, false] rfl rfl (by kernel_rfl) (by decide) (fun K hK => ?_)
          refine goes_ Try.func32 (by kernel_rfl) rfl #[.slice A6 (rowS s.l G C).length c6] (by rfl) rfl rfl (by simp only [List.map_toArray, List.map_cons, List.map_nil]; rfl) ?_
          with_reducible refine (sheet_apart.calls Ka A6 c6 (rowS s.l G C) ab _ (Kd.C_below HR6.out (below_drew1 (Below.refl _ wc))) HC6.out HAP.out).mono ?_
          rintro e w7 ⟨rfl, hb⟩
          refine ⟨_, rfl, ?_⟩
          refine hK.out _ _ ⟨(pw_cell_below hb he2), (pw_cell_below hb he3), (pw_cell_below hb hc1), (pw_cell_below hb hc2)⟩ (fun hHeld => ?_)
          clear hK K
          refine norm_ (a' := ?_) ?_ ?_
          rotate_left
          · show Act.put _ (some 86) _ = _
            simp only [Act.put, List.setIfInBounds_toArray, List.set_cons_zero, List.set_cons_succ, i64_w, i32_w]
            rfl
          refine pure_ (i := 32) (N := some 87) (v := ?_) (a' := ?_) #[true, true, true, true, true, true, true, true, true, true, true, true, true, true, true, true, true, true, true, true, true, true, true, true, true, true, true, true, true, true, true, true, true, false, false] rfl rfl (by kernel_rfl) (fun _ _ _ h => h) (Or.inl ⟨by rfl, ?_⟩) ?_ ?_
          rotate_left
          · intro w'
            go_simp
            with_reducible rfl
          rotate_left
          · simp only [Act.put, List.setIfInBounds_toArray, List.set_cons_zero, List.set_cons_succ, i64_w, i32_w]
            rfl
          refine pure_ (i := 33) (N := some 88) (v := ?_) (a' := ?_) #[true, true, true, true, true, true, true, true, true, true, true, true, true, true, true, true, true, true, true, true, true, true, true, true, true, true, true, true, true, true, true, true, true, true, false] rfl rfl (by kernel_rfl) (fun _ _ _ h => h) (Or.inl ⟨by rfl, ?_⟩) ?_ ?_
          rotate_left
          · intro w'
            go_simp
            with_reducible rfl
          rotate_left
          · simp only [Act.put, List.setIfInBounds_toArray, List.set_cons_zero, List.set_cons_succ, i64_w, i32_w]
            rfl
          refine pure_ (i := 34) (N := some 54) (v := ?_) (a' := ?_) #[true, true, true, true, true, true, true, true, true, true, true, true, true, true, true, true, true, true, true, true, true, true, true, true, true, true, true, true, true, true, true, true, true, true, true] rfl rfl (by kernel_rfl) (fun _ _ _ h => h) (Or.inl ⟨by rfl, ?_⟩) ?_ ?_
          rotate_left
          · intro w'
            go_simp
            with_reducible rfl
          rotate_left
          · simp only [Act.put, List.setIfInBounds_toArray, List.set_cons_zero, List.set_cons_succ, i64_w, i32_w]
            rfl
          refine done_ (by kernel_rfl) ?_

          have n0_ := Aside0.mk (Kd.R_below (Kd.R_drew HO3.out) hb)
          have n1_ := Aside0.mk (below_step (below_drew1 HB3.out) hb)
          go_wp2
          go_meet
          case rel => exact ⟨_, rfl, ⟨by rw [HLT.out, ← HAB.out]; rfl⟩, n0_, n1_⟩
  clear HO3 HB3 HR6 HB6 HAP HLT HEA
  obtain ⟨b54, rfl, HBB, HO3, HB3⟩ := hcut
  have HB6 := Aside0.mk (below_step HB.out HB3.out)
  have HBW := Aside0.mk (below_step HW.out HB6.out)
  cases b54 with
  | true =>
    have HE := Aside0.mk (show doE s G C lg sq = 16 by
      unfold doE
      rw [if_neg (by rw [HF.out]; decide), if_neg (by rw [HH.out]; decide), if_pos]
      have h_ := HBB.out.symm
      rw [Bool.or_eq_true, Bool.not_eq_true'] at h_
      exact h_)
    go_wp2
    go_ret
    exact ⟨by rw [HE.out]; rfl, do_err HE.out (by decide) HS0.out HBW.out⟩
  | false =>
  have HL2 := Aside0.mk (show lateB s C lg sq = false ∧ apartB (rowS s.l G C) = true by
    have h_ := HBB.out.symm
    rw [Bool.or_eq_false_iff, Bool.not_eq_false'] at h_
    exact h_)
  clear HBB
  by_cases hmany : 40 < (rowS s.l G C).length
  · have hd0 : decide (40 < ((rowS s.l G C).length : Int)) = true := decide_eq_true (by omega)
    have hd0n : decide (40 < (rowS s.l G C).length) = true := decide_eq_true (by omega)
    have HE := Aside0.mk (show doE s G C lg sq = 25 by
      unfold doE
      rw [if_neg (by rw [HF.out]; decide), if_neg (by rw [HH.out]; decide), if_neg (by rw [HL2.out.1, HL2.out.2]; simp), if_pos hmany])
    clear hmany
    go_wp2
    go_ret
    exact ⟨by rw [HE.out]; rfl, do_err HE.out (by decide) HS0.out HBW.out⟩
  have hd0 : decide (40 < ((rowS s.l G C).length : Int)) = false := decide_eq_false (by omega)
  have hd0n : decide (40 < (rowS s.l G C).length) = false := decide_eq_false (by omega)
  have HE := Aside0.mk (show doE s G C lg sq = 0 by
    unfold doE
    rw [if_neg (by rw [HF.out]; decide), if_neg (by rw [HH.out]; decide), if_neg (by rw [HL2.out.1, HL2.out.2]; simp), if_neg hmany])
  have HS := Aside0.mk (show doS s G C lg sq = doN s G C lg sq by unfold doS; rw [if_pos HE.out])
  clear hmany
  go_upto_region 17 with (go_at_call 33; go_loud (with_reducible refine (SortT HO3.out HNL.out).mono ?_; rintro e w8 ⟨rfl, ys, hp, hso, hr, hg⟩; have HYS := Aside0.mk (srt_uniq (tot_of (rowS_inv HI.out HF.out (late_early HL2.out.1)).1 (rowS_inv HI.out HF.out (late_early HL2.out.1)).2 (apart_iff.1 HL2.out.2)) hp hso); have HOY := Aside0.mk hr; have HGR := Aside0.mk hg; clear hp hso hr hg))
  have HHY := Aside0.mk (show ∀ k, (Value.slice A6 (rowS s.l G C).length c6).ownBlock = some k → w1.heap.size ≤ k from fun k hk => Nat.le_trans (below_size HB.out) (Kd.R_base HO3.out k hk))
  have HB8 := Aside0.mk (below_gr HB6.out (below_size HB6.out) HGR.out HHY.out)
  have HGL := Aside0.mk (show w.heap.size ≤ wr.heap.size from Nat.le_trans (below_size HW.out) (below_size HB.out))
  clear HO3 HB3 HB6 HBW HGR HHY
  have he2 := bc2 (bb_ BE HB8.out)
  have he3 := bc3 (bb_ BE HB8.out)
  have hc0 := bc0 (bb_ B HB8.out)
  have hc1 := bc1 (bb_ B HB8.out)
  have hc2 := bc2 (bb_ B HB8.out)
  have hf0 := bf_ (bb_ B HB8.out) 0
  have hf1 := bf_ (bb_ B HB8.out) 1
  have hf2 := bf_ (bb_ B HB8.out) 2
  obtain ⟨m1, hm1d⟩ : ∃ m1, m1 = maxI s.lg lg := ⟨_, rfl⟩
  obtain ⟨m2, hm2d⟩ : ∃ m2, m2 = maxI s.sq sq := ⟨_, rfl⟩
  have hm1 : Builtin.max2 (.int .i64 s.lg) (.int .i64 lg) = pure (.int .i64 m1) := by rw [max2_int, hm1d]; rfl
  have hm2 : Builtin.max2 (.int .i64 s.sq) (.int .i64 sq) = pure (.int .i64 m2) := by rw [max2_int, hm2d]; rfl
  have HM1 := Aside0.mk hm1d
  have HM2 := Aside0.mk hm2d
  clear hm1d hm2d
  have HNE := Aside0.mk (show gp ≠ g by have := HS0.out.lt; omega)
  have hne1 : gp ≠ g := HNE.out
  have hne2 : g ≠ gp := fun h => HNE.out h.symm
  go_wp2
  refine start_ (n := 27) (S := fun w' => True) (ds := []) #[false, false, false, false, false, false, false, false, false, false, false, false, false, false, false, false, false, false, false, false, false, false, false, false, false, false, false] (by kernel_rfl) rfl rfl trivial (fun hHeld => ?_)
  refine with_tabW SDo_.tab17 SDo_.bits17 (fun HT_ HW_ => ?_)
  have n0_ := Aside0.mk (Kd.R_drew HOY.out)
  have n1_ := Aside0.mk (below_drew1 HB8.out)
  clear HOY HB8 he2 he3 hc0 hc1 hc2 hf0 hf1 hf2
  have HOY := n0_
  have HB8 := n1_
  clear n0_ n1_
  generalize w8.drew = w9 at HOY HB8 ⊢
  have F2 := bc2 (bb_ BE HB8.out)
  have F3 := bc3 (bb_ BE HB8.out)
  have WA := True.intro
  have hc0 := bc0 (bb_ B HB8.out)
  have hc1 := bc1 (bb_ B HB8.out)
  have hc2 := bc2 (bb_ B HB8.out)
  have hf0 := bf_ (bb_ B HB8.out) 0
  have hf1 := bf_ (bb_ B HB8.out) 1
  have hf2 := bf_ (bb_ B HB8.out) 2
  refine pure_ (i := 0) (N := some 95) (v := ?_) (a' := ?_) #[true, false, false, false, false, false, false, false, false, false, false, false, false, false, false, false, false, false, false, false, false, false, false, false, false, false, false] rfl rfl (by kernel_rfl) (fun _ _ _ h => h) (Or.inl ⟨by rfl, ?_⟩) ?_ ?_
  rotate_left
  · intro w'
    go_simp
    with_reducible rfl
  rotate_left
  · simp only [Act.put, List.setIfInBounds_toArray, List.set_cons_zero, List.set_cons_succ, i64_w, i32_w]
    rfl
  refine pure_ (i := 1) (N := some 96) (v := ?_) (a' := ?_) #[true, true, false, false, false, false, false, false, false, false, false, false, false, false, false, false, false, false, false, false, false, false, false, false, false, false, false] rfl rfl (by kernel_rfl) (fun _ _ _ h => h) (Or.inl ⟨by rfl, ?_⟩) ?_ ?_
  rotate_left
  · intro w'
    go_simp
    with_reducible rfl
  rotate_left
  · simp only [Act.put, List.setIfInBounds_toArray, List.set_cons_zero, List.set_cons_succ, i64_w, i32_w]
    rfl
  refine pure_ (i := 2) (N := some 97) (v := ?_) (a' := ?_) #[true, true, true, false, false, false, false, false, false, false, false, false, false, false, false, false, false, false, false, false, false, false, false, false, false, false, false] rfl rfl (by kernel_rfl) (fun _ _ _ h => h) (Or.inl ⟨by rfl, ?_⟩) ?_ ?_
  rotate_left
  · intro w'
    go_simp
    with_reducible rfl
  rotate_left
  · simp only [Act.put, List.setIfInBounds_toArray, List.set_cons_zero, List.set_cons_succ, i64_w, i32_w]
    rfl
  refine pure_ (i := 3) (N := some 98) (v := ?_) (a' := ?_) #[true, true, true, true, false, false, false, false, false, false, false, false, false, false, false, false, false, false, false, false, false, false, false, false, false, false, false] rfl rfl (by kernel_rfl) (fun _ _ _ h => h) (Or.inl ⟨by rfl, ?_⟩) ?_ ?_
  rotate_left
  · intro w'
    go_simp
    with_reducible rfl
  rotate_left
  · simp only [Act.put, List.setIfInBounds_toArray, List.set_cons_zero, List.set_cons_succ, i64_w, i32_w]
    rfl
  refine pure_ (i := 4) (N := some 99) (v := ?_) (a' := ?_) #[true, true, true, true, true, false, false, false, false, false, false, false, false, false, false, false, false, false, false, false, false, false, false, false, false, false, false] rfl rfl (by kernel_rfl) (fun _ _ _ h => h) (Or.inl ⟨by rfl, ?_⟩) ?_ ?_
  rotate_left
  · intro w'
    go_simp
    with_reducible rfl
  rotate_left
  · simp only [Act.put, List.setIfInBounds_toArray, List.set_cons_zero, List.set_cons_succ, i64_w, i32_w]
    rfl
  refine pure_ (i := 5) (N := some 100) (v := ?_) (a' := ?_) #[true, true, true, true, true, true, false, false, false, false, false, false, false, false, false, false, false, false, false, false, false, false, false, false, false, false, false] rfl rfl (by kernel_rfl) (fun _ _ _ h => h) (Or.inl ⟨by rfl, ?_⟩) ?_ ?_
  rotate_left
  · intro w'
    go_simp
    with_reducible rfl
  rotate_left
  · simp only [Act.put, List.setIfInBounds_toArray, List.set_cons_zero, List.set_cons_succ, i64_w, i32_w]
    rfl
  refine pure_ (i := 6) (N := some 101) (v := ?_) (a' := ?_) #[true, true, true, true, true, true, true, false, false, false, false, false, false, false, false, false, false, false, false, false, false, false, false, false, false, false, false] rfl rfl (by kernel_rfl) (fun _ _ _ h => h) (Or.inl ⟨by rfl, ?_⟩) ?_ ?_
  rotate_left
  · intro w'
    go_simp
    with_reducible rfl
  rotate_left
  · simp only [Act.put, List.setIfInBounds_toArray, List.set_cons_zero, List.set_cons_succ, i64_w, i32_w]
    rfl
  refine pure_ (i := 8) (N := some 103) (v := ?_) (a' := ?_) #[true, true, true, true, true, true, true, false, true, false, false, false, false, false, false, false, false, false, false, false, false, false, false, false, false, false, false] rfl rfl (by kernel_rfl) (fun _ _ _ h => h) (Or.inl ⟨by rfl, ?_⟩) ?_ ?_
  rotate_left
  · intro w'
    go_simp
    with_reducible rfl
  rotate_left
  · simp only [Act.put, List.setIfInBounds_toArray, List.set_cons_zero, List.set_cons_succ, i64_w, i32_w]
    rfl
  refine pure_ (i := 11) (N := some 106) (v := ?_) (a' := ?_) #[true, true, true, true, true, true, true, false, true, false, false, true, false, false, false, false, false, false, false, false, false, false, false, false, false, false, false] rfl rfl (by kernel_rfl) (fun _ _ _ h => h) (Or.inl ⟨by rfl, ?_⟩) ?_ ?_
  rotate_left
  · intro w'
    go_simp
    with_reducible rfl
  rotate_left
  · simp only [Act.put, List.setIfInBounds_toArray, List.set_cons_zero, List.set_cons_succ, i64_w, i32_w]
    rfl
  refine pure_ (i := 12) (N := some 107) (v := ?_) (a' := ?_) #[true, true, true, true, true, true, true, false, true, false, false, true, true, false, false, false, false, false, false, false, false, false, false, false, false, false, false] rfl rfl (by kernel_rfl) (fun _ _ _ h => h) (Or.inl ⟨by rfl, ?_⟩) ?_ ?_
  rotate_left
  · intro w'
    go_simp
    with_reducible rfl
  rotate_left
  · simp only [Act.put, List.setIfInBounds_toArray, List.set_cons_zero, List.set_cons_succ, i64_w, i32_w]
    rfl
  refine pure_ (i := 13) (N := some 108) (v := ?_) (a' := ?_) #[true, true, true, true, true, true, true, false, true, false, false, true, true, true, false, false, false, false, false, false, false, false, false, false, false, false, false] rfl rfl (by kernel_rfl) (fun _ _ _ h => h) (Or.inl ⟨by rfl, ?_⟩) ?_ ?_
  rotate_left
  · intro w'
    go_simp
    with_reducible rfl
  rotate_left
  · simp only [Act.put, List.setIfInBounds_toArray, List.set_cons_zero, List.set_cons_succ, i64_w, i32_w]
    rfl
  refine pure_ (i := 15) (N := some 110) (v := ?_) (a' := ?_) #[true, true, true, true, true, true, true, false, true, false, false, true, true, true, false, true, false, false, false, false, false, false, false, false, false, false, false] rfl rfl (by kernel_rfl) (fun _ _ _ h => h) (Or.inl ⟨by rfl, ?_⟩) ?_ ?_
  rotate_left
  · intro w'
    go_simp
    with_reducible rfl
  rotate_left
  · simp only [Act.put, List.setIfInBounds_toArray, List.set_cons_zero, List.set_cons_succ, i64_w, i32_w]
    rfl
  refine inv_at [7, 9, 10, 14, 16, 17, 18, 19, 20, 21, 22, 23, 24, 25, 26] (fun a0_ b a w' => a = putSel a0_ b [(7, 102, Value.int .i64 s.lg), (9, 104, Value.int .i64 lg), (10, 105, Value.int .i64 m1), (14, 109, Value.int .i64 s.sq), (16, 111, Value.int .i64 sq), (17, 112, Value.int .i64 m2), (18, 113, Value.pointer (some ⟨g, 0, none⟩)), (19, 114, Value.pointer (some ⟨g, 0, none⟩)), (21, 115, Value.pointer (some ⟨g, 0, none⟩)), (22, 116, Value.pointer (some ⟨g, 1, none⟩)), (24, 117, Value.pointer (some ⟨g, 0, none⟩)), (25, 118, Value.pointer (some ⟨g, 2, none⟩))] ∧ (w'.cell? ⟨gp, 2, none⟩ = some (.int .i64 lg)) ∧ (w'.cell? ⟨gp, 3, none⟩ = some (.int .i64 sq)) ∧ (b 20 = false → w' = w9) ∧ (b 20 = true → b 23 = false → w' = w9.setCell ⟨g, 0, none⟩ (Value.slice A6 (rowS s.l G C).length c6)) ∧ (b 23 = true → b 26 = false → w' = (w9.setCell ⟨g, 0, none⟩ (Value.slice A6 (rowS s.l G C).length c6)).setCell ⟨g, 1, none⟩ (.int .i64 m1)) ∧ (b 26 = true → w' = ((w9.setCell ⟨g, 0, none⟩ (Value.slice A6 (rowS s.l G C).length c6)).setCell ⟨g, 1, none⟩ (.int .i64 m1)).setCell ⟨g, 2, none⟩ (.int .i64 m2))) HT_.out HW_.out (by kernel_rfl) (by kernel_rfl) ?_ ?_ ?_
  · exact ⟨by simp only [putSel, Bool.false_eq_true, if_false], F2, F3, fun _ => rfl, fun h_ => absurd h_ (by decide), fun h_ => absurd h_ (by decide), fun h_ => absurd h_ (by decide)⟩
  · skip
    clear F2 F3 WA
    refine steps_cons ?_ ?_
    · rintro b a w' ⟨ha, Q_F2, Q_F3, Q_WA, Q_WB, Q_WC, Q_WD⟩ hb_ hon hoff
      refine ⟨_, rfl, fun K hK => ?_⟩
      have e101 : a.tmps[101]? = some (Value.pointer (some ⟨g, 1, none⟩)) := by rw [ha]; exact (putSel_off rfl).trans rfl
      replace ha := Aside0.mk ha
      have F2 := Aside0.mk Q_F2
      have F3 := Aside0.mk Q_F3
      have WA := Aside0.mk (Q_WA (hoff 20 (by kernel_rfl)))
      have hs_ : w'.cell? ⟨g, 1, none⟩ = some (.int .i64 s.lg) := by rw [WA.out]; exact hc1
      refine value_ (w1 := w') (v := Value.int .i64 s.lg) (by rfl) rfl ?_ ?_
      · go_simp
        (try simp only [i64_w])
        try rfl
      refine hK.out _ _ ⟨(by rw [ha.out]; exact putSel_upk 0 hb_ rfl rfl rfl), Q_F2, Q_F3, Q_WA, fun h0_ _ => absurd ((hoff 20 (by kernel_rfl)).symm.trans h0_) (by decide), fun h0_ _ => absurd ((hoff 23 (by kernel_rfl)).symm.trans h0_) (by decide), fun h0_ => absurd ((hoff 26 (by kernel_rfl)).symm.trans h0_) (by decide)⟩
    refine steps_cons ?_ ?_
    · rintro b a w' ⟨ha, Q_F2, Q_F3, Q_WA, Q_WB, Q_WC, Q_WD⟩ hb_ hon hoff
      refine ⟨_, rfl, fun K hK => ?_⟩
      have e103 : a.tmps[103]? = some (Value.pointer (some ⟨gp, 2, none⟩)) := by rw [ha]; exact (putSel_off rfl).trans rfl
      replace ha := Aside0.mk ha
      have F2 := Aside0.mk Q_F2
      have F3 := Aside0.mk Q_F3
      have hs_ := F2.out
      refine value_ (w1 := w') (v := Value.int .i64 lg) (by rfl) rfl ?_ ?_
      · go_simp
        (try simp only [i64_w])
        try rfl
      refine hK.out _ _ ⟨(by rw [ha.out]; exact putSel_upk 1 hb_ rfl rfl rfl), Q_F2, Q_F3, Q_WA, Q_WB, fun h0_ _ => absurd ((hoff 23 (by kernel_rfl)).symm.trans h0_) (by decide), fun h0_ => absurd ((hoff 26 (by kernel_rfl)).symm.trans h0_) (by decide)⟩
    refine steps_cons ?_ ?_
    · rintro b a w' ⟨ha, Q_F2, Q_F3, Q_WA, Q_WB, Q_WC, Q_WD⟩ hb_ hon hoff
      refine ⟨_, rfl, fun K hK => ?_⟩
      have e102 : a.tmps[102]? = some (Value.int .i64 s.lg) := by rw [ha]; exact putSel_on (e := (7, 102, Value.int .i64 s.lg)) 0 rfl rfl (hon 7 (by kernel_rfl)) rfl
      have e104 : a.tmps[104]? = some (Value.int .i64 lg) := by rw [ha]; exact putSel_on (e := (9, 104, Value.int .i64 lg)) 1 rfl rfl (hon 9 (by kernel_rfl)) rfl
      replace ha := Aside0.mk ha
      have F2 := Aside0.mk Q_F2
      have F3 := Aside0.mk Q_F3
      refine value_ (w1 := w') (v := Value.int .i64 m1) (by rfl) rfl ?_ ?_
      · go_simp
        (try simp only [i64_w])
        try rfl
      refine hK.out _ _ ⟨(by rw [ha.out]; exact putSel_upk 2 hb_ rfl rfl rfl), Q_F2, Q_F3, Q_WA, Q_WB, fun h0_ _ => absurd ((hoff 23 (by kernel_rfl)).symm.trans h0_) (by decide), fun h0_ => absurd ((hoff 26 (by kernel_rfl)).symm.trans h0_) (by decide)⟩
    refine steps_cons ?_ ?_
    · rintro b a w' ⟨ha, Q_F2, Q_F3, Q_WA, Q_WB, Q_WC, Q_WD⟩ hb_ hon hoff
      refine ⟨_, rfl, fun K hK => ?_⟩
      have e108 : a.tmps[108]? = some (Value.pointer (some ⟨g, 2, none⟩)) := by rw [ha]; exact (putSel_off rfl).trans rfl
      replace ha := Aside0.mk ha
      have F2 := Aside0.mk Q_F2
      have F3 := Aside0.mk Q_F3
      have WA := Aside0.mk (Q_WA (hoff 20 (by kernel_rfl)))
      have hs_ : w'.cell? ⟨g, 2, none⟩ = some (.int .i64 s.sq) := by rw [WA.out]; exact hc2
      refine value_ (w1 := w') (v := Value.int .i64 s.sq) (by rfl) rfl ?_ ?_
      · go_simp
        (try simp only [i64_w])
        try rfl
      refine hK.out _ _ ⟨(by rw [ha.out]; exact putSel_upk 3 hb_ rfl rfl rfl), Q_F2, Q_F3, Q_WA, fun h0_ _ => absurd ((hoff 20 (by kernel_rfl)).symm.trans h0_) (by decide), fun h0_ _ => absurd ((hoff 23 (by kernel_rfl)).symm.trans h0_) (by decide), fun h0_ => absurd ((hoff 26 (by kernel_rfl)).symm.trans h0_) (by decide)⟩
    refine steps_cons ?_ ?_
    · rintro b a w' ⟨ha, Q_F2, Q_F3, Q_WA, Q_WB, Q_WC, Q_WD⟩ hb_ hon hoff
      refine ⟨_, rfl, fun K hK => ?_⟩
      have e110 : a.tmps[110]? = some (Value.pointer (some ⟨gp, 3, none⟩)) := by rw [ha]; exact (putSel_off rfl).trans rfl
      replace ha := Aside0.mk ha
      have F2 := Aside0.mk Q_F2
      have F3 := Aside0.mk Q_F3
      have hs_ := F3.out
      refine value_ (w1 := w') (v := Value.int .i64 sq) (by rfl) rfl ?_ ?_
      · go_simp
        (try simp only [i64_w])
        try rfl
      refine hK.out _ _ ⟨(by rw [ha.out]; exact putSel_upk 4 hb_ rfl rfl rfl), Q_F2, Q_F3, Q_WA, Q_WB, Q_WC, fun h0_ => absurd ((hoff 26 (by kernel_rfl)).symm.trans h0_) (by decide)⟩
    refine steps_cons ?_ ?_
    · rintro b a w' ⟨ha, Q_F2, Q_F3, Q_WA, Q_WB, Q_WC, Q_WD⟩ hb_ hon hoff
      refine ⟨_, rfl, fun K hK => ?_⟩
      have e109 : a.tmps[109]? = some (Value.int .i64 s.sq) := by rw [ha]; exact putSel_on (e := (14, 109, Value.int .i64 s.sq)) 3 rfl rfl (hon 14 (by kernel_rfl)) rfl
      have e111 : a.tmps[111]? = some (Value.int .i64 sq) := by rw [ha]; exact putSel_on (e := (16, 111, Value.int .i64 sq)) 4 rfl rfl (hon 16 (by kernel_rfl)) rfl
      replace ha := Aside0.mk ha
      have F2 := Aside0.mk Q_F2
      have F3 := Aside0.mk Q_F3
      refine value_ (w1 := w') (v := Value.int .i64 m2) (by rfl) rfl ?_ ?_
      · go_simp
        (try simp only [i64_w])
        try rfl
      refine hK.out _ _ ⟨(by rw [ha.out]; exact putSel_upk 5 hb_ rfl rfl rfl), Q_F2, Q_F3, Q_WA, Q_WB, Q_WC, fun h0_ => absurd ((hoff 26 (by kernel_rfl)).symm.trans h0_) (by decide)⟩
    refine steps_cons ?_ ?_
    · rintro b a w' ⟨ha, Q_F2, Q_F3, Q_WA, Q_WB, Q_WC, Q_WD⟩ hb_ hon hoff
      refine ⟨_, rfl, fun K hK => ?_⟩
      have e95 : a.tmps[95]? = some (Value.pointer (some ⟨g, 0, none⟩)) := by rw [ha]; exact (putSel_off rfl).trans rfl
      replace ha := Aside0.mk ha
      have F2 := Aside0.mk Q_F2
      have F3 := Aside0.mk Q_F3
      have WA := Aside0.mk (Q_WA (hoff 20 (by kernel_rfl)))
      refine value_ (w1 := w') (v := Value.pointer (some ⟨g, 0, none⟩)) (by rfl) rfl ?_ ?_
      · go_simp
        (try simp only [i64_w])
        try rfl
      refine hK.out _ _ ⟨(by rw [ha.out]; exact putSel_upk 6 hb_ rfl rfl rfl), Q_F2, Q_F3, Q_WA, fun h0_ _ => absurd ((hoff 20 (by kernel_rfl)).symm.trans h0_) (by decide), fun h0_ _ => absurd ((hoff 23 (by kernel_rfl)).symm.trans h0_) (by decide), fun h0_ => absurd ((hoff 26 (by kernel_rfl)).symm.trans h0_) (by decide)⟩
    refine steps_cons ?_ ?_
    · rintro b a w' ⟨ha, Q_F2, Q_F3, Q_WA, Q_WB, Q_WC, Q_WD⟩ hb_ hon hoff
      refine ⟨_, rfl, fun K hK => ?_⟩
      have e113 : a.tmps[113]? = some (Value.pointer (some ⟨g, 0, none⟩)) := by rw [ha]; exact putSel_on (e := (18, 113, Value.pointer (some ⟨g, 0, none⟩))) 6 rfl rfl (hon 18 (by kernel_rfl)) rfl
      replace ha := Aside0.mk ha
      have F2 := Aside0.mk Q_F2
      have F3 := Aside0.mk Q_F3
      have WA := Aside0.mk (Q_WA (hoff 20 (by kernel_rfl)))
      refine value_ (w1 := w') (v := Value.pointer (some ⟨g, 0, none⟩)) (by rfl) rfl ?_ ?_
      · go_simp
        (try simp only [i64_w])
        try rfl
      refine hK.out _ _ ⟨(by rw [ha.out]; exact putSel_upk 7 hb_ rfl rfl rfl), Q_F2, Q_F3, Q_WA, fun h0_ _ => absurd ((hoff 20 (by kernel_rfl)).symm.trans h0_) (by decide), fun h0_ _ => absurd ((hoff 23 (by kernel_rfl)).symm.trans h0_) (by decide), fun h0_ => absurd ((hoff 26 (by kernel_rfl)).symm.trans h0_) (by decide)⟩
    refine steps_cons ?_ ?_
    · rintro b a w' ⟨ha, Q_F2, Q_F3, Q_WA, Q_WB, Q_WC, Q_WD⟩ hb_ hon hoff
      refine ⟨_, rfl, fun K hK => ?_⟩
      have e114 : a.tmps[114]? = some (Value.pointer (some ⟨g, 0, none⟩)) := by rw [ha]; exact putSel_on (e := (19, 114, Value.pointer (some ⟨g, 0, none⟩))) 7 rfl rfl (hon 19 (by kernel_rfl)) rfl
      have e98 : a.tmps[98]? = some (Value.slice A6 (rowS s.l G C).length c6) := by rw [ha]; exact (putSel_off rfl).trans rfl
      replace ha := Aside0.mk ha
      have F2 := Aside0.mk Q_F2
      have F3 := Aside0.mk Q_F3
      have WA := Aside0.mk (Q_WA hb_)
      have hw_ := WA.out.symm
      subst hw_
      refine skip_ (w1 := w9.setCell ⟨g, 0, none⟩ (Value.slice A6 (rowS s.l G C).length c6)) (by rfl) rfl ?_ ?_
      · go_simp
        try rfl
      refine hK.out _ _ ⟨(by rw [ha.out]; exact putSel_none (v := undef) rfl), (far_c HNE.out).trans F2.out, (far_c HNE.out).trans F3.out, fun h0_ => absurd ((up_self b 20).symm.trans h0_) (by decide), fun _ _ => rfl, fun h0_ _ => absurd ((hoff 23 (by kernel_rfl)).symm.trans h0_) (by decide), fun h0_ => absurd ((hoff 26 (by kernel_rfl)).symm.trans h0_) (by decide)⟩
    refine steps_cons ?_ ?_
    · rintro b a w' ⟨ha, Q_F2, Q_F3, Q_WA, Q_WB, Q_WC, Q_WD⟩ hb_ hon hoff
      refine ⟨_, rfl, fun K hK => ?_⟩
      have e96 : a.tmps[96]? = some (Value.pointer (some ⟨g, 0, none⟩)) := by rw [ha]; exact (putSel_off rfl).trans rfl
      replace ha := Aside0.mk ha
      have F2 := Aside0.mk Q_F2
      have F3 := Aside0.mk Q_F3
      have WB := Aside0.mk (Q_WB (hon 20 (by kernel_rfl)) (hoff 23 (by kernel_rfl)))
      refine value_ (w1 := w') (v := Value.pointer (some ⟨g, 0, none⟩)) (by rfl) rfl ?_ ?_
      · go_simp
        (try simp only [i64_w])
        try rfl
      refine hK.out _ _ ⟨(by rw [ha.out]; exact putSel_upk 8 hb_ rfl rfl rfl), Q_F2, Q_F3, fun h0_ => absurd ((hon 20 (by kernel_rfl)).symm.trans h0_) (by decide), Q_WB, fun h0_ _ => absurd ((hoff 23 (by kernel_rfl)).symm.trans h0_) (by decide), fun h0_ => absurd ((hoff 26 (by kernel_rfl)).symm.trans h0_) (by decide)⟩
    refine steps_cons ?_ ?_
    · rintro b a w' ⟨ha, Q_F2, Q_F3, Q_WA, Q_WB, Q_WC, Q_WD⟩ hb_ hon hoff
      refine ⟨_, rfl, fun K hK => ?_⟩
      have e115 : a.tmps[115]? = some (Value.pointer (some ⟨g, 0, none⟩)) := by rw [ha]; exact putSel_on (e := (21, 115, Value.pointer (some ⟨g, 0, none⟩))) 8 rfl rfl (hon 21 (by kernel_rfl)) rfl
      replace ha := Aside0.mk ha
      have F2 := Aside0.mk Q_F2
      have F3 := Aside0.mk Q_F3
      have WB := Aside0.mk (Q_WB (hon 20 (by kernel_rfl)) (hoff 23 (by kernel_rfl)))
      refine value_ (w1 := w') (v := Value.pointer (some ⟨g, 1, none⟩)) (by rfl) rfl ?_ ?_
      · go_simp
        (try simp only [i64_w])
        try rfl
      refine hK.out _ _ ⟨(by rw [ha.out]; exact putSel_upk 9 hb_ rfl rfl rfl), Q_F2, Q_F3, fun h0_ => absurd ((hon 20 (by kernel_rfl)).symm.trans h0_) (by decide), Q_WB, fun h0_ _ => absurd ((hoff 23 (by kernel_rfl)).symm.trans h0_) (by decide), fun h0_ => absurd ((hoff 26 (by kernel_rfl)).symm.trans h0_) (by decide)⟩
    refine steps_cons ?_ ?_
    · rintro b a w' ⟨ha, Q_F2, Q_F3, Q_WA, Q_WB, Q_WC, Q_WD⟩ hb_ hon hoff
      refine ⟨_, rfl, fun K hK => ?_⟩
      have e116 : a.tmps[116]? = some (Value.pointer (some ⟨g, 1, none⟩)) := by rw [ha]; exact putSel_on (e := (22, 116, Value.pointer (some ⟨g, 1, none⟩))) 9 rfl rfl (hon 22 (by kernel_rfl)) rfl
      have e105 : a.tmps[105]? = some (Value.int .i64 m1) := by rw [ha]; exact putSel_on (e := (10, 105, Value.int .i64 m1)) 2 rfl rfl (hon 10 (by kernel_rfl)) rfl
      replace ha := Aside0.mk ha
      have F2 := Aside0.mk Q_F2
      have F3 := Aside0.mk Q_F3
      have WB := Aside0.mk (Q_WB (hon 20 (by kernel_rfl)) hb_)
      have hw_ := WB.out
      subst hw_
      refine skip_ (w1 := (w9.setCell ⟨g, 0, none⟩ (Value.slice A6 (rowS s.l G C).length c6)).setCell ⟨g, 1, none⟩ (.int .i64 m1)) (by rfl) rfl ?_ ?_
      · go_simp
        try rfl
      refine hK.out _ _ ⟨(by rw [ha.out]; exact putSel_none (v := undef) rfl), (far_c HNE.out).trans F2.out, (far_c HNE.out).trans F3.out, fun h0_ => absurd ((hon 20 (by kernel_rfl)).symm.trans h0_) (by decide), fun _ h1_ => absurd ((up_self b 23).symm.trans h1_) (by decide), fun _ _ => rfl, fun h0_ => absurd ((hoff 26 (by kernel_rfl)).symm.trans h0_) (by decide)⟩
    refine steps_cons ?_ ?_
    · rintro b a w' ⟨ha, Q_F2, Q_F3, Q_WA, Q_WB, Q_WC, Q_WD⟩ hb_ hon hoff
      refine ⟨_, rfl, fun K hK => ?_⟩
      have e97 : a.tmps[97]? = some (Value.pointer (some ⟨g, 0, none⟩)) := by rw [ha]; exact (putSel_off rfl).trans rfl
      replace ha := Aside0.mk ha
      have F2 := Aside0.mk Q_F2
      have F3 := Aside0.mk Q_F3
      have WC := Aside0.mk (Q_WC (hon 23 (by kernel_rfl)) (hoff 26 (by kernel_rfl)))
      refine value_ (w1 := w') (v := Value.pointer (some ⟨g, 0, none⟩)) (by rfl) rfl ?_ ?_
      · go_simp
        (try simp only [i64_w])
        try rfl
      refine hK.out _ _ ⟨(by rw [ha.out]; exact putSel_upk 10 hb_ rfl rfl rfl), Q_F2, Q_F3, fun h0_ => absurd ((hon 20 (by kernel_rfl)).symm.trans h0_) (by decide), fun _ h1_ => absurd ((hon 23 (by kernel_rfl)).symm.trans h1_) (by decide), Q_WC, fun h0_ => absurd ((hoff 26 (by kernel_rfl)).symm.trans h0_) (by decide)⟩
    refine steps_cons ?_ ?_
    · rintro b a w' ⟨ha, Q_F2, Q_F3, Q_WA, Q_WB, Q_WC, Q_WD⟩ hb_ hon hoff
      refine ⟨_, rfl, fun K hK => ?_⟩
      have e117 : a.tmps[117]? = some (Value.pointer (some ⟨g, 0, none⟩)) := by rw [ha]; exact putSel_on (e := (24, 117, Value.pointer (some ⟨g, 0, none⟩))) 10 rfl rfl (hon 24 (by kernel_rfl)) rfl
      replace ha := Aside0.mk ha
      have F2 := Aside0.mk Q_F2
      have F3 := Aside0.mk Q_F3
      have WC := Aside0.mk (Q_WC (hon 23 (by kernel_rfl)) (hoff 26 (by kernel_rfl)))
      refine value_ (w1 := w') (v := Value.pointer (some ⟨g, 2, none⟩)) (by rfl) rfl ?_ ?_
      · go_simp
        (try simp only [i64_w])
        try rfl
      refine hK.out _ _ ⟨(by rw [ha.out]; exact putSel_upk 11 hb_ rfl rfl rfl), Q_F2, Q_F3, fun h0_ => absurd ((hon 20 (by kernel_rfl)).symm.trans h0_) (by decide), fun _ h1_ => absurd ((hon 23 (by kernel_rfl)).symm.trans h1_) (by decide), Q_WC, fun h0_ => absurd ((hoff 26 (by kernel_rfl)).symm.trans h0_) (by decide)⟩
    refine steps_cons ?_ ?_
    · rintro b a w' ⟨ha, Q_F2, Q_F3, Q_WA, Q_WB, Q_WC, Q_WD⟩ hb_ hon hoff
      refine ⟨_, rfl, fun K hK => ?_⟩
      have e118 : a.tmps[118]? = some (Value.pointer (some ⟨g, 2, none⟩)) := by rw [ha]; exact putSel_on (e := (25, 118, Value.pointer (some ⟨g, 2, none⟩))) 11 rfl rfl (hon 25 (by kernel_rfl)) rfl
      have e112 : a.tmps[112]? = some (Value.int .i64 m2) := by rw [ha]; exact putSel_on (e := (17, 112, Value.int .i64 m2)) 5 rfl rfl (hon 17 (by kernel_rfl)) rfl
      replace ha := Aside0.mk ha
      have F2 := Aside0.mk Q_F2
      have F3 := Aside0.mk Q_F3
      have WC := Aside0.mk (Q_WC (hon 23 (by kernel_rfl)) hb_)
      have hw_ := WC.out
      subst hw_
      refine skip_ (w1 := ((w9.setCell ⟨g, 0, none⟩ (Value.slice A6 (rowS s.l G C).length c6)).setCell ⟨g, 1, none⟩ (.int .i64 m1)).setCell ⟨g, 2, none⟩ (.int .i64 m2)) (by rfl) rfl ?_ ?_
      · go_simp
        try rfl
      refine hK.out _ _ ⟨(by rw [ha.out]; exact putSel_none (v := undef) rfl), (far_c HNE.out).trans F2.out, (far_c HNE.out).trans F3.out, fun h0_ => absurd ((hon 20 (by kernel_rfl)).symm.trans h0_) (by decide), fun _ h1_ => absurd ((hon 23 (by kernel_rfl)).symm.trans h1_) (by decide), fun _ h1_ => absurd ((up_self b 26).symm.trans h1_) (by decide), fun _ => rfl⟩
    exact steps_nil
  rintro b a w' hall ⟨ha, Q_F2, Q_F3, Q_WA, Q_WB, Q_WC, Q_WD⟩
  clear F2 F3 WA
  have hb7_ := hall 7 (by kernel_rfl)
  have hb9_ := hall 9 (by kernel_rfl)
  have hb10_ := hall 10 (by kernel_rfl)
  have hb14_ := hall 14 (by kernel_rfl)
  have hb16_ := hall 16 (by kernel_rfl)
  have hb17_ := hall 17 (by kernel_rfl)
  have hb18_ := hall 18 (by kernel_rfl)
  have hb19_ := hall 19 (by kernel_rfl)
  have hb20_ := hall 20 (by kernel_rfl)
  have hb21_ := hall 21 (by kernel_rfl)
  have hb22_ := hall 22 (by kernel_rfl)
  have hb23_ := hall 23 (by kernel_rfl)
  have hb24_ := hall 24 (by kernel_rfl)
  have hb25_ := hall 25 (by kernel_rfl)
  have hb26_ := hall 26 (by kernel_rfl)
  subst ha
  simp only [putSel, hb7_, hb9_, hb10_, hb14_, hb16_, hb17_, hb18_, hb19_, hb20_, hb21_, hb22_, hb23_, hb24_, hb25_, hb26_, if_true, Act.put, List.setIfInBounds_toArray, List.set_cons_zero, List.set_cons_succ]
  have F2 := Aside0.mk Q_F2
  clear Q_F2
  have F3 := Aside0.mk Q_F3
  clear Q_F3
  clear Q_WA
  clear Q_WB
  clear Q_WC
  have WD := Aside0.mk (Q_WD hb26_)
  clear Q_WD
  clear hall hb7_ hb9_ hb10_ hb14_ hb16_ hb17_ hb18_ hb19_ hb20_ hb21_ hb22_ hb23_ hb24_ hb25_ hb26_
  have hwd := WD.out
  clear WD F2 F3 hHeld HT_ HW_ hm1 hm2
  have hb9 := (bb_ B HB8.out).out
  have BS := Aside0.mk (show w'.heap[g]? = some (.cells #[.slice A6 (rowS s.l G C).length c6, .int .i64 m1, .int .i64 m2, .int .i64 s.nx] 57 (0, 0)) by
    rw [hwd]
    refine blk_put (cs := #[.slice A6 (rowS s.l G C).length c6, .int .i64 m1, .int .i64 s.sq, .int .i64 s.nx]) ?_ 2 _ rfl
    refine blk_put (cs := #[.slice A6 (rowS s.l G C).length c6, .int .i64 s.lg, .int .i64 s.sq, .int .i64 s.nx]) ?_ 1 _ rfl
    exact blk_put hb9 0 _ rfl)
  have RY := Aside0.mk (show Kd.R k32 32 w' 0 (fun k => k ≠ g) (.slice A6 (rowS s.l G C).length c6) ys by
    have h_ := Kd.R_lower (Kd.R_mono (ok' := fun k => k ≠ g) (Kd.R_types HOY.out hb9 (by simp [k32, Kd.iso, Kd.pair, Kd.int, Kd.string, Kd.scalar])) (fun k hk => hk.2)) (Nat.zero_le _)
    rw [hwd]
    exact Kd.R_far (p := ⟨g, 2, none⟩) (Kd.R_far (p := ⟨g, 1, none⟩) (Kd.R_far (p := ⟨g, 0, none⟩) h_ (fun _ hk => hk) _) (fun _ hk => hk) _) (fun _ hk => hk) _)
  have FR := Aside0.mk (show Fr w w' (fun k => k = g) by
    rw [hwd]
    exact Fr.set (F := fun k => k = g) (Fr.set (F := fun k => k = g) (Fr.set (F := fun k => k = g) (Fr.below (below_step HW.out HB8.out)) rfl _) rfl _) rfl _)
  have BE2 := Aside0.mk (show w'.heap[gp]? = some (.cells #[.slice AG G.length cG, .slice AC C.length cC, .int .i64 lg, .int .i64 sq] 36 (0, 0)) by
    rw [hwd]
    exact blk_far (blk_far (blk_far (bb_ BE HB8.out).out HNE.out _) HNE.out _) HNE.out _)
  have HCL := Aside0.mk (show ∀ (ad : Addr) (x : Value) (z : ByteArray), w9.cell? ad = some x → w9.cell? ⟨ad.block, ad.off + 2, none⟩ = some (.string z) → w'.cell? ad = some x from fun ad x z h1 h2 => by
    have hn := not_box hb9 h2
    rw [hwd, cell_far hn, cell_far hn, cell_far hn]
    exact h1)
  have HC9 := Aside0.mk (Kd.C_below HC.out HB8.out)
  clear hwd hb9 HOY HB8 hc0 hc1 hc2 hf0 hf1 hf2
  have he1 := bc1 BE2
  by_cases hC0 : C.length = 0
  · have hd0 : decide (0 < (C.length : Int)) = false := decide_eq_false (by omega)
    have hd0n : decide (0 < C.length) = false := decide_eq_false (by omega)
    have HNX := Aside0.mk (show nxS s.nx C = s.nx by rw [List.eq_nil_of_length_eq_zero hC0]; rfl)
    clear hC0
    go_wp2
    go_ret
    refine ⟨by rw [HE.out]; rfl, ?_, FR.out⟩
    rw [HS.out]
    refine ⟨.slice A6 (rowS s.l G C).length c6, ?_, ?_⟩
    · show w'.heap[g]? = some (.cells #[.slice A6 (rowS s.l G C).length c6, .int .i64 (maxI s.lg lg), .int .i64 (maxI s.sq sq), .int .i64 (nxS s.nx C)] 57 (0, 0))
      rw [HNX.out, ← HM1.out, ← HM2.out]
      exact BS.out
    · show Kd.R k32 32 w' 0 (fun k => k ≠ g) (.slice A6 (rowS s.l G C).length c6) (srt (rowS s.l G C))
      rw [← HYS.out]
      exact RY.out
  have hd0 : decide (0 < (C.length : Int)) = true := decide_eq_true (by omega)
  have hd0n : decide (0 < C.length) = true := decide_eq_true (by omega)
  obtain ⟨q, hq⟩ : ∃ q, C.length = q + 1 := ⟨C.length - 1, by omega⟩
  have hlt : q < C.length := by omega
  have p0 : 0 ≤ (q : Int) := by omega
  have q0 : (q : Int) < (C.length : Int) := by omega
  obtain ⟨ad, e_, hx0, _, hx2, _, _⟩ := at_T32 HC9.out (q : Int) p0 q0
  cases e_
  rw [Int.toNat_natCast, rdT C q hlt] at hx0 hx2
  have hy0 := HCL.out _ _ _ hx0 hx2
  have HNX := Aside0.mk (show nxS s.nx C = C[q].f0 + 1 by
    unfold nxS
    rw [List.getLast?_eq_getElem?, show C.length - 1 = q by omega, List.getElem?_eq_getElem hlt])
  have hbd : 1 ≤ C[q].f0 ∧ C[q].f0 ≤ 1000000 := by
    have hfr := HF.out
    unfold formedB at hfr
    rw [Bool.and_eq_true] at hfr
    exact (isT_iff.1 ((ris_iff hfr.1).1 C[q] (List.getElem_mem hlt)).1).1
  have hw1 : wrap64 ((C.length : Int) - 1) = (q : Int) := by have := HLC.out; unfold wrap64; omega
  have hw2 : wrap64 (C[q].f0 + 1) = C[q].f0 + 1 := by unfold wrap64; omega
  clear hx0 hx2 hbd hC0 hq
  generalize C[q].f0 = cf at hy0 HNX hw2
  have hc3 := bc3 BS
  have hf3 := bf_ BS 3
  go_wp2
  go_ret
  refine ⟨by rw [HE.out]; rfl, ?_, Fr.set (F := fun k => k = g) FR.out rfl _⟩
  rw [HS.out]
  refine ⟨.slice A6 (rowS s.l G C).length c6, ?_, ?_⟩
  · show (World.setCell _ _ _).heap[g]? = some (.cells #[.slice A6 (rowS s.l G C).length c6, .int .i64 (maxI s.lg lg), .int .i64 (maxI s.sq sq), .int .i64 (nxS s.nx C)] 57 (0, 0))
    rw [HNX.out, ← HM1.out, ← HM2.out]
    exact blk_put BS.out 3 _ rfl
  · show Kd.R k32 32 _ 0 (fun k => k ≠ g) (.slice A6 (rowS s.l G C).length c6) (srt (rowS s.l G C))
    rw [← HYS.out]
    exact Kd.R_far (p := ⟨g, 3, none⟩) RY.out (fun _ hk => hk) _
end Go.Proofs.Ytmbedgopceigaaa.Q
