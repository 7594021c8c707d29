import Derived.Test.YtmbedgopceigaaaQTabT13
import Derived.Test.YtmbedgopceigaaaQTabF
import Derived.Test.YtmbedgopceigaaaM8
import Derived.Test.YtmbedgopceigaaaM9
namespace Go.Proofs.Ytmbedgopceigaaa.Q
open Go.RowKit Go.Lib Go.Proofs Go.Proofs.Ytmbedgopceigaaa.P Go.Proofs.YtmbedgopceigaaaW.PrintWords Go.Proofs.YtmbedgopceigaaaW.PrintLast Go.Proofs.YtmbedgopceigaaaW.PrintMore
set_option linter.unusedVariables false
set_option linter.unusedSimpArgs false
attribute [local go_sem] max_two
attribute [local go_sem high] string_leq string_geq string_gtr
/-! (*ravelinref9.Sheet).Do -/
def keepL (l : List S32) (G : List Int) : List S32 := l.filter (fun z => !(G.any (fun y => z.f0 == y)))
theorem keep_len (l : List S32) (G : List Int) : (keepL l G).length ≤ l.length := List.length_filter_le _ _
theorem goR_snoc : ∀ (C l : List S32) (c : S32), goR l (C ++ [c]) = (goR l C).bind (fun l' => if l'.any (fun z => rmeet c z) = true then none else some (putL l' c))
  | [], l, c => by simp [goR]
  | d :: r, l, c => by
    rw [List.cons_append, goR, goR]
    split
    · rfl
    · exact goR_snoc r _ c
theorem goR_none : ∀ (C D l : List S32), goR l C = none → goR l (C ++ D) = none
  | [], D, l, h => by rw [goR] at h; cases h
  | d :: r, D, l, h => by
    rw [goR] at h
    rw [List.cons_append, goR]
    split
    · rfl
    · rename_i hb
      rw [if_neg hb] at h
      exact goR_none r D _ h
theorem goR_len : ∀ (C l x : List S32), goR l C = some x → x.length = l.length + C.length
  | [], l, x, h => by rw [goR] at h; injection h with h; rw [← h]; simp
  | d :: r, l, x, h => by
    rw [goR] at h
    split at h
    · cases h
    · have := goR_len r _ x h
      rw [putL_length] at this
      simp only [List.length_cons]
      omega
theorem goR_do {s : St} (h : InvS s) {G : List Int} {C : List S32} {lg sq : Int} (hf : formedB G C lg sq = true) (he : earlyB C s.nx = false) : goR (keepL s.l G) C = if apartB (rowS s.l G C) = true then some (srt (rowS s.l G C)) else none := by
  obtain ⟨hi, hd⟩ := rowS_inv h hf he
  exact goR_eq C (keepL s.l G) hi hd (h.apart.filter _) (h.sorted.filter _)
theorem rdo_err {w w' : World} {g : Nat} {s : St} {G : List Int} {C : List S32} {lg sq n : Int} (h : doE s G C lg sq = n) (hn : n ≠ 0) (hS : Rh w g s.l s.lg s.sq s.nx) (hb : Below w.heap.size w w') : Rh w' g (doS s G C lg sq).l (doS s G C lg sq).lg (doS s G C lg sq).sq (doS s G C lg sq).nx ∧ Fr w w' (fun k => k = g) := by
  have e : doS s G C lg sq = s := by unfold doS; rw [if_neg (by omega)]
  rw [e]
  exact ⟨hS.below hb, Fr.below hb⟩
theorem any_take {α : Type} (p : α → Bool) (l : List α) (i : Nat) (h : i < l.length) : (l.take (i + 1)).any p = ((l.take i).any p || p l[i]) := by
  rw [List.take_succ_eq_append_getElem h, List.any_append]; simp
def RDo_.T33 : Bool × List (List Nat × List Nat) := (true, [([], []), ([], []), ([], []), ([2], [2]), ([3], [3]), ([4], [4]), ([], []), ([6], [6]), ([5, 7], [5, 7]), ([], []), ([9], [9]), ([10], [10]), ([11], [11]), ([], []), ([13], [13]), ([12, 14], [12, 14]), ([0, 0, 2, 3, 4, 5, 6, 7, 8, 12], [0]), ([16, 0, 2, 3, 4, 5, 6, 7, 8, 12], [16]), ([17, 8, 0, 2, 3, 4, 5, 6, 7, 8, 12], [8, 17]), ([1, 0, 1, 2, 3, 4, 5, 6, 7, 8, 9, 10, 11, 12, 13, 14, 15, 16, 17, 18], [1]), ([19, 0, 1, 2, 3, 4, 5, 6, 7, 8, 9, 10, 11, 12, 13, 14, 15, 16, 17, 18], [19]), ([20, 15, 18, 0, 1, 2, 3, 4, 5, 6, 7, 8, 9, 10, 11, 12, 13, 14, 15, 16, 17, 18], [15, 20])])
def RDo_.B33 : List Nat := [0, 0, 0, 4, 12, 28, 0, 64, 252, 0, 512, 1536, 3584, 0, 8192, 32256, 8189, 73725, 204797, 524287, 1048575, 2097151]
theorem RDo_.tab33 : rtab .any (opsOf Try.f14 33) = RDo_.T33 := by kernel_rfl
theorem RDo_.bits33 : waitsOk RDo_.T33.2 RDo_.B33 = true := by kernel_rfl
theorem Fr.drew {w w' : World} {F : Nat → Prop} (h : Fr w w' F) : Fr w w'.drew F := ⟨h.os, h.tape, h.output, h.size, h.block⟩
set_option maxHeartbeats 16000000 in
set_option maxRecDepth 100000 in
theorem RDo (w : World) (g : Nat) (s : St) (hs : Rh w g s.l s.lg s.sq s.nx) (hinv : InvS s) (G : List Int) (AG : Option Addr) (cG : Nat) (C : List S32) (AC : Option Addr) (cC : Nat) (lg sq : Int)
    (hG : (Kd.int .i64).C w AG G.length G) (hcG : G.length ≤ cG) (hC : Kd.C k32 w AC C.length C) (hcC : C.length ≤ cC) (hlG : G.length ≤ 1000000) (hlC : C.length ≤ 1000000) :
    Calls Try.prog 14 #[.pointer (some ⟨g, 0, none⟩), .agg #[.slice AG G.length cG, .slice AC C.length cC, .int .i64 lg, .int .i64 sq]] w fun e w' => e = .returned (.int .i64 (doE s G C lg sq)) ∧ Rh w' g (doS s G C lg sq).l (doS s G C lg sq).lg (doS s G C lg sq).sq (doS s G C lg sq).nx ∧ Fr w w' (fun k => k = g) := by
  obtain ⟨Kf, hKf⟩ := redit_ev G C lg sq hlC
  have HFM := Aside0.mk (hKf Kf (Nat.le_refl _))
  clear hKf
  have HS0 := Aside0.mk hs
  have HI := Aside0.mk hinv
  have HLG := Aside0.mk hlG
  have HLC := Aside0.mk hlC
  have HCG := Aside0.mk hcG
  have HCC := Aside0.mk hcC
  have HSL := Aside0.mk hinv.len
  have HG0 := Aside0.mk hG
  have HC0 := Aside0.mk hC
  clear hs hinv hlG hlC hcG hcC hG hC
  obtain ⟨A, c, h1, h2, h3⟩ := HS0.out.reads
  have B0 := Aside0.mk h1
  have HSC := Aside0.mk h2
  have HR0 := Aside0.mk h3
  clear h1 h2 h3
  go_enter Try.func14, Try.ntmps14
  go_upto_region 1 with go_step3
  have HW := Aside0.mk (below_alloc (Below.refl _ w) (.cells #[.slice AG G.length cG, .slice AC C.length cC, .int .i64 lg, .int .i64 sq] 36))
  have B := Aside0.mk (blk_below B0.out HW.out)
  have HR := Aside0.mk (Kd.C_below HR0.out HW.out)
  have HG := Aside0.mk (Kd.C_below HG0.out HW.out)
  have HC := Aside0.mk (Kd.C_below HC0.out HW.out)
  have BE := Aside0.mk (blk_new w (.cells #[.slice AG G.length cG, .slice AC C.length cC, .int .i64 lg, .int .i64 sq] 36))
  have HGP := Aside0.mk (Nat.le_refl w.heap.size)
  clear B0 HR0 HG0 HC0
  generalize w.alloc (.cells #[.slice AG G.length cG, .slice AC C.length cC, .int .i64 lg, .int .i64 sq] 36) = w1 at HW B HR HG HC BE ⊢
  generalize hgp : w.heap.size = gp at BE HGP ⊢
  have he0 := bc0 BE
  have he1 := bc1 BE
  have he2 := bc2 BE
  have he3 := bc3 BE
  cases hf : formedB G C lg sq with
  | false =>
    rw [hf] at HFM
    have HE := Aside0.mk (show doE s G C lg sq = 10 by unfold doE; rw [if_pos hf])
    clear hf
    go_wp2_with (go_at_call 17; go_loud (with_reducible refine (ravelinref9_IsEdit.calls Kf AG cG G AC cC C lg sq _ w1 HG.out HCG.out HC.out HCC.out HFM.out).mono ?_; rintro e w2 ⟨rfl, hb⟩; have HB := Aside0.mk hb; clear hb he0 he1 he2 he3))
    go_ret
    exact ⟨by rw [HE.out]; rfl, rdo_err HE.out (by decide) HS0.out (below_step HW.out HB.out)⟩
  | true =>
  rw [hf] at HFM
  have HF := Aside0.mk hf
  clear hf
  go_wp2_with (go_at_call 17; go_loud (with_reducible refine (ravelinref9_IsEdit.calls Kf AG cG G AC cC C lg sq _ w1 HG.out HCG.out HC.out HCC.out HFM.out).mono ?_; rintro e w2 ⟨rfl, hb⟩; have HB := Aside0.mk hb; clear hb he0 he1 he2 he3))
  -- what stays
  have n0_ := Aside0.mk (bb_ B HB.out).out
  have n1_ := Aside0.mk (bb_ BE HB.out).out
  have n2_ := Aside0.mk (Kd.C_below HR.out HB.out)
  have n3_ := Aside0.mk (Kd.C_below HG.out HB.out)
  have n4_ := Aside0.mk (Kd.C_below HC.out HB.out)
  have n5_ := Aside0.mk (below_step HW.out HB.out)
  clear B BE HR HG HC HW HB HFM
  have B := n0_
  have BE := n1_
  have HR := n2_
  have HG := n3_
  have HC := n4_
  have HW := n5_
  clear n0_ n1_ n2_ n3_ n4_ n5_
  have HB := Aside0.mk (Below.refl w2.heap.size w2)
  go_loopg [5, 6] s.l.length (fun kq v5 v6 w' => ∃ (i : Nat), v6 = .int .i64 (i : Int) ∧ Aside0 (kq + i = s.l.length) ∧ Aside0 (Kd.R k32 32 w' w2.heap.size (fun _ => True) v5 (keepL (s.l.take i) G)) ∧ Aside0 (Below w2.heap.size w2 w'))
  case atStart => exact ⟨0, rfl, ⟨by omega⟩, ⟨Kd.R_nil _ _ _ _ _⟩, HB⟩
  clear HB
  obtain ⟨i, rfl, HQ, HO, HB⟩ := hrel
  have hc0 := bc0 (bb_ B HB.out)
  have he0 := bc0 (bb_ BE HB.out)
  by_cases hlt : i < s.l.length
  · obtain ⟨k1, rfl⟩ : ∃ k1, gk = k1 + 1 := ⟨gk - 1, by have := HQ.out; omega⟩
    have hd0 : decide (i < s.l.length) = true := decide_eq_true hlt
    have hd1 : decide ((i : Int) < (s.l.length : Int)) = true := decide_eq_true (by omega)
    have p0 : 0 ≤ (i : Int) := by omega
    have q0 : (i : Int) < (s.l.length : Int) := by omega
    obtain ⟨ad, e_, hx0, hx1, hx2, hx3, hx4⟩ := at_T32 (Kd.C_below HR.out HB.out) (i : Int) p0 q0
    cases e_
    rw [Int.toNat_natCast, rdT s.l i hlt] at hx0 hx1 hx2 hx3 hx4
    have HT := Aside0.mk (show keepL (s.l.take (i + 1)) G = keepL (s.l.take i) G ++ (if (!(G.any (fun y => s.l[i].f0 == y))) = true then [s.l[i]] else []) from take_filter (fun z : S32 => !(G.any (fun y => z.f0 == y))) s.l i hlt)
    have HLN := Aside0.mk (show (keepL (s.l.take i) G).length ≤ s.l.length from len_filter _ s.l i)
    obtain ⟨y, hy⟩ : ∃ y, y = s.l[i] := ⟨_, rfl⟩
    rw [← hy] at hx0 hx1 hx2 hx3 hx4 HT
    clear hy
    obtain ⟨Kg, hKg⟩ := gone_ev G y.f0 HLG.out
    have HGO := Aside0.mk (hKg Kg (Nat.le_refl _))
    clear hKg
    obtain ⟨b, hb⟩ : ∃ b, b = G.any (fun z => y.f0 == z) := ⟨_, rfl⟩
    rw [← hb] at HGO HT
    clear hb
    go_wp2
    go_quiet ((go_at_call 35; exact Calls.quiet_of ((ravelinref9_gone.calls Kg AG cG G y.f0 b _ (Kd.C_below (Kd.C_below HG.out HB.out) (pw_below_drewN (Below.refl _ _) _)) HCG.out HGO.out).mono (fun e w' h => ⟨h.1, h.2.out⟩))))
    have n0_ := Aside0.mk (Kd.R_below HO.out (pw_below_drewN (Below.refl _ wr) nq))
    have n1_ := bs_ HB (pw_below_drewN (Below.refl _ wr) nq)
    clear HO HB
    have HO := n0_
    have HB := n1_
    have hy0 : (wr.drewN nq).cell? (ad.add (i * 5)) = _ := hx0
    have hy1 : (wr.drewN nq).cell? ⟨(ad.add (i * 5)).block, (ad.add (i * 5)).off + 1, none⟩ = _ := hx1
    have hy2 : (wr.drewN nq).cell? ⟨(ad.add (i * 5)).block, (ad.add (i * 5)).off + 2, none⟩ = _ := hx2
    have hy3 : (wr.drewN nq).cell? ⟨(ad.add (i * 5)).block, (ad.add (i * 5)).off + 3, none⟩ = _ := hx3
    have hy4 : (wr.drewN nq).cell? ⟨(ad.add (i * 5)).block, (ad.add (i * 5)).off + 4, none⟩ = _ := hx4
    have hc5 : (wr.drewN nq).cell? ⟨g, 0, none⟩ = _ := hc0
    clear n0_ n1_ hx0 hx1 hx2 hx3 hx4 hc0 he0
    generalize wr.drewN nq = w5 at HO HB hy0 hy1 hy2 hy3 hy4 hc5 ⊢
    cases b with
    | true =>
      rw [if_neg (by decide), List.append_nil] at HT
      go_wp2
      go_roundg k1
      case measure => have := HQ.out; omega
      case rel => exact ⟨i + 1, by have h2_ := HSL.out; simp; unfold wrap64; omega, ⟨by have := HQ.out; omega⟩, ⟨by rw [HT.out]; exact HO.out⟩, HB⟩
    | false =>
      rw [if_pos (show (!false) = true by rfl)] at HT
      go_wp2_with (first | ((with_reducible refine gate_builtin (b := .append) (xs := #[.tmp 36, .tmp 44]) rfl ?_); at_builtin; go_loud (refine Kd.R_append k32 (w0 := w2) w2.heap.size rfl (.tmp 36) (.tmp 44) 33 32 (.agg #[(.int .i64 0), (.int .i64 0), (.string ⟨#[]⟩), (.string ⟨#[]⟩), (.int .i64 0)]) 56 rfl Try.underlying33 info32 rfl (by decide) (by omega) u5 (keepL (s.l.take i) G) y [.int .i64 y.f0, .int .i64 y.f1, .string y.f2, .string y.f3, .int .i64 y.f4] (fun _ => True) (fun _ => False) rfl rfl (k32_mkM _ _ _ y) (fun _ h => h.elim) (fun _ _ => trivial) HO.out HB.out HB.out.size (by have := HLN.out; have := HSL.out; omega) ?_; intro v1 w4 ho hb hg hat; rw [← HT.out] at ho; have HO2 := Aside0.mk ho; have HB2 := Aside0.mk hb; clear ho hb hg hat HO HB hy0 hy1 hy2 hy3 hy4 hc5)))
      go_roundg k1
      case measure => have := HQ.out; omega
      case rel => exact ⟨i + 1, by have h2_ := HSL.out; simp; unfold wrap64; omega, ⟨by have := HQ.out; omega⟩, HO2, HB2⟩
  have hd0 : decide (i < s.l.length) = false := decide_eq_false hlt
  have hd1 : decide ((i : Int) < (s.l.length : Int)) = false := decide_eq_false (by omega)
  have n0_ := Aside0.mk (show Kd.R k32 32 wr w2.heap.size (fun _ => True) u5 (keepL s.l G) by have h_ := HO.out; rwa [List.take_of_length_le (show s.l.length ≤ i by omega)] at h_)
  have n1_ := Aside0.mk (bb_ B HB.out).out
  have n2_ := Aside0.mk (bb_ BE HB.out).out
  have n3_ := Aside0.mk (Kd.C_below HR.out HB.out)
  have n4_ := Aside0.mk (Kd.C_below HG.out HB.out)
  have n5_ := Aside0.mk (Kd.C_below HC.out HB.out)
  have HBO := HB
  clear HO HQ B BE HR HG HC HB
  have HO := n0_
  have B := n1_
  have BE := n2_
  have HR := n3_
  have HG := n4_
  have HC := n5_
  clear n0_ n1_ n2_ n3_ n4_ n5_
  generalize wr = w3 at HO B BE HR HG HC HBO hc0 he0 ⊢
  have HKL := Aside0.mk (Nat.le_trans (keep_len s.l G) HSL.out)
  go_wp2
  clear hc0 he0 hd0 hd1
  have HB := Aside0.mk (Below.refl w3.heap.size w3)
  go_loopg [7] G.length (fun kq v7 w' => ∃ (i : Nat), v7 = .int .i64 (i : Int) ∧ Aside0 (kq + i = G.length) ∧ Aside0 (∀ j (hj : j < G.length), j < i → s.l.any (fun z => z.f0 == G[j]) = true) ∧ Aside0 (Below w3.heap.size w3 w'))
  case atStart => exact ⟨0, rfl, ⟨by omega⟩, ⟨fun j _ h => by omega⟩, HB⟩
  clear HB
  obtain ⟨i, rfl, HQ, HN, HB⟩ := hrel
  have he0 := bc0 (bb_ BE HB.out)
  by_cases hlt : i < G.length
  · as_aux_lemma =>
    obtain ⟨k1, rfl⟩ : ∃ k1, gk = k1 + 1 := ⟨gk - 1, by have := HQ.out; omega⟩
    have hd0 : decide (i < G.length) = true := decide_eq_true hlt
    have hd1 : decide ((i : Int) < (G.length : Int)) = true := decide_eq_true (by omega)
    have p0 : 0 ≤ (i : Int) := by omega
    have q0 : (i : Int) < (G.length : Int) := by omega
    obtain ⟨y, hy⟩ : ∃ y, y = G[i] := ⟨_, rfl⟩
    have HY := Aside0.mk hy
    clear hy
    go_wp2
    go_loopg [8, 9] s.l.length (fun kq v8 v9 w' => ∃ (j : Nat) (b : Bool), v9 = .int .i64 (j : Int) ∧ v8 = .bool b ∧ Aside0 (kq + j = s.l.length) ∧ Aside0 (b = (s.l.take j).any (fun z => z.f0 == y)) ∧ Aside0 (Below w3.heap.size w3 w'))
    case atStart => exact ⟨0, false, rfl, rfl, ⟨by omega⟩, ⟨by rw [List.take_zero]; rfl⟩, HB⟩
    clear HB he0
    obtain ⟨j, b, rfl, rfl, HQ2, HBJ, HB⟩ := hrel
    have he0 := bc0 (bb_ BE HB.out)
    have hc0 := bc0 (bb_ B HB.out)
    by_cases hltj : j < s.l.length
    · as_aux_lemma =>
      obtain ⟨k2, rfl⟩ : ∃ k2, gk = k2 + 1 := ⟨gk - 1, by have := HQ2.out; omega⟩
      have hd2 : decide (j < s.l.length) = true := decide_eq_true hltj
      have hd3 : decide ((j : Int) < (s.l.length : Int)) = true := decide_eq_true (by omega)
      have p2 : 0 ≤ (j : Int) := by omega
      have q2 : (j : Int) < (s.l.length : Int) := by omega
      obtain ⟨ad, e_, hx0, hx1, hx2, hx3, hx4⟩ := at_T32 (Kd.C_below HR.out HB.out) (j : Int) p2 q2
      cases e_
      obtain ⟨ad3, e_, hs0⟩ := Kd.at_int (Kd.C_below HG.out HB.out) (i : Int) p0 q0
      cases e_
      rw [Int.toNat_natCast, rdT s.l j hltj] at hx0 hx1 hx2 hx3 hx4
      rw [Int.toNat_natCast, rdG G i hlt, ← HY.out] at hs0
      have HT := Aside0.mk (any_take (fun z : S32 => z.f0 == y) s.l j hltj)
      obtain ⟨z, hz⟩ : ∃ z, z = s.l[j] := ⟨_, rfl⟩
      rw [← hz] at hx0 hx1 hx2 hx3 hx4 HT
      clear hz hx1 hx2 hx3 hx4
      cases b with
      | true =>
        go_wp2
        go_quiet (fail)
        go_wp2
        go_roundg k2
        case measure => have := HQ2.out; omega
        case rel => exact ⟨j + 1, true, by have h2_ := HSL.out; simp; unfold wrap64; omega, rfl, ⟨by have := HQ2.out; omega⟩, ⟨by rw [HT.out, ← HBJ.out]; rfl⟩, bs_ HB (pw_below_drewN (Below.refl _ _) nq)⟩
      | false =>
        obtain ⟨b2, hb2⟩ : ∃ b2, b2 = (z.f0 == y) := ⟨_, rfl⟩
        have HT2 := Aside0.mk (show b2 = (s.l.take (j + 1)).any (fun z => z.f0 == y) by rw [HT.out, ← HBJ.out, hb2]; rfl)
        cases b2 with
        | true =>
          have hb3 := hb2.symm
          clear hb2
          go_wp2
          go_quiet (fail)
          go_wp2
          go_roundg k2
          case measure => have := HQ2.out; omega
          case rel => exact ⟨j + 1, true, by have h2_ := HSL.out; simp; unfold wrap64; omega, rfl, ⟨by have := HQ2.out; omega⟩, HT2, bs_ HB (pw_below_drewN (Below.refl _ _) nq)⟩
        | false =>
          have hb3 := hb2.symm
          clear hb2
          go_wp2
          go_quiet (fail)
          go_wp2
          go_roundg k2
          case measure => have := HQ2.out; omega
          case rel => exact ⟨j + 1, false, by have h2_ := HSL.out; simp; unfold wrap64; omega, rfl, ⟨by have := HQ2.out; omega⟩, HT2, bs_ HB (pw_below_drewN (Below.refl _ _) nq)⟩
    have hd2 : decide (j < s.l.length) = false := decide_eq_false hltj
    have hd3 : decide ((j : Int) < (s.l.length : Int)) = false := decide_eq_false (by omega)
    have HBB := Aside0.mk (show b = s.l.any (fun z => z.f0 == y) by rw [HBJ.out, List.take_of_length_le (show s.l.length ≤ j by omega)])
    cases b with
    | false =>
      have HE := Aside0.mk (show doE s G C lg sq = 18 by
        unfold doE
        rw [if_neg (by rw [HF.out]; decide), if_pos]
        unfold hereB
        rw [List.all_eq_false]
        exact ⟨G[i], List.getElem_mem hlt, by rw [← HY.out, ← HBB.out]; decide⟩)
      go_wp2
      go_ret
      exact ⟨by rw [HE.out]; rfl, rdo_err HE.out (by decide) HS0.out (below_step HW.out (below_step HBO.out HB.out))⟩
    | true =>
      have HN2 := Aside0.mk (show ∀ j (hj : j < G.length), j < i + 1 → s.l.any (fun z => z.f0 == G[j]) = true from fun j hj h => by
        rcases Nat.lt_or_ge j i with h1 | h1
        · exact HN.out j hj h1
        · obtain rfl : j = i := by omega
          rw [← HY.out]; exact HBB.out.symm)
      go_wp2
      go_roundg k1
      case measure => have := HQ.out; omega
      case rel => exact ⟨i + 1, by have h_ := HQ.out; have h2_ := HLG.out; simp; unfold wrap64; omega, ⟨by have := HQ.out; omega⟩, HN2, HB⟩
  have hd0 : decide (i < G.length) = false := decide_eq_false hlt
  have hd1 : decide ((i : Int) < (G.length : Int)) = false := decide_eq_false (by omega)
  have HH := Aside0.mk (show hereB s.l G = true by
    unfold hereB
    rw [List.all_eq_true]
    intro x hx
    obtain ⟨j, hj, rfl⟩ := List.getElem_of_mem hx
    exact HN.out j hj (by omega))
  clear HN
  have HLT := Aside0.mk (show lateB s C lg sq = (earlyB C s.nx || (decide (0 < lg) && decide (lg < s.lg)) || (decide (0 < sq) && decide (sq < s.sq))) from rfl)
  go_upto_region 19 with go_step3
  (try simp only [Act.put, lists_])
  go_cut [124] (fun v124 wc => ∃ b : Bool, v124 = .bool b ∧ Aside0 (lateB s C lg sq = b) ∧ Aside0 (Below w3.heap.size w3 wc))
  case first => as_aux_lemma =>
    have he1 := bc1 (bb_ BE HB.out)
    have he2 := bc2 (bb_ BE HB.out)
    have he3 := bc3 (bb_ BE HB.out)
    have hc1 := bc1 (bb_ B HB.out)
    have hc2 := bc2 (bb_ B HB.out)
    have hc3 := bc3 (bb_ B HB.out)
    by_cases hC0 : C.length = 0
    · have hd0 : decide (0 < (C.length : Int)) = false := decide_eq_false (by omega)
      have hd0n : decide (0 < C.length) = false := decide_eq_false (by omega)
      have HEA := Aside0.mk (show earlyB C s.nx = false by rw [List.eq_nil_of_length_eq_zero hC0]; rfl)
      clear hC0
      cases h1 : decide (0 < lg) with
      | true =>
        cases h2 : decide (lg < s.lg) with
        | true =>
          go_quiet (fail)
          go_wp2
          go_meet
          case rel => exact ⟨_, rfl, ⟨by rw [HLT.out, HEA.out, h1, h2]; rfl⟩, bs_ HB (pw_below_drewN (Below.refl _ _) nq)⟩
        | false =>
          cases h3 : decide (0 < sq) with
          | true =>
            cases h4 : decide (sq < s.sq) with
            | true =>
              go_quiet (fail)
              go_wp2
              go_meet
              case rel => exact ⟨_, rfl, ⟨by rw [HLT.out, HEA.out, h1, h2, h3, h4]; rfl⟩, bs_ HB (pw_below_drewN (Below.refl _ _) nq)⟩
            | false =>
              go_quiet (fail)
              go_wp2
              go_meet
              case rel => exact ⟨_, rfl, ⟨by rw [HLT.out, HEA.out, h1, h2, h3, h4]; rfl⟩, bs_ HB (pw_below_drewN (Below.refl _ _) nq)⟩
          | false =>
            go_quiet (fail)
            go_wp2
            go_meet
            case rel => exact ⟨_, rfl, ⟨by rw [HLT.out, HEA.out, h1, h2, h3]; rfl⟩, bs_ HB (pw_below_drewN (Below.refl _ _) nq)⟩
      | false =>
        cases h3 : decide (0 < sq) with
        | true =>
          cases h4 : decide (sq < s.sq) with
          | true =>
            go_quiet (fail)
            go_wp2
            go_meet
            case rel => exact ⟨_, rfl, ⟨by rw [HLT.out, HEA.out, h1, h3, h4]; rfl⟩, bs_ HB (pw_below_drewN (Below.refl _ _) nq)⟩
          | false =>
            go_quiet (fail)
            go_wp2
            go_meet
            case rel => exact ⟨_, rfl, ⟨by rw [HLT.out, HEA.out, h1, h3, h4]; rfl⟩, bs_ HB (pw_below_drewN (Below.refl _ _) nq)⟩
        | false =>
          go_quiet (fail)
          go_wp2
          go_meet
          case rel => exact ⟨_, rfl, ⟨by rw [HLT.out, HEA.out, h1, h3]; rfl⟩, bs_ HB (pw_below_drewN (Below.refl _ _) nq)⟩
    have hd0 : decide (0 < (C.length : Int)) = true := decide_eq_true (by omega)
    have hd0n : decide (0 < C.length) = true := decide_eq_true (by omega)
    have hlt : 0 < C.length := by omega
    obtain ⟨ad, e_, hx0, _, _, _, _⟩ := at_T32 (Kd.C_below HC.out HB.out) (0 : Int) (by omega) (by omega)
    cases e_
    rw [show rd_T32 C (0 : Int) = C[0] from rdT C 0 hlt] at hx0
    have HEA := Aside0.mk (show earlyB C s.nx = decide (C[0].f0 < s.nx) by
      match C, hlt with
      | c :: r, _ => rfl)
    have hx1 : wr.cell? ad = some (.int .i64 C[0].f0) := by simpa [Addr.add] using hx0
    clear hx0 hC0
    have p1 : (0 : Int) < (C.length : Int) := by omega
    generalize hcf : C[0].f0 = cf at hx1 HEA
    clear hcf
    cases hb : decide (cf < s.nx) with
    | true =>
      go_quiet (fail)
      go_wp2
      go_meet
      case rel => exact ⟨_, rfl, ⟨by rw [HLT.out, HEA.out, hb]; rfl⟩, bs_ HB (pw_below_drewN (Below.refl _ _) nq)⟩
    | false =>
      cases h1 : decide (0 < lg) with
      | true =>
        cases h2 : decide (lg < s.lg) with
        | true =>
          go_quiet (fail)
          go_wp2
          go_meet
          case rel => exact ⟨_, rfl, ⟨by rw [HLT.out, HEA.out, hb, h1, h2]; rfl⟩, bs_ HB (pw_below_drewN (Below.refl _ _) nq)⟩
        | false =>
          cases h3 : decide (0 < sq) with
          | true =>
            cases h4 : decide (sq < s.sq) with
            | true =>
              go_quiet (fail)
              go_wp2
              go_meet
              case rel => exact ⟨_, rfl, ⟨by rw [HLT.out, HEA.out, hb, h1, h2, h3, h4]; rfl⟩, bs_ HB (pw_below_drewN (Below.refl _ _) nq)⟩
            | false =>
              go_quiet (fail)
              go_wp2
              go_meet
              case rel => exact ⟨_, rfl, ⟨by rw [HLT.out, HEA.out, hb, h1, h2, h3, h4]; rfl⟩, bs_ HB (pw_below_drewN (Below.refl _ _) nq)⟩
          | false =>
            go_quiet (fail)
            go_wp2
            go_meet
            case rel => exact ⟨_, rfl, ⟨by rw [HLT.out, HEA.out, hb, h1, h2, h3]; rfl⟩, bs_ HB (pw_below_drewN (Below.refl _ _) nq)⟩
      | false =>
        cases h3 : decide (0 < sq) with
        | true =>
          cases h4 : decide (sq < s.sq) with
          | true =>
            go_quiet (fail)
            go_wp2
            go_meet
            case rel => exact ⟨_, rfl, ⟨by rw [HLT.out, HEA.out, hb, h1, h3, h4]; rfl⟩, bs_ HB (pw_below_drewN (Below.refl _ _) nq)⟩
          | false =>
            go_quiet (fail)
            go_wp2
            go_meet
            case rel => exact ⟨_, rfl, ⟨by rw [HLT.out, HEA.out, hb, h1, h3, h4]; rfl⟩, bs_ HB (pw_below_drewN (Below.refl _ _) nq)⟩
        | false =>
          go_quiet (fail)
          go_wp2
          go_meet
          case rel => exact ⟨_, rfl, ⟨by rw [HLT.out, HEA.out, hb, h1, h3]; rfl⟩, bs_ HB (pw_below_drewN (Below.refl _ _) nq)⟩
  clear HB HLT he0
  obtain ⟨bl, rfl, HLA, HB⟩ := hcut
  have HBW := Aside0.mk (below_step HW.out (below_step HBO.out HB.out))
  cases bl with
  | true =>
    have HE := Aside0.mk (show doE s G C lg sq = 16 by
      unfold doE
      rw [if_neg (by rw [HF.out]; decide), if_neg (by rw [HH.out]; decide), if_pos (.inl HLA.out)])
    go_wp2
    go_ret
    exact ⟨by rw [HE.out]; rfl, rdo_err HE.out (by decide) HS0.out HBW.out⟩
  | false =>
  have HGD := Aside0.mk (goR_do (C := C) HI.out HF.out (late_early HLA.out))
  have HO2 := Aside0.mk (Kd.R_below HO.out HB.out)
  have HB2 := HB
  clear HO HB HBW
  have HO := HO2
  have HB := HB2
  clear HO2 HB2
  have HKLN := Aside0.mk (Nat.le_trans (keep_len s.l G) HSL.out)
  have HCL := Aside0.mk (formed_bet HF.out).2.2.2
  go_wp2
  go_loopg [5, 10] C.length (fun kq v5 v10 w' => ∃ (i : Nat) (x : List S32), v10 = .int .i64 (i : Int) ∧ Aside0 (kq + i = C.length) ∧ Aside0 (goR (keepL s.l G) (C.take i) = some x) ∧ Aside0 (Kd.R k32 32 w' w2.heap.size (fun _ => True) v5 x) ∧ Aside0 (Below w3.heap.size w3 w'))
  case atStart => exact ⟨0, keepL s.l G, rfl, ⟨by omega⟩, ⟨by rw [List.take_zero]; rfl⟩, HO, HB⟩
  clear HB HO
  obtain ⟨i, x, rfl, HQ, HX, HO, HB⟩ := hrel
  obtain ⟨A5, c5, rfl, h5, h6⟩ := Kd.R_reads HO.out
  have HC5 := Aside0.mk h5
  have HR5 := Aside0.mk h6
  clear h5 h6
  have he1 := bc1 (bb_ BE HB.out)
  have HXL := Aside0.mk (show x.length ≤ 80 by
    have h1 := goR_len _ _ _ HX.out
    have h2 := HKLN.out
    have h3 := HCL.out
    rw [List.length_take] at h1
    omega)
  by_cases hlt : i < C.length
  · obtain ⟨k1, rfl⟩ : ∃ k1, gk = k1 + 1 := ⟨gk - 1, by have := HQ.out; omega⟩
    have hd0 : decide (i < C.length) = true := decide_eq_true hlt
    have hd1 : decide ((i : Int) < (C.length : Int)) = true := decide_eq_true (by omega)
    have p0 : 0 ≤ (i : Int) := by omega
    have q0 : (i : Int) < (C.length : Int) := by omega
    obtain ⟨y, hy⟩ : ∃ y, y = C[i] := ⟨_, rfl⟩
    have HX2 := Aside0.mk (show goR (keepL s.l G) (C.take (i + 1)) = if x.any (fun z => rmeet y z) = true then none else some (putL x y) by
      rw [List.take_succ_eq_append_getElem hlt, goR_snoc, HX.out, ← hy]; rfl)
    have HY := Aside0.mk hy
    clear hy
    go_wp2
    go_loopg [11] x.length (fun kq v11 w' => ∃ (j : Nat), v11 = .int .i64 (j : Int) ∧ Aside0 (kq + j = x.length) ∧ Aside0 ((x.take j).any (fun z => rmeet y z) = false) ∧ Aside0 (Kd.R k32 32 w' w2.heap.size (fun _ => True) (.slice A5 x.length c5) x) ∧ Aside0 (Below w3.heap.size w3 w'))
    case atStart => exact ⟨0, rfl, ⟨by omega⟩, ⟨by rw [List.take_zero]; rfl⟩, HO, HB⟩
    clear HB HO HR5 he1
    obtain ⟨j, rfl, HQ2, HN, HO, HB⟩ := hrel
    have HR5 := Aside0.mk (show Kd.C k32 wr A5 x.length x from (Kd.R_reads' HO.out).2.2)
    have he1 := bc1 (bb_ BE HB.out)
    by_cases hltj : j < x.length
    · obtain ⟨k2, rfl⟩ : ∃ k2, gk = k2 + 1 := ⟨gk - 1, by have := HQ2.out; omega⟩
      have hd2 : decide (j < x.length) = true := decide_eq_true hltj
      have hd3 : decide ((j : Int) < (x.length : Int)) = true := decide_eq_true (by omega)
      have p2 : 0 ≤ (j : Int) := by omega
      have q2 : (j : Int) < (x.length : Int) := by omega
      obtain ⟨ad, e_, hx0, hx1, hx2, hx3, hx4⟩ := at_T32 HR5.out (j : Int) p2 q2
      cases e_
      obtain ⟨ad3, e_, hs0, hs1, hs2, hs3, hs4⟩ := at_T32 (Kd.C_below HC.out HB.out) (i : Int) p0 q0
      cases e_
      rw [Int.toNat_natCast, rdT x j hltj] at hx0 hx1 hx2 hx3 hx4
      rw [Int.toNat_natCast, rdT C i hlt, ← HY.out] at hs0 hs1 hs2 hs3 hs4
      have HT := Aside0.mk (any_take (fun z : S32 => rmeet y z) x j hltj)
      obtain ⟨z, hz⟩ : ∃ z, z = x[j] := ⟨_, rfl⟩
      have HZ := Aside0.mk hz
      rw [← hz] at hx0 hx1 hx2 hx3 hx4 HT
      clear hz hx0 hx4 hs0 hs4
      cases a1 : (z.f1 == 1) with
      | false =>
        have HN2 := Aside0.mk (show (x.take (j + 1)).any (fun z => rmeet y z) = false by
          rw [HT.out, HN.out, Bool.false_or]
          unfold rmeet; rw [decide_eq_false (beq_eq_false_iff_ne.1 a1)]; rfl)
        go_wp2
        go_quiet (fail)
        go_wp2
        go_roundg k2
        case measure => have := HQ2.out; omega
        case rel => exact ⟨j + 1, by have h2_ := HXL.out; simp; unfold wrap64; omega, ⟨by have := HQ2.out; omega⟩, HN2, ⟨Kd.R_below HO.out (pw_below_drewN (Below.refl _ wr) nq)⟩, bs_ HB (pw_below_drewN (Below.refl _ wr) nq)⟩
      | true =>
        cases a2 : (y.f1 == 1) with
        | false =>
          have HN2 := Aside0.mk (show (x.take (j + 1)).any (fun z => rmeet y z) = false by
            rw [HT.out, HN.out, Bool.false_or]
            unfold rmeet; rw [decide_eq_false (beq_eq_false_iff_ne.1 a2)]; simp)
          go_wp2
          go_quiet (fail)
          go_wp2
          go_roundg k2
          case measure => have := HQ2.out; omega
          case rel => exact ⟨j + 1, by have h2_ := HXL.out; simp; unfold wrap64; omega, ⟨by have := HQ2.out; omega⟩, HN2, ⟨Kd.R_below HO.out (pw_below_drewN (Below.refl _ wr) nq)⟩, bs_ HB (pw_below_drewN (Below.refl _ wr) nq)⟩
        | true =>
          cases a3 : Op.bytesLess y.f3.toList z.f2.toList with
          | true =>
            have HN2 := Aside0.mk (show (x.take (j + 1)).any (fun z => rmeet y z) = false by
              rw [HT.out, HN.out, Bool.false_or]
              unfold rmeet; rw [← toL, ← toL, ← toL, ← toL, a3]; simp)
            go_wp2
            go_quiet (fail)
            go_wp2
            go_roundg k2
            case measure => have := HQ2.out; omega
            case rel => exact ⟨j + 1, by have h2_ := HXL.out; simp; unfold wrap64; omega, ⟨by have := HQ2.out; omega⟩, HN2, ⟨Kd.R_below HO.out (pw_below_drewN (Below.refl _ wr) nq)⟩, bs_ HB (pw_below_drewN (Below.refl _ wr) nq)⟩
          | false =>
            cases a4 : Op.bytesLess z.f3.toList y.f2.toList with
            | true =>
              have HN2 := Aside0.mk (show (x.take (j + 1)).any (fun z => rmeet y z) = false by
                rw [HT.out, HN.out, Bool.false_or]
                unfold rmeet; rw [← toL, ← toL, ← toL, ← toL, a4]; simp)
              go_wp2
              go_quiet (fail)
              go_wp2
              go_roundg k2
              case measure => have := HQ2.out; omega
              case rel => exact ⟨j + 1, by have h2_ := HXL.out; simp; unfold wrap64; omega, ⟨by have := HQ2.out; omega⟩, HN2, ⟨Kd.R_below HO.out (pw_below_drewN (Below.refl _ wr) nq)⟩, bs_ HB (pw_below_drewN (Below.refl _ wr) nq)⟩
            | false =>
              have HM := Aside0.mk (show rmeet y z = true by unfold rmeet; rw [← toL, ← toL, ← toL, ← toL, a3, a4, decide_eq_true (beq_iff_eq.1 a1), decide_eq_true (beq_iff_eq.1 a2)]; rfl)
              have HE := Aside0.mk (show doE s G C lg sq = 16 by
                have h1 : x.any (fun z => rmeet y z) = true := List.any_eq_true.2 ⟨z, by rw [HZ.out]; exact List.getElem_mem hltj, HM.out⟩
                have h2 := HX2.out
                rw [if_pos h1] at h2
                have h3 := goR_none _ (C.drop (i + 1)) _ h2
                rw [List.take_append_drop, HGD.out] at h3
                unfold doE
                rw [if_neg (by rw [HF.out]; decide), if_neg (by rw [HH.out]; decide), if_pos]
                refine .inr ?_
                cases ha : apartB (rowS s.l G C) with
                | false => rfl
                | true => rw [if_pos ha] at h3; cases h3)
              go_wp2
              go_quiet (fail)
              go_wp2
              go_ret
              exact ⟨by rw [HE.out]; rfl, rdo_err HE.out (by decide) HS0.out (below_step HW.out (below_step HBO.out (below_step HB.out (pw_below_drewN (Below.refl _ wr) nq))))⟩
    have hd2 : decide (j < x.length) = false := decide_eq_false hltj
    have hd3 : decide ((j : Int) < (x.length : Int)) = false := decide_eq_false (by omega)
    have HX3 := Aside0.mk (show goR (keepL s.l G) (C.take (i + 1)) = some (putL x y) by
      have h_ := HN.out
      rw [List.take_of_length_le (show x.length ≤ j by omega)] at h_
      rw [HX2.out, h_]; rfl)
    obtain ⟨Kp, hKp⟩ := put_ev x y (by have := HXL.out; omega)
    have HPU := Aside0.mk (hKp Kp (Nat.le_refl _))
    clear hKp
    obtain ⟨ad3, e_, hs0, hs1, hs2, hs3, hs4⟩ := at_T32 (Kd.C_below HC.out HB.out) (i : Int) p0 q0
    cases e_
    rw [Int.toNat_natCast, rdT C i hlt, ← HY.out] at hs0 hs1 hs2 hs3 hs4
    go_wp2_with (go_at_call 36; go_loud (with_reducible refine (ravelinref9_put.calls Kp A5 c5 x y.f0 y.f1 y.f2 y.f3 y.f4 _ wr HR5.out HC5.out HPU.out).mono ?_; rintro e w5 ⟨v5, rfl, ho, hb⟩; have HO2 := Aside0.mk (Kd.R_lower ho (Nat.le_trans (below_size HBO.out) (below_size HB.out))); have HB2 := bs_ HB hb; clear ho hb HO HB HR5 hs0 hs1 hs2 hs3 hs4 he1))
    go_roundg k1
    case measure => have := HQ.out; omega
    case rel => exact ⟨i + 1, putL x y, by have h2_ := HLC.out; simp; unfold wrap64; omega, ⟨by have := HQ.out; omega⟩, HX3, HO2, HB2⟩
  have hd0 : decide (i < C.length) = false := decide_eq_false hlt
  have hd1 : decide ((i : Int) < (C.length : Int)) = false := decide_eq_false (by omega)
  have HG3 := Aside0.mk (show apartB (rowS s.l G C) = true ∧ x = srt (rowS s.l G C) by
    have h_ := HX.out
    rw [List.take_of_length_le (show C.length ≤ i by omega), HGD.out] at h_
    by_cases ha : apartB (rowS s.l G C) = true
    · rw [if_pos ha] at h_; injection h_ with h_; exact ⟨ha, h_.symm⟩
    · rw [if_neg ha] at h_; cases h_)
  have HXN := Aside0.mk (show x.length = (rowS s.l G C).length by rw [HG3.out.2, (srt_perm _).length_eq])
  have HBW := Aside0.mk (below_step HW.out (below_step HBO.out HB.out))
  clear HX HQ
  by_cases hmany : 40 < x.length
  · have hd2 : decide (40 < (x.length : Int)) = true := decide_eq_true (by omega)
    have hd2n : decide (40 < x.length) = true := decide_eq_true (by omega)
    have HE := Aside0.mk (show doE s G C lg sq = 25 by
      unfold doE
      rw [if_neg (by rw [HF.out]; decide), if_neg (by rw [HH.out]; decide), if_neg (by rw [HLA.out, HG3.out.1]; simp), if_pos (by rw [← HXN.out]; exact hmany)])
    clear hmany
    go_wp2
    go_ret
    exact ⟨by rw [HE.out]; rfl, rdo_err HE.out (by decide) HS0.out HBW.out⟩
  have hd2 : decide (40 < (x.length : Int)) = false := decide_eq_false (by omega)
  have hd2n : decide (40 < x.length) = false := decide_eq_false (by omega)
  have HE := Aside0.mk (show doE s G C lg sq = 0 by
    unfold doE
    rw [if_neg (by rw [HF.out]; decide), if_neg (by rw [HH.out]; decide), if_neg (by rw [HLA.out, HG3.out.1]; simp), if_neg (by rw [← HXN.out]; exact hmany)])
  have HS := Aside0.mk (show doS s G C lg sq = doN s G C lg sq by unfold doS; rw [if_pos HE.out])
  clear hmany
  have HNE := Aside0.mk (show gp ≠ g by have := HS0.out.lt; omega)
  have hf0 := bf_ (bb_ B HB.out) 0
  have hc0 := bc0 (bb_ B HB.out)
  go_upto_region 33 with go_step3
  -- the world behind the row's store
  have hb9 := (bb_ B HB.out).out
  have BS0 := Aside0.mk (blk_drew (blk_put hb9 0 (.slice A5 x.length c5) rfl))
  have BE0 := Aside0.mk (blk_drew (blk_far (bb_ BE HB.out).out HNE.out (.slice A5 x.length c5) (p := ⟨g, 0, none⟩)))
  have RY0 := Aside0.mk (show Kd.R k32 32 (wr.setCell ⟨g, 0, none⟩ (.slice A5 x.length c5)).drew 0 (fun k => k ≠ g) (.slice A5 x.length c5) x from
    Kd.R_drew (Kd.R_far (p := ⟨g, 0, none⟩) (Kd.R_lower (Kd.R_mono (ok' := fun k => k ≠ g) (Kd.R_types HO.out hb9 (by simp [k32, Kd.iso, Kd.pair, Kd.int, Kd.string, Kd.scalar])) (fun k hk => hk.2)) (Nat.zero_le _)) (fun _ hk => hk) _))
  have FR0 := Aside0.mk (show Fr w (wr.setCell ⟨g, 0, none⟩ (.slice A5 x.length c5)).drew (fun k => k = g) from Fr.drew (Fr.set (F := fun k => k = g) (Fr.below HBW.out) rfl _))
  have HCL0 := Aside0.mk (show ∀ (ad : Addr) (x_ : Value) (z : ByteArray), wr.cell? ad = some x_ → wr.cell? ⟨ad.block, ad.off + 2, none⟩ = some (.string z) → (wr.setCell ⟨g, 0, none⟩ (.slice A5 x.length c5)).drew.cell? ad = some x_ from fun ad x_ z h1 h2 => by
    have hn := not_box hb9 h2
    show (World.setCell _ _ _).cell? ad = some x_
    rw [cell_far hn]
    exact h1)
  have HC9 := Aside0.mk (Kd.C_below HC.out HB.out)
  have HNB := Aside0.mk (show ∀ (ad : Addr) (z : ByteArray), wr.cell? ⟨ad.block, ad.off + 2, none⟩ = some (.string z) → ad.block ≠ g from fun ad z h => not_box hb9 h)
  clear hb9 HO HB HR5 HC5 B BE hf0 hc0 he1 hd2 hd2n
  obtain ⟨m1, hm1d⟩ : ∃ m1, m1 = maxI s.lg lg := ⟨_, rfl⟩
  obtain ⟨m2, hm2d⟩ : ∃ m2, m2 = maxI s.sq sq := ⟨_, rfl⟩
  have hm1 : Builtin.max2 (.int .i64 s.lg) (.int .i64 lg) = pure (.int .i64 m1) := by rw [max2_int, hm1d]; rfl
  have hm2 : Builtin.max2 (.int .i64 s.sq) (.int .i64 sq) = pure (.int .i64 m2) := by rw [max2_int, hm2d]; rfl
  have HM1 := Aside0.mk hm1d
  have HM2 := Aside0.mk hm2d
  clear hm1d hm2d
  have hne1 : gp ≠ g := HNE.out
  have hne2 : g ≠ gp := fun h => HNE.out h.symm
  refine start_ (n := 22) (S := fun w' => True) (ds := []) #[false, false, false, false, false, false, false, false, false, false, false, false, false, false, false, false, false, false, false, false, false, false] (by kernel_rfl) rfl rfl trivial (fun hHeld => ?_)
  refine with_tabW RDo_.tab33 RDo_.bits33 (fun HT_ HW_ => ?_)
  generalize (wr.setCell ⟨g, 0, none⟩ (.slice A5 x.length c5)).drew = w9 at BS0 BE0 RY0 FR0 HCL0 ⊢
  have F2 := bc2 BE0
  have F3 := bc3 BE0
  have WA := True.intro
  have hc1 := bc1 BS0
  have hc2 := bc2 BS0
  have hf1 := bf_ BS0 1
  have hf2 := bf_ BS0 2
  refine pure_ (i := 0) (N := some 195) (v := ?_) (a' := ?_) #[true, false, false, false, false, false, false, false, false, false, false, false, false, false, false, false, false, false, false, false, false, false] rfl rfl (by kernel_rfl) (fun _ _ _ h => h) (Or.inl ⟨by rfl, ?_⟩) ?_ ?_
  rotate_left
  · intro w'
    go_simp
    with_reducible rfl
  rotate_left
  · simp only [Act.put, List.setIfInBounds_toArray, List.set_cons_zero, List.set_cons_succ, i64_w, i32_w]
    rfl
  refine pure_ (i := 1) (N := some 196) (v := ?_) (a' := ?_) #[true, true, false, false, false, false, false, false, false, false, false, false, false, false, false, false, false, false, false, false, false, false] rfl rfl (by kernel_rfl) (fun _ _ _ h => h) (Or.inl ⟨by rfl, ?_⟩) ?_ ?_
  rotate_left
  · intro w'
    go_simp
    with_reducible rfl
  rotate_left
  · simp only [Act.put, List.setIfInBounds_toArray, List.set_cons_zero, List.set_cons_succ, i64_w, i32_w]
    rfl
  refine pure_ (i := 2) (N := some 197) (v := ?_) (a' := ?_) #[true, true, true, false, false, false, false, false, false, false, false, false, false, false, false, false, false, false, false, false, false, false] rfl rfl (by kernel_rfl) (fun _ _ _ h => h) (Or.inl ⟨by rfl, ?_⟩) ?_ ?_
  rotate_left
  · intro w'
    go_simp
    with_reducible rfl
  rotate_left
  · simp only [Act.put, List.setIfInBounds_toArray, List.set_cons_zero, List.set_cons_succ, i64_w, i32_w]
    rfl
  refine pure_ (i := 3) (N := some 198) (v := ?_) (a' := ?_) #[true, true, true, true, false, false, false, false, false, false, false, false, false, false, false, false, false, false, false, false, false, false] rfl rfl (by kernel_rfl) (fun _ _ _ h => h) (Or.inl ⟨by rfl, ?_⟩) ?_ ?_
  rotate_left
  · intro w'
    go_simp
    with_reducible rfl
  rotate_left
  · simp only [Act.put, List.setIfInBounds_toArray, List.set_cons_zero, List.set_cons_succ, i64_w, i32_w]
    rfl
  refine pure_ (i := 4) (N := some 199) (v := ?_) (a' := ?_) #[true, true, true, true, true, false, false, false, false, false, false, false, false, false, false, false, false, false, false, false, false, false] rfl rfl (by kernel_rfl) (fun _ _ _ h => h) (Or.inl ⟨by rfl, ?_⟩) ?_ ?_
  rotate_left
  · intro w'
    go_simp
    with_reducible rfl
  rotate_left
  · simp only [Act.put, List.setIfInBounds_toArray, List.set_cons_zero, List.set_cons_succ, i64_w, i32_w]
    rfl
  refine pure_ (i := 6) (N := some 201) (v := ?_) (a' := ?_) #[true, true, true, true, true, false, true, false, false, false, false, false, false, false, false, false, false, false, false, false, false, false] rfl rfl (by kernel_rfl) (fun _ _ _ h => h) (Or.inl ⟨by rfl, ?_⟩) ?_ ?_
  rotate_left
  · intro w'
    go_simp
    with_reducible rfl
  rotate_left
  · simp only [Act.put, List.setIfInBounds_toArray, List.set_cons_zero, List.set_cons_succ, i64_w, i32_w]
    rfl
  refine pure_ (i := 9) (N := some 204) (v := ?_) (a' := ?_) #[true, true, true, true, true, false, true, false, false, true, false, false, false, false, false, false, false, false, false, false, false, false] rfl rfl (by kernel_rfl) (fun _ _ _ h => h) (Or.inl ⟨by rfl, ?_⟩) ?_ ?_
  rotate_left
  · intro w'
    go_simp
    with_reducible rfl
  rotate_left
  · simp only [Act.put, List.setIfInBounds_toArray, List.set_cons_zero, List.set_cons_succ, i64_w, i32_w]
    rfl
  refine pure_ (i := 10) (N := some 205) (v := ?_) (a' := ?_) #[true, true, true, true, true, false, true, false, false, true, true, false, false, false, false, false, false, false, false, false, false, false] rfl rfl (by kernel_rfl) (fun _ _ _ h => h) (Or.inl ⟨by rfl, ?_⟩) ?_ ?_
  rotate_left
  · intro w'
    go_simp
    with_reducible rfl
  rotate_left
  · simp only [Act.put, List.setIfInBounds_toArray, List.set_cons_zero, List.set_cons_succ, i64_w, i32_w]
    rfl
  refine pure_ (i := 11) (N := some 206) (v := ?_) (a' := ?_) #[true, true, true, true, true, false, true, false, false, true, true, true, false, false, false, false, false, false, false, false, false, false] rfl rfl (by kernel_rfl) (fun _ _ _ h => h) (Or.inl ⟨by rfl, ?_⟩) ?_ ?_
  rotate_left
  · intro w'
    go_simp
    with_reducible rfl
  rotate_left
  · simp only [Act.put, List.setIfInBounds_toArray, List.set_cons_zero, List.set_cons_succ, i64_w, i32_w]
    rfl
  refine pure_ (i := 13) (N := some 208) (v := ?_) (a' := ?_) #[true, true, true, true, true, false, true, false, false, true, true, true, false, true, false, false, false, false, false, false, false, false] rfl rfl (by kernel_rfl) (fun _ _ _ h => h) (Or.inl ⟨by rfl, ?_⟩) ?_ ?_
  rotate_left
  · intro w'
    go_simp
    with_reducible rfl
  rotate_left
  · simp only [Act.put, List.setIfInBounds_toArray, List.set_cons_zero, List.set_cons_succ, i64_w, i32_w]
    rfl
  refine inv_at [5, 7, 8, 12, 14, 15, 16, 17, 18, 19, 20, 21] (fun a0_ b a w' => a = putSel a0_ b [(5, 200, Value.int .i64 s.lg), (7, 202, Value.int .i64 lg), (8, 203, Value.int .i64 m1), (12, 207, Value.int .i64 s.sq), (14, 209, Value.int .i64 sq), (15, 210, Value.int .i64 m2), (16, 211, Value.pointer (some ⟨g, 0, none⟩)), (17, 212, Value.pointer (some ⟨g, 1, none⟩)), (19, 213, Value.pointer (some ⟨g, 0, none⟩)), (20, 214, Value.pointer (some ⟨g, 2, none⟩))] ∧ (w'.cell? ⟨gp, 2, none⟩ = some (.int .i64 lg)) ∧ (w'.cell? ⟨gp, 3, none⟩ = some (.int .i64 sq)) ∧ (b 18 = false → w' = w9) ∧ (b 18 = true → b 21 = false → w' = w9.setCell ⟨g, 1, none⟩ (.int .i64 m1)) ∧ (b 21 = true → w' = (w9.setCell ⟨g, 1, none⟩ (.int .i64 m1)).setCell ⟨g, 2, none⟩ (.int .i64 m2))) HT_.out HW_.out (by kernel_rfl) (by kernel_rfl) ?_ ?_ ?_
  · exact ⟨by simp only [putSel, Bool.false_eq_true, if_false], F2, F3, fun _ => rfl, fun h_ => absurd h_ (by decide), fun h_ => absurd h_ (by decide)⟩
  · skip
    clear F2 F3 WA
    refine steps_cons ?_ ?_
    · rintro b a w' ⟨ha, Q_F2, Q_F3, Q_WA, Q_WB, Q_WC⟩ hb_ hon hoff
      refine ⟨_, rfl, fun K hK => ?_⟩
      have e199 : a.tmps[199]? = some (Value.pointer (some ⟨g, 1, none⟩)) := by rw [ha]; exact (putSel_off rfl).trans rfl
      replace ha := Aside0.mk ha
      have F2 := Aside0.mk Q_F2
      have F3 := Aside0.mk Q_F3
      have WA := Aside0.mk (Q_WA (hoff 18 (by kernel_rfl)))
      have hs_ : w'.cell? ⟨g, 1, none⟩ = some (.int .i64 s.lg) := by rw [WA.out]; exact hc1
      refine value_ (w1 := w') (v := Value.int .i64 s.lg) (by rfl) rfl ?_ ?_
      · go_simp
        (try simp only [i64_w])
        try rfl
      refine hK.out _ _ ⟨(by rw [ha.out]; exact putSel_upk 0 hb_ rfl rfl rfl), Q_F2, Q_F3, Q_WA, fun h0_ _ => absurd ((hoff 18 (by kernel_rfl)).symm.trans h0_) (by decide), fun h0_ => absurd ((hoff 21 (by kernel_rfl)).symm.trans h0_) (by decide)⟩
    refine steps_cons ?_ ?_
    · rintro b a w' ⟨ha, Q_F2, Q_F3, Q_WA, Q_WB, Q_WC⟩ hb_ hon hoff
      refine ⟨_, rfl, fun K hK => ?_⟩
      have e201 : a.tmps[201]? = some (Value.pointer (some ⟨gp, 2, none⟩)) := by rw [ha]; exact (putSel_off rfl).trans rfl
      replace ha := Aside0.mk ha
      have F2 := Aside0.mk Q_F2
      have F3 := Aside0.mk Q_F3
      have WA := Aside0.mk (Q_WA (hoff 18 (by kernel_rfl)))
      have hs_ := F2.out
      refine value_ (w1 := w') (v := Value.int .i64 lg) (by rfl) rfl ?_ ?_
      · go_simp
        (try simp only [i64_w])
        try rfl
      refine hK.out _ _ ⟨(by rw [ha.out]; exact putSel_upk 1 hb_ rfl rfl rfl), Q_F2, Q_F3, Q_WA, fun h0_ _ => absurd ((hoff 18 (by kernel_rfl)).symm.trans h0_) (by decide), fun h0_ => absurd ((hoff 21 (by kernel_rfl)).symm.trans h0_) (by decide)⟩
    refine steps_cons ?_ ?_
    · rintro b a w' ⟨ha, Q_F2, Q_F3, Q_WA, Q_WB, Q_WC⟩ hb_ hon hoff
      refine ⟨_, rfl, fun K hK => ?_⟩
      have e200 : a.tmps[200]? = some (Value.int .i64 s.lg) := by rw [ha]; exact putSel_on (e := (5, 200, Value.int .i64 s.lg)) 0 rfl rfl (hon 5 (by kernel_rfl)) rfl
      have e202 : a.tmps[202]? = some (Value.int .i64 lg) := by rw [ha]; exact putSel_on (e := (7, 202, Value.int .i64 lg)) 1 rfl rfl (hon 7 (by kernel_rfl)) rfl
      replace ha := Aside0.mk ha
      have F2 := Aside0.mk Q_F2
      have F3 := Aside0.mk Q_F3
      have WA := Aside0.mk (Q_WA (hoff 18 (by kernel_rfl)))
      refine value_ (w1 := w') (v := Value.int .i64 m1) (by rfl) rfl ?_ ?_
      · go_simp
        (try simp only [i64_w])
        try rfl
      refine hK.out _ _ ⟨(by rw [ha.out]; exact putSel_upk 2 hb_ rfl rfl rfl), Q_F2, Q_F3, Q_WA, fun h0_ _ => absurd ((hoff 18 (by kernel_rfl)).symm.trans h0_) (by decide), fun h0_ => absurd ((hoff 21 (by kernel_rfl)).symm.trans h0_) (by decide)⟩
    refine steps_cons ?_ ?_
    · rintro b a w' ⟨ha, Q_F2, Q_F3, Q_WA, Q_WB, Q_WC⟩ hb_ hon hoff
      refine ⟨_, rfl, fun K hK => ?_⟩
      have e206 : a.tmps[206]? = some (Value.pointer (some ⟨g, 2, none⟩)) := by rw [ha]; exact (putSel_off rfl).trans rfl
      replace ha := Aside0.mk ha
      have F2 := Aside0.mk Q_F2
      have F3 := Aside0.mk Q_F3
      have WA := Aside0.mk (Q_WA (hoff 18 (by kernel_rfl)))
      have hs_ : w'.cell? ⟨g, 2, none⟩ = some (.int .i64 s.sq) := by rw [WA.out]; exact hc2
      refine value_ (w1 := w') (v := Value.int .i64 s.sq) (by rfl) rfl ?_ ?_
      · go_simp
        (try simp only [i64_w])
        try rfl
      refine hK.out _ _ ⟨(by rw [ha.out]; exact putSel_upk 3 hb_ rfl rfl rfl), Q_F2, Q_F3, Q_WA, fun h0_ _ => absurd ((hoff 18 (by kernel_rfl)).symm.trans h0_) (by decide), fun h0_ => absurd ((hoff 21 (by kernel_rfl)).symm.trans h0_) (by decide)⟩
    refine steps_cons ?_ ?_
    · rintro b a w' ⟨ha, Q_F2, Q_F3, Q_WA, Q_WB, Q_WC⟩ hb_ hon hoff
      refine ⟨_, rfl, fun K hK => ?_⟩
      have e208 : a.tmps[208]? = some (Value.pointer (some ⟨gp, 3, none⟩)) := by rw [ha]; exact (putSel_off rfl).trans rfl
      replace ha := Aside0.mk ha
      have F2 := Aside0.mk Q_F2
      have F3 := Aside0.mk Q_F3
      have hs_ := F3.out
      refine value_ (w1 := w') (v := Value.int .i64 sq) (by rfl) rfl ?_ ?_
      · go_simp
        (try simp only [i64_w])
        try rfl
      refine hK.out _ _ ⟨(by rw [ha.out]; exact putSel_upk 4 hb_ rfl rfl rfl), Q_F2, Q_F3, Q_WA, Q_WB, fun h0_ => absurd ((hoff 21 (by kernel_rfl)).symm.trans h0_) (by decide)⟩
    refine steps_cons ?_ ?_
    · rintro b a w' ⟨ha, Q_F2, Q_F3, Q_WA, Q_WB, Q_WC⟩ hb_ hon hoff
      refine ⟨_, rfl, fun K hK => ?_⟩
      have e207 : a.tmps[207]? = some (Value.int .i64 s.sq) := by rw [ha]; exact putSel_on (e := (12, 207, Value.int .i64 s.sq)) 3 rfl rfl (hon 12 (by kernel_rfl)) rfl
      have e209 : a.tmps[209]? = some (Value.int .i64 sq) := by rw [ha]; exact putSel_on (e := (14, 209, Value.int .i64 sq)) 4 rfl rfl (hon 14 (by kernel_rfl)) rfl
      replace ha := Aside0.mk ha
      have F2 := Aside0.mk Q_F2
      have F3 := Aside0.mk Q_F3
      refine value_ (w1 := w') (v := Value.int .i64 m2) (by rfl) rfl ?_ ?_
      · go_simp
        (try simp only [i64_w])
        try rfl
      refine hK.out _ _ ⟨(by rw [ha.out]; exact putSel_upk 5 hb_ rfl rfl rfl), Q_F2, Q_F3, Q_WA, Q_WB, fun h0_ => absurd ((hoff 21 (by kernel_rfl)).symm.trans h0_) (by decide)⟩
    refine steps_cons ?_ ?_
    · rintro b a w' ⟨ha, Q_F2, Q_F3, Q_WA, Q_WB, Q_WC⟩ hb_ hon hoff
      refine ⟨_, rfl, fun K hK => ?_⟩
      have e195 : a.tmps[195]? = some (Value.pointer (some ⟨g, 0, none⟩)) := by rw [ha]; exact (putSel_off rfl).trans rfl
      replace ha := Aside0.mk ha
      have F2 := Aside0.mk Q_F2
      have F3 := Aside0.mk Q_F3
      have WA := Aside0.mk (Q_WA (hoff 18 (by kernel_rfl)))
      refine value_ (w1 := w') (v := Value.pointer (some ⟨g, 0, none⟩)) (by rfl) rfl ?_ ?_
      · go_simp
        (try simp only [i64_w])
        try rfl
      refine hK.out _ _ ⟨(by rw [ha.out]; exact putSel_upk 6 hb_ rfl rfl rfl), Q_F2, Q_F3, Q_WA, fun h0_ _ => absurd ((hoff 18 (by kernel_rfl)).symm.trans h0_) (by decide), fun h0_ => absurd ((hoff 21 (by kernel_rfl)).symm.trans h0_) (by decide)⟩
    refine steps_cons ?_ ?_
    · rintro b a w' ⟨ha, Q_F2, Q_F3, Q_WA, Q_WB, Q_WC⟩ hb_ hon hoff
      refine ⟨_, rfl, fun K hK => ?_⟩
      have e211 : a.tmps[211]? = some (Value.pointer (some ⟨g, 0, none⟩)) := by rw [ha]; exact putSel_on (e := (16, 211, Value.pointer (some ⟨g, 0, none⟩))) 6 rfl rfl (hon 16 (by kernel_rfl)) rfl
      replace ha := Aside0.mk ha
      have F2 := Aside0.mk Q_F2
      have F3 := Aside0.mk Q_F3
      have WA := Aside0.mk (Q_WA (hoff 18 (by kernel_rfl)))
      refine value_ (w1 := w') (v := Value.pointer (some ⟨g, 1, none⟩)) (by rfl) rfl ?_ ?_
      · go_simp
        (try simp only [i64_w])
        try rfl
      refine hK.out _ _ ⟨(by rw [ha.out]; exact putSel_upk 7 hb_ rfl rfl rfl), Q_F2, Q_F3, Q_WA, fun h0_ _ => absurd ((hoff 18 (by kernel_rfl)).symm.trans h0_) (by decide), fun h0_ => absurd ((hoff 21 (by kernel_rfl)).symm.trans h0_) (by decide)⟩
    refine steps_cons ?_ ?_
    · rintro b a w' ⟨ha, Q_F2, Q_F3, Q_WA, Q_WB, Q_WC⟩ hb_ hon hoff
      refine ⟨_, rfl, fun K hK => ?_⟩
      have e212 : a.tmps[212]? = some (Value.pointer (some ⟨g, 1, none⟩)) := by rw [ha]; exact putSel_on (e := (17, 212, Value.pointer (some ⟨g, 1, none⟩))) 7 rfl rfl (hon 17 (by kernel_rfl)) rfl
      have e203 : a.tmps[203]? = some (Value.int .i64 m1) := by rw [ha]; exact putSel_on (e := (8, 203, Value.int .i64 m1)) 2 rfl rfl (hon 8 (by kernel_rfl)) rfl
      replace ha := Aside0.mk ha
      have F2 := Aside0.mk Q_F2
      have F3 := Aside0.mk Q_F3
      have WA := Aside0.mk (Q_WA hb_)
      have hw_ := WA.out.symm
      subst hw_
      refine skip_ (w1 := w9.setCell ⟨g, 1, none⟩ (.int .i64 m1)) (by rfl) rfl ?_ ?_
      · go_simp
        try rfl
      refine hK.out _ _ ⟨(by rw [ha.out]; exact putSel_none (v := undef) rfl), (far_c HNE.out).trans F2.out, (far_c HNE.out).trans F3.out, fun h0_ => absurd ((up_self b 18).symm.trans h0_) (by decide), fun _ _ => rfl, fun h0_ => absurd ((hoff 21 (by kernel_rfl)).symm.trans h0_) (by decide)⟩
    refine steps_cons ?_ ?_
    · rintro b a w' ⟨ha, Q_F2, Q_F3, Q_WA, Q_WB, Q_WC⟩ hb_ hon hoff
      refine ⟨_, rfl, fun K hK => ?_⟩
      have e196 : a.tmps[196]? = some (Value.pointer (some ⟨g, 0, none⟩)) := by rw [ha]; exact (putSel_off rfl).trans rfl
      replace ha := Aside0.mk ha
      have F2 := Aside0.mk Q_F2
      have F3 := Aside0.mk Q_F3
      have WB := Aside0.mk (Q_WB (hon 18 (by kernel_rfl)) (hoff 21 (by kernel_rfl)))
      refine value_ (w1 := w') (v := Value.pointer (some ⟨g, 0, none⟩)) (by rfl) rfl ?_ ?_
      · go_simp
        (try simp only [i64_w])
        try rfl
      refine hK.out _ _ ⟨(by rw [ha.out]; exact putSel_upk 8 hb_ rfl rfl rfl), Q_F2, Q_F3, fun h0_ => absurd ((hon 18 (by kernel_rfl)).symm.trans h0_) (by decide), Q_WB, fun h0_ => absurd ((hoff 21 (by kernel_rfl)).symm.trans h0_) (by decide)⟩
    refine steps_cons ?_ ?_
    · rintro b a w' ⟨ha, Q_F2, Q_F3, Q_WA, Q_WB, Q_WC⟩ hb_ hon hoff
      refine ⟨_, rfl, fun K hK => ?_⟩
      have e213 : a.tmps[213]? = some (Value.pointer (some ⟨g, 0, none⟩)) := by rw [ha]; exact putSel_on (e := (19, 213, Value.pointer (some ⟨g, 0, none⟩))) 8 rfl rfl (hon 19 (by kernel_rfl)) rfl
      replace ha := Aside0.mk ha
      have F2 := Aside0.mk Q_F2
      have F3 := Aside0.mk Q_F3
      have WB := Aside0.mk (Q_WB (hon 18 (by kernel_rfl)) (hoff 21 (by kernel_rfl)))
      refine value_ (w1 := w') (v := Value.pointer (some ⟨g, 2, none⟩)) (by rfl) rfl ?_ ?_
      · go_simp
        (try simp only [i64_w])
        try rfl
      refine hK.out _ _ ⟨(by rw [ha.out]; exact putSel_upk 9 hb_ rfl rfl rfl), Q_F2, Q_F3, fun h0_ => absurd ((hon 18 (by kernel_rfl)).symm.trans h0_) (by decide), Q_WB, fun h0_ => absurd ((hoff 21 (by kernel_rfl)).symm.trans h0_) (by decide)⟩
    refine steps_cons ?_ ?_
    · rintro b a w' ⟨ha, Q_F2, Q_F3, Q_WA, Q_WB, Q_WC⟩ hb_ hon hoff
      refine ⟨_, rfl, fun K hK => ?_⟩
      have e214 : a.tmps[214]? = some (Value.pointer (some ⟨g, 2, none⟩)) := by rw [ha]; exact putSel_on (e := (20, 214, Value.pointer (some ⟨g, 2, none⟩))) 9 rfl rfl (hon 20 (by kernel_rfl)) rfl
      have e210 : a.tmps[210]? = some (Value.int .i64 m2) := by rw [ha]; exact putSel_on (e := (15, 210, Value.int .i64 m2)) 5 rfl rfl (hon 15 (by kernel_rfl)) rfl
      replace ha := Aside0.mk ha
      have F2 := Aside0.mk Q_F2
      have F3 := Aside0.mk Q_F3
      have WB := Aside0.mk (Q_WB (hon 18 (by kernel_rfl)) hb_)
      have hw_ := WB.out
      subst hw_
      refine skip_ (w1 := (w9.setCell ⟨g, 1, none⟩ (.int .i64 m1)).setCell ⟨g, 2, none⟩ (.int .i64 m2)) (by rfl) rfl ?_ ?_
      · go_simp
        try rfl
      refine hK.out _ _ ⟨(by rw [ha.out]; exact putSel_none (v := undef) rfl), (far_c HNE.out).trans F2.out, (far_c HNE.out).trans F3.out, fun h0_ => absurd ((hon 18 (by kernel_rfl)).symm.trans h0_) (by decide), fun _ h1_ => absurd ((up_self b 21).symm.trans h1_) (by decide), fun _ => rfl⟩
    exact steps_nil
  rintro b a w' hall ⟨ha, Q_F2, Q_F3, Q_WA, Q_WB, Q_WC⟩
  clear F2 F3 WA
  have hb5_ := hall 5 (by kernel_rfl)
  have hb7_ := hall 7 (by kernel_rfl)
  have hb8_ := hall 8 (by kernel_rfl)
  have hb12_ := hall 12 (by kernel_rfl)
  have hb14_ := hall 14 (by kernel_rfl)
  have hb15_ := hall 15 (by kernel_rfl)
  have hb16_ := hall 16 (by kernel_rfl)
  have hb17_ := hall 17 (by kernel_rfl)
  have hb18_ := hall 18 (by kernel_rfl)
  have hb19_ := hall 19 (by kernel_rfl)
  have hb20_ := hall 20 (by kernel_rfl)
  have hb21_ := hall 21 (by kernel_rfl)
  subst ha
  simp only [putSel, hb5_, hb7_, hb8_, hb12_, hb14_, hb15_, hb16_, hb17_, hb18_, hb19_, hb20_, hb21_, if_true, Act.put, List.setIfInBounds_toArray, List.set_cons_zero, List.set_cons_succ]
  have F2 := Aside0.mk Q_F2
  clear Q_F2
  have F3 := Aside0.mk Q_F3
  clear Q_F3
  clear Q_WA
  clear Q_WB
  have WC := Aside0.mk (Q_WC hb21_)
  clear Q_WC
  clear hall hb5_ hb7_ hb8_ hb12_ hb14_ hb15_ hb16_ hb17_ hb18_ hb19_ hb20_ hb21_
  have hwd := WC.out
  clear WC F2 F3 hHeld HT_ HW_ hm1 hm2
  have BS := Aside0.mk (show w'.heap[g]? = some (.cells #[.slice A5 x.length c5, .int .i64 m1, .int .i64 m2, .int .i64 s.nx] 45 (0, 0)) by
    rw [hwd]
    refine blk_put (cs := #[.slice A5 x.length c5, .int .i64 m1, .int .i64 s.sq, .int .i64 s.nx]) ?_ 2 _ rfl
    exact blk_put BS0.out 1 _ rfl)
  have RY := Aside0.mk (show Kd.R k32 32 w' 0 (fun k => k ≠ g) (.slice A5 x.length c5) x by
    rw [hwd]
    exact Kd.R_far (p := ⟨g, 2, none⟩) (Kd.R_far (p := ⟨g, 1, none⟩) RY0.out (fun _ hk => hk) _) (fun _ hk => hk) _)
  have FR := Aside0.mk (show Fr w w' (fun k => k = g) by
    rw [hwd]
    exact Fr.set (F := fun k => k = g) (Fr.set (F := fun k => k = g) FR0.out rfl _) rfl _)
  have BE2 := Aside0.mk (show w'.heap[gp]? = some (.cells #[.slice AG G.length cG, .slice AC C.length cC, .int .i64 lg, .int .i64 sq] 36 (0, 0)) by
    rw [hwd]
    exact blk_far (blk_far BE0.out HNE.out _) HNE.out _)
  have HCL2 := Aside0.mk (show ∀ (ad : Addr) (x_ : Value) (z : ByteArray), wr.cell? ad = some x_ → wr.cell? ⟨ad.block, ad.off + 2, none⟩ = some (.string z) → ad.block ≠ g → w'.cell? ad = some x_ from fun ad x_ z h1 h2 hn => by
    rw [hwd, cell_far hn, cell_far hn]
    exact HCL0.out ad x_ z h1 h2)
  have HFA := Aside0.mk (show ∀ (ad : Addr) (z : ByteArray), wr.cell? ⟨ad.block, ad.off + 2, none⟩ = some (.string z) → ad.block ≠ g from fun ad z h => HNB.out ad z h)
  clear hwd RY0 FR0 BS0 BE0 HCL0
  have he1 := bc1 BE2
  by_cases hC0 : C.length = 0
  · have hd0 : decide (0 < (C.length : Int)) = false := decide_eq_false (by omega)
    have hd0n : decide (0 < C.length) = false := decide_eq_false (by omega)
    have HNX := Aside0.mk (show nxS s.nx C = s.nx by rw [List.eq_nil_of_length_eq_zero hC0]; rfl)
    clear hC0
    go_wp2
    go_ret
    refine ⟨by rw [HE.out]; rfl, ?_, FR.out⟩
    rw [HS.out]
    refine ⟨.slice A5 x.length c5, ?_, ?_⟩
    · show w'.heap[g]? = some (.cells #[.slice A5 x.length c5, .int .i64 (maxI s.lg lg), .int .i64 (maxI s.sq sq), .int .i64 (nxS s.nx C)] 45 (0, 0))
      rw [HNX.out, ← HM1.out, ← HM2.out]
      exact BS.out
    · show Kd.R k32 32 w' 0 (fun k => k ≠ g) (.slice A5 x.length c5) (srt (rowS s.l G C))
      rw [← HG3.out.2]
      exact RY.out
  have hd0 : decide (0 < (C.length : Int)) = true := decide_eq_true (by omega)
  have hd0n : decide (0 < C.length) = true := decide_eq_true (by omega)
  obtain ⟨q, hq⟩ : ∃ q, C.length = q + 1 := ⟨C.length - 1, by omega⟩
  have hlt : q < C.length := by omega
  have p0 : 0 ≤ (q : Int) := by omega
  have q0 : (q : Int) < (C.length : Int) := by omega
  obtain ⟨ad, e_, hx0, _, hx2, _, _⟩ := at_T32 HC9.out (q : Int) p0 q0
  cases e_
  rw [Int.toNat_natCast, rdT C q hlt] at hx0 hx2
  have hy0 := HCL2.out _ _ _ hx0 hx2 (HFA.out _ _ hx2)
  have HNX := Aside0.mk (show nxS s.nx C = C[q].f0 + 1 by
    unfold nxS
    rw [List.getLast?_eq_getElem?, show C.length - 1 = q by omega, List.getElem?_eq_getElem hlt])
  have hbd : 1 ≤ C[q].f0 ∧ C[q].f0 ≤ 1000000 := by
    have hfr := HF.out
    unfold formedB at hfr
    rw [Bool.and_eq_true] at hfr
    exact (isT_iff.1 ((ris_iff hfr.1).1 C[q] (List.getElem_mem hlt)).1).1
  have hw1 : wrap64 ((C.length : Int) - 1) = (q : Int) := by have := HLC.out; unfold wrap64; omega
  have hw2 : wrap64 (C[q].f0 + 1) = C[q].f0 + 1 := by unfold wrap64; omega
  clear hx0 hx2 hbd hC0 hq
  generalize C[q].f0 = cf at hy0 HNX hw2
  have hc3 := bc3 BS
  have hf3 := bf_ BS 3
  go_wp2
  go_ret
  refine ⟨by rw [HE.out]; rfl, ?_, Fr.set (F := fun k => k = g) FR.out rfl _⟩
  rw [HS.out]
  refine ⟨.slice A5 x.length c5, ?_, ?_⟩
  · show (World.setCell _ _ _).heap[g]? = some (.cells #[.slice A5 x.length c5, .int .i64 (maxI s.lg lg), .int .i64 (maxI s.sq sq), .int .i64 (nxS s.nx C)] 45 (0, 0))
    rw [HNX.out, ← HM1.out, ← HM2.out]
    exact blk_put BS.out 3 _ rfl
  · show Kd.R k32 32 _ 0 (fun k => k ≠ g) (.slice A5 x.length c5) (srt (rowS s.l G C))
    rw [← HG3.out.2]
    exact Kd.R_far (p := ⟨g, 3, none⟩) RY.out (fun _ hk => hk) _
end Go.Proofs.Ytmbedgopceigaaa.Q
