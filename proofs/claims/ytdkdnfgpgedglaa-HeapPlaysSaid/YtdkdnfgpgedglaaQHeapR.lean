import Derived.Test.YtdkdnfgpgedglaaQHeapM
namespace Go.Proofs.Ytdkdnfgpgedglaa.P
open Go.RowKit Go.Lib Go.Proofs.YtdkdnfgpgedglaaW.PrintWords Go.Proofs.YtdkdnfgpgedglaaW.PrintLast Go.Proofs.YtdkdnfgpgedglaaW.PrintMore
set_option linter.unusedVariables false
set_option linter.unusedSimpArgs false
attribute [local go_sem high] string_leq string_geq string_gtr
def rngL (tx : List UInt8) : List S29 → List S29
  | [] => []
  | e :: t => if tx ≠ [] ∧ Op.bytesLess e.f0.toList tx = false then [] else e :: rngL tx t
theorem size_ne {w3 W : World} {gb : Nat} (h : gb < w3.heap.size) (hb : Below gb w3 W) : ∀ k, W.heap.size ≤ k → k ≠ gb := by
  rintro k hk rfl
  have := hb.size
  omega
set_option maxHeartbeats 4000000 in
set_option maxRecDepth 100000 in
theorem HRange (k : Nat) (w : World) (g : Nat) (l : List S29) (n : Int) (a tx : ByteArray) (i : Nat) (h : HpR w g l n) (hF : entry_First.f k l a 1000000 = some (i : Int)) (hi : i ≤ l.length) (hl : l.length ≤ 1000000) :
    Calls Try.prog 18 #[.pointer (some ⟨g, 0, none⟩), .string a, .string tx] w fun e w' => ∃ v : Value, e = .returned v ∧ Kd.R k29 29 w' w.heap.size (fun _ => True) v (rngL tx.toList (l.drop i)) ∧ Below w.heap.size w w' := by
  obtain ⟨A, c, h1, h2, h3⟩ := h
  have hu22 := Try.underlying22
  obtain ⟨i0, hi0, hz0_, hzs, hzb⟩ := info_parts info29
  have hcut := cut_from (P := Try.prog) 22 29 .i64 Try.underlying22 hi0 4 hzs A l.length c (i : Int) (by omega) (by omega)
  have hCd := Kd.C_drop (m := i) h3 hi h2
  rw [Int.toNat_natCast] at hcut
  obtain ⟨A1, hA1⟩ : ∃ A1, A1 = (if c = i then A else A.map (·.add (i * 4))) := ⟨_, rfl⟩
  rw [← hA1] at hcut
  have hCd2 : Kd.C k29 w A1 (l.drop i).length (l.drop i) := by rw [hA1]; exact hCd
  rw [show l.length - i = (l.drop i).length from List.length_drop.symm] at hcut
  have hml : (l.drop i).length ≤ 1000000 := by rw [List.length_drop]; omega
  obtain ⟨m, hm⟩ : ∃ m, m = l.drop i := ⟨_, rfl⟩
  rw [← hm] at hcut hCd2 hml ⊢
  have HF := Aside0.mk hF
  have B := Aside0.mk h1
  have hc0 := bc0 B
  have HR := Aside0.mk h3
  have HC := Aside0.mk h2
  have HM := Aside0.mk hCd2
  clear h1 h3 h2 hF hCd hCd2 hA1 hzb hzs hz0_ hi0 hm hi hl
  go_enter Try.func18, Try.ntmps18
  go_wp2_with go_step3
  have hB0 : Below w.heap.size w w := Below.refl _ _
  go_region_held3 (fun w' => w'.cell? ⟨g, 0, none⟩ = some (.slice A l.length c) ∧ Below w.heap.size w w')
    (first | exact ⟨hc0, below_drew hB0⟩ | exact ⟨q0, q2⟩)
    (first | (go_at_call 24; refine (entry_First.calls k A c l a 1000000 _ _ (Kd.C_below HR.out (below_drew hB0)) HC.out HF.out).mono ?_; rintro e w1 ⟨rfl, hb⟩; have q0 := pw_cell_below hb hc0; have q2 := below_step (below_drew hB0) hb))
  go_wp2_with go_step3
  have HML := Aside0.mk hml
  go_loopg [7, 22] m.length (fun kq v7 v22 w' => ∃ (q : Nat) (out : List S29), v22 = .int .i64 (q : Int) ∧ Aside0 (kq + q = m.length) ∧ Aside0 (out.length ≤ q) ∧ Aside0 (out ++ rngL tx.toList (m.drop q) = rngL tx.toList m) ∧ Aside0 (Kd.R k29 29 w' w.heap.size (fun _ => True) v7 out) ∧ Aside0 (Below w.heap.size w w'))
  case atStart => exact ⟨0, [], rfl, ⟨by omega⟩, ⟨Nat.zero_le _⟩, ⟨by rw [List.drop_zero]; rfl⟩, ⟨Kd.R_nil _ _ _ _ _⟩, ⟨by assumption⟩⟩
  case round =>
    obtain ⟨q, out, rfl, HK, HL, HQ, HO, HB⟩ := hrel
    clear hml
    by_cases hlt : q < m.length
    rotate_left
    · have HQ2 := Aside0.mk (show out = rngL tx.toList m by have := HQ.out; rw [List.drop_eq_nil_of_le (by omega), rngL, List.append_nil] at this; exact this)
      have hd0 : decide (q < m.length) = false := decide_eq_false hlt
      have hd1 : decide ((q : Int) < (m.length : Int)) = false := decide_eq_false (by omega)
      clear HQ
      go_wp2_with go_step3
      (try rw [Exit.noGoto_ret])
      go_ret
      exact ⟨_, rfl, by rw [← HQ2.out]; exact HO.out, HB.out⟩
    obtain ⟨k1, rfl⟩ : ∃ k1, gk = k1 + 1 := ⟨gk - 1, by have := HK.out; omega⟩
    have hd0 : decide (q < m.length) = true := decide_eq_true hlt
    have hd1 : decide ((q : Int) < (m.length : Int)) = true := decide_eq_true (by omega)
    have p0 : 0 ≤ (q : Int) := by omega
    have q0 : (q : Int) < (m.length : Int) := by omega
    obtain ⟨ad, e_, hx0, hx1, hx2, hx3⟩ := at_T29 (Kd.C_below HM.out HB.out) (q : Int) p0 q0
    cases e_
    rw [Int.toNat_natCast] at hx0 hx1 hx2 hx3
    have hdr : m.drop q = rd_T29 m (q : Int) :: m.drop (q + 1) := by
      unfold rd_T29
      rw [Int.toNat_natCast, List.drop_eq_getElem_cons hlt, List.getD_eq_getElem?_getD, List.getElem?_eq_getElem hlt]; rfl
    by_cases c1 : tx.toList = ([] : List UInt8)
    · have HQ2 := Aside0.mk (show out ++ ([rd_T29 m (q : Int)] ++ rngL tx.toList (m.drop (q + 1))) = rngL tx.toList m by rw [← HQ.out, hdr, rngL, if_neg (fun h => h.1 c1)]; rfl)
      have c1b0 : (tx.toList == ([] : List UInt8)) = true := beq_iff_eq.mpr c1
      have c1b1 : (tx.toList != ([] : List UInt8)) = false := bne_eq_false_iff_eq.mpr c1
      clear hdr HQ c1
      go_upto_region 5 with (first | go_step3 | ((with_reducible refine gate_dst (N := 9) rfl ?_); refine box_event ?hg (N := 9) ?hd (cs := #[.string ⟨#[]⟩, .int .i64 0, .bool false, .string ⟨#[]⟩]) (t := 29) ?hr ?_; (case hd => rfl); (case hg => rfl); (case hr => first | (go_simp; done) | (go_simp; rfl)); intro gb hgb w3 hbox hb; have n0_ : Aside0 (Kd.R k29 29 w3 w.heap.size (fun k => k ≠ gb) u7 out) := ⟨Kd.R_below (Kd.R_mono (Kd.R_bound HO.out) (fun k hk => by rw [hgb]; exact Nat.ne_of_lt hk.2.2.1)) hb⟩; have n1_ := bs_ HB hb; have GB := gz_ HB hgb; have n3_ := Aside0.mk hbox; have n4_ := pw_cell_below hb hx0; have n5_ := pw_cell_below hb hx1; have n6_ := pw_cell_below hb hx2; have n7_ := pw_cell_below hb hx3; clear HO HB hx0 hx1 hx2 hx3; have HO := n0_; have HB := n1_; have BX := n3_; have hx0 := n4_; have hx1 := n5_; have hx2 := n6_; have hx3 := n7_; clear n0_ n1_ n3_ n4_ n5_ n6_ n7_ hb hbox hgb; have hz0 := bc0 BX; have hz1 := bc1 BX; have hz2 := bc2 BX; have hz3 := bc3 BX; have hy0 := bf_ BX 0; have hy1 := bf_ BX 1; have hy2 := bf_ BX 2; have hy3 := bf_ BX 3))
      obtain ⟨W4, hW4⟩ : ∃ W4, W4 = ((((w3.setCell ⟨gb, 0, none⟩ (.string (rd_T29 m (q : Int)).f0)).setCell ⟨gb, 1, none⟩ (.int .i64 (rd_T29 m (q : Int)).f1)).setCell ⟨gb, 2, none⟩ (.bool (rd_T29 m (q : Int)).f2)).setCell ⟨gb, 3, none⟩ (.string (rd_T29 m (q : Int)).f3)) := ⟨_, rfl⟩
      rw [← hW4]
      have n0_ : Aside0 (W4.heap[gb]? = some (.cells #[.string (rd_T29 m (q : Int)).f0, .int .i64 (rd_T29 m (q : Int)).f1, .bool (rd_T29 m (q : Int)).f2, .string (rd_T29 m (q : Int)).f3] 29 (0, 0))) := ⟨by rw [hW4]; refine blk_put (cs := #[.string (rd_T29 m (q : Int)).f0, .int .i64 (rd_T29 m (q : Int)).f1, .bool (rd_T29 m (q : Int)).f2, .string ⟨#[]⟩]) ?_ 3 _ rfl; refine blk_put (cs := #[.string (rd_T29 m (q : Int)).f0, .int .i64 (rd_T29 m (q : Int)).f1, .bool false, .string ⟨#[]⟩]) ?_ 2 _ rfl; refine blk_put (cs := #[.string (rd_T29 m (q : Int)).f0, .int .i64 0, .bool false, .string ⟨#[]⟩]) ?_ 1 _ rfl; refine blk_put (cs := #[.string ⟨#[]⟩, .int .i64 0, .bool false, .string ⟨#[]⟩]) ?_ 0 _ rfl; exact BX.out⟩
      have n1_ : Aside0 (Kd.R k29 29 W4 w.heap.size (fun k => k ≠ gb) u7 out) := ⟨by rw [hW4]; exact Kd.R_far (p := ⟨gb, 3, none⟩) (Kd.R_far (p := ⟨gb, 2, none⟩) (Kd.R_far (p := ⟨gb, 1, none⟩) (Kd.R_far (p := ⟨gb, 0, none⟩) HO.out (fun _ hk => hk) _) (fun _ hk => hk) _) (fun _ hk => hk) _) (fun _ hk => hk) _⟩
      have n2_ : Aside0 (Below w.heap.size w W4) := ⟨by rw [hW4]; exact (((HB.out.setCell GB.out _).setCell GB.out _).setCell GB.out _).setCell GB.out _⟩
      clear hW4 BX HO HB hz0 hz1 hz2 hz3 hy0 hy1 hy2 hy3 hx0 hx1 hx2 hx3
      have BX := n0_
      have HO := n1_
      have HB := n2_
      clear n0_ n1_ n2_
      have hz0 := bc0 BX
      have hz1 := bc1 BX
      have hz2 := bc2 BX
      have hz3 := bc3 BX
      go_wp2_with (first | go_step3 | ((with_reducible refine gate_builtin (b := .append) (xs := #[.tmp 34, .tmp 36]) rfl ?_); (try (refine gate_guard (by rfl) ?_; dsimp only)); at_builtin; refine Kd.R_append k29 (w0 := w) w.heap.size rfl (.tmp 34) (.tmp 36) 22 29 (.agg #[(.string ⟨#[]⟩), (.int .i64 0), (.bool false), (.string ⟨#[]⟩)]) 48 rfl Try.underlying22 info29 rfl (by decide) (by omega) u7 out (rd_T29 m (q : Int)) [.string (rd_T29 m (q : Int)).f0, .int .i64 (rd_T29 m (q : Int)).f1, .bool (rd_T29 m (q : Int)).f2, .string (rd_T29 m (q : Int)).f3] (fun k => k ≠ gb) (fun _ => False) rfl rfl (k_M _) (fun _ h => h.elim) (size_ne (blk_lt BX.out) (Below.refl _ _)) HO.out HB.out HB.out.size (by have := HL.out; have := HML.out; omega) ?_; intro v1 w4 ho hb hg hat; have HO1 := Aside0.mk (Kd.R_mono (ok' := fun _ => True) ho (fun _ _ => trivial)); have HB1 := Aside0.mk hb; clear ho hb hg hat))
      (try (rw [Exit.noGoto_normal]; go_wp2_with go_step3))
      go_roundg k1
      case measure => have := HK.out; omega
      case rel => exact ⟨q + 1, out ++ [rd_T29 m (q : Int)], by have h_ := HK.out; have h2_ := HML.out; simp; unfold wrap64; omega, ⟨by have := HK.out; omega⟩, ⟨by rw [List.length_append, List.length_singleton]; have := HL.out; omega⟩, ⟨by rw [List.append_assoc]; exact HQ2.out⟩, HO1, HB1⟩
    have c1b0 : (tx.toList == ([] : List UInt8)) = false := beq_eq_false_iff_ne.mpr c1
    have c1b1 : (tx.toList != ([] : List UInt8)) = true := bne_iff_ne.mpr c1
    by_cases c2 : Op.bytesLess (rd_T29 m (q : Int)).f0.toList tx.toList = true
    · have HQ2 := Aside0.mk (show out ++ ([rd_T29 m (q : Int)] ++ rngL tx.toList (m.drop (q + 1))) = rngL tx.toList m by rw [← HQ.out, hdr, rngL, if_neg (fun h => by rw [c2] at h; cases h.2)]; rfl)
      clear hdr HQ c1
      go_upto_region 5 with (first | go_step3 | ((with_reducible refine gate_dst (N := 9) rfl ?_); refine box_event ?hg (N := 9) ?hd (cs := #[.string ⟨#[]⟩, .int .i64 0, .bool false, .string ⟨#[]⟩]) (t := 29) ?hr ?_; (case hd => rfl); (case hg => rfl); (case hr => first | (go_simp; done) | (go_simp; rfl)); intro gb hgb w3 hbox hb; have n0_ : Aside0 (Kd.R k29 29 w3 w.heap.size (fun k => k ≠ gb) u7 out) := ⟨Kd.R_below (Kd.R_mono (Kd.R_bound HO.out) (fun k hk => by rw [hgb]; exact Nat.ne_of_lt hk.2.2.1)) hb⟩; have n1_ := bs_ HB hb; have GB := gz_ HB hgb; have n3_ := Aside0.mk hbox; have n4_ := pw_cell_below hb hx0; have n5_ := pw_cell_below hb hx1; have n6_ := pw_cell_below hb hx2; have n7_ := pw_cell_below hb hx3; clear HO HB hx0 hx1 hx2 hx3; have HO := n0_; have HB := n1_; have BX := n3_; have hx0 := n4_; have hx1 := n5_; have hx2 := n6_; have hx3 := n7_; clear n0_ n1_ n3_ n4_ n5_ n6_ n7_ hb hbox hgb; have hz0 := bc0 BX; have hz1 := bc1 BX; have hz2 := bc2 BX; have hz3 := bc3 BX; have hy0 := bf_ BX 0; have hy1 := bf_ BX 1; have hy2 := bf_ BX 2; have hy3 := bf_ BX 3))
      obtain ⟨W4, hW4⟩ : ∃ W4, W4 = ((((w3.setCell ⟨gb, 0, none⟩ (.string (rd_T29 m (q : Int)).f0)).setCell ⟨gb, 1, none⟩ (.int .i64 (rd_T29 m (q : Int)).f1)).setCell ⟨gb, 2, none⟩ (.bool (rd_T29 m (q : Int)).f2)).setCell ⟨gb, 3, none⟩ (.string (rd_T29 m (q : Int)).f3)) := ⟨_, rfl⟩
      rw [← hW4]
      have n0_ : Aside0 (W4.heap[gb]? = some (.cells #[.string (rd_T29 m (q : Int)).f0, .int .i64 (rd_T29 m (q : Int)).f1, .bool (rd_T29 m (q : Int)).f2, .string (rd_T29 m (q : Int)).f3] 29 (0, 0))) := ⟨by rw [hW4]; refine blk_put (cs := #[.string (rd_T29 m (q : Int)).f0, .int .i64 (rd_T29 m (q : Int)).f1, .bool (rd_T29 m (q : Int)).f2, .string ⟨#[]⟩]) ?_ 3 _ rfl; refine blk_put (cs := #[.string (rd_T29 m (q : Int)).f0, .int .i64 (rd_T29 m (q : Int)).f1, .bool false, .string ⟨#[]⟩]) ?_ 2 _ rfl; refine blk_put (cs := #[.string (rd_T29 m (q : Int)).f0, .int .i64 0, .bool false, .string ⟨#[]⟩]) ?_ 1 _ rfl; refine blk_put (cs := #[.string ⟨#[]⟩, .int .i64 0, .bool false, .string ⟨#[]⟩]) ?_ 0 _ rfl; exact BX.out⟩
      have n1_ : Aside0 (Kd.R k29 29 W4 w.heap.size (fun k => k ≠ gb) u7 out) := ⟨by rw [hW4]; exact Kd.R_far (p := ⟨gb, 3, none⟩) (Kd.R_far (p := ⟨gb, 2, none⟩) (Kd.R_far (p := ⟨gb, 1, none⟩) (Kd.R_far (p := ⟨gb, 0, none⟩) HO.out (fun _ hk => hk) _) (fun _ hk => hk) _) (fun _ hk => hk) _) (fun _ hk => hk) _⟩
      have n2_ : Aside0 (Below w.heap.size w W4) := ⟨by rw [hW4]; exact (((HB.out.setCell GB.out _).setCell GB.out _).setCell GB.out _).setCell GB.out _⟩
      clear hW4 BX HO HB hz0 hz1 hz2 hz3 hy0 hy1 hy2 hy3 hx0 hx1 hx2 hx3
      have BX := n0_
      have HO := n1_
      have HB := n2_
      clear n0_ n1_ n2_
      have hz0 := bc0 BX
      have hz1 := bc1 BX
      have hz2 := bc2 BX
      have hz3 := bc3 BX
      go_wp2_with (first | go_step3 | ((with_reducible refine gate_builtin (b := .append) (xs := #[.tmp 34, .tmp 36]) rfl ?_); (try (refine gate_guard (by rfl) ?_; dsimp only)); at_builtin; refine Kd.R_append k29 (w0 := w) w.heap.size rfl (.tmp 34) (.tmp 36) 22 29 (.agg #[(.string ⟨#[]⟩), (.int .i64 0), (.bool false), (.string ⟨#[]⟩)]) 48 rfl Try.underlying22 info29 rfl (by decide) (by omega) u7 out (rd_T29 m (q : Int)) [.string (rd_T29 m (q : Int)).f0, .int .i64 (rd_T29 m (q : Int)).f1, .bool (rd_T29 m (q : Int)).f2, .string (rd_T29 m (q : Int)).f3] (fun k => k ≠ gb) (fun _ => False) rfl rfl (k_M _) (fun _ h => h.elim) (size_ne (blk_lt BX.out) (Below.refl _ _)) HO.out HB.out HB.out.size (by have := HL.out; have := HML.out; omega) ?_; intro v1 w4 ho hb hg hat; have HO1 := Aside0.mk (Kd.R_mono (ok' := fun _ => True) ho (fun _ _ => trivial)); have HB1 := Aside0.mk hb; clear ho hb hg hat))
      (try (rw [Exit.noGoto_normal]; go_wp2_with go_step3))
      go_roundg k1
      case measure => have := HK.out; omega
      case rel => exact ⟨q + 1, out ++ [rd_T29 m (q : Int)], by have h_ := HK.out; have h2_ := HML.out; simp; unfold wrap64; omega, ⟨by have := HK.out; omega⟩, ⟨by rw [List.length_append, List.length_singleton]; have := HL.out; omega⟩, ⟨by rw [List.append_assoc]; exact HQ2.out⟩, HO1, HB1⟩
    have c2b : Op.bytesLess (rd_T29 m (q : Int)).f0.toList tx.toList = false := by simpa using c2
    have HQ2 := Aside0.mk (show out = rngL tx.toList m by rw [← HQ.out, hdr, rngL, if_pos ⟨c1, c2b⟩, List.append_nil])
    clear hdr HQ c1 c2
    go_upto_region 5 with (first | go_step3 | ((with_reducible refine gate_dst (N := 9) rfl ?_); refine box_event ?hg (N := 9) ?hd (cs := #[.string ⟨#[]⟩, .int .i64 0, .bool false, .string ⟨#[]⟩]) (t := 29) ?hr ?_; (case hd => rfl); (case hg => rfl); (case hr => first | (go_simp; done) | (go_simp; rfl)); intro gb hgb w3 hbox hb; have n0_ : Aside0 (Kd.R k29 29 w3 w.heap.size (fun k => k ≠ gb) u7 out) := ⟨Kd.R_below (Kd.R_mono (Kd.R_bound HO.out) (fun k hk => by rw [hgb]; exact Nat.ne_of_lt hk.2.2.1)) hb⟩; have n1_ := bs_ HB hb; have GB := gz_ HB hgb; have n3_ := Aside0.mk hbox; have n4_ := pw_cell_below hb hx0; have n5_ := pw_cell_below hb hx1; have n6_ := pw_cell_below hb hx2; have n7_ := pw_cell_below hb hx3; clear HO HB hx0 hx1 hx2 hx3; have HO := n0_; have HB := n1_; have BX := n3_; have hx0 := n4_; have hx1 := n5_; have hx2 := n6_; have hx3 := n7_; clear n0_ n1_ n3_ n4_ n5_ n6_ n7_ hb hbox hgb; have hz0 := bc0 BX; have hz1 := bc1 BX; have hz2 := bc2 BX; have hz3 := bc3 BX; have hy0 := bf_ BX 0; have hy1 := bf_ BX 1; have hy2 := bf_ BX 2; have hy3 := bf_ BX 3))
    obtain ⟨W4, hW4⟩ : ∃ W4, W4 = ((((w3.setCell ⟨gb, 0, none⟩ (.string (rd_T29 m (q : Int)).f0)).setCell ⟨gb, 1, none⟩ (.int .i64 (rd_T29 m (q : Int)).f1)).setCell ⟨gb, 2, none⟩ (.bool (rd_T29 m (q : Int)).f2)).setCell ⟨gb, 3, none⟩ (.string (rd_T29 m (q : Int)).f3)) := ⟨_, rfl⟩
    rw [← hW4]
    have n0_ : Aside0 (W4.heap[gb]? = some (.cells #[.string (rd_T29 m (q : Int)).f0, .int .i64 (rd_T29 m (q : Int)).f1, .bool (rd_T29 m (q : Int)).f2, .string (rd_T29 m (q : Int)).f3] 29 (0, 0))) := ⟨by rw [hW4]; refine blk_put (cs := #[.string (rd_T29 m (q : Int)).f0, .int .i64 (rd_T29 m (q : Int)).f1, .bool (rd_T29 m (q : Int)).f2, .string ⟨#[]⟩]) ?_ 3 _ rfl; refine blk_put (cs := #[.string (rd_T29 m (q : Int)).f0, .int .i64 (rd_T29 m (q : Int)).f1, .bool false, .string ⟨#[]⟩]) ?_ 2 _ rfl; refine blk_put (cs := #[.string (rd_T29 m (q : Int)).f0, .int .i64 0, .bool false, .string ⟨#[]⟩]) ?_ 1 _ rfl; refine blk_put (cs := #[.string ⟨#[]⟩, .int .i64 0, .bool false, .string ⟨#[]⟩]) ?_ 0 _ rfl; exact BX.out⟩
    have n1_ : Aside0 (Kd.R k29 29 W4 w.heap.size (fun k => k ≠ gb) u7 out) := ⟨by rw [hW4]; exact Kd.R_far (p := ⟨gb, 3, none⟩) (Kd.R_far (p := ⟨gb, 2, none⟩) (Kd.R_far (p := ⟨gb, 1, none⟩) (Kd.R_far (p := ⟨gb, 0, none⟩) HO.out (fun _ hk => hk) _) (fun _ hk => hk) _) (fun _ hk => hk) _) (fun _ hk => hk) _⟩
    have n2_ : Aside0 (Below w.heap.size w W4) := ⟨by rw [hW4]; exact (((HB.out.setCell GB.out _).setCell GB.out _).setCell GB.out _).setCell GB.out _⟩
    clear hW4 BX HO HB hz0 hz1 hz2 hz3 hy0 hy1 hy2 hy3 hx0 hx1 hx2 hx3
    have BX := n0_
    have HO := n1_
    have HB := n2_
    clear n0_ n1_ n2_
    have hz0 := bc0 BX
    have hz1 := bc1 BX
    have hz2 := bc2 BX
    have hz3 := bc3 BX
    go_wp2_with go_step3
    (try rw [Exit.noGoto_ret])
    go_ret
    exact ⟨_, rfl, by rw [← HQ2.out]; exact Kd.R_mono HO.out (fun _ _ => trivial), HB.out⟩
end Go.Proofs.Ytdkdnfgpgedglaa.P
