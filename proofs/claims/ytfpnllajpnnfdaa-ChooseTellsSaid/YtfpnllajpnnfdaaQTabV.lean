import Derived.Test.YtfpnllajpnnfdaaQTabT
namespace Go.Proofs.Ytfpnllajpnnfdaa.Q
open Go.RowKit Go.Lib Go.Proofs Go.Proofs.Ytfpnllajpnnfdaa.P Go.Proofs.YtfpnllajpnnfdaaW.PrintWords Go.Proofs.YtfpnllajpnnfdaaW.PrintLast Go.Proofs.YtfpnllajpnnfdaaW.PrintMore
set_option linter.unusedVariables false
set_option linter.unusedSimpArgs false
attribute [local go_sem] max_two min_two
attribute [local go_sem high] string_leq string_geq string_gtr
/-! (*ravelinref9.Sheet).Pick -/
theorem lo_one (x : S46) : loL x.f2 [x] = x.f2 := by unfold loL minS; rw [List.foldl_cons, List.foldl_nil]; split <;> rfl
theorem hi_one (x : S46) : hiL x.f3 [x] = x.f3 := by unfold hiL maxS; rw [List.foldl_cons, List.foldl_nil]; split <;> rfl
/-- A row of one in a block of its own. -/
theorem one_row {w : World} {g : Nat} {y : S46} (h : w.heap[g]? = some (.cells #[.int .i64 y.f0, .int .i64 y.f1, .string y.f2, .string y.f3, .int .i64 y.f4] 46 (0, 0))) : Kd.C k46 w (some ⟨g, 0, none⟩) 1 [y] := by
  refine ⟨rfl, by omega, fun _ => ⟨_, rfl, fun j p hj => ?_⟩⟩
  match j, hj with
  | 0, hj =>
    injection hj with hj
    subst hj
    refine ⟨_, rfl, k46_mk _ _, fun i u hi => ?_⟩
    have := blk_cell h i
    simp only [Addr.add, Nat.zero_mul, Nat.zero_add]
    rw [show (if i = 0 then (⟨g, 0, none⟩ : Addr) else ⟨g, i, none⟩) = ⟨g, i, none⟩ by split <;> simp_all, this]
    simpa using hi
  | n + 1, hj => simp at hj
set_option maxHeartbeats 8000000 in
set_option maxRecDepth 100000 in
theorem RPick (w : World) (g : Nat) (l : List S46) (lg sq nx : Int) (h : Rh w g l lg sq nx) (hl : l.length ≤ 1000000) : Calls Try.prog 13 #[.pointer (some ⟨g, 0, none⟩)] w fun e w' => ∃ v : Value, e = .returned (.tuple #[v, .bool (pickB l)]) ∧ Kd.R k46 46 w' w.heap.size (fun _ => True) v (pickL l) ∧ Below w.heap.size w w' := by
  have HS := Aside0.mk h
  have HL := Aside0.mk hl
  clear h hl
  go_enter Try.func13, Try.ntmps13
  go_upto_region 2 with (first | go_step3 | (go_at_call 33; go_loud (with_reducible refine (RTier _ g l lg sq nx 0 HS.out HL.out).mono ?_; rintro e w1 ⟨v0, rfl, ho, hb⟩; have HV0 := Aside0.mk ho; have HW1 := Aside0.mk hb; clear ho hb)))
  obtain ⟨A0, c0, e0, h5, h6⟩ := Kd.R_reads HV0.out
  subst e0
  have HR0 := Aside0.mk h6
  have HLA := Aside0.mk (Nat.le_trans (tier_len l 0) HL.out)
  have HLB := Aside0.mk (Nat.le_trans (tier_len l 1) HL.out)
  clear h5 h6
  by_cases hfew : (tierL l 0).length < 2
  · have hd0 : decide ((tierL l 0).length < 2) = true := decide_eq_true hfew
    have hd1 : decide (((tierL l 0).length : Int) < 2) = true := decide_eq_true (by omega)
    have HP := Aside0.mk (show pickL l = [] ∧ pickB l = false by unfold pickL pickB; rw [if_pos hfew, decide_eq_true hfew]; exact ⟨rfl, rfl⟩)
    clear hfew
    go_wp2_with (first | go_step3 | go_in)
    ((try rw [Exit.noGoto_ret]); go_ret2)
    exact ⟨_, by rw [HP.out.2]; rfl, by rw [HP.out.1]; exact Kd.R_nil _ _ _ _ _, HW1.out⟩
  have hd0 : decide ((tierL l 0).length < 2) = false := decide_eq_false hfew
  have hd1 : decide (((tierL l 0).length : Int) < 2) = false := decide_eq_false (by omega)
  have HP := Aside0.mk (show pickL l = tierL l 0 ++ (tierL l 1).filter (reB (loP l) (hiP l)) ∧ pickB l = true by unfold pickL pickB; rw [if_neg hfew, decide_eq_false hfew]; exact ⟨rfl, rfl⟩)
  have HLO := Aside0.mk (show loP l = loL (rd_T46 (tierL l 0) 0).f2 (tierL l 0) from rfl)
  have HHI := Aside0.mk (show hiP l = hiL (rd_T46 (tierL l 0) 0).f3 (tierL l 0) from rfl)
  obtain ⟨lo, hlo⟩ : ∃ lo, lo = loP l := ⟨_, rfl⟩
  obtain ⟨hi, hhi⟩ : ∃ hi, hi = hiP l := ⟨_, rfl⟩
  rw [← hlo] at HLO HP
  rw [← hhi] at HHI HP
  obtain ⟨ad, e_, hx0, hx1, hx2, hx3, hx4⟩ := at_T46 HR0.out (0 : Int) (by omega) (by omega)
  cases e_
  obtain ⟨y, hy⟩ : ∃ y, y = rd_T46 (tierL l 0) 0 := ⟨_, rfl⟩
  rw [← hy] at hx0 hx1 hx2 hx3 hx4 HLO HHI
  have hx2b : w1.cell? ⟨ad.block, ad.off + 2, none⟩ = some (.string y.f2) := by simpa [Addr.add] using hx2
  have hx3b : w1.cell? ⟨ad.block, ad.off + 3, none⟩ = some (.string y.f3) := by simpa [Addr.add] using hx3
  have p1 : (0 : Int) < ((tierL l 0).length : Int) := by omega
  have p2 : 0 < (tierL l 0).length := by omega
  have HY := Aside0.mk (show (tierL l 0).take 1 = [y] by rw [hy, show rd_T46 (tierL l 0) 0 = (tierL l 0)[0] from rdT _ 0 p2, List.take_succ_eq_append_getElem p2]; rfl)
  have HLEN := Aside0.mk (show 2 ≤ (tierL l 0).length by omega)
  clear hy hlo hhi hx0 hx1 hx2 hx3 hx4 hfew
  generalize tierL l 0 = L0 at HV0 HR0 HLA HP HLO HHI HY HLEN hd0 hd1 p1 p2 ⊢
  go_wp2
  go_quiet (fail)
  have n0_ := Aside0.mk (Kd.R_below HV0.out (pw_below_drewN (Below.refl _ w1) nq))
  have n1_ := bs_ HW1 (pw_below_drewN (Below.refl _ w1) nq)
  have n2_ := Aside0.mk (Kd.C_below HR0.out (pw_below_drewN (Below.refl _ w1) nq))
  clear HV0 HW1 HR0 hx2b hx3b p1 p2 hd0 hd1
  have HV0 := n0_
  have HW1 := n1_
  have HR0 := n2_
  clear n0_ n1_ n2_
  generalize w1.drewN nq = w2 at HV0 HW1 HR0 ⊢
  go_wp2
  go_loopg [5, 6, 7] L0.length (fun kq v5 v6 v7 w' => ∃ (i : Nat) (a b : ByteArray), v7 = .int .i64 (i : Int) ∧ v5 = .string a ∧ v6 = .string b ∧ Aside0 (kq + i = L0.length + 1) ∧ Aside0 (a = loL y.f2 (L0.take i)) ∧ Aside0 (b = hiL y.f3 (L0.take i)) ∧ Aside0 (Below w2.heap.size w2 w'))
  case atStart => exact ⟨1, _, _, rfl, rfl, rfl, ⟨by have := HLEN.out; omega⟩, ⟨by rw [HY.out, lo_one]⟩, ⟨by rw [HY.out, hi_one]⟩, ⟨Below.refl _ _⟩⟩
  obtain ⟨i, ka, kb, rfl, rfl, rfl, HQ, HA, HBk, HB⟩ := hrel
  by_cases hlt : i < L0.length
  · obtain ⟨k1, rfl⟩ : ∃ k1, gk = k1 + 1 := ⟨gk - 1, by have := HQ.out; omega⟩
    have hd0 : decide (i < L0.length) = true := decide_eq_true hlt
    have hd1 : decide ((i : Int) < (L0.length : Int)) = true := decide_eq_true (by omega)
    have p0 : 0 ≤ (i : Int) := by omega
    have q0 : (i : Int) < (L0.length : Int) := by omega
    obtain ⟨ad2, e_, hx0, hx1, hx2, hx3, hx4⟩ := at_T46 (Kd.C_below HR0.out HB.out) (i : Int) p0 q0
    cases e_
    rw [Int.toNat_natCast, rdT L0 i hlt] at hx0 hx1 hx2 hx3 hx4
    obtain ⟨z, hz⟩ : ∃ z, z = L0[i] := ⟨_, rfl⟩
    have HA2 := Aside0.mk (show loL y.f2 (L0.take (i + 1)) = minS ka z.f2 by rw [HA.out, List.take_succ_eq_append_getElem hlt, ← hz]; unfold loL; rw [List.foldl_append]; rfl)
    have HB2 := Aside0.mk (show hiL y.f3 (L0.take (i + 1)) = maxS kb z.f3 by rw [HBk.out, List.take_succ_eq_append_getElem hlt, ← hz]; unfold hiL; rw [List.foldl_append]; rfl)
    rw [← hz] at hx0 hx1 hx2 hx3 hx4
    have hm1 := min2_str ka z.f2
    have hm2 := max2_str kb z.f3
    generalize minS ka z.f2 = m1 at hm1 HA2
    generalize maxS kb z.f3 = m2 at hm2 HB2
    clear hz hx0 hx1 hx4
    go_wp2
    go_quiet (fail)
    go_wp2
    go_roundg k1
    case measure => have := HQ.out; omega
    case rel => exact ⟨i + 1, m1, m2, by have h2_ := HLA.out; simp; unfold wrap64; omega, rfl, rfl, ⟨by have := HQ.out; omega⟩, ⟨HA2.out.symm⟩, ⟨HB2.out.symm⟩, bs_ HB (pw_below_drewN (Below.refl _ wr) nq)⟩
  have hd0 : decide (i < L0.length) = false := decide_eq_false hlt
  have hd1 : decide ((i : Int) < (L0.length : Int)) = false := decide_eq_false (by omega)
  have HA2 := Aside0.mk (show lo = ka by rw [HA.out, HLO.out, List.take_of_length_le (by omega)])
  have HB2 := Aside0.mk (show hi = kb by rw [HBk.out, HHI.out, List.take_of_length_le (by omega)])
  obtain ⟨ha2⟩ := HA2
  obtain ⟨hb2⟩ := HB2
  subst ha2
  subst hb2
  have HS2 := Aside0.mk (HS.out.below (below_step HW1.out HB.out))
  have HV2 := Aside0.mk (Kd.R_below HV0.out HB.out)
  have HWB := Aside0.mk (below_step HW1.out HB.out)
  clear HV0 HB HW1 HS HR0 HA HBk HQ
  go_wp2_with (go_at_call 33; go_loud (with_reducible refine (RTier _ g l lg sq nx 1 HS2.out HL.out).mono ?_; rintro e w4 ⟨v1, rfl, ho, hb⟩; have HV1 := Aside0.mk ho; have n0_ := Aside0.mk (below_step HWB.out hb); have n1_ := Aside0.mk (Kd.R_below HV2.out hb); clear ho hb; obtain ⟨A1, c1, e1, h5, h6⟩ := Kd.R_reads HV1.out; subst e1; have HR1 := Aside0.mk h6; clear h5 h6))
  have HBA := n0_
  have HACC := n1_
  clear n0_ n1_ HV1 HV2 HWB HS2
  generalize tierL l 1 = L1 at HR1 HLB HP ⊢
  go_loopg [8, 10] L1.length (fun kq v8 v10 w' => ∃ (i : Nat), v10 = .int .i64 (i : Int) ∧ Aside0 (kq + i = L1.length) ∧ Aside0 (Kd.R k46 46 w' w.heap.size (fun _ => True) v8 (L0 ++ (L1.take i).filter (reB lo hi))) ∧ Aside0 (Below w4.heap.size w4 w'))
  case atStart => exact ⟨0, rfl, ⟨by omega⟩, ⟨by rw [List.take_zero, List.filter_nil, List.append_nil]; exact HACC.out⟩, ⟨Below.refl _ _⟩⟩
  clear HACC
  obtain ⟨i, rfl, HQ, HO, HB⟩ := hrel
  by_cases hlt : i < L1.length
  · obtain ⟨k1, rfl⟩ : ∃ k1, gk = k1 + 1 := ⟨gk - 1, by have := HQ.out; omega⟩
    have hd0 : decide (i < L1.length) = true := decide_eq_true hlt
    have hd1 : decide ((i : Int) < (L1.length : Int)) = true := decide_eq_true (by omega)
    have p0 : 0 ≤ (i : Int) := by omega
    have q0 : (i : Int) < (L1.length : Int) := by omega
    obtain ⟨ad2, e_, hx0, hx1, hx2, hx3, hx4⟩ := at_T46 (Kd.C_below HR1.out HB.out) (i : Int) p0 q0
    cases e_
    rw [Int.toNat_natCast, rdT L1 i hlt] at hx0 hx1 hx2 hx3 hx4
    have HT := Aside0.mk (take_filter (reB lo hi) L1 i hlt)
    have HLN := Aside0.mk (len_filter (reB lo hi) L1 i)
    obtain ⟨y, hy⟩ : ∃ y, y = L1[i] := ⟨_, rfl⟩
    rw [← hy] at hx0 hx1 hx2 hx3 hx4 HT
    clear hy
    cases h1 : Op.bytesLess hi.toList y.f2.toList with
    | true =>
      have hp : reB lo hi y = false := by unfold reB; rw [← toL, ← toL, ← toL, ← toL, h1]; simp
      rw [hp, if_neg (by decide), List.append_nil] at HT
      clear hp
      go_wp2
      go_roundg k1
      case measure => have := HQ.out; omega
      case rel => exact ⟨i + 1, by have h2_ := HLB.out; simp; unfold wrap64; omega, ⟨by have := HQ.out; omega⟩, ⟨by rw [HT.out]; exact HO.out⟩, HB⟩
    | false =>
      cases h2 : Op.bytesLess y.f3.toList lo.toList with
      | true =>
        have hp : reB lo hi y = false := by unfold reB; rw [← toL, ← toL, ← toL, ← toL, h2]; simp
        rw [hp, if_neg (by decide), List.append_nil] at HT
        clear hp
        go_wp2
        go_roundg k1
        case measure => have := HQ.out; omega
        case rel => exact ⟨i + 1, by have h2_ := HLB.out; simp; unfold wrap64; omega, ⟨by have := HQ.out; omega⟩, ⟨by rw [HT.out]; exact HO.out⟩, HB⟩
      | false =>
        have hp : reB lo hi y = true := by unfold reB; rw [← toL, ← toL, ← toL, ← toL, h1, h2]; rfl
        rw [hp, if_pos rfl] at HT
        clear hp
        obtain ⟨xs, hxs⟩ : ∃ xs, xs = L0 ++ (L1.take i).filter (reB lo hi) := ⟨_, rfl⟩
        have HT2 := Aside0.mk (show L0 ++ (L1.take (i + 1)).filter (reB lo hi) = xs ++ [y] by rw [HT.out, hxs, List.append_assoc])
        have HXL := Aside0.mk (show xs.length ≤ 3000000 by rw [hxs, List.length_append]; have := HLN.out; have := HLB.out; have := HLA.out; omega)
        rw [← hxs] at HO
        clear hxs
        obtain ⟨A8, c8, e8, h5, h6⟩ := Kd.R_reads HO.out
        subst e8
        have HR8 := Aside0.mk h6
        clear h5 h6
        go_upto_region 15 with (fail)
        refine start_ (n := 9) (S := fun w' => w'.cell? (ad2.add (i * 5)) = some (.int .i64 y.f0) ∧ w'.cell? ⟨(ad2.add (i * 5)).block, (ad2.add (i * 5)).off + 1, none⟩ = some (.int .i64 y.f1) ∧ w'.cell? ⟨(ad2.add (i * 5)).block, (ad2.add (i * 5)).off + 2, none⟩ = some (.string y.f2) ∧ w'.cell? ⟨(ad2.add (i * 5)).block, (ad2.add (i * 5)).off + 3, none⟩ = some (.string y.f3) ∧ w'.cell? ⟨(ad2.add (i * 5)).block, (ad2.add (i * 5)).off + 4, none⟩ = some (.int .i64 y.f4)) (ds := []) #[false, false, false, false, false, false, false, false, false] (by kernel_rfl) rfl rfl ⟨hx0, hx1, hx2, hx3, hx4⟩ (fun hHeld => ?_)
        refine pure_ (i := 0) (N := some 69) (v := ?_) (a' := ?_) #[true, false, false, false, false, false, false, false, false] rfl rfl (by kernel_rfl) (fun _ _ _ h => h) (Or.inl ⟨by rfl, ?_⟩) ?_ ?_
        rotate_left
        · intro w'
          go_simp
          with_reducible rfl
        rotate_left
        · simp only [Act.put, List.setIfInBounds_toArray, List.set_cons_zero, List.set_cons_succ, i64_w, i32_w]
          rfl
        refine pure_ (i := 2) (N := some 71) (v := ?_) (a' := ?_) #[true, false, true, false, false, false, false, false, false] rfl rfl (by kernel_rfl) (fun _ _ _ h => h) (Or.inl ⟨by rfl, ?_⟩) ?_ ?_
        rotate_left
        · intro w'
          go_simp
          with_reducible rfl
        rotate_left
        · simp only [Act.put, List.setIfInBounds_toArray, List.set_cons_zero, List.set_cons_succ, i64_w, i32_w]
          rfl
        refine pure_ (i := 3) (N := some 72) (v := ?_) (a' := ?_) #[true, false, true, true, false, false, false, false, false] rfl rfl (by kernel_rfl) (fun _ _ _ h => h) (Or.inl ⟨by rfl, ?_⟩) ?_ ?_
        rotate_left
        · intro w'
          go_simp
          with_reducible rfl
        rotate_left
        · simp only [Act.put, List.setIfInBounds_toArray, List.set_cons_zero, List.set_cons_succ, i64_w, i32_w]
          rfl
        refine pure_ (i := 4) (N := some 73) (v := ?_) (a' := ?_) #[true, false, true, true, true, false, false, false, false] rfl rfl (by kernel_rfl) (fun _ _ _ h => h) (Or.inl ⟨by rfl, ?_⟩) ?_ ?_
        rotate_left
        · intro w'
          go_simp
          with_reducible rfl
        rotate_left
        · simp only [Act.put, List.setIfInBounds_toArray, List.set_cons_zero, List.set_cons_succ, i64_w, i32_w]
          rfl
        refine take_ (i := 5) (N := some 74) (v := ?_) (a' := ?_) #[true, false, true, true, true, true, false, false, false] rfl rfl (by kernel_rfl) (fun _ _ _ h => h) (Or.inl ⟨by rfl, ?_⟩) hHeld ?_ ?_
        rotate_left
        · rintro w' ⟨s0, s1, s2, s3, s4⟩
          go_simp
          with_reducible rfl
        rotate_left
        · simp only [Act.put, List.setIfInBounds_toArray, List.set_cons_zero, List.set_cons_succ, i64_w, i32_w]
          rfl
        refine join_ (σ := Value × Nat) 2 #[true, true, true, true, true, true, true, false, false] (fun s => [(70, s.1), (75, .slice (some ⟨s.2, 0, none⟩) 1 1)]) (fun s w' => Kd.R k46 46 w' wr.heap.size (fun _ => True) s.1 xs ∧ w'.heap[s.2]? = some (.cells #[.int .i64 y.f0, .int .i64 y.f1, .string y.f2, .string y.f3, .int .i64 y.f4] 46 (0, 0)) ∧ Below wr.heap.size wr w') ?_ ?_
        rotate_left
        · intro hCont
          refine two_ (i := 1) (j := 6) (Ni := some 70) (Nj := some 75) #[true, true, true, true, true, true, false, false, false] #[true, false, true, true, true, true, true, false, false] rfl rfl rfl rfl (by kernel_rfl) (by decide) (by decide) (fun K hK => ?_) (fun K hK => ?_)
          · skip
            refine Kd.R_append_rows_step k46 (w0 := wr) wr.heap.size (by rfl) (.const (.slice none 0 0)) (.tmp 69) 32 46 (.agg #[(.int .i64 0), (.int .i64 0), (.string ⟨#[]⟩), (.string ⟨#[]⟩), (.int .i64 0)]) 56 rfl Try.underlying32 info46 rfl (by decide) (by omega) (.slice none 0 0) [] xs _ _ _ (fun _ => True) (fun _ => False) rfl rfl (Kd.R_nil _ _ _ _ _) (by exact Kd.C_below HR8.out (below_drew1 (Below.refl _ wr))) (fun _ _ h => h) (fun _ h => h.elim) (fun _ _ => trivial) (below_drew1 (Below.refl _ wr)) (below_size (below_drew1 (Below.refl _ wr))) (by have := HXL.out; simp; omega) ?_
            intro v7 w7 ho hb hg hat
            rw [List.nil_append] at ho
            have HO7 := Aside0.mk ho
            have HB7 := Aside0.mk hb
            clear ho hb hat
            clear hg
            refine hK.out _ _ ⟨(pw_cell_below HB7.out hx0), (pw_cell_below HB7.out hx1), (pw_cell_below HB7.out hx2), (pw_cell_below HB7.out hx3), (pw_cell_below HB7.out hx4)⟩ (fun hHeld => ?_)
            clear hK K
            refine norm_ (a' := ?_) ?_ ?_
            rotate_left
            · show Act.put _ (some 70) _ = _
              simp only [Act.put, List.setIfInBounds_toArray, List.set_cons_zero, List.set_cons_succ, i64_w, i32_w]
              rfl
            refine one_ (i := 6) (N := some 75) #[true, true, true, true, true, true, true, false, false] rfl rfl (by kernel_rfl) (by decide) (fun K hK => ?_)
            refine value_ (w1 := ?_) (v := ?_) (by rfl) rfl ?_ ?_
            rotate_left 2
            · go_simp
              constructor
              · rfl
              · rfl
            have BX := Aside0.mk (blk_new w7 (.cells #[.int .i64 y.f0, .int .i64 y.f1, .string y.f2, .string y.f3, .int .i64 y.f4] 46))
            have HB6 := Aside0.mk (below_alloc HB7.out (.cells #[.int .i64 y.f0, .int .i64 y.f1, .string y.f2, .string y.f3, .int .i64 y.f4] 46))
            have HO7 := Aside0.mk (Kd.R_below HO7.out (below_alloc (Below.refl _ w7) (.cells #[.int .i64 y.f0, .int .i64 y.f1, .string y.f2, .string y.f3, .int .i64 y.f4] 46)))
            generalize w7.heap.size = gx at BX ⊢
            generalize w7.alloc (.cells #[.int .i64 y.f0, .int .i64 y.f1, .string y.f2, .string y.f3, .int .i64 y.f4] 46) = w6 at BX HB6 HO7 ⊢
            refine hK.out _ _ ⟨(pw_cell_below HB6.out hx0), (pw_cell_below HB6.out hx1), (pw_cell_below HB6.out hx2), (pw_cell_below HB6.out hx3), (pw_cell_below HB6.out hx4)⟩ (fun hHeld => ?_)
            clear hK K
            refine norm_ (a' := ?_) ?_ ?_
            rotate_left
            · show Act.put _ (some 75) _ = _
              simp only [Act.put, List.setIfInBounds_toArray, List.set_cons_zero, List.set_cons_succ, i64_w, i32_w]
              rfl
            exact norm_ (by simp only [putAll, Act.put, List.setIfInBounds_toArray, List.set_cons_zero, List.set_cons_succ]) (hCont (v7, gx) _ ⟨HO7.out, BX.out, HB6.out⟩)
          · skip
            refine value_ (w1 := ?_) (v := ?_) (by rfl) rfl ?_ ?_
            rotate_left 2
            · go_simp
              constructor
              · rfl
              · rfl
            have BX := Aside0.mk (blk_drew (blk_new wr (.cells #[.int .i64 y.f0, .int .i64 y.f1, .string y.f2, .string y.f3, .int .i64 y.f4] 46)))
            have HB6 := Aside0.mk (below_drew1 (below_alloc (Below.refl _ wr) (.cells #[.int .i64 y.f0, .int .i64 y.f1, .string y.f2, .string y.f3, .int .i64 y.f4] 46)))
            generalize wr.heap.size = gx at BX ⊢
            generalize (wr.alloc (.cells #[.int .i64 y.f0, .int .i64 y.f1, .string y.f2, .string y.f3, .int .i64 y.f4] 46)).drew = w6 at BX HB6 ⊢
            refine hK.out _ _ ⟨(pw_cell_below HB6.out hx0), (pw_cell_below HB6.out hx1), (pw_cell_below HB6.out hx2), (pw_cell_below HB6.out hx3), (pw_cell_below HB6.out hx4)⟩ (fun hHeld => ?_)
            clear hK K
            refine norm_ (a' := ?_) ?_ ?_
            rotate_left
            · show Act.put _ (some 75) _ = _
              simp only [Act.put, List.setIfInBounds_toArray, List.set_cons_zero, List.set_cons_succ, i64_w, i32_w]
              rfl
            refine one_ (i := 1) (N := some 70) #[true, true, true, true, true, true, true, false, false] rfl rfl (by kernel_rfl) (by decide) (fun K hK => ?_)
            refine Kd.R_append_rows_step k46 (w0 := wr) wr.heap.size (by rfl) (.const (.slice none 0 0)) (.tmp 69) 32 46 (.agg #[(.int .i64 0), (.int .i64 0), (.string ⟨#[]⟩), (.string ⟨#[]⟩), (.int .i64 0)]) 56 rfl Try.underlying32 info46 rfl (by decide) (by omega) (.slice none 0 0) [] xs _ _ _ (fun _ => True) (fun _ => False) rfl rfl (Kd.R_nil _ _ _ _ _) (by exact Kd.C_below HR8.out HB6.out) (fun _ _ h => h) (fun _ h => h.elim) (fun _ _ => trivial) HB6.out (below_size HB6.out) (by have := HXL.out; simp; omega) ?_
            intro v7 w7 ho hb hg hat
            rw [List.nil_append] at ho
            have HO7 := Aside0.mk ho
            have HB7 := Aside0.mk hb
            clear ho hb hat
            have BX := Aside0.mk (blk_grown BX.out hg (by intro e; have e2 : some gx = none := e; cases e2))
            clear hg
            refine hK.out _ _ ⟨(pw_cell_below HB7.out hx0), (pw_cell_below HB7.out hx1), (pw_cell_below HB7.out hx2), (pw_cell_below HB7.out hx3), (pw_cell_below HB7.out hx4)⟩ (fun hHeld => ?_)
            clear hK K
            refine norm_ (a' := ?_) ?_ ?_
            rotate_left
            · show Act.put _ (some 70) _ = _
              simp only [Act.put, List.setIfInBounds_toArray, List.set_cons_zero, List.set_cons_succ, i64_w, i32_w]
              rfl
            exact norm_ (by simp only [putAll, Act.put, List.setIfInBounds_toArray, List.set_cons_zero, List.set_cons_succ]) (hCont (v7, gx) _ ⟨HO7.out, BX.out, HB7.out⟩)
        rintro ⟨v7, gx⟩ w8 ⟨ho, bx, hb⟩
        have HO8 := Aside0.mk ho
        have BX := Aside0.mk bx
        have HB8 := Aside0.mk hb
        clear ho bx hb
        have hHeld : w8.cell? (ad2.add (i * 5)) = some (.int .i64 y.f0) ∧ w8.cell? ⟨(ad2.add (i * 5)).block, (ad2.add (i * 5)).off + 1, none⟩ = some (.int .i64 y.f1) ∧ w8.cell? ⟨(ad2.add (i * 5)).block, (ad2.add (i * 5)).off + 2, none⟩ = some (.string y.f2) ∧ w8.cell? ⟨(ad2.add (i * 5)).block, (ad2.add (i * 5)).off + 3, none⟩ = some (.string y.f3) ∧ w8.cell? ⟨(ad2.add (i * 5)).block, (ad2.add (i * 5)).off + 4, none⟩ = some (.int .i64 y.f4) := ⟨pw_cell_below HB8.out hx0, pw_cell_below HB8.out hx1, pw_cell_below HB8.out hx2, pw_cell_below HB8.out hx3, pw_cell_below HB8.out hx4⟩
        refine norm_ (a' := ?_) ?_ ?_
        rotate_left
        · simp only [putAll, Act.put, List.setIfInBounds_toArray, List.set_cons_zero, List.set_cons_succ]
          rfl
        refine one_ (i := 7) (N := some 76) #[true, true, true, true, true, true, true, true, false] rfl rfl (by kernel_rfl) (by decide) (fun K hK => ?_)
        refine Kd.R_append_rows_step k46 (w0 := wr) wr.heap.size (by rfl) (.tmp 70) (.tmp 75) 32 46 (.agg #[(.int .i64 0), (.int .i64 0), (.string ⟨#[]⟩), (.string ⟨#[]⟩), (.int .i64 0)]) 56 rfl Try.underlying32 info46 rfl (by decide) (by omega) v7 xs [y] _ _ _ (fun _ => True) (fun _ => False) rfl rfl HO8.out (one_row BX.out) (fun _ _ h => h) (fun _ h => h.elim) (fun _ _ => trivial) HB8.out (below_size HB8.out) (by have := HXL.out; omega) ?_
        intro v9 w9 ho hb hg hat
        have HO2 := Aside0.mk ho
        have HB2 := bs_ HB hb
        clear ho hg hat
        refine hK.out _ _ ⟨(pw_cell_below hb hx0), (pw_cell_below hb hx1), (pw_cell_below hb hx2), (pw_cell_below hb hx3), (pw_cell_below hb hx4)⟩ (fun hHeld => ?_)
        clear hK K
        refine norm_ (a' := ?_) ?_ ?_
        rotate_left
        · show Act.put _ (some 76) _ = _
          simp only [Act.put, List.setIfInBounds_toArray, List.set_cons_zero, List.set_cons_succ, i64_w, i32_w]
          rfl
        refine pure_ (i := 8) (N := some 8) (v := ?_) (a' := ?_) #[true, true, true, true, true, true, true, true, true] rfl rfl (by kernel_rfl) (fun _ _ _ h => h) (Or.inl ⟨by rfl, ?_⟩) ?_ ?_
        rotate_left
        · intro w'
          go_simp
          with_reducible rfl
        rotate_left
        · simp only [Act.put, List.setIfInBounds_toArray, List.set_cons_zero, List.set_cons_succ, i64_w, i32_w]
          rfl
        refine done_ (by kernel_rfl) ?_

        go_wp2
        go_roundg k1
        case measure => have := HQ.out; omega
        case rel => exact ⟨i + 1, by have h2_ := HLB.out; simp; unfold wrap64; omega, ⟨by have := HQ.out; omega⟩, ⟨by rw [HT2.out]; exact Kd.R_lower HO2.out (Nat.le_trans (below_size HBA.out) (below_size HB.out))⟩, HB2⟩
  have hd0 : decide (i < L1.length) = false := decide_eq_false hlt
  have hd1 : decide ((i : Int) < (L1.length : Int)) = false := decide_eq_false (by omega)
  have HTK := Aside0.mk (List.take_of_length_le (show L1.length ≤ i by omega))
  go_wp2
  (try rw [Exit.noGoto_ret])
  go_ret2
  exact ⟨_, by rw [HP.out.2]; rfl, by have h_ := HO.out; rw [HTK.out] at h_; rw [HP.out.1]; exact h_, below_step HBA.out HB.out⟩
end Go.Proofs.Ytfpnllajpnnfdaa.Q
