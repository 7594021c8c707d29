-- Printed by a changed copy of the kit's printer (wip/tools/ext.py); labels and more
import Derived.Test.YthlndkbdonoefaaPx0
import Derived.Test.YthlndkbdonoefaaPx1
import Derived.Test.YthlndkbdonoefaaPx2
import Derived.Test.YthlndkbdonoefaaPx3
namespace Go.Proofs.Ythlndkbdonoefaa.P
open Go.RowKit Go.Proofs.YthlndkbdonoefaaW.PrintWords Go.Proofs.YthlndkbdonoefaaW.PrintLast Go.Proofs.YthlndkbdonoefaaW.PrintMore
attribute [local go_sem] max2_int min2_int max_two min_two max_three min_three max_four min_four   -- for this text's walks alone
set_option linter.unusedVariables false
set_option linter.unusedSimpArgs false

/-! ### seal_Open: function 8 -/
def seal_Open.f (k : Nat) (a0 : ByteArray) : Option (ByteArray × Int × Int) := (cell_TakeNum.f k a0).bind fun bt105 => (if bt105.2.2 = 12 then (some ((⟨#[]⟩ : ByteArray), 0, bt105.2.2)) else (if bt105.2.2 = 0 then (if (wrap64 ((a0.size : Int) - bt105.2.1)) < 4 then (some ((⟨#[]⟩ : ByteArray), 0, 12)) else (if bt105.1 > (wrap64 ((wrap64 ((a0.size : Int) - bt105.2.1)) - 4)) then (some ((⟨#[]⟩ : ByteArray), 0, 12)) else (if 0 ≤ (wrap64 (bt105.2.1 + 4)) then (if (wrap64 (bt105.2.1 + 4)) ≤ (wrap64 ((wrap64 (bt105.2.1 + 4)) + bt105.1)) then (if (wrap64 ((wrap64 (bt105.2.1 + 4)) + bt105.1)) ≤ (a0.size : Int) then (if 0 ≤ bt105.2.1 then (if bt105.2.1 ≤ (wrap64 (bt105.2.1 + 4)) then (if (wrap64 (bt105.2.1 + 4)) ≤ (a0.size : Int) then ((seal_Sum.f k (a0.extract ((wrap64 (bt105.2.1 + 4)) : Int).toNat ((wrap64 ((wrap64 (bt105.2.1 + 4)) + bt105.1)) : Int).toNat)).bind fun t108 => ((seal_bytes.f k t108).bind fun t109 => (if (a0.extract (bt105.2.1 : Int).toNat ((wrap64 (bt105.2.1 + 4)) : Int).toNat).toList = t109.toList then (some (a0.extract ((wrap64 (bt105.2.1 + 4)) : Int).toNat ((wrap64 ((wrap64 (bt105.2.1 + 4)) + bt105.1)) : Int).toNat, wrap64 ((wrap64 (bt105.2.1 + 4)) + bt105.1), 0)) else (some ((⟨#[]⟩ : ByteArray), 0, 13))))) else (none)) else (none)) else (none)) else (none)) else (none)) else (none)))) else (some ((⟨#[]⟩ : ByteArray), 0, 13))))
theorem seal_Open.mono : ∀ a0 k, LeO (seal_Open.f k a0) (seal_Open.f (k + 1) a0) := by
  intro a0 k
  unfold seal_Open.f
  repeat' first
      | (with_reducible exact cell_TakeNum.mono _ _)
      | (with_reducible exact seal_Sum.mono _ _)
      | (with_reducible exact seal_bytes.mono _ _)
      | (with_reducible exact LeO.refl _)
      | (with_reducible exact LeO.none _)
      | (with_reducible refine LeO.ite ?_ ?_)
      | (with_reducible refine LeO.bind ?_ (fun _ => ?_))
      | exact cell_TakeNum.mono _ _
      | exact seal_Sum.mono _ _
      | exact seal_bytes.mono _ _
      | exact LeO.none _
      | refine LeO.ite ?_ ?_
      | refine LeO.bind ?_ (fun _ => ?_)
def seal_Open.T9 : Bool × List (List Nat × List Nat) := (true, [([], []), ([], []), ([], []), ([2], [2]), ([0, 1, 3], [0, 1, 3]), ([], []), ([5], [5]), ([6, 6], [6]), ([4, 7], [4, 7])])
def seal_Open.B9 : List Nat := [0, 0, 0, 4, 15, 0, 32, 96, 255]
theorem seal_Open.tab9 : rtab .any (opsOf Try.f8 9) = seal_Open.T9 := by kernel_rfl
theorem seal_Open.bits9 : waitsOk seal_Open.T9.2 seal_Open.B9 = true := by kernel_rfl
set_option maxHeartbeats 8000000 in
set_option maxRecDepth 100000 in
theorem seal_Open.calls (k : Nat) (a0 : ByteArray) (r1 : ByteArray) (r2 : Int) (r3 : Int) (w : World) (h : seal_Open.f k a0 = some (r1, r2, r3)) :
    Calls Try.prog 8 #[.string a0] w fun e w' => e = .returned (.tuple #[.string r1, .int .i64 r2, .int .i64 r3]) ∧ Below w.heap.size w w' := by
  have HB := Aside0.mk (Below.refl w.heap.size w)
  have H : ((cell_TakeNum.f k a0).bind fun bt105 => (if bt105.2.2 = 12 then (some ((⟨#[]⟩ : ByteArray), 0, bt105.2.2)) else (if bt105.2.2 = 0 then (if (wrap64 ((a0.size : Int) - bt105.2.1)) < 4 then (some ((⟨#[]⟩ : ByteArray), 0, 12)) else (if bt105.1 > (wrap64 ((wrap64 ((a0.size : Int) - bt105.2.1)) - 4)) then (some ((⟨#[]⟩ : ByteArray), 0, 12)) else (if 0 ≤ (wrap64 (bt105.2.1 + 4)) then (if (wrap64 (bt105.2.1 + 4)) ≤ (wrap64 ((wrap64 (bt105.2.1 + 4)) + bt105.1)) then (if (wrap64 ((wrap64 (bt105.2.1 + 4)) + bt105.1)) ≤ (a0.size : Int) then (if 0 ≤ bt105.2.1 then (if bt105.2.1 ≤ (wrap64 (bt105.2.1 + 4)) then (if (wrap64 (bt105.2.1 + 4)) ≤ (a0.size : Int) then ((seal_Sum.f k (a0.extract ((wrap64 (bt105.2.1 + 4)) : Int).toNat ((wrap64 ((wrap64 (bt105.2.1 + 4)) + bt105.1)) : Int).toNat)).bind fun t108 => ((seal_bytes.f k t108).bind fun t109 => (if (a0.extract (bt105.2.1 : Int).toNat ((wrap64 (bt105.2.1 + 4)) : Int).toNat).toList = t109.toList then (some (a0.extract ((wrap64 (bt105.2.1 + 4)) : Int).toNat ((wrap64 ((wrap64 (bt105.2.1 + 4)) + bt105.1)) : Int).toNat, wrap64 ((wrap64 (bt105.2.1 + 4)) + bt105.1), 0)) else (some ((⟨#[]⟩ : ByteArray), 0, 13))))) else (none)) else (none)) else (none)) else (none)) else (none)) else (none)))) else (some ((⟨#[]⟩ : ByteArray), 0, 13))))) = some (r1, r2, r3) := h
  clear h
  replace H := Option.bind_eq_some_iff.mp H
  obtain ⟨⟨t105, t106, t107⟩, A20, H⟩ := H
  replace H : (if t107 = 12 then (some ((⟨#[]⟩ : ByteArray), 0, t107)) else (if t107 = 0 then (if (wrap64 ((a0.size : Int) - t106)) < 4 then (some ((⟨#[]⟩ : ByteArray), 0, 12)) else (if t105 > (wrap64 ((wrap64 ((a0.size : Int) - t106)) - 4)) then (some ((⟨#[]⟩ : ByteArray), 0, 12)) else (if 0 ≤ (wrap64 (t106 + 4)) then (if (wrap64 (t106 + 4)) ≤ (wrap64 ((wrap64 (t106 + 4)) + t105)) then (if (wrap64 ((wrap64 (t106 + 4)) + t105)) ≤ (a0.size : Int) then (if 0 ≤ t106 then (if t106 ≤ (wrap64 (t106 + 4)) then (if (wrap64 (t106 + 4)) ≤ (a0.size : Int) then ((seal_Sum.f k (a0.extract ((wrap64 (t106 + 4)) : Int).toNat ((wrap64 ((wrap64 (t106 + 4)) + t105)) : Int).toNat)).bind fun t108 => ((seal_bytes.f k t108).bind fun t109 => (if (a0.extract (t106 : Int).toNat ((wrap64 (t106 + 4)) : Int).toNat).toList = t109.toList then (some (a0.extract ((wrap64 (t106 + 4)) : Int).toNat ((wrap64 ((wrap64 (t106 + 4)) + t105)) : Int).toNat, wrap64 ((wrap64 (t106 + 4)) + t105), 0)) else (some ((⟨#[]⟩ : ByteArray), 0, 13))))) else (none)) else (none)) else (none)) else (none)) else (none)) else (none)))) else (some ((⟨#[]⟩ : ByteArray), 0, 13)))) = some (r1, r2, r3) := H
  have A2 := Aside0.mk A20
  clear A20
  by_cases c3 : t107 = 12
  · rw [if_pos c3] at H
    have c3b0 : (t107 == 12) = true := beq_iff_eq.mpr c3
    have c3b1 : (t107 != 12) = false := bne_eq_false_iff_eq.mpr c3
    clear c3
    simp only [Option.some.injEq, Prod.mk.injEq] at H
    obtain ⟨rfl, rfl, rfl⟩ := H
    go_enter Try.func8, Try.ntmps8
    go_wp2_with (first | ((with_reducible refine gate_callee (f := 17) rfl ?_); refine goesL_ (some 11) rfl rfl Try.func17 (by kernel_rfl) rfl #[.string a0] rfl (by (try simp only [List.map_toArray, List.map_cons, List.map_nil]); first | done | rfl | (simp only [List.length_drop, List.length_take]; rfl)) ?_; (with_reducible refine (cell_TakeNum.calls k a0 t105 t106 t107 _ A2.out).mono ?_); rintro e w' ⟨rfl, ⟨nd, rfl⟩⟩; refine ⟨_, rfl, ?_⟩))
    go_ret3
    exact ⟨by first | rfl | (simp [errW_none, errW_some] <;> rfl) | (simp [*, errW_none, errW_some] <;> rfl), by repeat (first | (with_reducible first | exact HB.out | apply below_alloc | apply pw_below_drewN | apply below_drew1) | exact HB.out)⟩
  · rw [if_neg c3] at H
    have c3b0 : (t107 == 12) = false := beq_eq_false_iff_ne.mpr c3
    have c3b1 : (t107 != 12) = true := bne_iff_ne.mpr c3
    by_cases c4 : t107 = 0
    · rw [if_pos c4] at H
      have c4b0 : (t107 == 0) = true := beq_iff_eq.mpr c4
      have c4b1 : (t107 != 0) = false := bne_eq_false_iff_eq.mpr c4
      clear c4
      by_cases c5 : (wrap64 ((a0.size : Int) - t106)) < 4
      · rw [if_pos c5] at H
        have c5b0 : decide ((wrap64 ((a0.size : Int) - t106)) < 4) = true := decide_eq_true c5
        clear c5
        simp only [Option.some.injEq, Prod.mk.injEq] at H
        obtain ⟨rfl, rfl, rfl⟩ := H
        go_enter Try.func8, Try.ntmps8
        go_wp2_with (first | ((with_reducible refine gate_callee (f := 17) rfl ?_); refine goesL_ (some 11) rfl rfl Try.func17 (by kernel_rfl) rfl #[.string a0] rfl (by (try simp only [List.map_toArray, List.map_cons, List.map_nil]); first | done | rfl | (simp only [List.length_drop, List.length_take]; rfl)) ?_; (with_reducible refine (cell_TakeNum.calls k a0 t105 t106 t107 _ A2.out).mono ?_); rintro e w' ⟨rfl, ⟨nd, rfl⟩⟩; refine ⟨_, rfl, ?_⟩))
        go_ret3
        exact ⟨by first | rfl | (simp [errW_none, errW_some] <;> rfl) | (simp [*, errW_none, errW_some] <;> rfl), by repeat (first | (with_reducible first | exact HB.out | apply below_alloc | apply pw_below_drewN | apply below_drew1) | exact HB.out)⟩
      · rw [if_neg c5] at H
        have c5b0 : decide ((wrap64 ((a0.size : Int) - t106)) < 4) = false := decide_eq_false c5
        clear c5
        by_cases c6 : t105 > (wrap64 ((wrap64 ((a0.size : Int) - t106)) - 4))
        · rw [if_pos c6] at H
          have c6b0 : decide ((wrap64 ((wrap64 ((a0.size : Int) - t106)) - 4)) < t105) = true := decide_eq_true c6
          clear c6
          simp only [Option.some.injEq, Prod.mk.injEq] at H
          obtain ⟨rfl, rfl, rfl⟩ := H
          go_enter Try.func8, Try.ntmps8
          go_wp2_with (first | ((with_reducible refine gate_callee (f := 17) rfl ?_); refine goesL_ (some 11) rfl rfl Try.func17 (by kernel_rfl) rfl #[.string a0] rfl (by (try simp only [List.map_toArray, List.map_cons, List.map_nil]); first | done | rfl | (simp only [List.length_drop, List.length_take]; rfl)) ?_; (with_reducible refine (cell_TakeNum.calls k a0 t105 t106 t107 _ A2.out).mono ?_); rintro e w' ⟨rfl, ⟨nd, rfl⟩⟩; refine ⟨_, rfl, ?_⟩))
          go_ret3
          exact ⟨by first | rfl | (simp [errW_none, errW_some] <;> rfl) | (simp [*, errW_none, errW_some] <;> rfl), by repeat (first | (with_reducible first | exact HB.out | apply below_alloc | apply pw_below_drewN | apply below_drew1) | exact HB.out)⟩
        · rw [if_neg c6] at H
          have c6b0 : decide ((wrap64 ((wrap64 ((a0.size : Int) - t106)) - 4)) < t105) = false := decide_eq_false c6
          clear c6
          obtain ⟨ji7, hji7⟩ : ∃ j_ : Int, (wrap64 (t106 + 4)) = j_ := ⟨_, rfl⟩
          replace H : (if 0 ≤ (ji7) then (if (ji7) ≤ (wrap64 ((ji7) + t105)) then (if (wrap64 ((ji7) + t105)) ≤ (a0.size : Int) then (if 0 ≤ t106 then (if t106 ≤ (ji7) then (if (ji7) ≤ (a0.size : Int) then ((seal_Sum.f k (a0.extract ((ji7) : Int).toNat ((wrap64 ((ji7) + t105)) : Int).toNat)).bind fun t108 => ((seal_bytes.f k t108).bind fun t109 => (if (a0.extract (t106 : Int).toNat ((ji7) : Int).toNat).toList = t109.toList then (some (a0.extract ((ji7) : Int).toNat ((wrap64 ((ji7) + t105)) : Int).toNat, wrap64 ((ji7) + t105), 0)) else (some ((⟨#[]⟩ : ByteArray), 0, 13))))) else (none)) else (none)) else (none)) else (none)) else (none)) else (none)) = some (r1, r2, r3) := by first | (rw [hji7] at H; exact H) | (simp only [hji7] at H ⊢; exact H)
          (try rw [hji7] at A2)
          have hji7w : (IntKind.i64.wrap (t106 + 4)) = ji7 := (i64_w _).trans hji7
          by_cases c8 : 0 ≤ (ji7)
          · rw [if_pos c8] at H
            have c8b0 := eq_true c8
            have c8b1 : decide (0 ≤ (ji7)) = true := decide_eq_true c8
            clear c8
            by_cases c9 : (ji7) ≤ (wrap64 ((ji7) + t105))
            · rw [if_pos c9] at H
              have c9b0 := eq_true c9
              have c9b1 : decide ((ji7) ≤ (wrap64 ((ji7) + t105))) = true := decide_eq_true c9
              by_cases c10 : (wrap64 ((ji7) + t105)) ≤ (a0.size : Int)
              · rw [if_pos c10] at H
                have c10b0 := eq_true c10
                have c10b1 : decide ((wrap64 ((ji7) + t105)) ≤ (a0.size : Int)) = true := decide_eq_true c10
                by_cases c11 : 0 ≤ t106
                · rw [if_pos c11] at H
                  have c11b0 := eq_true c11
                  have c11b1 : decide (0 ≤ t106) = true := decide_eq_true c11
                  clear c11
                  by_cases c12 : t106 ≤ (ji7)
                  · rw [if_pos c12] at H
                    have c12b0 := eq_true c12
                    have c12b1 : decide (t106 ≤ (ji7)) = true := decide_eq_true c12
                    clear c12
                    by_cases c13 : (ji7) ≤ (a0.size : Int)
                    · rw [if_pos c13] at H
                      have c13b0 := eq_true c13
                      have c13b1 : decide ((ji7) ≤ (a0.size : Int)) = true := decide_eq_true c13
                      clear c13
                      replace H := Option.bind_eq_some_iff.mp H
                      obtain ⟨t108, A140, H⟩ := H
                      replace H : ((seal_bytes.f k t108).bind fun t109 => (if (a0.extract (t106 : Int).toNat ((ji7) : Int).toNat).toList = t109.toList then (some (a0.extract ((ji7) : Int).toNat ((wrap64 ((ji7) + t105)) : Int).toNat, wrap64 ((ji7) + t105), 0)) else (some ((⟨#[]⟩ : ByteArray), 0, 13)))) = some (r1, r2, r3) := H
                      have A14 := Aside0.mk A140
                      clear A140
                      replace H := Option.bind_eq_some_iff.mp H
                      obtain ⟨t109, A150, H⟩ := H
                      replace H : (if (a0.extract (t106 : Int).toNat ((ji7) : Int).toNat).toList = t109.toList then (some (a0.extract ((ji7) : Int).toNat ((wrap64 ((ji7) + t105)) : Int).toNat, wrap64 ((ji7) + t105), 0)) else (some ((⟨#[]⟩ : ByteArray), 0, 13))) = some (r1, r2, r3) := H
                      have A15 := Aside0.mk A150
                      clear A150
                      by_cases c16 : (a0.extract (t106 : Int).toNat ((ji7) : Int).toNat).toList = t109.toList
                      · rw [if_pos c16] at H
                        have c16b0 : ((a0.extract (t106 : Int).toNat ((ji7) : Int).toNat).toList == t109.toList) = true := beq_iff_eq.mpr c16
                        have c16b1 : ((a0.extract (t106 : Int).toNat ((ji7) : Int).toNat).toList != t109.toList) = false := bne_eq_false_iff_eq.mpr c16
                        clear c16
                        simp only [Option.some.injEq, Prod.mk.injEq] at H
                        obtain ⟨rfl, rfl, rfl⟩ := H
                        go_enter Try.func8, Try.ntmps8
                        try go_wp2_with (first | ((with_reducible refine gate_callee (f := 17) rfl ?_); refine goesL_ (some 11) rfl rfl Try.func17 (by kernel_rfl) rfl #[.string a0] rfl (by (try simp only [List.map_toArray, List.map_cons, List.map_nil]); first | done | rfl | (simp only [List.length_drop, List.length_take]; rfl)) ?_; (with_reducible refine (cell_TakeNum.calls k a0 t105 t106 t107 _ A2.out).mono ?_); rintro e w' ⟨rfl, ⟨nd, rfl⟩⟩; refine ⟨_, rfl, ?_⟩))
                        rw [drewN_self w]
                        generalize hq_ : World.drewN w _ = w17
                        have n0_ : Aside0 (Below w.heap.size w w17) := ⟨by rw [← hq_]; exact (by repeat (first | (with_reducible first | exact HB.out | apply below_alloc | apply pw_below_drewN | apply below_drew1) | exact HB.out))⟩
                        clear HB hq_
                        have HB := n0_
                        clear n0_
                        have n0_ := Aside0.mk (below_drew1 HB.out)
                        clear HB
                        have HB := n0_
                        clear n0_
                        refine start_ (n := 9) (S := fun w' => True) (ds := []) #[false, false, false, false, false, false, false, false, false] (by kernel_rfl) rfl rfl trivial (fun hHeld => ?_); refine with_tabW seal_Open.tab9 seal_Open.bits9 (fun HT_ HW_ => ?_)
                        generalize w17.drew = w18 at HB hHeld ⊢
                        refine pure_ (i := 0) (N := some 45) (v := ?_) (a' := ?_) #[true, false, false, false, false, false, false, false, false] rfl rfl (any_of HT_.out (by kernel_rfl)) (fun _ _ _ h => h) (Or.inl ⟨by rfl, ?_⟩) ?_ ?_
                        rotate_left
                        · intro w'
                          go_simp
                          with_reducible rfl
                        rotate_left
                        · simp only [Act.put, List.setIfInBounds_toArray, List.set_cons_zero, List.set_cons_succ, i64_w, i32_w]
                          rfl
                        refine pure_ (i := 1) (N := some 46) (v := ?_) (a' := ?_) #[true, true, false, false, false, false, false, false, false] rfl rfl (any_of HT_.out (by kernel_rfl)) (fun _ _ _ h => h) (Or.inl ⟨by rfl, ?_⟩) ?_ ?_
                        rotate_left
                        · intro w'
                          go_simp
                          with_reducible rfl
                        rotate_left
                        · simp only [Act.put, List.setIfInBounds_toArray, List.set_cons_zero, List.set_cons_succ, i64_w, i32_w]
                          rfl
                        refine pure_ (i := 2) (N := some 47) (v := ?_) (a' := ?_) #[true, true, true, false, false, false, false, false, false] rfl rfl (any_of HT_.out (by kernel_rfl)) (fun _ _ _ h => h) (Or.inl ⟨by rfl, ?_⟩) ?_ ?_
                        rotate_left
                        · intro w'
                          go_simp
                          with_reducible rfl
                        rotate_left
                        · simp only [Act.put, List.setIfInBounds_toArray, List.set_cons_zero, List.set_cons_succ, i64_w, i32_w]
                          rfl
                        refine pure_ (i := 3) (N := some 48) (v := ?_) (a' := ?_) #[true, true, true, true, false, false, false, false, false] rfl rfl (any_of HT_.out (by kernel_rfl)) (fun _ _ _ h => h) (Or.inl ⟨by rfl, ?_⟩) ?_ ?_
                        rotate_left
                        · intro w'
                          go_simp
                          with_reducible rfl
                        rotate_left
                        · simp only [Act.put, List.setIfInBounds_toArray, List.set_cons_zero, List.set_cons_succ, i64_w, i32_w]
                          rfl
                        refine pure_ (i := 4) (N := some 49) (v := ?_) (a' := ?_) #[true, true, true, true, true, false, false, false, false] rfl rfl (any_of HT_.out (by kernel_rfl)) (fun _ _ _ h => h) (Or.inl ⟨by rfl, ?_⟩) ?_ ?_
                        rotate_left
                        · intro w'
                          go_simp
                          with_reducible rfl
                        rotate_left
                        · simp only [Act.put, List.setIfInBounds_toArray, List.set_cons_zero, List.set_cons_succ, i64_w, i32_w]
                          rfl
                        refine pure_ (i := 5) (N := some 50) (v := ?_) (a' := ?_) #[true, true, true, true, true, true, false, false, false] rfl rfl (any_of HT_.out (by kernel_rfl)) (fun _ _ _ h => h) (Or.inl ⟨by rfl, ?_⟩) ?_ ?_
                        rotate_left
                        · intro w'
                          go_simp
                          with_reducible rfl
                        rotate_left
                        · simp only [Act.put, List.setIfInBounds_toArray, List.set_cons_zero, List.set_cons_succ, i64_w, i32_w]
                          rfl
                        refine one_ (i := 6) (N := some 51) #[true, true, true, true, true, true, true, false, false] rfl rfl (one_of HT_.out (by kernel_rfl)) (by decide) (fun K hK => ?_)
                        refine goes_ Try.func12 (by kernel_rfl) rfl #[.string (a0.extract ((ji7) : Int).toNat ((wrap64 ((ji7) + t105)) : Int).toNat)] (by rfl) rfl rfl (by (try simp only [List.map_toArray, List.map_cons, List.map_nil]); first | done | (simp only [hji7]; rfl) | rfl | (simp only [List.length_drop, List.length_take]; rfl)) ?_
                        with_reducible refine (seal_Sum.calls k (a0.extract ((ji7) : Int).toNat ((wrap64 ((ji7) + t105)) : Int).toNat) t108 _ A14.out).mono ?_
                        rintro e w' ⟨rfl, ⟨nd, rfl⟩⟩
                        refine ⟨_, rfl, ?_⟩
                        refine hK.out _ _ trivial (fun hHeld => ?_)
                        clear hK K
                        refine norm_ (a' := ?_) ?_ ?_
                        rotate_left
                        · show Act.put _ (some 51) _ = _
                          simp only [Act.put, List.setIfInBounds_toArray, List.set_cons_zero, List.set_cons_succ, i64_w, i32_w]
                          rfl
                        refine one_ (i := 7) (N := some 52) #[true, true, true, true, true, true, true, true, false] rfl rfl (one_of HT_.out (by kernel_rfl)) (by decide) (fun K hK => ?_)
                        refine goes_ Try.func18 (by kernel_rfl) rfl #[.int .u32 t108] (by rfl) rfl rfl (by (try simp only [List.map_toArray, List.map_cons, List.map_nil]); first | done | rfl | (simp only [List.length_drop, List.length_take]; rfl)) ?_
                        with_reducible refine (seal_bytes.calls k t108 t109 _ A15.out).mono ?_
                        rintro e w19 ⟨rfl, hb⟩
                        refine ⟨_, rfl, ?_⟩
                        have n0_ := Aside0.mk (below_step (by repeat (first | (with_reducible first | exact HB.out | apply below_alloc | apply pw_below_drewN | apply below_drew1) | exact HB.out)) hb)
                        clear HB
                        have HB := n0_
                        clear n0_
                        (try clear hb)
                        (try clear hb2)
                        (try clear hk)
                        (try clear hi)
                        refine hK.out _ _ trivial (fun hHeld => ?_)
                        clear hK K
                        refine norm_ (a' := ?_) ?_ ?_
                        rotate_left
                        · show Act.put _ (some 52) _ = _
                          simp only [Act.put, List.setIfInBounds_toArray, List.set_cons_zero, List.set_cons_succ, i64_w, i32_w]
                          rfl
                        refine pure_ (i := 8) (N := some 53) (v := ?_) (a' := ?_) #[true, true, true, true, true, true, true, true, true] rfl rfl (any_of HT_.out (by kernel_rfl)) (fun _ _ _ h => h) (Or.inl ⟨by rfl, ?_⟩) ?_ ?_
                        rotate_left
                        · intro w'
                          go_simp
                          with_reducible rfl
                        rotate_left
                        · simp only [Act.put, List.setIfInBounds_toArray, List.set_cons_zero, List.set_cons_succ, i64_w, i32_w]
                          rfl
                        refine done_ (done_of HT_.out (by kernel_rfl)) ?_
                        try go_wp2
                        go_ret3
                        exact ⟨by first | rfl | (simp [errW_none, errW_some] <;> rfl) | (simp only [← hji7]; first | rfl | (simp [errW_none, errW_some] <;> rfl)) | (simp [*, errW_none, errW_some] <;> rfl), by repeat (first | (with_reducible first | exact HB.out | apply below_alloc | apply pw_below_drewN | apply below_drew1) | exact HB.out)⟩
                      · rw [if_neg c16] at H
                        have c16b0 : ((a0.extract (t106 : Int).toNat ((ji7) : Int).toNat).toList == t109.toList) = false := beq_eq_false_iff_ne.mpr c16
                        have c16b1 : ((a0.extract (t106 : Int).toNat ((ji7) : Int).toNat).toList != t109.toList) = true := bne_iff_ne.mpr c16
                        simp only [Option.some.injEq, Prod.mk.injEq] at H
                        obtain ⟨rfl, rfl, rfl⟩ := H
                        go_enter Try.func8, Try.ntmps8
                        try go_wp2_with (first | ((with_reducible refine gate_callee (f := 17) rfl ?_); refine goesL_ (some 11) rfl rfl Try.func17 (by kernel_rfl) rfl #[.string a0] rfl (by (try simp only [List.map_toArray, List.map_cons, List.map_nil]); first | done | rfl | (simp only [List.length_drop, List.length_take]; rfl)) ?_; (with_reducible refine (cell_TakeNum.calls k a0 t105 t106 t107 _ A2.out).mono ?_); rintro e w' ⟨rfl, ⟨nd, rfl⟩⟩; refine ⟨_, rfl, ?_⟩))
                        rw [drewN_self w]
                        generalize hq_ : World.drewN w _ = w20
                        have n0_ : Aside0 (Below w.heap.size w w20) := ⟨by rw [← hq_]; exact (by repeat (first | (with_reducible first | exact HB.out | apply below_alloc | apply pw_below_drewN | apply below_drew1) | exact HB.out))⟩
                        clear HB hq_
                        have HB := n0_
                        clear n0_
                        have n0_ := Aside0.mk (below_drew1 HB.out)
                        clear HB
                        have HB := n0_
                        clear n0_
                        refine start_ (n := 9) (S := fun w' => True) (ds := []) #[false, false, false, false, false, false, false, false, false] (by kernel_rfl) rfl rfl trivial (fun hHeld => ?_); refine with_tabW seal_Open.tab9 seal_Open.bits9 (fun HT_ HW_ => ?_)
                        generalize w20.drew = w21 at HB hHeld ⊢
                        refine pure_ (i := 0) (N := some 45) (v := ?_) (a' := ?_) #[true, false, false, false, false, false, false, false, false] rfl rfl (any_of HT_.out (by kernel_rfl)) (fun _ _ _ h => h) (Or.inl ⟨by rfl, ?_⟩) ?_ ?_
                        rotate_left
                        · intro w'
                          go_simp
                          with_reducible rfl
                        rotate_left
                        · simp only [Act.put, List.setIfInBounds_toArray, List.set_cons_zero, List.set_cons_succ, i64_w, i32_w]
                          rfl
                        refine pure_ (i := 1) (N := some 46) (v := ?_) (a' := ?_) #[true, true, false, false, false, false, false, false, false] rfl rfl (any_of HT_.out (by kernel_rfl)) (fun _ _ _ h => h) (Or.inl ⟨by rfl, ?_⟩) ?_ ?_
                        rotate_left
                        · intro w'
                          go_simp
                          with_reducible rfl
                        rotate_left
                        · simp only [Act.put, List.setIfInBounds_toArray, List.set_cons_zero, List.set_cons_succ, i64_w, i32_w]
                          rfl
                        refine pure_ (i := 2) (N := some 47) (v := ?_) (a' := ?_) #[true, true, true, false, false, false, false, false, false] rfl rfl (any_of HT_.out (by kernel_rfl)) (fun _ _ _ h => h) (Or.inl ⟨by rfl, ?_⟩) ?_ ?_
                        rotate_left
                        · intro w'
                          go_simp
                          with_reducible rfl
                        rotate_left
                        · simp only [Act.put, List.setIfInBounds_toArray, List.set_cons_zero, List.set_cons_succ, i64_w, i32_w]
                          rfl
                        refine pure_ (i := 3) (N := some 48) (v := ?_) (a' := ?_) #[true, true, true, true, false, false, false, false, false] rfl rfl (any_of HT_.out (by kernel_rfl)) (fun _ _ _ h => h) (Or.inl ⟨by rfl, ?_⟩) ?_ ?_
                        rotate_left
                        · intro w'
                          go_simp
                          with_reducible rfl
                        rotate_left
                        · simp only [Act.put, List.setIfInBounds_toArray, List.set_cons_zero, List.set_cons_succ, i64_w, i32_w]
                          rfl
                        refine pure_ (i := 4) (N := some 49) (v := ?_) (a' := ?_) #[true, true, true, true, true, false, false, false, false] rfl rfl (any_of HT_.out (by kernel_rfl)) (fun _ _ _ h => h) (Or.inl ⟨by rfl, ?_⟩) ?_ ?_
                        rotate_left
                        · intro w'
                          go_simp
                          with_reducible rfl
                        rotate_left
                        · simp only [Act.put, List.setIfInBounds_toArray, List.set_cons_zero, List.set_cons_succ, i64_w, i32_w]
                          rfl
                        refine pure_ (i := 5) (N := some 50) (v := ?_) (a' := ?_) #[true, true, true, true, true, true, false, false, false] rfl rfl (any_of HT_.out (by kernel_rfl)) (fun _ _ _ h => h) (Or.inl ⟨by rfl, ?_⟩) ?_ ?_
                        rotate_left
                        · intro w'
                          go_simp
                          with_reducible rfl
                        rotate_left
                        · simp only [Act.put, List.setIfInBounds_toArray, List.set_cons_zero, List.set_cons_succ, i64_w, i32_w]
                          rfl
                        refine one_ (i := 6) (N := some 51) #[true, true, true, true, true, true, true, false, false] rfl rfl (one_of HT_.out (by kernel_rfl)) (by decide) (fun K hK => ?_)
                        refine goes_ Try.func12 (by kernel_rfl) rfl #[.string (a0.extract ((ji7) : Int).toNat ((wrap64 ((ji7) + t105)) : Int).toNat)] (by rfl) rfl rfl (by (try simp only [List.map_toArray, List.map_cons, List.map_nil]); first | done | (simp only [hji7]; rfl) | rfl | (simp only [List.length_drop, List.length_take]; rfl)) ?_
                        with_reducible refine (seal_Sum.calls k (a0.extract ((ji7) : Int).toNat ((wrap64 ((ji7) + t105)) : Int).toNat) t108 _ A14.out).mono ?_
                        rintro e w' ⟨rfl, ⟨nd, rfl⟩⟩
                        refine ⟨_, rfl, ?_⟩
                        refine hK.out _ _ trivial (fun hHeld => ?_)
                        clear hK K
                        refine norm_ (a' := ?_) ?_ ?_
                        rotate_left
                        · show Act.put _ (some 51) _ = _
                          simp only [Act.put, List.setIfInBounds_toArray, List.set_cons_zero, List.set_cons_succ, i64_w, i32_w]
                          rfl
                        refine one_ (i := 7) (N := some 52) #[true, true, true, true, true, true, true, true, false] rfl rfl (one_of HT_.out (by kernel_rfl)) (by decide) (fun K hK => ?_)
                        refine goes_ Try.func18 (by kernel_rfl) rfl #[.int .u32 t108] (by rfl) rfl rfl (by (try simp only [List.map_toArray, List.map_cons, List.map_nil]); first | done | rfl | (simp only [List.length_drop, List.length_take]; rfl)) ?_
                        with_reducible refine (seal_bytes.calls k t108 t109 _ A15.out).mono ?_
                        rintro e w22 ⟨rfl, hb⟩
                        refine ⟨_, rfl, ?_⟩
                        have n0_ := Aside0.mk (below_step (by repeat (first | (with_reducible first | exact HB.out | apply below_alloc | apply pw_below_drewN | apply below_drew1) | exact HB.out)) hb)
                        clear HB
                        have HB := n0_
                        clear n0_
                        (try clear hb)
                        (try clear hb2)
                        (try clear hk)
                        (try clear hi)
                        refine hK.out _ _ trivial (fun hHeld => ?_)
                        clear hK K
                        refine norm_ (a' := ?_) ?_ ?_
                        rotate_left
                        · show Act.put _ (some 52) _ = _
                          simp only [Act.put, List.setIfInBounds_toArray, List.set_cons_zero, List.set_cons_succ, i64_w, i32_w]
                          rfl
                        refine pure_ (i := 8) (N := some 53) (v := ?_) (a' := ?_) #[true, true, true, true, true, true, true, true, true] rfl rfl (any_of HT_.out (by kernel_rfl)) (fun _ _ _ h => h) (Or.inl ⟨by rfl, ?_⟩) ?_ ?_
                        rotate_left
                        · intro w'
                          go_simp
                          with_reducible rfl
                        rotate_left
                        · simp only [Act.put, List.setIfInBounds_toArray, List.set_cons_zero, List.set_cons_succ, i64_w, i32_w]
                          rfl
                        refine done_ (done_of HT_.out (by kernel_rfl)) ?_
                        try go_wp2
                        go_ret3
                        exact ⟨by first | rfl | (simp [errW_none, errW_some] <;> rfl) | (simp only [← hji7]; first | rfl | (simp [errW_none, errW_some] <;> rfl)) | (simp [*, errW_none, errW_some] <;> rfl), by repeat (first | (with_reducible first | exact HB.out | apply below_alloc | apply pw_below_drewN | apply below_drew1) | exact HB.out)⟩
                    · rw [if_neg c13] at H
                      exact absurd H (by simp)
                  · rw [if_neg c12] at H
                    exact absurd H (by simp)
                · rw [if_neg c11] at H
                  exact absurd H (by simp)
              · rw [if_neg c10] at H
                exact absurd H (by simp)
            · rw [if_neg c9] at H
              exact absurd H (by simp)
          · rw [if_neg c8] at H
            exact absurd H (by simp)
    · rw [if_neg c4] at H
      have c4b0 : (t107 == 0) = false := beq_eq_false_iff_ne.mpr c4
      have c4b1 : (t107 != 0) = true := bne_iff_ne.mpr c4
      simp only [Option.some.injEq, Prod.mk.injEq] at H
      obtain ⟨rfl, rfl, rfl⟩ := H
      go_enter Try.func8, Try.ntmps8
      go_wp2_with (first | ((with_reducible refine gate_callee (f := 17) rfl ?_); refine goesL_ (some 11) rfl rfl Try.func17 (by kernel_rfl) rfl #[.string a0] rfl (by (try simp only [List.map_toArray, List.map_cons, List.map_nil]); first | done | rfl | (simp only [List.length_drop, List.length_take]; rfl)) ?_; (with_reducible refine (cell_TakeNum.calls k a0 t105 t106 t107 _ A2.out).mono ?_); rintro e w' ⟨rfl, ⟨nd, rfl⟩⟩; refine ⟨_, rfl, ?_⟩))
      go_ret3
      exact ⟨by first | rfl | (simp [errW_none, errW_some] <;> rfl) | (simp [*, errW_none, errW_some] <;> rfl), by repeat (first | (with_reducible first | exact HB.out | apply below_alloc | apply pw_below_drewN | apply below_drew1) | exact HB.out)⟩

end Go.Proofs.Ythlndkbdonoefaa.P
