-- Printed by a changed copy of the kit's printer (wip/tools/ext.py); labels and more
import Derived.Test.YtkmbgihfdfgmgaaQShort
import Derived.Test.YtkmbgihfdfgmgaaM0
import Derived.Test.YtkmbgihfdfgmgaaM2
import Derived.Test.YtkmbgihfdfgmgaaM3
import Derived.Test.YtkmbgihfdfgmgaaM4
namespace Go.Proofs.Ytkmbgihfdfgmgaa.P
open Go.RowKit Go.Proofs.YtkmbgihfdfgmgaaW.PrintWords Go.Proofs.YtkmbgihfdfgmgaaW.PrintLast Go.Proofs.YtkmbgihfdfgmgaaW.PrintMore
attribute [local go_sem] max2_int min2_int max_two min_two max_three min_three max_four min_four   -- for this text's walks alone
attribute [local go_sem high] string_leq string_geq string_gtr
set_option linter.unusedVariables false
set_option linter.unusedSimpArgs false

abbrev mkPx7_0 : Array Bool := #[false, false, false, false, false, false, false, false, false, false, false, false, false, false, false, false, false]
abbrev mkPx7_1 : Array Bool := #[true, false, false, false, false, false, false, false, false, false, false, false, false, false, false, false, false]
abbrev mkPx7_2 : Array Bool := #[true, true, false, false, false, false, false, false, false, false, false, false, false, false, false, false, false]
abbrev mkPx7_3 : Array Bool := #[true, true, true, false, false, false, false, false, false, false, false, false, false, false, false, false, false]
abbrev mkPx7_4 : Array Bool := #[true, true, true, true, false, false, false, false, false, false, false, false, false, false, false, false, false]
abbrev mkPx7_5 : Array Bool := #[true, true, true, true, true, false, false, false, false, false, false, false, false, false, false, false, false]
abbrev mkPx7_6 : Array Bool := #[true, true, true, true, true, true, false, false, false, false, false, false, false, false, false, false, false]
abbrev mkPx7_7 : Array Bool := #[true, true, true, true, true, true, true, false, false, false, false, false, false, false, false, false, false]
abbrev mkPx7_8 : Array Bool := #[true, true, true, true, true, true, true, true, false, false, false, false, false, false, false, false, false]
abbrev mkPx7_9 : Array Bool := #[true, true, true, true, true, true, true, true, true, false, false, false, false, false, false, false, false]
abbrev mkPx7_10 : Array Bool := #[true, true, true, true, true, true, true, true, true, true, false, false, false, false, false, false, false]
abbrev mkPx7_11 : Array Bool := #[true, true, true, true, true, true, true, true, true, true, true, false, false, false, false, false, false]
abbrev mkPx7_12 : Array Bool := #[true, true, true, true, true, true, true, true, true, true, true, true, false, false, false, false, false]
abbrev mkPx7_13 : Array Bool := #[true, true, true, true, true, true, true, true, true, true, true, true, true, false, false, false, false]
abbrev mkPx7_14 : Array Bool := #[true, true, true, true, true, true, true, true, true, true, true, true, true, true, false, false, false]
abbrev mkPx7_15 : Array Bool := #[true, true, true, true, true, true, true, true, true, true, true, true, true, true, true, false, false]
abbrev mkPx7_16 : Array Bool := #[true, true, true, true, true, true, true, true, true, true, true, true, true, true, true, true, false]
abbrev mkPx7_17 : Array Bool := #[true, true, true, true, true, true, true, true, true, true, true, true, true, true, true, true, true]
abbrev mkPx7_18 : Array Bool := #[true, true, true, true, true, true, true, true, true, false, true, false, false, false, false, false, false]
abbrev mkPx7_19 : Array Bool := #[true, true, true, true, true, true, true, true, true, false, true, true, false, false, false, false, false]
abbrev mkPx7_20 : Array Bool := #[true, true, true, true, true, true, true, true, true, false, true, true, true, false, false, false, false]
abbrev mkPx7_21 : Array Bool := #[false, false, false, false, false, false, false, false, false, false, false, false]
abbrev mkPx7_22 : Array Bool := #[true, false, false, false, false, false, false, false, false, false, false, false]
abbrev mkPx7_23 : Array Bool := #[true, true, false, false, false, false, false, false, false, false, false, false]
abbrev mkPx7_24 : Array Bool := #[true, true, true, false, false, false, false, false, false, false, false, false]
abbrev mkPx7_25 : Array Bool := #[true, true, true, false, true, false, false, false, false, false, false, false]
abbrev mkPx7_26 : Array Bool := #[true, true, true, false, true, true, false, false, false, false, false, false]
abbrev mkPx7_27 : Array Bool := #[true, true, true, false, true, true, true, false, false, false, false, false]
abbrev mkPx7_28 : Array Bool := #[true, true, true, true, true, true, true, false, false, false, false, false]
abbrev mkPx7_29 : Array Bool := #[true, true, true, true, true, true, true, true, false, false, false, false]
abbrev mkPx7_30 : Array Bool := #[true, true, true, true, true, true, true, true, true, false, false, false]
abbrev mkPx7_31 : Array Bool := #[true, true, true, true, true, true, true, true, true, true, false, false]
abbrev mkPx7_32 : Array Bool := #[true, true, true, true, true, true, true, true, true, true, true, false]
abbrev mkPx7_33 : Array Bool := #[true, true, true, true, true, true, true, true, true, true, true, true]
/-! ### item_take: function 25 -/
def item_take.f (k : Nat) (s0_0 : ByteArray) (s0_1 : Int) (s0_2 : Int) : Option (Int × Int × Int × Bool × (List (S39)) × ByteArray × Int × Int) := (entry_Taker_Num.f k s0_0 s0_1 s0_2).bind fun bt179 => ((entry_Taker_Num.f k bt179.2.1 bt179.2.2.1 bt179.2.2.2).bind fun bt183 => ((entry_Taker_Num.f k bt183.2.1 bt183.2.2.1 bt183.2.2.2).bind fun bt187 => (if bt187.2.2.2 = 0 then (if bt187.2.2.1 ≥ (bt187.2.1.size : Int) then (some (bt179.1, bt183.1, bt187.1, false, ([] : List (S39)), bt187.2.1, bt187.2.2.1, bt187.2.2.2)) else (if 0 ≤ bt187.2.2.1 then (if bt187.2.2.1 < (bt187.2.1.size : Int) then ((batch_Take.f k bt187.2.1 (wrap64 (bt187.2.2.1 + 1)) bt187.2.2.2).bind fun bt192 => (some (bt179.1, bt183.1, bt187.1, ((bt bt187.2.1 bt187.2.2.1) == 1), bt192.1, bt192.2.1, bt192.2.2.1, bt192.2.2.2))) else (none)) else (none))) else (some (bt179.1, bt183.1, bt187.1, false, ([] : List (S39)), bt187.2.1, bt187.2.2.1, bt187.2.2.2)))))
theorem item_take.mono : ∀ a0 a1 a2 k, LeO (item_take.f k a0 a1 a2) (item_take.f (k + 1) a0 a1 a2) := by
  intro a0 a1 a2 k
  unfold item_take.f
  repeat' first
      | (with_reducible exact batch_Take.mono _ _ _ _)
      | (with_reducible exact entry_Taker_Num.mono _ _ _ _)
      | (with_reducible exact LeO.refl _)
      | (with_reducible exact LeO.none _)
      | (with_reducible refine LeO.ite ?_ ?_)
      | (with_reducible refine LeO.bind ?_ (fun _ => ?_))
      | exact batch_Take.mono _ _ _ _
      | exact entry_Taker_Num.mono _ _ _ _
      | exact LeO.none _
      | refine LeO.ite ?_ ?_
      | refine LeO.bind ?_ (fun _ => ?_)
def item_take.T2 : Bool × List (List Nat × List Nat) := (true, [([], []), ([0], [0]), ([1], [1]), ([2], [2]), ([3], [3]), ([4], [4]), ([5], [5]), ([6, 5], [5, 6]), ([7, 5], [5, 7]), ([8, 5], [5, 8]), ([5], [5]), ([10, 5], [5, 10]), ([11, 5], [5, 11]), ([12, 5], [5, 12]), ([13, 5], [5, 13]), ([9, 14, 5], [5, 9, 14]), ([5, 15], [5, 15])])
def item_take.B2 : List Nat := [0, 1, 3, 7, 15, 31, 63, 127, 255, 511, 63, 1087, 3135, 7231, 15423, 32767, 65535]
theorem item_take.tab2 : rtab .any (opsOf Try.f25 2) = item_take.T2 := by kernel_rfl
theorem item_take.bits2 : waitsOk item_take.T2.2 item_take.B2 = true := by kernel_rfl
def item_take.T4 : Bool × List (List Nat × List Nat) := (true, [([], []), ([0], [0]), ([1], [1]), ([2], [2]), ([], []), ([4], [4]), ([5], [5]), ([6], [6]), ([3, 7], [3, 7]), ([8], [8]), ([0, 1, 2, 3, 4, 5, 6, 7, 8, 9], []), ([10, 9, 0, 1, 2, 3, 4, 5, 6, 7, 8, 9], [9, 10])])
def item_take.B4 : List Nat := [0, 1, 3, 7, 0, 16, 48, 112, 255, 511, 1023, 2047]
theorem item_take.tab4 : rtab .any (opsOf Try.f25 4) = item_take.T4 := by kernel_rfl
theorem item_take.bits4 : waitsOk item_take.T4.2 item_take.B4 = true := by kernel_rfl
set_option maxHeartbeats 8000000 in
set_option maxRecDepth 100000 in
theorem item_take.calls (k : Nat) (g : Nat) (s0_0 : ByteArray) (s0_1 : Int) (s0_2 : Int) (r1 : Int) (r2 : Int) (r3 : Int) (r4 : Bool) (r5 : List (S39)) (r6 : ByteArray) (r7 : Int) (r8 : Int) (w0 w : World) (hI : IsS55 w0 w g s0_0 s0_1 s0_2) (hB : Below w0.heap.size w0 w) (h : item_take.f k s0_0 s0_1 s0_2 = some (r1, r2, r3, r4, r5, r6, r7, r8)) :
    Calls Try.prog 25 #[.pointer (some ⟨g, 0, none⟩)] w fun e w' => ∃ v4_ : Value, e = .returned (.agg #[.int .i64 r1, .int .i64 r2, .int .i64 r3, .bool r4, v4_]) ∧ Kd.R k39 39 w' w.heap.size (fun _ => True) v4_ r5 ∧ IsS55 w0 w' g r6 r7 r8 ∧ Below w0.heap.size w0 w' ∧ KeepBut w w' g none := by
  have hu24 := Try.underlying24
  have HI0 := Aside0.mk hI
  have HK := Aside0.mk (KeepBut.refl w g none)
  have HL := Aside0.mk hB.size
  clear hI
  have HW0 := Aside0.mk hB.size
  have HB := Aside0.mk hB
  clear hB
  have H : ((entry_Taker_Num.f k s0_0 s0_1 s0_2).bind fun bt179 => ((entry_Taker_Num.f k bt179.2.1 bt179.2.2.1 bt179.2.2.2).bind fun bt183 => ((entry_Taker_Num.f k bt183.2.1 bt183.2.2.1 bt183.2.2.2).bind fun bt187 => (if bt187.2.2.2 = 0 then (if bt187.2.2.1 ≥ (bt187.2.1.size : Int) then (some (bt179.1, bt183.1, bt187.1, false, ([] : List (S39)), bt187.2.1, bt187.2.2.1, bt187.2.2.2)) else (if 0 ≤ bt187.2.2.1 then (if bt187.2.2.1 < (bt187.2.1.size : Int) then ((batch_Take.f k bt187.2.1 (wrap64 (bt187.2.2.1 + 1)) bt187.2.2.2).bind fun bt192 => (some (bt179.1, bt183.1, bt187.1, ((bt bt187.2.1 bt187.2.2.1) == 1), bt192.1, bt192.2.1, bt192.2.2.1, bt192.2.2.2))) else (none)) else (none))) else (some (bt179.1, bt183.1, bt187.1, false, ([] : List (S39)), bt187.2.1, bt187.2.2.1, bt187.2.2.2)))))) = some (r1, r2, r3, r4, r5, r6, r7, r8) := h
  clear h
  replace H := Option.bind_eq_some_iff.mp H
  obtain ⟨⟨t179, t180, t181, t182⟩, A20, H⟩ := H
  try dsimp only at H
  have A2 := Aside0.mk A20
  clear A20
  replace H := Option.bind_eq_some_iff.mp H
  obtain ⟨⟨t183, t184, t185, t186⟩, A30, H⟩ := H
  try dsimp only at H
  have A3 := Aside0.mk A30
  clear A30
  replace H := Option.bind_eq_some_iff.mp H
  obtain ⟨⟨t187, t188, t189, t190⟩, A40, H⟩ := H
  try dsimp only at H
  have A4 := Aside0.mk A40
  clear A40
  by_cases c5 : t190 = 0
  rotate_left
  · rw [if_neg c5] at H
    have c5b0 : (t190 == 0) = false := beq_eq_false_iff_ne.mpr c5
    have c5b1 : (t190 != 0) = true := bne_iff_ne.mpr c5
    simp only [Option.some.injEq, Prod.mk.injEq] at H
    obtain ⟨rfl, rfl, rfl, rfl, rfl, rfl, rfl, rfl⟩ := H
    go_enter Try.func25, Try.ntmps25
    try go_wp2_with (first | ((with_reducible refine gate_dst (N := 2) rfl ?_); (try (refine gate_guard (by rfl) ?_; dsimp only)); refine box_event ?hg (N := 2) ?hd (cs := #[.int .i64 0, .int .i64 0, .int .i64 0, .bool false, .slice none 0 0]) (t := 24) ?hr ?_; (case hd => rfl); (case hg => rfl); (case hr => first | (go_simp; done) | (go_simp; rfl)); intro gb178 hg w42 hbox hb; have n0_ := Aside0.mk (IsS55.below (by repeat (first | (with_reducible first | exact HI0.out | apply IsS55.alloc | apply IsS55.drewN | apply IsS55.drew | apply IsS55.set_0 | apply IsS55.set_1 | apply IsS55.set_2) | exact HI0.out)) hb); have n1_ := Aside0.mk (KeepBut.trans (by repeat (first | (with_reducible first | exact HK.out | apply KeepBut.set_ | apply keep_drewN | apply keep_drew | apply keep_alloc) | exact HK.out)) (KeepBut.of_below hb g none) (.inl rfl)); have n2_ := Aside0.mk (below_step (by repeat (first | (with_reducible first | exact HB.out | apply below_alloc | apply pw_below_drewN | apply below_drew1 | refine below_set ?_ (IsS55.ge HI0.out)) | exact HB.out)) hb); have n3_ := Aside0.mk (hbox); have n4_ := Aside0.mk ((by rw [hg]; exact (keep_size (w := w) (g := g) (row := none) (by repeat (first | (with_reducible first | exact HK.out | apply KeepBut.set_ | apply keep_drewN | apply keep_drew | apply keep_alloc) | exact HK.out))) : w.heap.size ≤ gb178)); have n5_ := Aside0.mk ((Nat.le_trans HW0.out (by rw [hg]; exact (keep_size (w := w) (g := g) (row := none) (by repeat (first | (with_reducible first | exact HK.out | apply KeepBut.set_ | apply keep_drewN | apply keep_drew | apply keep_alloc) | exact HK.out))) : w.heap.size ≤ gb178) : w0.heap.size ≤ gb178)); have n6_ := Aside0.mk ((by rw [hg]; exact Nat.ne_of_lt (IsS55.lt (show IsS55 w0 _ g s0_0 s0_1 s0_2 from by repeat (first | (with_reducible first | exact HI0.out | apply IsS55.alloc | apply IsS55.drewN | apply IsS55.drew | apply IsS55.set_0 | apply IsS55.set_1 | apply IsS55.set_2) | exact HI0.out))) : g ≠ gb178)); have n7_ := Aside0.mk ((by rw [hg]; exact Nat.ne_of_gt (IsS55.lt (show IsS55 w0 _ g s0_0 s0_1 s0_2 from by repeat (first | (with_reducible first | exact HI0.out | apply IsS55.alloc | apply IsS55.drewN | apply IsS55.drew | apply IsS55.set_0 | apply IsS55.set_1 | apply IsS55.set_2) | exact HI0.out))) : gb178 ≠ g)); clear HI0; clear HK; clear HB; have HI0 := n0_; have HK := n1_; have HB := n2_; have BK178 := n3_; have GW178 := n4_; have GE178 := n5_; have NB0_178 := n6_; have NB178_0 := n7_; clear n0_ n1_ n2_ n3_ n4_ n5_ n6_ n7_; clear hb hbox hg) | ((with_reducible refine gate_callee (f := 43) rfl ?_); refine goesL_ (some 5) rfl rfl Try.func43 (by kernel_rfl) rfl #[.pointer (some ⟨g, 0, none⟩)] rfl (by (try simp only [maps_]); first | done | rfl) ?_; (with_reducible refine (entry_Taker_Num.calls k g s0_0 s0_1 s0_2 t179 t180 t181 t182 w0 _ ?side1 ?side2 A2.out).mono ?_); (case side1 => repeat (first | (with_reducible first | exact HI0.out | apply IsS55.alloc | apply IsS55.drewN | apply IsS55.drew | apply IsS55.set_0 | apply IsS55.set_1 | apply IsS55.set_2 | apply IsS55.far (hne := NB0_178.out)) | exact HI0.out)); (case side2 => repeat (first | (with_reducible first | exact HB.out | apply below_alloc | apply pw_below_drewN | apply below_drew1 | refine below_set ?_ (IsS55.ge HI0.out) | refine below_set ?_ GE178.out) | exact HB.out)); rintro e w43 ⟨rfl, hi, hb, hk⟩; refine ⟨_, rfl, ?_⟩; have n0_ := Aside0.mk (KeepBut.blk hk (g' := gb178) (o := .cells #[.int .i64 0, .int .i64 0, .int .i64 0, .bool false, .slice none 0 0] 24 (0, 0)) (gb_ BK178) NB178_0.out (by simp)); have n1_ := Aside0.mk (KeepBut.trans (by repeat (first | (with_reducible first | exact HK.out | apply KeepBut.set_ | apply keep_drewN | apply keep_drew | apply keep_alloc | refine keep_far ?_ GW178.out _) | exact HK.out)) hk (.inl rfl)); have n2_ := Aside0.mk (hb); have n3_ := Aside0.mk (hi); clear BK178; clear HK; clear HB; clear HI0; have BK178 := n0_; have HK := n1_; have HB := n2_; have HI0 := n3_; clear n0_ n1_ n2_ n3_; (try clear hb); (try clear hb2); (try clear hk); (try clear hi)) | ((with_reducible refine gate_callee (f := 43) rfl ?_); refine goesL_ (some 7) rfl rfl Try.func43 (by kernel_rfl) rfl #[.pointer (some ⟨g, 0, none⟩)] rfl (by (try simp only [maps_]); first | done | rfl) ?_; (with_reducible refine (entry_Taker_Num.calls k g t180 t181 t182 t183 t184 t185 t186 w0 _ ?side1 ?side2 A3.out).mono ?_); (case side1 => repeat (first | (with_reducible first | exact HI0.out | apply IsS55.alloc | apply IsS55.drewN | apply IsS55.drew | apply IsS55.set_0 | apply IsS55.set_1 | apply IsS55.set_2 | apply IsS55.far (hne := NB0_178.out)) | exact HI0.out)); (case side2 => repeat (first | (with_reducible first | exact HB.out | apply below_alloc | apply pw_below_drewN | apply below_drew1 | refine below_set ?_ (IsS55.ge HI0.out) | refine below_set ?_ GE178.out) | exact HB.out)); rintro e w44 ⟨rfl, hi, hb, hk⟩; refine ⟨_, rfl, ?_⟩; have n0_ := Aside0.mk (KeepBut.blk hk (g' := gb178) (o := .cells #[.int .i64 0, .int .i64 0, .int .i64 0, .bool false, .slice none 0 0] 24 (0, 0)) (gb_ BK178) NB178_0.out (by simp)); have n1_ := Aside0.mk (KeepBut.trans (by repeat (first | (with_reducible first | exact HK.out | apply KeepBut.set_ | apply keep_drewN | apply keep_drew | apply keep_alloc | refine keep_far ?_ GW178.out _) | exact HK.out)) hk (.inl rfl)); have n2_ := Aside0.mk (hb); have n3_ := Aside0.mk (hi); clear BK178; clear HK; clear HB; clear HI0; have BK178 := n0_; have HK := n1_; have HB := n2_; have HI0 := n3_; clear n0_ n1_ n2_ n3_; (try clear hb); (try clear hb2); (try clear hk); (try clear hi)) | ((with_reducible refine gate_callee (f := 43) rfl ?_); refine goesL_ (some 9) rfl rfl Try.func43 (by kernel_rfl) rfl #[.pointer (some ⟨g, 0, none⟩)] rfl (by (try simp only [maps_]); first | done | rfl) ?_; (with_reducible refine (entry_Taker_Num.calls k g t184 t185 t186 t187 t188 t189 t190 w0 _ ?side1 ?side2 A4.out).mono ?_); (case side1 => repeat (first | (with_reducible first | exact HI0.out | apply IsS55.alloc | apply IsS55.drewN | apply IsS55.drew | apply IsS55.set_0 | apply IsS55.set_1 | apply IsS55.set_2 | apply IsS55.far (hne := NB0_178.out)) | exact HI0.out)); (case side2 => repeat (first | (with_reducible first | exact HB.out | apply below_alloc | apply pw_below_drewN | apply below_drew1 | refine below_set ?_ (IsS55.ge HI0.out) | refine below_set ?_ GE178.out) | exact HB.out)); rintro e w45 ⟨rfl, hi, hb, hk⟩; refine ⟨_, rfl, ?_⟩; have n0_ := Aside0.mk (KeepBut.blk hk (g' := gb178) (o := .cells #[.int .i64 0, .int .i64 0, .int .i64 0, .bool false, .slice none 0 0] 24 (0, 0)) (gb_ BK178) NB178_0.out (by simp)); have n1_ := Aside0.mk (KeepBut.trans (by repeat (first | (with_reducible first | exact HK.out | apply KeepBut.set_ | apply keep_drewN | apply keep_drew | apply keep_alloc | refine keep_far ?_ GW178.out _) | exact HK.out)) hk (.inl rfl)); have n2_ := Aside0.mk (hb); have n3_ := Aside0.mk (hi); clear BK178; clear HK; clear HB; clear HI0; have BK178 := n0_; have HK := n1_; have HB := n2_; have HI0 := n3_; clear n0_ n1_ n2_ n3_; (try clear hb); (try clear hb2); (try clear hk); (try clear hi)) | ((with_reducible refine gate_dst (N := 3) rfl ?_); (try (refine gate_guard (by rfl) ?_; dsimp only)); refine box_event ?hg (N := 3) ?hd (cs := #[.int .i64 0, .int .i64 0, .int .i64 0, .bool false, .slice none 0 0]) (t := 24) ?hr ?_; (case hd => rfl); (case hg => rfl); (case hr => first | (go_simp; done) | (go_simp; rfl)); intro gb191 hg w46 hbox hb; have n0_ := Aside0.mk (IsS55.below (by repeat (first | (with_reducible first | exact HI0.out | apply IsS55.alloc | apply IsS55.drewN | apply IsS55.drew | apply IsS55.set_0 | apply IsS55.set_1 | apply IsS55.set_2 | apply IsS55.far (hne := NB0_178.out)) | exact HI0.out)) hb); have n1_ := bb_ BK178 hb; have n2_ := Aside0.mk (KeepBut.trans (by repeat (first | (with_reducible first | exact HK.out | apply KeepBut.set_ | apply keep_drewN | apply keep_drew | apply keep_alloc | refine keep_far ?_ GW178.out _) | exact HK.out)) (KeepBut.of_below hb g none) (.inl rfl)); have n3_ := Aside0.mk (below_step (by repeat (first | (with_reducible first | exact HB.out | apply below_alloc | apply pw_below_drewN | apply below_drew1 | refine below_set ?_ (IsS55.ge HI0.out) | refine below_set ?_ GE178.out) | exact HB.out)) hb); have n4_ := Aside0.mk (hbox); have n5_ := Aside0.mk ((by rw [hg]; exact (keep_size (w := w) (g := g) (row := none) (by repeat (first | (with_reducible first | exact HK.out | apply KeepBut.set_ | apply keep_drewN | apply keep_drew | apply keep_alloc | refine keep_far ?_ GW178.out _) | exact HK.out))) : w.heap.size ≤ gb191)); have n6_ := Aside0.mk ((Nat.le_trans HW0.out (by rw [hg]; exact (keep_size (w := w) (g := g) (row := none) (by repeat (first | (with_reducible first | exact HK.out | apply KeepBut.set_ | apply keep_drewN | apply keep_drew | apply keep_alloc | refine keep_far ?_ GW178.out _) | exact HK.out))) : w.heap.size ≤ gb191) : w0.heap.size ≤ gb191)); have n7_ := gn_ BK178 hg; have n8_ := Aside0.mk ((by rw [hg]; exact Nat.ne_of_gt (blk_lt (g := gb178) (o := .cells #[.int .i64 0, .int .i64 0, .int .i64 0, .bool false, .slice none 0 0] 24 (0, 0)) (gb_ BK178)) : gb191 ≠ gb178)); have n9_ := Aside0.mk ((by rw [hg]; exact Nat.ne_of_lt (IsS55.lt (show IsS55 w0 _ g t188 t189 t190 from by repeat (first | (with_reducible first | exact HI0.out | apply IsS55.alloc | apply IsS55.drewN | apply IsS55.drew | apply IsS55.set_0 | apply IsS55.set_1 | apply IsS55.set_2 | apply IsS55.far (hne := NB0_178.out)) | exact HI0.out))) : g ≠ gb191)); have n10_ := Aside0.mk ((by rw [hg]; exact Nat.ne_of_gt (IsS55.lt (show IsS55 w0 _ g t188 t189 t190 from by repeat (first | (with_reducible first | exact HI0.out | apply IsS55.alloc | apply IsS55.drewN | apply IsS55.drew | apply IsS55.set_0 | apply IsS55.set_1 | apply IsS55.set_2 | apply IsS55.far (hne := NB0_178.out)) | exact HI0.out))) : gb191 ≠ g)); clear HI0; clear BK178; clear HK; clear HB; have HI0 := n0_; have BK178 := n1_; have HK := n2_; have HB := n3_; have BK191 := n4_; have GW191 := n5_; have GE191 := n6_; have NB178_191 := n7_; have NB191_178 := n8_; have NB0_191 := n9_; have NB191_0 := n10_; clear n0_ n1_ n2_ n3_ n4_ n5_ n6_ n7_ n8_ n9_ n10_; clear hb hbox hg; have hnb47 := NB191_178.out; have hnc47 := NB178_191.out; have hnb48 := NB191_0.out; have hnc48 := NB0_191.out; have hcz49_0 := bc0 BK191; have hcz49_1 := bc1 BK191; have hcz49_2 := bc2 BK191; have hcz49_3 := bc3 BK191; have hcz49_4 := bc4 BK191; have hfz49_0 := bf_ BK191 0; have hfz49_1 := bf_ BK191 1; have hfz49_2 := bf_ BK191 2; have hfz49_3 := bf_ BK191 3; have hfz49_4 := bf_ BK191 4))
    have n0_ : Aside0 ((((((w46.setCell ⟨gb191, 0, none⟩ (.int .i64 t179)).setCell ⟨gb191, 1, none⟩ (.int .i64 t183)).setCell ⟨gb191, 2, none⟩ (.int .i64 t187)).setCell ⟨gb191, 3, none⟩ (.bool false)).setCell ⟨gb191, 4, none⟩ (.slice none 0 0)).heap[gb178]? = some (.cells #[.int .i64 0, .int .i64 0, .int .i64 0, .bool false, .slice none 0 0] 24 (0, 0))) := ⟨by (with_reducible repeat (first | refine blk_drewN ?_ _ | refine blk_drew ?_ | refine blk_alloc ?_ _)); refine blk_far ?_ NB178_191.out _; refine blk_far ?_ NB178_191.out _; refine blk_far ?_ NB178_191.out _; refine blk_far ?_ NB178_191.out _; refine blk_far ?_ NB178_191.out _; exact gb_ BK178⟩
    have n1_ : Aside0 ((((((w46.setCell ⟨gb191, 0, none⟩ (.int .i64 t179)).setCell ⟨gb191, 1, none⟩ (.int .i64 t183)).setCell ⟨gb191, 2, none⟩ (.int .i64 t187)).setCell ⟨gb191, 3, none⟩ (.bool false)).setCell ⟨gb191, 4, none⟩ (.slice none 0 0)).heap[gb191]? = some (.cells #[.int .i64 t179, .int .i64 t183, .int .i64 t187, .bool false, .slice none 0 0] 24 (0, 0))) := ⟨by (with_reducible repeat (first | refine blk_drewN ?_ _ | refine blk_drew ?_ | refine blk_alloc ?_ _)); refine blk_put (cs := #[.int .i64 t179, .int .i64 t183, .int .i64 t187, .bool false, .slice none 0 0]) ?_ 4 _ rfl; refine blk_put (cs := #[.int .i64 t179, .int .i64 t183, .int .i64 t187, .bool false, .slice none 0 0]) ?_ 3 _ rfl; refine blk_put (cs := #[.int .i64 t179, .int .i64 t183, .int .i64 0, .bool false, .slice none 0 0]) ?_ 2 _ rfl; refine blk_put (cs := #[.int .i64 t179, .int .i64 0, .int .i64 0, .bool false, .slice none 0 0]) ?_ 1 _ rfl; refine blk_put (cs := #[.int .i64 0, .int .i64 0, .int .i64 0, .bool false, .slice none 0 0]) ?_ 0 _ rfl; exact gb_ BK191⟩
    have n2_ : Aside0 (IsS55 w0 (((((w46.setCell ⟨gb191, 0, none⟩ (.int .i64 t179)).setCell ⟨gb191, 1, none⟩ (.int .i64 t183)).setCell ⟨gb191, 2, none⟩ (.int .i64 t187)).setCell ⟨gb191, 3, none⟩ (.bool false)).setCell ⟨gb191, 4, none⟩ (.slice none 0 0)) g t188 t189 t190) := ⟨by repeat (first | (with_reducible first | exact HI0.out | apply IsS55.alloc | apply IsS55.drewN | apply IsS55.drew | apply IsS55.set_0 | apply IsS55.set_1 | apply IsS55.set_2 | apply IsS55.far (hne := NB0_178.out) | apply IsS55.far (hne := NB0_191.out)) | exact HI0.out)⟩
    have n3_ : Aside0 (KeepBut w (((((w46.setCell ⟨gb191, 0, none⟩ (.int .i64 t179)).setCell ⟨gb191, 1, none⟩ (.int .i64 t183)).setCell ⟨gb191, 2, none⟩ (.int .i64 t187)).setCell ⟨gb191, 3, none⟩ (.bool false)).setCell ⟨gb191, 4, none⟩ (.slice none 0 0)) g none) := ⟨by repeat (first | (with_reducible first | exact HK.out | apply KeepBut.set_ | apply keep_drewN | apply keep_drew | apply keep_alloc | refine keep_far ?_ GW178.out _ | refine keep_far ?_ GW191.out _) | exact HK.out)⟩
    have n4_ : Aside0 (Below w0.heap.size w0 (((((w46.setCell ⟨gb191, 0, none⟩ (.int .i64 t179)).setCell ⟨gb191, 1, none⟩ (.int .i64 t183)).setCell ⟨gb191, 2, none⟩ (.int .i64 t187)).setCell ⟨gb191, 3, none⟩ (.bool false)).setCell ⟨gb191, 4, none⟩ (.slice none 0 0))) := ⟨by repeat (first | (with_reducible first | exact HB.out | apply below_alloc | apply pw_below_drewN | apply below_drew1 | refine below_set ?_ (IsS55.ge HI0.out) | refine below_set ?_ GE178.out | refine below_set ?_ GE191.out) | exact HB.out)⟩
    (try clear BK178)
    (try clear BK191)
    (try clear HI0)
    (try clear HK)
    (try clear HB)
    generalize (((((w46.setCell ⟨gb191, 0, none⟩ (.int .i64 t179)).setCell ⟨gb191, 1, none⟩ (.int .i64 t183)).setCell ⟨gb191, 2, none⟩ (.int .i64 t187)).setCell ⟨gb191, 3, none⟩ (.bool false)).setCell ⟨gb191, 4, none⟩ (.slice none 0 0)) = w50 at n0_ n1_ n2_ n3_ n4_ ⊢
    have BK178 := n0_
    have BK191 := n1_
    have HI0 := n2_
    have HK := n3_
    have HB := n4_
    clear n0_ n1_ n2_ n3_ n4_
    have BK0 := Aside0.mk HI0.out.1
    have GE0 := Aside0.mk HI0.out.2
    have GW0 := Aside0.mk HI0.out.2
    clear HI0
    have n0_ := Aside0.mk (blk_drew BK0.out)
    have n1_ := Aside0.mk (blk_drew BK178.out)
    have n2_ := Aside0.mk (blk_drew BK191.out)
    have n3_ := Aside0.mk (keep_drew HK.out)
    have n4_ := Aside0.mk (below_drew1 HB.out)
    clear BK0
    clear BK178
    clear BK191
    clear HK
    clear HB
    have BK0 := n0_
    have BK178 := n1_
    have BK191 := n2_
    have HK := n3_
    have HB := n4_
    clear n0_ n1_ n2_ n3_ n4_
    refine start_ (n := 17) (S := fun w' => w'.cell? ⟨g, 0, none⟩ = some (.string t188) ∧ w'.cell? ⟨g, 1, none⟩ = some (.int .i64 t189) ∧ w'.cell? ⟨g, 2, none⟩ = some (.int .i64 t190)) (ds := []) mkPx7_0 (by kernel_rfl) rfl rfl ⟨bc0 BK0, bc1 BK0, bc2 BK0⟩ (fun hHeld => ?_); refine with_tabW item_take.tab2 item_take.bits2 (fun HT_ HW_ => ?_)
    generalize w50.drew = w51 at BK0 BK178 BK191 HK HB hHeld ⊢
    refine pu_ 0 (some 11) mkPx7_1 HT_ ?_ rfl rfl (by kernel_rfl) (fun _ _ _ h => h) (Or.inl ⟨by rfl, ?_⟩) ?_ ?_ ?_
    rotate_left
    · intro w'
      go_simp
      with_reducible rfl
    rotate_left
    · simp only [Act.put, lists_, i64_w, i32_w]
      rfl
    refine pu_ 1 (some 12) mkPx7_2 HT_ ?_ rfl rfl (by kernel_rfl) (fun _ _ _ h => h) (Or.inl ⟨by rfl, ?_⟩) ?_ ?_ ?_
    rotate_left
    · intro w'
      go_simp
      with_reducible rfl
    rotate_left
    · simp only [Act.put, lists_, i64_w, i32_w]
      rfl
    refine pu_ 2 (some 13) mkPx7_3 HT_ ?_ rfl rfl (by kernel_rfl) (fun _ _ _ h => h) (Or.inl ⟨by rfl, ?_⟩) ?_ ?_ ?_
    rotate_left
    · intro w'
      go_simp
      with_reducible rfl
    rotate_left
    · simp only [Act.put, lists_, i64_w, i32_w]
      rfl
    refine take_ (i := 3) (N := some 14) (v := ?_) (a' := ?_) mkPx7_4 rfl rfl (take_ofW HT_.out HW_.out (by kernel_rfl)) (fun _ _ _ h => h) (Or.inl ⟨by rfl, ?_⟩) hHeld ?_ ?_
    rotate_left
    · rintro w' ⟨s0, s1, s2⟩
      go_simp
      with_reducible rfl
    rotate_left
    · simp only [Act.put, lists_, i64_w, i32_w]
      rfl
    refine pu_ 4 (some 15) mkPx7_5 HT_ ?_ rfl rfl (by kernel_rfl) (fun _ _ _ h => h) (Or.inl ⟨by rfl, ?_⟩) ?_ ?_ ?_
    rotate_left
    · intro w'
      go_simp
      with_reducible rfl
    rotate_left
    · simp only [Act.put, lists_, i64_w, i32_w]
      rfl
    refine pu_ 5 (some 16) mkPx7_6 HT_ ?_ rfl rfl (by kernel_rfl) (fun _ _ _ h => h) (Or.inl ⟨by rfl, ?_⟩) ?_ ?_ ?_
    rotate_left
    · intro w'
      go_simp
      with_reducible rfl
    rotate_left
    · simp only [Act.put, lists_, i64_w, i32_w]
      rfl
    refine pu_ 6 (some 17) mkPx7_7 HT_ undef rfl rfl (by kernel_rfl) (fun _ _ _ h => h) (Or.inr ⟨by rfl, rfl⟩) ?_ ?_ ?_
    rotate_left
    · simp only [Act.put, lists_, i64_w, i32_w]
      rfl
    refine pu_ 7 (some 18) mkPx7_8 HT_ undef rfl rfl (by kernel_rfl) (fun _ _ _ h => h) (Or.inr ⟨by rfl, rfl⟩) ?_ ?_ ?_
    rotate_left
    · simp only [Act.put, lists_, i64_w, i32_w]
      rfl
    refine pu_ 8 (some 19) mkPx7_9 HT_ undef rfl rfl (by kernel_rfl) (fun _ _ _ h => h) (Or.inr ⟨by rfl, rfl⟩) ?_ ?_ ?_
    rotate_left
    · simp only [Act.put, lists_, i64_w, i32_w]
      rfl
    refine pu_ 9 (some 20) mkPx7_10 HT_ undef rfl rfl (by kernel_rfl) (fun _ _ _ h => h) (Or.inr ⟨by rfl, rfl⟩) ?_ ?_ ?_
    rotate_left
    · simp only [Act.put, lists_, i64_w, i32_w]
      rfl
    refine pu_ 10 (some 21) mkPx7_11 HT_ undef rfl rfl (by kernel_rfl) (fun _ _ _ h => h) (Or.inr ⟨by rfl, rfl⟩) ?_ ?_ ?_
    rotate_left
    · simp only [Act.put, lists_, i64_w, i32_w]
      rfl
    refine pu_ 11 (some 22) mkPx7_12 HT_ undef rfl rfl (by kernel_rfl) (fun _ _ _ h => h) (Or.inr ⟨by rfl, rfl⟩) ?_ ?_ ?_
    rotate_left
    · simp only [Act.put, lists_, i64_w, i32_w]
      rfl
    refine pu_ 12 (some 23) mkPx7_13 HT_ undef rfl rfl (by kernel_rfl) (fun _ _ _ h => h) (Or.inr ⟨by rfl, rfl⟩) ?_ ?_ ?_
    rotate_left
    · simp only [Act.put, lists_, i64_w, i32_w]
      rfl
    refine pu_ 13 (some 24) mkPx7_14 HT_ undef rfl rfl (by kernel_rfl) (fun _ _ _ h => h) (Or.inr ⟨by rfl, rfl⟩) ?_ ?_ ?_
    rotate_left
    · simp only [Act.put, lists_, i64_w, i32_w]
      rfl
    refine pu_ 14 (some 25) mkPx7_15 HT_ undef rfl rfl (by kernel_rfl) (fun _ _ _ h => h) (Or.inr ⟨by rfl, rfl⟩) ?_ ?_ ?_
    rotate_left
    · simp only [Act.put, lists_, i64_w, i32_w]
      rfl
    refine pu_ 15 (some 26) mkPx7_16 HT_ undef rfl rfl (by kernel_rfl) (fun _ _ _ h => h) (Or.inr ⟨by rfl, rfl⟩) ?_ ?_ ?_
    rotate_left
    · simp only [Act.put, lists_, i64_w, i32_w]
      rfl
    refine pu_ 16 (some 27) mkPx7_17 HT_ ?_ rfl rfl (by kernel_rfl) (fun _ _ _ h => h) (Or.inl ⟨by rfl, ?_⟩) ?_ ?_ ?_
    rotate_left
    · intro w'
      go_simp
      with_reducible rfl
    rotate_left
    · simp only [Act.put, lists_, i64_w, i32_w]
      rfl
    refine done_ (done_of HT_.out (by kernel_rfl)) ?_
    have HI0 := Aside0.mk (show IsS55 w0 _ g t188 t189 t190 from ⟨BK0.out, GE0.out⟩)
    clear BK0 GE0 GW0
    have hcz52_0 := bc0 BK191
    have hcz52_1 := bc1 BK191
    have hcz52_2 := bc2 BK191
    have hcz52_3 := bc3 BK191
    have hcz52_4 := bc4 BK191
    have hfz52_0 := bf_ BK191 0
    have hfz52_1 := bf_ BK191 1
    have hfz52_2 := bf_ BK191 2
    have hfz52_3 := bf_ BK191 3
    have hfz52_4 := bf_ BK191 4
    have hnb53 := NB178_0.out
    have hnc53 := NB0_178.out
    have hcz54_0 := bc0 BK178
    have hcz54_1 := bc1 BK178
    have hcz54_2 := bc2 BK178
    have hcz54_3 := bc3 BK178
    have hcz54_4 := bc4 BK178
    have hfz54_0 := bf_ BK178 0
    have hfz54_1 := bf_ BK178 1
    have hfz54_2 := bf_ BK178 2
    have hfz54_3 := bf_ BK178 3
    have hfz54_4 := bf_ BK178 4
    try go_wp2
    refine bodyPost_ret (results_cell_row rfl _ _ gb178 24 #[.int .i64 t179, .int .i64 t183, .int .i64 t187, .bool false, .slice none 0 0] (0, 0) _ rfl (by (with_reducible repeat (first | refine blk_drewN ?_ _ | refine blk_drew ?_ | refine blk_alloc ?_ _)); refine blk_put (cs := #[.int .i64 t179, .int .i64 t183, .int .i64 t187, .bool false, .slice none 0 0]) ?_ 4 _ rfl; refine blk_put (cs := #[.int .i64 t179, .int .i64 t183, .int .i64 t187, .bool false, .slice none 0 0]) ?_ 3 _ rfl; refine blk_put (cs := #[.int .i64 t179, .int .i64 t183, .int .i64 0, .bool false, .slice none 0 0]) ?_ 2 _ rfl; refine blk_put (cs := #[.int .i64 t179, .int .i64 0, .int .i64 0, .bool false, .slice none 0 0]) ?_ 1 _ rfl; refine blk_put (cs := #[.int .i64 0, .int .i64 0, .int .i64 0, .bool false, .slice none 0 0]) ?_ 0 _ rfl; exact gb_ BK178) Try.underlying24 rfl (by kernel_rfl)) rfl ?_
    exact ⟨_, by first | rfl | (simp [*, errW_none, errW_some] <;> rfl), by first | exact Kd.R_nil _ _ _ _ _ | exact Kd.N_nil _ _ _ _ _ | exact Kd.V_nil _ _ _ _ _ | exact Kd.Q_nil _ _ _ _ _ | exact Kd.S_nil _ _ _ _ _, by repeat (first | (with_reducible first | exact HI0.out | apply IsS55.alloc | apply IsS55.drewN | apply IsS55.drew | apply IsS55.set_0 | apply IsS55.set_1 | apply IsS55.set_2 | apply IsS55.far (hne := NB0_178.out) | apply IsS55.far (hne := NB0_191.out)) | exact HI0.out), by repeat (first | (with_reducible first | exact HB.out | apply below_alloc | apply pw_below_drewN | apply below_drew1 | refine below_set ?_ (IsS55.ge HI0.out) | refine below_set ?_ GE178.out | refine below_set ?_ GE191.out) | exact HB.out), by repeat (first | (with_reducible first | exact HK.out | apply KeepBut.set_ | apply keep_drewN | apply keep_drew | apply keep_alloc | refine keep_far ?_ GW178.out _ | refine keep_far ?_ GW191.out _) | exact HK.out)⟩
  rw [if_pos c5] at H
  have c5b0 : (t190 == 0) = true := beq_iff_eq.mpr c5
  have c5b1 : (t190 != 0) = false := bne_eq_false_iff_eq.mpr c5
  clear c5
  by_cases c6 : t189 ≥ (t188.size : Int)
  · rw [if_pos c6] at H
    have c6b0 : decide ((t188.size : Int) ≤ t189) = true := decide_eq_true c6
    clear c6
    simp only [Option.some.injEq, Prod.mk.injEq] at H
    obtain ⟨rfl, rfl, rfl, rfl, rfl, rfl, rfl, rfl⟩ := H
    go_enter Try.func25, Try.ntmps25
    try go_wp2_with (first | ((with_reducible refine gate_dst (N := 2) rfl ?_); (try (refine gate_guard (by rfl) ?_; dsimp only)); refine box_event ?hg (N := 2) ?hd (cs := #[.int .i64 0, .int .i64 0, .int .i64 0, .bool false, .slice none 0 0]) (t := 24) ?hr ?_; (case hd => rfl); (case hg => rfl); (case hr => first | (go_simp; done) | (go_simp; rfl)); intro gb178 hg w7 hbox hb; have n0_ := Aside0.mk (IsS55.below (by repeat (first | (with_reducible first | exact HI0.out | apply IsS55.alloc | apply IsS55.drewN | apply IsS55.drew | apply IsS55.set_0 | apply IsS55.set_1 | apply IsS55.set_2) | exact HI0.out)) hb); have n1_ := Aside0.mk (KeepBut.trans (by repeat (first | (with_reducible first | exact HK.out | apply KeepBut.set_ | apply keep_drewN | apply keep_drew | apply keep_alloc) | exact HK.out)) (KeepBut.of_below hb g none) (.inl rfl)); have n2_ := Aside0.mk (below_step (by repeat (first | (with_reducible first | exact HB.out | apply below_alloc | apply pw_below_drewN | apply below_drew1 | refine below_set ?_ (IsS55.ge HI0.out)) | exact HB.out)) hb); have n3_ := Aside0.mk (hbox); have n4_ := Aside0.mk ((by rw [hg]; exact (keep_size (w := w) (g := g) (row := none) (by repeat (first | (with_reducible first | exact HK.out | apply KeepBut.set_ | apply keep_drewN | apply keep_drew | apply keep_alloc) | exact HK.out))) : w.heap.size ≤ gb178)); have n5_ := Aside0.mk ((Nat.le_trans HW0.out (by rw [hg]; exact (keep_size (w := w) (g := g) (row := none) (by repeat (first | (with_reducible first | exact HK.out | apply KeepBut.set_ | apply keep_drewN | apply keep_drew | apply keep_alloc) | exact HK.out))) : w.heap.size ≤ gb178) : w0.heap.size ≤ gb178)); have n6_ := Aside0.mk ((by rw [hg]; exact Nat.ne_of_lt (IsS55.lt (show IsS55 w0 _ g s0_0 s0_1 s0_2 from by repeat (first | (with_reducible first | exact HI0.out | apply IsS55.alloc | apply IsS55.drewN | apply IsS55.drew | apply IsS55.set_0 | apply IsS55.set_1 | apply IsS55.set_2) | exact HI0.out))) : g ≠ gb178)); have n7_ := Aside0.mk ((by rw [hg]; exact Nat.ne_of_gt (IsS55.lt (show IsS55 w0 _ g s0_0 s0_1 s0_2 from by repeat (first | (with_reducible first | exact HI0.out | apply IsS55.alloc | apply IsS55.drewN | apply IsS55.drew | apply IsS55.set_0 | apply IsS55.set_1 | apply IsS55.set_2) | exact HI0.out))) : gb178 ≠ g)); clear HI0; clear HK; clear HB; have HI0 := n0_; have HK := n1_; have HB := n2_; have BK178 := n3_; have GW178 := n4_; have GE178 := n5_; have NB0_178 := n6_; have NB178_0 := n7_; clear n0_ n1_ n2_ n3_ n4_ n5_ n6_ n7_; clear hb hbox hg) | ((with_reducible refine gate_callee (f := 43) rfl ?_); refine goesL_ (some 5) rfl rfl Try.func43 (by kernel_rfl) rfl #[.pointer (some ⟨g, 0, none⟩)] rfl (by (try simp only [maps_]); first | done | rfl) ?_; (with_reducible refine (entry_Taker_Num.calls k g s0_0 s0_1 s0_2 t179 t180 t181 t182 w0 _ ?side1 ?side2 A2.out).mono ?_); (case side1 => repeat (first | (with_reducible first | exact HI0.out | apply IsS55.alloc | apply IsS55.drewN | apply IsS55.drew | apply IsS55.set_0 | apply IsS55.set_1 | apply IsS55.set_2 | apply IsS55.far (hne := NB0_178.out)) | exact HI0.out)); (case side2 => repeat (first | (with_reducible first | exact HB.out | apply below_alloc | apply pw_below_drewN | apply below_drew1 | refine below_set ?_ (IsS55.ge HI0.out) | refine below_set ?_ GE178.out) | exact HB.out)); rintro e w8 ⟨rfl, hi, hb, hk⟩; refine ⟨_, rfl, ?_⟩; have n0_ := Aside0.mk (KeepBut.blk hk (g' := gb178) (o := .cells #[.int .i64 0, .int .i64 0, .int .i64 0, .bool false, .slice none 0 0] 24 (0, 0)) (gb_ BK178) NB178_0.out (by simp)); have n1_ := Aside0.mk (KeepBut.trans (by repeat (first | (with_reducible first | exact HK.out | apply KeepBut.set_ | apply keep_drewN | apply keep_drew | apply keep_alloc | refine keep_far ?_ GW178.out _) | exact HK.out)) hk (.inl rfl)); have n2_ := Aside0.mk (hb); have n3_ := Aside0.mk (hi); clear BK178; clear HK; clear HB; clear HI0; have BK178 := n0_; have HK := n1_; have HB := n2_; have HI0 := n3_; clear n0_ n1_ n2_ n3_; (try clear hb); (try clear hb2); (try clear hk); (try clear hi)) | ((with_reducible refine gate_callee (f := 43) rfl ?_); refine goesL_ (some 7) rfl rfl Try.func43 (by kernel_rfl) rfl #[.pointer (some ⟨g, 0, none⟩)] rfl (by (try simp only [maps_]); first | done | rfl) ?_; (with_reducible refine (entry_Taker_Num.calls k g t180 t181 t182 t183 t184 t185 t186 w0 _ ?side1 ?side2 A3.out).mono ?_); (case side1 => repeat (first | (with_reducible first | exact HI0.out | apply IsS55.alloc | apply IsS55.drewN | apply IsS55.drew | apply IsS55.set_0 | apply IsS55.set_1 | apply IsS55.set_2 | apply IsS55.far (hne := NB0_178.out)) | exact HI0.out)); (case side2 => repeat (first | (with_reducible first | exact HB.out | apply below_alloc | apply pw_below_drewN | apply below_drew1 | refine below_set ?_ (IsS55.ge HI0.out) | refine below_set ?_ GE178.out) | exact HB.out)); rintro e w9 ⟨rfl, hi, hb, hk⟩; refine ⟨_, rfl, ?_⟩; have n0_ := Aside0.mk (KeepBut.blk hk (g' := gb178) (o := .cells #[.int .i64 0, .int .i64 0, .int .i64 0, .bool false, .slice none 0 0] 24 (0, 0)) (gb_ BK178) NB178_0.out (by simp)); have n1_ := Aside0.mk (KeepBut.trans (by repeat (first | (with_reducible first | exact HK.out | apply KeepBut.set_ | apply keep_drewN | apply keep_drew | apply keep_alloc | refine keep_far ?_ GW178.out _) | exact HK.out)) hk (.inl rfl)); have n2_ := Aside0.mk (hb); have n3_ := Aside0.mk (hi); clear BK178; clear HK; clear HB; clear HI0; have BK178 := n0_; have HK := n1_; have HB := n2_; have HI0 := n3_; clear n0_ n1_ n2_ n3_; (try clear hb); (try clear hb2); (try clear hk); (try clear hi)) | ((with_reducible refine gate_callee (f := 43) rfl ?_); refine goesL_ (some 9) rfl rfl Try.func43 (by kernel_rfl) rfl #[.pointer (some ⟨g, 0, none⟩)] rfl (by (try simp only [maps_]); first | done | rfl) ?_; (with_reducible refine (entry_Taker_Num.calls k g t184 t185 t186 t187 t188 t189 t190 w0 _ ?side1 ?side2 A4.out).mono ?_); (case side1 => repeat (first | (with_reducible first | exact HI0.out | apply IsS55.alloc | apply IsS55.drewN | apply IsS55.drew | apply IsS55.set_0 | apply IsS55.set_1 | apply IsS55.set_2 | apply IsS55.far (hne := NB0_178.out)) | exact HI0.out)); (case side2 => repeat (first | (with_reducible first | exact HB.out | apply below_alloc | apply pw_below_drewN | apply below_drew1 | refine below_set ?_ (IsS55.ge HI0.out) | refine below_set ?_ GE178.out) | exact HB.out)); rintro e w10 ⟨rfl, hi, hb, hk⟩; refine ⟨_, rfl, ?_⟩; have n0_ := Aside0.mk (KeepBut.blk hk (g' := gb178) (o := .cells #[.int .i64 0, .int .i64 0, .int .i64 0, .bool false, .slice none 0 0] 24 (0, 0)) (gb_ BK178) NB178_0.out (by simp)); have n1_ := Aside0.mk (KeepBut.trans (by repeat (first | (with_reducible first | exact HK.out | apply KeepBut.set_ | apply keep_drewN | apply keep_drew | apply keep_alloc | refine keep_far ?_ GW178.out _) | exact HK.out)) hk (.inl rfl)); have n2_ := Aside0.mk (hb); have n3_ := Aside0.mk (hi); clear BK178; clear HK; clear HB; clear HI0; have BK178 := n0_; have HK := n1_; have HB := n2_; have HI0 := n3_; clear n0_ n1_ n2_ n3_; (try clear hb); (try clear hb2); (try clear hk); (try clear hi)) | ((with_reducible refine gate_dst (N := 3) rfl ?_); (try (refine gate_guard (by rfl) ?_; dsimp only)); refine box_event ?hg (N := 3) ?hd (cs := #[.int .i64 0, .int .i64 0, .int .i64 0, .bool false, .slice none 0 0]) (t := 24) ?hr ?_; (case hd => rfl); (case hg => rfl); (case hr => first | (go_simp; done) | (go_simp; rfl)); intro gb191 hg w11 hbox hb; have n0_ := Aside0.mk (IsS55.below (by repeat (first | (with_reducible first | exact HI0.out | apply IsS55.alloc | apply IsS55.drewN | apply IsS55.drew | apply IsS55.set_0 | apply IsS55.set_1 | apply IsS55.set_2 | apply IsS55.far (hne := NB0_178.out)) | exact HI0.out)) hb); have n1_ := bb_ BK178 hb; have n2_ := Aside0.mk (KeepBut.trans (by repeat (first | (with_reducible first | exact HK.out | apply KeepBut.set_ | apply keep_drewN | apply keep_drew | apply keep_alloc | refine keep_far ?_ GW178.out _) | exact HK.out)) (KeepBut.of_below hb g none) (.inl rfl)); have n3_ := Aside0.mk (below_step (by repeat (first | (with_reducible first | exact HB.out | apply below_alloc | apply pw_below_drewN | apply below_drew1 | refine below_set ?_ (IsS55.ge HI0.out) | refine below_set ?_ GE178.out) | exact HB.out)) hb); have n4_ := Aside0.mk (hbox); have n5_ := Aside0.mk ((by rw [hg]; exact (keep_size (w := w) (g := g) (row := none) (by repeat (first | (with_reducible first | exact HK.out | apply KeepBut.set_ | apply keep_drewN | apply keep_drew | apply keep_alloc | refine keep_far ?_ GW178.out _) | exact HK.out))) : w.heap.size ≤ gb191)); have n6_ := Aside0.mk ((Nat.le_trans HW0.out (by rw [hg]; exact (keep_size (w := w) (g := g) (row := none) (by repeat (first | (with_reducible first | exact HK.out | apply KeepBut.set_ | apply keep_drewN | apply keep_drew | apply keep_alloc | refine keep_far ?_ GW178.out _) | exact HK.out))) : w.heap.size ≤ gb191) : w0.heap.size ≤ gb191)); have n7_ := gn_ BK178 hg; have n8_ := Aside0.mk ((by rw [hg]; exact Nat.ne_of_gt (blk_lt (g := gb178) (o := .cells #[.int .i64 0, .int .i64 0, .int .i64 0, .bool false, .slice none 0 0] 24 (0, 0)) (gb_ BK178)) : gb191 ≠ gb178)); have n9_ := Aside0.mk ((by rw [hg]; exact Nat.ne_of_lt (IsS55.lt (show IsS55 w0 _ g t188 t189 t190 from by repeat (first | (with_reducible first | exact HI0.out | apply IsS55.alloc | apply IsS55.drewN | apply IsS55.drew | apply IsS55.set_0 | apply IsS55.set_1 | apply IsS55.set_2 | apply IsS55.far (hne := NB0_178.out)) | exact HI0.out))) : g ≠ gb191)); have n10_ := Aside0.mk ((by rw [hg]; exact Nat.ne_of_gt (IsS55.lt (show IsS55 w0 _ g t188 t189 t190 from by repeat (first | (with_reducible first | exact HI0.out | apply IsS55.alloc | apply IsS55.drewN | apply IsS55.drew | apply IsS55.set_0 | apply IsS55.set_1 | apply IsS55.set_2 | apply IsS55.far (hne := NB0_178.out)) | exact HI0.out))) : gb191 ≠ g)); clear HI0; clear BK178; clear HK; clear HB; have HI0 := n0_; have BK178 := n1_; have HK := n2_; have HB := n3_; have BK191 := n4_; have GW191 := n5_; have GE191 := n6_; have NB178_191 := n7_; have NB191_178 := n8_; have NB0_191 := n9_; have NB191_0 := n10_; clear n0_ n1_ n2_ n3_ n4_ n5_ n6_ n7_ n8_ n9_ n10_; clear hb hbox hg; have hnb12 := NB191_178.out; have hnc12 := NB178_191.out; have hnb13 := NB191_0.out; have hnc13 := NB0_191.out; have hcz14_0 := bc0 BK191; have hcz14_1 := bc1 BK191; have hcz14_2 := bc2 BK191; have hcz14_3 := bc3 BK191; have hcz14_4 := bc4 BK191; have hfz14_0 := bf_ BK191 0; have hfz14_1 := bf_ BK191 1; have hfz14_2 := bf_ BK191 2; have hfz14_3 := bf_ BK191 3; have hfz14_4 := bf_ BK191 4))
    have n0_ : Aside0 ((((((w11.setCell ⟨gb191, 0, none⟩ (.int .i64 t179)).setCell ⟨gb191, 1, none⟩ (.int .i64 t183)).setCell ⟨gb191, 2, none⟩ (.int .i64 t187)).setCell ⟨gb191, 3, none⟩ (.bool false)).setCell ⟨gb191, 4, none⟩ (.slice none 0 0)).heap[gb178]? = some (.cells #[.int .i64 0, .int .i64 0, .int .i64 0, .bool false, .slice none 0 0] 24 (0, 0))) := ⟨by (with_reducible repeat (first | refine blk_drewN ?_ _ | refine blk_drew ?_ | refine blk_alloc ?_ _)); refine blk_far ?_ NB178_191.out _; refine blk_far ?_ NB178_191.out _; refine blk_far ?_ NB178_191.out _; refine blk_far ?_ NB178_191.out _; refine blk_far ?_ NB178_191.out _; exact gb_ BK178⟩
    have n1_ : Aside0 ((((((w11.setCell ⟨gb191, 0, none⟩ (.int .i64 t179)).setCell ⟨gb191, 1, none⟩ (.int .i64 t183)).setCell ⟨gb191, 2, none⟩ (.int .i64 t187)).setCell ⟨gb191, 3, none⟩ (.bool false)).setCell ⟨gb191, 4, none⟩ (.slice none 0 0)).heap[gb191]? = some (.cells #[.int .i64 t179, .int .i64 t183, .int .i64 t187, .bool false, .slice none 0 0] 24 (0, 0))) := ⟨by (with_reducible repeat (first | refine blk_drewN ?_ _ | refine blk_drew ?_ | refine blk_alloc ?_ _)); refine blk_put (cs := #[.int .i64 t179, .int .i64 t183, .int .i64 t187, .bool false, .slice none 0 0]) ?_ 4 _ rfl; refine blk_put (cs := #[.int .i64 t179, .int .i64 t183, .int .i64 t187, .bool false, .slice none 0 0]) ?_ 3 _ rfl; refine blk_put (cs := #[.int .i64 t179, .int .i64 t183, .int .i64 0, .bool false, .slice none 0 0]) ?_ 2 _ rfl; refine blk_put (cs := #[.int .i64 t179, .int .i64 0, .int .i64 0, .bool false, .slice none 0 0]) ?_ 1 _ rfl; refine blk_put (cs := #[.int .i64 0, .int .i64 0, .int .i64 0, .bool false, .slice none 0 0]) ?_ 0 _ rfl; exact gb_ BK191⟩
    have n2_ : Aside0 (IsS55 w0 (((((w11.setCell ⟨gb191, 0, none⟩ (.int .i64 t179)).setCell ⟨gb191, 1, none⟩ (.int .i64 t183)).setCell ⟨gb191, 2, none⟩ (.int .i64 t187)).setCell ⟨gb191, 3, none⟩ (.bool false)).setCell ⟨gb191, 4, none⟩ (.slice none 0 0)) g t188 t189 t190) := ⟨by repeat (first | (with_reducible first | exact HI0.out | apply IsS55.alloc | apply IsS55.drewN | apply IsS55.drew | apply IsS55.set_0 | apply IsS55.set_1 | apply IsS55.set_2 | apply IsS55.far (hne := NB0_178.out) | apply IsS55.far (hne := NB0_191.out)) | exact HI0.out)⟩
    have n3_ : Aside0 (KeepBut w (((((w11.setCell ⟨gb191, 0, none⟩ (.int .i64 t179)).setCell ⟨gb191, 1, none⟩ (.int .i64 t183)).setCell ⟨gb191, 2, none⟩ (.int .i64 t187)).setCell ⟨gb191, 3, none⟩ (.bool false)).setCell ⟨gb191, 4, none⟩ (.slice none 0 0)) g none) := ⟨by repeat (first | (with_reducible first | exact HK.out | apply KeepBut.set_ | apply keep_drewN | apply keep_drew | apply keep_alloc | refine keep_far ?_ GW178.out _ | refine keep_far ?_ GW191.out _) | exact HK.out)⟩
    have n4_ : Aside0 (Below w0.heap.size w0 (((((w11.setCell ⟨gb191, 0, none⟩ (.int .i64 t179)).setCell ⟨gb191, 1, none⟩ (.int .i64 t183)).setCell ⟨gb191, 2, none⟩ (.int .i64 t187)).setCell ⟨gb191, 3, none⟩ (.bool false)).setCell ⟨gb191, 4, none⟩ (.slice none 0 0))) := ⟨by repeat (first | (with_reducible first | exact HB.out | apply below_alloc | apply pw_below_drewN | apply below_drew1 | refine below_set ?_ (IsS55.ge HI0.out) | refine below_set ?_ GE178.out | refine below_set ?_ GE191.out) | exact HB.out)⟩
    (try clear BK178)
    (try clear BK191)
    (try clear HI0)
    (try clear HK)
    (try clear HB)
    generalize (((((w11.setCell ⟨gb191, 0, none⟩ (.int .i64 t179)).setCell ⟨gb191, 1, none⟩ (.int .i64 t183)).setCell ⟨gb191, 2, none⟩ (.int .i64 t187)).setCell ⟨gb191, 3, none⟩ (.bool false)).setCell ⟨gb191, 4, none⟩ (.slice none 0 0)) = w15 at n0_ n1_ n2_ n3_ n4_ ⊢
    have BK178 := n0_
    have BK191 := n1_
    have HI0 := n2_
    have HK := n3_
    have HB := n4_
    clear n0_ n1_ n2_ n3_ n4_
    have BK0 := Aside0.mk HI0.out.1
    have GE0 := Aside0.mk HI0.out.2
    have GW0 := Aside0.mk HI0.out.2
    clear HI0
    have n0_ := Aside0.mk (blk_drew BK0.out)
    have n1_ := Aside0.mk (blk_drew BK178.out)
    have n2_ := Aside0.mk (blk_drew BK191.out)
    have n3_ := Aside0.mk (keep_drew HK.out)
    have n4_ := Aside0.mk (below_drew1 HB.out)
    clear BK0
    clear BK178
    clear BK191
    clear HK
    clear HB
    have BK0 := n0_
    have BK178 := n1_
    have BK191 := n2_
    have HK := n3_
    have HB := n4_
    clear n0_ n1_ n2_ n3_ n4_
    refine start_ (n := 17) (S := fun w' => w'.cell? ⟨g, 0, none⟩ = some (.string t188) ∧ w'.cell? ⟨g, 1, none⟩ = some (.int .i64 t189) ∧ w'.cell? ⟨g, 2, none⟩ = some (.int .i64 t190)) (ds := []) mkPx7_0 (by kernel_rfl) rfl rfl ⟨bc0 BK0, bc1 BK0, bc2 BK0⟩ (fun hHeld => ?_); refine with_tabW item_take.tab2 item_take.bits2 (fun HT_ HW_ => ?_)
    generalize w15.drew = w16 at BK0 BK178 BK191 HK HB hHeld ⊢
    refine pu_ 0 (some 11) mkPx7_1 HT_ ?_ rfl rfl (by kernel_rfl) (fun _ _ _ h => h) (Or.inl ⟨by rfl, ?_⟩) ?_ ?_ ?_
    rotate_left
    · intro w'
      go_simp
      with_reducible rfl
    rotate_left
    · simp only [Act.put, lists_, i64_w, i32_w]
      rfl
    refine pu_ 1 (some 12) mkPx7_2 HT_ ?_ rfl rfl (by kernel_rfl) (fun _ _ _ h => h) (Or.inl ⟨by rfl, ?_⟩) ?_ ?_ ?_
    rotate_left
    · intro w'
      go_simp
      with_reducible rfl
    rotate_left
    · simp only [Act.put, lists_, i64_w, i32_w]
      rfl
    refine pu_ 2 (some 13) mkPx7_3 HT_ ?_ rfl rfl (by kernel_rfl) (fun _ _ _ h => h) (Or.inl ⟨by rfl, ?_⟩) ?_ ?_ ?_
    rotate_left
    · intro w'
      go_simp
      with_reducible rfl
    rotate_left
    · simp only [Act.put, lists_, i64_w, i32_w]
      rfl
    refine take_ (i := 3) (N := some 14) (v := ?_) (a' := ?_) mkPx7_4 rfl rfl (take_ofW HT_.out HW_.out (by kernel_rfl)) (fun _ _ _ h => h) (Or.inl ⟨by rfl, ?_⟩) hHeld ?_ ?_
    rotate_left
    · rintro w' ⟨s0, s1, s2⟩
      go_simp
      with_reducible rfl
    rotate_left
    · simp only [Act.put, lists_, i64_w, i32_w]
      rfl
    refine pu_ 4 (some 15) mkPx7_5 HT_ ?_ rfl rfl (by kernel_rfl) (fun _ _ _ h => h) (Or.inl ⟨by rfl, ?_⟩) ?_ ?_ ?_
    rotate_left
    · intro w'
      go_simp
      with_reducible rfl
    rotate_left
    · simp only [Act.put, lists_, i64_w, i32_w]
      rfl
    refine pu_ 5 (some 16) mkPx7_6 HT_ ?_ rfl rfl (by kernel_rfl) (fun _ _ _ h => h) (Or.inl ⟨by rfl, ?_⟩) ?_ ?_ ?_
    rotate_left
    · intro w'
      go_simp
      with_reducible rfl
    rotate_left
    · simp only [Act.put, lists_, i64_w, i32_w]
      rfl
    refine pu_ 6 (some 17) mkPx7_7 HT_ ?_ rfl rfl (by kernel_rfl) (fun _ _ _ h => h) (Or.inl ⟨by rfl, ?_⟩) ?_ ?_ ?_
    rotate_left
    · intro w'
      go_simp
      with_reducible rfl
    rotate_left
    · simp only [Act.put, lists_, i64_w, i32_w]
      rfl
    refine pu_ 7 (some 18) mkPx7_8 HT_ ?_ rfl rfl (by kernel_rfl) (fun _ _ _ h => h) (Or.inl ⟨by rfl, ?_⟩) ?_ ?_ ?_
    rotate_left
    · intro w'
      go_simp
      with_reducible rfl
    rotate_left
    · simp only [Act.put, lists_, i64_w, i32_w]
      rfl
    refine pu_ 8 (some 19) mkPx7_9 HT_ ?_ rfl rfl (by kernel_rfl) (fun _ _ _ h => h) (Or.inl ⟨by rfl, ?_⟩) ?_ ?_ ?_
    rotate_left
    · intro w'
      go_simp
      with_reducible rfl
    rotate_left
    · simp only [Act.put, lists_, i64_w, i32_w]
      rfl
    refine pu_ 10 (some 21) mkPx7_18 HT_ ?_ rfl rfl (by kernel_rfl) (fun _ _ _ h => h) (Or.inl ⟨by rfl, ?_⟩) ?_ ?_ ?_
    rotate_left
    · intro w'
      go_simp
      with_reducible rfl
    rotate_left
    · simp only [Act.put, lists_, i64_w, i32_w]
      rfl
    refine pu_ 11 (some 22) mkPx7_19 HT_ ?_ rfl rfl (by kernel_rfl) (fun _ _ _ h => h) (Or.inl ⟨by rfl, ?_⟩) ?_ ?_ ?_
    rotate_left
    · intro w'
      go_simp
      with_reducible rfl
    rotate_left
    · simp only [Act.put, lists_, i64_w, i32_w]
      rfl
    refine pu_ 12 (some 23) mkPx7_20 HT_ ?_ rfl rfl (by kernel_rfl) (fun _ _ _ h => h) (Or.inl ⟨by rfl, ?_⟩) ?_ ?_ ?_
    rotate_left
    · intro w'
      go_simp
      with_reducible rfl
    rotate_left
    · simp only [Act.put, lists_, i64_w, i32_w]
      rfl
    refine take_ (i := 9) (N := some 20) (v := ?_) (a' := ?_) mkPx7_13 rfl rfl (take_ofW HT_.out HW_.out (by kernel_rfl)) (fun _ _ _ h => h) (Or.inl ⟨by rfl, ?_⟩) hHeld ?_ ?_
    rotate_left
    · rintro w' ⟨s0, s1, s2⟩
      go_simp
      with_reducible rfl
    rotate_left
    · simp only [Act.put, lists_, i64_w, i32_w]
      rfl
    refine take_ (i := 13) (N := some 24) (v := ?_) (a' := ?_) mkPx7_14 rfl rfl (take_ofW HT_.out HW_.out (by kernel_rfl)) (fun _ _ _ h => h) (Or.inl ⟨by rfl, ?_⟩) hHeld ?_ ?_
    rotate_left
    · rintro w' ⟨s0, s1, s2⟩
      go_simp
      with_reducible rfl
    rotate_left
    · simp only [Act.put, lists_, i64_w, i32_w]
      rfl
    refine pu_ 14 (some 25) mkPx7_15 HT_ ?_ rfl rfl (by kernel_rfl) (fun _ _ _ h => h) (Or.inl ⟨by rfl, ?_⟩) ?_ ?_ ?_
    rotate_left
    · intro w'
      go_simp
      with_reducible rfl
    rotate_left
    · simp only [Act.put, lists_, i64_w, i32_w]
      rfl
    refine pu_ 15 (some 26) mkPx7_16 HT_ ?_ rfl rfl (by kernel_rfl) (fun _ _ _ h => h) (Or.inl ⟨by rfl, ?_⟩) ?_ ?_ ?_
    rotate_left
    · intro w'
      go_simp
      with_reducible rfl
    rotate_left
    · simp only [Act.put, lists_, i64_w, i32_w]
      rfl
    refine pu_ 16 (some 27) mkPx7_17 HT_ ?_ rfl rfl (by kernel_rfl) (fun _ _ _ h => h) (Or.inl ⟨by rfl, ?_⟩) ?_ ?_ ?_
    rotate_left
    · intro w'
      go_simp
      with_reducible rfl
    rotate_left
    · simp only [Act.put, lists_, i64_w, i32_w]
      rfl
    refine done_ (done_of HT_.out (by kernel_rfl)) ?_
    have HI0 := Aside0.mk (show IsS55 w0 _ g t188 t189 t190 from ⟨BK0.out, GE0.out⟩)
    clear BK0 GE0 GW0
    have hcz17_0 := bc0 BK191
    have hcz17_1 := bc1 BK191
    have hcz17_2 := bc2 BK191
    have hcz17_3 := bc3 BK191
    have hcz17_4 := bc4 BK191
    have hfz17_0 := bf_ BK191 0
    have hfz17_1 := bf_ BK191 1
    have hfz17_2 := bf_ BK191 2
    have hfz17_3 := bf_ BK191 3
    have hfz17_4 := bf_ BK191 4
    have hnb18 := NB178_0.out
    have hnc18 := NB0_178.out
    have hcz19_0 := bc0 BK178
    have hcz19_1 := bc1 BK178
    have hcz19_2 := bc2 BK178
    have hcz19_3 := bc3 BK178
    have hcz19_4 := bc4 BK178
    have hfz19_0 := bf_ BK178 0
    have hfz19_1 := bf_ BK178 1
    have hfz19_2 := bf_ BK178 2
    have hfz19_3 := bf_ BK178 3
    have hfz19_4 := bf_ BK178 4
    try go_wp2
    refine bodyPost_ret (results_cell_row rfl _ _ gb178 24 #[.int .i64 t179, .int .i64 t183, .int .i64 t187, .bool false, .slice none 0 0] (0, 0) _ rfl (by (with_reducible repeat (first | refine blk_drewN ?_ _ | refine blk_drew ?_ | refine blk_alloc ?_ _)); refine blk_put (cs := #[.int .i64 t179, .int .i64 t183, .int .i64 t187, .bool false, .slice none 0 0]) ?_ 4 _ rfl; refine blk_put (cs := #[.int .i64 t179, .int .i64 t183, .int .i64 t187, .bool false, .slice none 0 0]) ?_ 3 _ rfl; refine blk_put (cs := #[.int .i64 t179, .int .i64 t183, .int .i64 0, .bool false, .slice none 0 0]) ?_ 2 _ rfl; refine blk_put (cs := #[.int .i64 t179, .int .i64 0, .int .i64 0, .bool false, .slice none 0 0]) ?_ 1 _ rfl; refine blk_put (cs := #[.int .i64 0, .int .i64 0, .int .i64 0, .bool false, .slice none 0 0]) ?_ 0 _ rfl; exact gb_ BK178) Try.underlying24 rfl (by kernel_rfl)) rfl ?_
    exact ⟨_, by first | rfl | (simp [*, errW_none, errW_some] <;> rfl), by first | exact Kd.R_nil _ _ _ _ _ | exact Kd.N_nil _ _ _ _ _ | exact Kd.V_nil _ _ _ _ _ | exact Kd.Q_nil _ _ _ _ _ | exact Kd.S_nil _ _ _ _ _, by repeat (first | (with_reducible first | exact HI0.out | apply IsS55.alloc | apply IsS55.drewN | apply IsS55.drew | apply IsS55.set_0 | apply IsS55.set_1 | apply IsS55.set_2 | apply IsS55.far (hne := NB0_178.out) | apply IsS55.far (hne := NB0_191.out)) | exact HI0.out), by repeat (first | (with_reducible first | exact HB.out | apply below_alloc | apply pw_below_drewN | apply below_drew1 | refine below_set ?_ (IsS55.ge HI0.out) | refine below_set ?_ GE178.out | refine below_set ?_ GE191.out) | exact HB.out), by repeat (first | (with_reducible first | exact HK.out | apply KeepBut.set_ | apply keep_drewN | apply keep_drew | apply keep_alloc | refine keep_far ?_ GW178.out _ | refine keep_far ?_ GW191.out _) | exact HK.out)⟩
  rw [if_neg c6] at H
  have c6b0 : decide ((t188.size : Int) ≤ t189) = false := decide_eq_false c6
  clear c6
  by_cases c20 : 0 ≤ t189
  rotate_left
  · rw [if_neg c20] at H
    exact absurd H (by simp)
  rw [if_pos c20] at H
  have c20b0 : decide (0 ≤ t189) = true := decide_eq_true c20
  clear c20
  by_cases c21 : t189 < (t188.size : Int)
  rotate_left
  · rw [if_neg c21] at H
    exact absurd H (by simp)
  rw [if_pos c21] at H
  have c21b0 : decide (t189 < (t188.size : Int)) = true := decide_eq_true c21
  clear c21
  replace H := Option.bind_eq_some_iff.mp H
  obtain ⟨⟨t192, t195, t196, t197⟩, A230, H⟩ := H
  try dsimp only at H
  have A23 := Aside0.mk A230
  clear A230
  simp only [Option.some.injEq, Prod.mk.injEq] at H
  obtain ⟨rfl, rfl, rfl, rfl, rfl, rfl, rfl, rfl⟩ := H
  go_enter Try.func25, Try.ntmps25
  try go_wp2_with (first | ((with_reducible refine gate_dst (N := 2) rfl ?_); (try (refine gate_guard (by rfl) ?_; dsimp only)); refine box_event ?hg (N := 2) ?hd (cs := #[.int .i64 0, .int .i64 0, .int .i64 0, .bool false, .slice none 0 0]) (t := 24) ?hr ?_; (case hd => rfl); (case hg => rfl); (case hr => first | (go_simp; done) | (go_simp; rfl)); intro gb178 hg w24 hbox hb; have n0_ := Aside0.mk (IsS55.below (by repeat (first | (with_reducible first | exact HI0.out | apply IsS55.alloc | apply IsS55.drewN | apply IsS55.drew | apply IsS55.set_0 | apply IsS55.set_1 | apply IsS55.set_2) | exact HI0.out)) hb); have n1_ := Aside0.mk (KeepBut.trans (by repeat (first | (with_reducible first | exact HK.out | apply KeepBut.set_ | apply keep_drewN | apply keep_drew | apply keep_alloc) | exact HK.out)) (KeepBut.of_below hb g none) (.inl rfl)); have n2_ := Aside0.mk (below_step (by repeat (first | (with_reducible first | exact HB.out | apply below_alloc | apply pw_below_drewN | apply below_drew1 | refine below_set ?_ (IsS55.ge HI0.out)) | exact HB.out)) hb); have n3_ := Aside0.mk (hbox); have n4_ := Aside0.mk ((by rw [hg]; exact (keep_size (w := w) (g := g) (row := none) (by repeat (first | (with_reducible first | exact HK.out | apply KeepBut.set_ | apply keep_drewN | apply keep_drew | apply keep_alloc) | exact HK.out))) : w.heap.size ≤ gb178)); have n5_ := Aside0.mk ((Nat.le_trans HW0.out (by rw [hg]; exact (keep_size (w := w) (g := g) (row := none) (by repeat (first | (with_reducible first | exact HK.out | apply KeepBut.set_ | apply keep_drewN | apply keep_drew | apply keep_alloc) | exact HK.out))) : w.heap.size ≤ gb178) : w0.heap.size ≤ gb178)); have n6_ := Aside0.mk ((by rw [hg]; exact Nat.ne_of_lt (IsS55.lt (show IsS55 w0 _ g s0_0 s0_1 s0_2 from by repeat (first | (with_reducible first | exact HI0.out | apply IsS55.alloc | apply IsS55.drewN | apply IsS55.drew | apply IsS55.set_0 | apply IsS55.set_1 | apply IsS55.set_2) | exact HI0.out))) : g ≠ gb178)); have n7_ := Aside0.mk ((by rw [hg]; exact Nat.ne_of_gt (IsS55.lt (show IsS55 w0 _ g s0_0 s0_1 s0_2 from by repeat (first | (with_reducible first | exact HI0.out | apply IsS55.alloc | apply IsS55.drewN | apply IsS55.drew | apply IsS55.set_0 | apply IsS55.set_1 | apply IsS55.set_2) | exact HI0.out))) : gb178 ≠ g)); clear HI0; clear HK; clear HB; have HI0 := n0_; have HK := n1_; have HB := n2_; have BK178 := n3_; have GW178 := n4_; have GE178 := n5_; have NB0_178 := n6_; have NB178_0 := n7_; clear n0_ n1_ n2_ n3_ n4_ n5_ n6_ n7_; clear hb hbox hg) | ((with_reducible refine gate_callee (f := 43) rfl ?_); refine goesL_ (some 5) rfl rfl Try.func43 (by kernel_rfl) rfl #[.pointer (some ⟨g, 0, none⟩)] rfl (by (try simp only [maps_]); first | done | rfl) ?_; (with_reducible refine (entry_Taker_Num.calls k g s0_0 s0_1 s0_2 t179 t180 t181 t182 w0 _ ?side1 ?side2 A2.out).mono ?_); (case side1 => repeat (first | (with_reducible first | exact HI0.out | apply IsS55.alloc | apply IsS55.drewN | apply IsS55.drew | apply IsS55.set_0 | apply IsS55.set_1 | apply IsS55.set_2 | apply IsS55.far (hne := NB0_178.out)) | exact HI0.out)); (case side2 => repeat (first | (with_reducible first | exact HB.out | apply below_alloc | apply pw_below_drewN | apply below_drew1 | refine below_set ?_ (IsS55.ge HI0.out) | refine below_set ?_ GE178.out) | exact HB.out)); rintro e w25 ⟨rfl, hi, hb, hk⟩; refine ⟨_, rfl, ?_⟩; have n0_ := Aside0.mk (KeepBut.blk hk (g' := gb178) (o := .cells #[.int .i64 0, .int .i64 0, .int .i64 0, .bool false, .slice none 0 0] 24 (0, 0)) (gb_ BK178) NB178_0.out (by simp)); have n1_ := Aside0.mk (KeepBut.trans (by repeat (first | (with_reducible first | exact HK.out | apply KeepBut.set_ | apply keep_drewN | apply keep_drew | apply keep_alloc | refine keep_far ?_ GW178.out _) | exact HK.out)) hk (.inl rfl)); have n2_ := Aside0.mk (hb); have n3_ := Aside0.mk (hi); clear BK178; clear HK; clear HB; clear HI0; have BK178 := n0_; have HK := n1_; have HB := n2_; have HI0 := n3_; clear n0_ n1_ n2_ n3_; (try clear hb); (try clear hb2); (try clear hk); (try clear hi)) | ((with_reducible refine gate_callee (f := 43) rfl ?_); refine goesL_ (some 7) rfl rfl Try.func43 (by kernel_rfl) rfl #[.pointer (some ⟨g, 0, none⟩)] rfl (by (try simp only [maps_]); first | done | rfl) ?_; (with_reducible refine (entry_Taker_Num.calls k g t180 t181 t182 t183 t184 t185 t186 w0 _ ?side1 ?side2 A3.out).mono ?_); (case side1 => repeat (first | (with_reducible first | exact HI0.out | apply IsS55.alloc | apply IsS55.drewN | apply IsS55.drew | apply IsS55.set_0 | apply IsS55.set_1 | apply IsS55.set_2 | apply IsS55.far (hne := NB0_178.out)) | exact HI0.out)); (case side2 => repeat (first | (with_reducible first | exact HB.out | apply below_alloc | apply pw_below_drewN | apply below_drew1 | refine below_set ?_ (IsS55.ge HI0.out) | refine below_set ?_ GE178.out) | exact HB.out)); rintro e w26 ⟨rfl, hi, hb, hk⟩; refine ⟨_, rfl, ?_⟩; have n0_ := Aside0.mk (KeepBut.blk hk (g' := gb178) (o := .cells #[.int .i64 0, .int .i64 0, .int .i64 0, .bool false, .slice none 0 0] 24 (0, 0)) (gb_ BK178) NB178_0.out (by simp)); have n1_ := Aside0.mk (KeepBut.trans (by repeat (first | (with_reducible first | exact HK.out | apply KeepBut.set_ | apply keep_drewN | apply keep_drew | apply keep_alloc | refine keep_far ?_ GW178.out _) | exact HK.out)) hk (.inl rfl)); have n2_ := Aside0.mk (hb); have n3_ := Aside0.mk (hi); clear BK178; clear HK; clear HB; clear HI0; have BK178 := n0_; have HK := n1_; have HB := n2_; have HI0 := n3_; clear n0_ n1_ n2_ n3_; (try clear hb); (try clear hb2); (try clear hk); (try clear hi)) | ((with_reducible refine gate_callee (f := 43) rfl ?_); refine goesL_ (some 9) rfl rfl Try.func43 (by kernel_rfl) rfl #[.pointer (some ⟨g, 0, none⟩)] rfl (by (try simp only [maps_]); first | done | rfl) ?_; (with_reducible refine (entry_Taker_Num.calls k g t184 t185 t186 t187 t188 t189 t190 w0 _ ?side1 ?side2 A4.out).mono ?_); (case side1 => repeat (first | (with_reducible first | exact HI0.out | apply IsS55.alloc | apply IsS55.drewN | apply IsS55.drew | apply IsS55.set_0 | apply IsS55.set_1 | apply IsS55.set_2 | apply IsS55.far (hne := NB0_178.out)) | exact HI0.out)); (case side2 => repeat (first | (with_reducible first | exact HB.out | apply below_alloc | apply pw_below_drewN | apply below_drew1 | refine below_set ?_ (IsS55.ge HI0.out) | refine below_set ?_ GE178.out) | exact HB.out)); rintro e w27 ⟨rfl, hi, hb, hk⟩; refine ⟨_, rfl, ?_⟩; have n0_ := Aside0.mk (KeepBut.blk hk (g' := gb178) (o := .cells #[.int .i64 0, .int .i64 0, .int .i64 0, .bool false, .slice none 0 0] 24 (0, 0)) (gb_ BK178) NB178_0.out (by simp)); have n1_ := Aside0.mk (KeepBut.trans (by repeat (first | (with_reducible first | exact HK.out | apply KeepBut.set_ | apply keep_drewN | apply keep_drew | apply keep_alloc | refine keep_far ?_ GW178.out _) | exact HK.out)) hk (.inl rfl)); have n2_ := Aside0.mk (hb); have n3_ := Aside0.mk (hi); clear BK178; clear HK; clear HB; clear HI0; have BK178 := n0_; have HK := n1_; have HB := n2_; have HI0 := n3_; clear n0_ n1_ n2_ n3_; (try clear hb); (try clear hb2); (try clear hk); (try clear hi)) | ((with_reducible refine gate_dst (N := 3) rfl ?_); (try (refine gate_guard (by rfl) ?_; dsimp only)); refine box_event ?hg (N := 3) ?hd (cs := #[.int .i64 0, .int .i64 0, .int .i64 0, .bool false, .slice none 0 0]) (t := 24) ?hr ?_; (case hd => rfl); (case hg => rfl); (case hr => first | (go_simp; done) | (go_simp; rfl)); intro gb191 hg w28 hbox hb; have n0_ := Aside0.mk (IsS55.below (by repeat (first | (with_reducible first | exact HI0.out | apply IsS55.alloc | apply IsS55.drewN | apply IsS55.drew | apply IsS55.set_0 | apply IsS55.set_1 | apply IsS55.set_2 | apply IsS55.far (hne := NB0_178.out)) | exact HI0.out)) hb); have n1_ := bb_ BK178 hb; have n2_ := Aside0.mk (KeepBut.trans (by repeat (first | (with_reducible first | exact HK.out | apply KeepBut.set_ | apply keep_drewN | apply keep_drew | apply keep_alloc | refine keep_far ?_ GW178.out _) | exact HK.out)) (KeepBut.of_below hb g none) (.inl rfl)); have n3_ := Aside0.mk (below_step (by repeat (first | (with_reducible first | exact HB.out | apply below_alloc | apply pw_below_drewN | apply below_drew1 | refine below_set ?_ (IsS55.ge HI0.out) | refine below_set ?_ GE178.out) | exact HB.out)) hb); have n4_ := Aside0.mk (hbox); have n5_ := Aside0.mk ((by rw [hg]; exact (keep_size (w := w) (g := g) (row := none) (by repeat (first | (with_reducible first | exact HK.out | apply KeepBut.set_ | apply keep_drewN | apply keep_drew | apply keep_alloc | refine keep_far ?_ GW178.out _) | exact HK.out))) : w.heap.size ≤ gb191)); have n6_ := Aside0.mk ((Nat.le_trans HW0.out (by rw [hg]; exact (keep_size (w := w) (g := g) (row := none) (by repeat (first | (with_reducible first | exact HK.out | apply KeepBut.set_ | apply keep_drewN | apply keep_drew | apply keep_alloc | refine keep_far ?_ GW178.out _) | exact HK.out))) : w.heap.size ≤ gb191) : w0.heap.size ≤ gb191)); have n7_ := gn_ BK178 hg; have n8_ := Aside0.mk ((by rw [hg]; exact Nat.ne_of_gt (blk_lt (g := gb178) (o := .cells #[.int .i64 0, .int .i64 0, .int .i64 0, .bool false, .slice none 0 0] 24 (0, 0)) (gb_ BK178)) : gb191 ≠ gb178)); have n9_ := Aside0.mk ((by rw [hg]; exact Nat.ne_of_lt (IsS55.lt (show IsS55 w0 _ g t188 t189 t190 from by repeat (first | (with_reducible first | exact HI0.out | apply IsS55.alloc | apply IsS55.drewN | apply IsS55.drew | apply IsS55.set_0 | apply IsS55.set_1 | apply IsS55.set_2 | apply IsS55.far (hne := NB0_178.out)) | exact HI0.out))) : g ≠ gb191)); have n10_ := Aside0.mk ((by rw [hg]; exact Nat.ne_of_gt (IsS55.lt (show IsS55 w0 _ g t188 t189 t190 from by repeat (first | (with_reducible first | exact HI0.out | apply IsS55.alloc | apply IsS55.drewN | apply IsS55.drew | apply IsS55.set_0 | apply IsS55.set_1 | apply IsS55.set_2 | apply IsS55.far (hne := NB0_178.out)) | exact HI0.out))) : gb191 ≠ g)); clear HI0; clear BK178; clear HK; clear HB; have HI0 := n0_; have BK178 := n1_; have HK := n2_; have HB := n3_; have BK191 := n4_; have GW191 := n5_; have GE191 := n6_; have NB178_191 := n7_; have NB191_178 := n8_; have NB0_191 := n9_; have NB191_0 := n10_; clear n0_ n1_ n2_ n3_ n4_ n5_ n6_ n7_ n8_ n9_ n10_; clear hb hbox hg; have hnb29 := NB191_178.out; have hnc29 := NB178_191.out; have hnb30 := NB191_0.out; have hnc30 := NB0_191.out; have hcz31_0 := bc0 BK191; have hcz31_1 := bc1 BK191; have hcz31_2 := bc2 BK191; have hcz31_3 := bc3 BK191; have hcz31_4 := bc4 BK191; have hfz31_0 := bf_ BK191 0; have hfz31_1 := bf_ BK191 1; have hfz31_2 := bf_ BK191 2; have hfz31_3 := bf_ BK191 3; have hfz31_4 := bf_ BK191 4))
  have n0_ : Aside0 ((((((w28.setCell ⟨gb191, 0, none⟩ (.int .i64 t179)).setCell ⟨gb191, 1, none⟩ (.int .i64 t183)).setCell ⟨gb191, 2, none⟩ (.int .i64 t187)).setCell ⟨gb191, 3, none⟩ (.bool false)).setCell ⟨gb191, 4, none⟩ (.slice none 0 0)).heap[gb178]? = some (.cells #[.int .i64 0, .int .i64 0, .int .i64 0, .bool false, .slice none 0 0] 24 (0, 0))) := ⟨by (with_reducible repeat (first | refine blk_drewN ?_ _ | refine blk_drew ?_ | refine blk_alloc ?_ _)); refine blk_far ?_ NB178_191.out _; refine blk_far ?_ NB178_191.out _; refine blk_far ?_ NB178_191.out _; refine blk_far ?_ NB178_191.out _; refine blk_far ?_ NB178_191.out _; exact gb_ BK178⟩
  have n1_ : Aside0 ((((((w28.setCell ⟨gb191, 0, none⟩ (.int .i64 t179)).setCell ⟨gb191, 1, none⟩ (.int .i64 t183)).setCell ⟨gb191, 2, none⟩ (.int .i64 t187)).setCell ⟨gb191, 3, none⟩ (.bool false)).setCell ⟨gb191, 4, none⟩ (.slice none 0 0)).heap[gb191]? = some (.cells #[.int .i64 t179, .int .i64 t183, .int .i64 t187, .bool false, .slice none 0 0] 24 (0, 0))) := ⟨by (with_reducible repeat (first | refine blk_drewN ?_ _ | refine blk_drew ?_ | refine blk_alloc ?_ _)); refine blk_put (cs := #[.int .i64 t179, .int .i64 t183, .int .i64 t187, .bool false, .slice none 0 0]) ?_ 4 _ rfl; refine blk_put (cs := #[.int .i64 t179, .int .i64 t183, .int .i64 t187, .bool false, .slice none 0 0]) ?_ 3 _ rfl; refine blk_put (cs := #[.int .i64 t179, .int .i64 t183, .int .i64 0, .bool false, .slice none 0 0]) ?_ 2 _ rfl; refine blk_put (cs := #[.int .i64 t179, .int .i64 0, .int .i64 0, .bool false, .slice none 0 0]) ?_ 1 _ rfl; refine blk_put (cs := #[.int .i64 0, .int .i64 0, .int .i64 0, .bool false, .slice none 0 0]) ?_ 0 _ rfl; exact gb_ BK191⟩
  have n2_ : Aside0 (IsS55 w0 (((((w28.setCell ⟨gb191, 0, none⟩ (.int .i64 t179)).setCell ⟨gb191, 1, none⟩ (.int .i64 t183)).setCell ⟨gb191, 2, none⟩ (.int .i64 t187)).setCell ⟨gb191, 3, none⟩ (.bool false)).setCell ⟨gb191, 4, none⟩ (.slice none 0 0)) g t188 t189 t190) := ⟨by repeat (first | (with_reducible first | exact HI0.out | apply IsS55.alloc | apply IsS55.drewN | apply IsS55.drew | apply IsS55.set_0 | apply IsS55.set_1 | apply IsS55.set_2 | apply IsS55.far (hne := NB0_178.out) | apply IsS55.far (hne := NB0_191.out)) | exact HI0.out)⟩
  have n3_ : Aside0 (KeepBut w (((((w28.setCell ⟨gb191, 0, none⟩ (.int .i64 t179)).setCell ⟨gb191, 1, none⟩ (.int .i64 t183)).setCell ⟨gb191, 2, none⟩ (.int .i64 t187)).setCell ⟨gb191, 3, none⟩ (.bool false)).setCell ⟨gb191, 4, none⟩ (.slice none 0 0)) g none) := ⟨by repeat (first | (with_reducible first | exact HK.out | apply KeepBut.set_ | apply keep_drewN | apply keep_drew | apply keep_alloc | refine keep_far ?_ GW178.out _ | refine keep_far ?_ GW191.out _) | exact HK.out)⟩
  have n4_ : Aside0 (Below w0.heap.size w0 (((((w28.setCell ⟨gb191, 0, none⟩ (.int .i64 t179)).setCell ⟨gb191, 1, none⟩ (.int .i64 t183)).setCell ⟨gb191, 2, none⟩ (.int .i64 t187)).setCell ⟨gb191, 3, none⟩ (.bool false)).setCell ⟨gb191, 4, none⟩ (.slice none 0 0))) := ⟨by repeat (first | (with_reducible first | exact HB.out | apply below_alloc | apply pw_below_drewN | apply below_drew1 | refine below_set ?_ (IsS55.ge HI0.out) | refine below_set ?_ GE178.out | refine below_set ?_ GE191.out) | exact HB.out)⟩
  (try clear BK178)
  (try clear BK191)
  (try clear HI0)
  (try clear HK)
  (try clear HB)
  generalize (((((w28.setCell ⟨gb191, 0, none⟩ (.int .i64 t179)).setCell ⟨gb191, 1, none⟩ (.int .i64 t183)).setCell ⟨gb191, 2, none⟩ (.int .i64 t187)).setCell ⟨gb191, 3, none⟩ (.bool false)).setCell ⟨gb191, 4, none⟩ (.slice none 0 0)) = w32 at n0_ n1_ n2_ n3_ n4_ ⊢
  have BK178 := n0_
  have BK191 := n1_
  have HI0 := n2_
  have HK := n3_
  have HB := n4_
  clear n0_ n1_ n2_ n3_ n4_
  have BK0 := Aside0.mk HI0.out.1
  have GE0 := Aside0.mk HI0.out.2
  have GW0 := Aside0.mk HI0.out.2
  clear HI0
  have n0_ := Aside0.mk (blk_drew BK0.out)
  have n1_ := Aside0.mk (blk_drew BK178.out)
  have n2_ := Aside0.mk (blk_drew BK191.out)
  have n3_ := Aside0.mk (keep_drew HK.out)
  have n4_ := Aside0.mk (below_drew1 HB.out)
  clear BK0
  clear BK178
  clear BK191
  clear HK
  clear HB
  have BK0 := n0_
  have BK178 := n1_
  have BK191 := n2_
  have HK := n3_
  have HB := n4_
  clear n0_ n1_ n2_ n3_ n4_
  refine start_ (n := 17) (S := fun w' => w'.cell? ⟨g, 0, none⟩ = some (.string t188) ∧ w'.cell? ⟨g, 1, none⟩ = some (.int .i64 t189) ∧ w'.cell? ⟨g, 2, none⟩ = some (.int .i64 t190)) (ds := []) mkPx7_0 (by kernel_rfl) rfl rfl ⟨bc0 BK0, bc1 BK0, bc2 BK0⟩ (fun hHeld => ?_); refine with_tabW item_take.tab2 item_take.bits2 (fun HT_ HW_ => ?_)
  generalize w32.drew = w33 at BK0 BK178 BK191 HK HB hHeld ⊢
  refine pu_ 0 (some 11) mkPx7_1 HT_ ?_ rfl rfl (by kernel_rfl) (fun _ _ _ h => h) (Or.inl ⟨by rfl, ?_⟩) ?_ ?_ ?_
  rotate_left
  · intro w'
    go_simp
    with_reducible rfl
  rotate_left
  · simp only [Act.put, lists_, i64_w, i32_w]
    rfl
  refine pu_ 1 (some 12) mkPx7_2 HT_ ?_ rfl rfl (by kernel_rfl) (fun _ _ _ h => h) (Or.inl ⟨by rfl, ?_⟩) ?_ ?_ ?_
  rotate_left
  · intro w'
    go_simp
    with_reducible rfl
  rotate_left
  · simp only [Act.put, lists_, i64_w, i32_w]
    rfl
  refine pu_ 2 (some 13) mkPx7_3 HT_ ?_ rfl rfl (by kernel_rfl) (fun _ _ _ h => h) (Or.inl ⟨by rfl, ?_⟩) ?_ ?_ ?_
  rotate_left
  · intro w'
    go_simp
    with_reducible rfl
  rotate_left
  · simp only [Act.put, lists_, i64_w, i32_w]
    rfl
  refine take_ (i := 3) (N := some 14) (v := ?_) (a' := ?_) mkPx7_4 rfl rfl (take_ofW HT_.out HW_.out (by kernel_rfl)) (fun _ _ _ h => h) (Or.inl ⟨by rfl, ?_⟩) hHeld ?_ ?_
  rotate_left
  · rintro w' ⟨s0, s1, s2⟩
    go_simp
    with_reducible rfl
  rotate_left
  · simp only [Act.put, lists_, i64_w, i32_w]
    rfl
  refine pu_ 4 (some 15) mkPx7_5 HT_ ?_ rfl rfl (by kernel_rfl) (fun _ _ _ h => h) (Or.inl ⟨by rfl, ?_⟩) ?_ ?_ ?_
  rotate_left
  · intro w'
    go_simp
    with_reducible rfl
  rotate_left
  · simp only [Act.put, lists_, i64_w, i32_w]
    rfl
  refine pu_ 5 (some 16) mkPx7_6 HT_ ?_ rfl rfl (by kernel_rfl) (fun _ _ _ h => h) (Or.inl ⟨by rfl, ?_⟩) ?_ ?_ ?_
  rotate_left
  · intro w'
    go_simp
    with_reducible rfl
  rotate_left
  · simp only [Act.put, lists_, i64_w, i32_w]
    rfl
  refine pu_ 6 (some 17) mkPx7_7 HT_ ?_ rfl rfl (by kernel_rfl) (fun _ _ _ h => h) (Or.inl ⟨by rfl, ?_⟩) ?_ ?_ ?_
  rotate_left
  · intro w'
    go_simp
    with_reducible rfl
  rotate_left
  · simp only [Act.put, lists_, i64_w, i32_w]
    rfl
  refine pu_ 7 (some 18) mkPx7_8 HT_ ?_ rfl rfl (by kernel_rfl) (fun _ _ _ h => h) (Or.inl ⟨by rfl, ?_⟩) ?_ ?_ ?_
  rotate_left
  · intro w'
    go_simp
    with_reducible rfl
  rotate_left
  · simp only [Act.put, lists_, i64_w, i32_w]
    rfl
  refine pu_ 8 (some 19) mkPx7_9 HT_ ?_ rfl rfl (by kernel_rfl) (fun _ _ _ h => h) (Or.inl ⟨by rfl, ?_⟩) ?_ ?_ ?_
  rotate_left
  · intro w'
    go_simp
    with_reducible rfl
  rotate_left
  · simp only [Act.put, lists_, i64_w, i32_w]
    rfl
  refine pu_ 10 (some 21) mkPx7_18 HT_ ?_ rfl rfl (by kernel_rfl) (fun _ _ _ h => h) (Or.inl ⟨by rfl, ?_⟩) ?_ ?_ ?_
  rotate_left
  · intro w'
    go_simp
    with_reducible rfl
  rotate_left
  · simp only [Act.put, lists_, i64_w, i32_w]
    rfl
  refine pu_ 11 (some 22) mkPx7_19 HT_ ?_ rfl rfl (by kernel_rfl) (fun _ _ _ h => h) (Or.inl ⟨by rfl, ?_⟩) ?_ ?_ ?_
  rotate_left
  · intro w'
    go_simp
    with_reducible rfl
  rotate_left
  · simp only [Act.put, lists_, i64_w, i32_w]
    rfl
  refine pu_ 12 (some 23) mkPx7_20 HT_ ?_ rfl rfl (by kernel_rfl) (fun _ _ _ h => h) (Or.inl ⟨by rfl, ?_⟩) ?_ ?_ ?_
  rotate_left
  · intro w'
    go_simp
    with_reducible rfl
  rotate_left
  · simp only [Act.put, lists_, i64_w, i32_w]
    rfl
  refine take_ (i := 9) (N := some 20) (v := ?_) (a' := ?_) mkPx7_13 rfl rfl (take_ofW HT_.out HW_.out (by kernel_rfl)) (fun _ _ _ h => h) (Or.inl ⟨by rfl, ?_⟩) hHeld ?_ ?_
  rotate_left
  · rintro w' ⟨s0, s1, s2⟩
    go_simp
    with_reducible rfl
  rotate_left
  · simp only [Act.put, lists_, i64_w, i32_w]
    rfl
  refine take_ (i := 13) (N := some 24) (v := ?_) (a' := ?_) mkPx7_14 rfl rfl (take_ofW HT_.out HW_.out (by kernel_rfl)) (fun _ _ _ h => h) (Or.inl ⟨by rfl, ?_⟩) hHeld ?_ ?_
  rotate_left
  · rintro w' ⟨s0, s1, s2⟩
    go_simp
    with_reducible rfl
  rotate_left
  · simp only [Act.put, lists_, i64_w, i32_w]
    rfl
  refine pu_ 14 (some 25) mkPx7_15 HT_ ?_ rfl rfl (by kernel_rfl) (fun _ _ _ h => h) (Or.inl ⟨by rfl, ?_⟩) ?_ ?_ ?_
  rotate_left
  · intro w'
    go_simp
    with_reducible rfl
  rotate_left
  · simp only [Act.put, lists_, i64_w, i32_w]
    rfl
  refine pu_ 15 (some 26) mkPx7_16 HT_ ?_ rfl rfl (by kernel_rfl) (fun _ _ _ h => h) (Or.inl ⟨by rfl, ?_⟩) ?_ ?_ ?_
  rotate_left
  · intro w'
    go_simp
    with_reducible rfl
  rotate_left
  · simp only [Act.put, lists_, i64_w, i32_w]
    rfl
  refine pu_ 16 (some 27) mkPx7_17 HT_ ?_ rfl rfl (by kernel_rfl) (fun _ _ _ h => h) (Or.inl ⟨by rfl, ?_⟩) ?_ ?_ ?_
  rotate_left
  · intro w'
    go_simp
    with_reducible rfl
  rotate_left
  · simp only [Act.put, lists_, i64_w, i32_w]
    rfl
  refine done_ (done_of HT_.out (by kernel_rfl)) ?_
  have HI0 := Aside0.mk (show IsS55 w0 _ g t188 t189 t190 from ⟨BK0.out, GE0.out⟩)
  clear BK0 GE0 GW0
  try go_wp2
  have BK0 := Aside0.mk HI0.out.1
  have GE0 := Aside0.mk HI0.out.2
  have GW0 := Aside0.mk HI0.out.2
  clear HI0
  have n0_ := Aside0.mk (blk_drew BK0.out)
  have n1_ := Aside0.mk (blk_drew BK178.out)
  have n2_ := Aside0.mk (blk_drew BK191.out)
  have n3_ := Aside0.mk (keep_drew HK.out)
  have n4_ := Aside0.mk (below_drew1 HB.out)
  clear BK0
  clear BK178
  clear BK191
  clear HK
  clear HB
  have BK0 := n0_
  have BK178 := n1_
  have BK191 := n2_
  have HK := n3_
  have HB := n4_
  clear n0_ n1_ n2_ n3_ n4_
  have p22 : 0 ≤ (t189 : Int) := of_decide_eq_true (by assumption)
  have q22 : t189 < (t188.size : Int) := of_decide_eq_true (by assumption)
  have hx22 := bt_at t188 t189
  replace p22 := eq_true p22
  replace q22 := eq_true q22
  refine start_ (n := 12) (S := fun w' => w'.cell? ⟨g, 0, none⟩ = some (.string t188) ∧ w'.cell? ⟨g, 1, none⟩ = some (.int .i64 t189) ∧ w'.cell? ⟨g, 2, none⟩ = some (.int .i64 t190)) (ds := []) mkPx7_21 (by kernel_rfl) rfl rfl ⟨bc0 BK0, bc1 BK0, bc2 BK0⟩ (fun hHeld => ?_); refine with_tabW item_take.tab4 item_take.bits4 (fun HT_ HW_ => ?_)
  generalize w33.drew = w34 at BK0 BK178 BK191 HK HB hHeld ⊢
  refine pu_ 0 (some 29) mkPx7_22 HT_ ?_ rfl rfl (by kernel_rfl) (fun _ _ _ h => h) (Or.inl ⟨by rfl, ?_⟩) ?_ ?_ ?_
  rotate_left
  · intro w'
    go_simp
    with_reducible rfl
  rotate_left
  · simp only [Act.put, lists_, i64_w, i32_w]
    rfl
  refine pu_ 1 (some 30) mkPx7_23 HT_ ?_ rfl rfl (by kernel_rfl) (fun _ _ _ h => h) (Or.inl ⟨by rfl, ?_⟩) ?_ ?_ ?_
  rotate_left
  · intro w'
    go_simp
    with_reducible rfl
  rotate_left
  · simp only [Act.put, lists_, i64_w, i32_w]
    rfl
  refine pu_ 2 (some 31) mkPx7_24 HT_ ?_ rfl rfl (by kernel_rfl) (fun _ _ _ h => h) (Or.inl ⟨by rfl, ?_⟩) ?_ ?_ ?_
  rotate_left
  · intro w'
    go_simp
    with_reducible rfl
  rotate_left
  · simp only [Act.put, lists_, i64_w, i32_w]
    rfl
  refine pu_ 4 (some 33) mkPx7_25 HT_ ?_ rfl rfl (by kernel_rfl) (fun _ _ _ h => h) (Or.inl ⟨by rfl, ?_⟩) ?_ ?_ ?_
  rotate_left
  · intro w'
    go_simp
    with_reducible rfl
  rotate_left
  · simp only [Act.put, lists_, i64_w, i32_w]
    rfl
  refine pu_ 5 (some 34) mkPx7_26 HT_ ?_ rfl rfl (by kernel_rfl) (fun _ _ _ h => h) (Or.inl ⟨by rfl, ?_⟩) ?_ ?_ ?_
  rotate_left
  · intro w'
    go_simp
    with_reducible rfl
  rotate_left
  · simp only [Act.put, lists_, i64_w, i32_w]
    rfl
  refine pu_ 6 (some 35) mkPx7_27 HT_ ?_ rfl rfl (by kernel_rfl) (fun _ _ _ h => h) (Or.inl ⟨by rfl, ?_⟩) ?_ ?_ ?_
  rotate_left
  · intro w'
    go_simp
    with_reducible rfl
  rotate_left
  · simp only [Act.put, lists_, i64_w, i32_w]
    rfl
  refine take_ (i := 3) (N := some 32) (v := ?_) (a' := ?_) mkPx7_28 rfl rfl (take_ofW HT_.out HW_.out (by kernel_rfl)) (fun _ _ _ h => h) (Or.inl ⟨by rfl, ?_⟩) hHeld ?_ ?_
  rotate_left
  · rintro w' ⟨s0, s1, s2⟩
    go_simp
    with_reducible rfl
  rotate_left
  · simp only [Act.put, lists_, i64_w, i32_w]
    rfl
  refine take_ (i := 7) (N := some 36) (v := ?_) (a' := ?_) mkPx7_29 rfl rfl (take_ofW HT_.out HW_.out (by kernel_rfl)) (fun _ _ _ h => h) (Or.inl ⟨by rfl, ?_⟩) hHeld ?_ ?_
  rotate_left
  · rintro w' ⟨s0, s1, s2⟩
    go_simp
    with_reducible rfl
  rotate_left
  · simp only [Act.put, lists_, i64_w, i32_w]
    rfl
  refine take_ (i := 8) (N := some 37) (v := ?_) (a' := ?_) mkPx7_30 rfl rfl (take_ofW HT_.out HW_.out (by kernel_rfl)) (fun _ _ _ h => h) (Or.inl ⟨by rfl, ?_⟩) hHeld ?_ ?_
  rotate_left
  · rintro w' ⟨s0, s1, s2⟩
    go_simp
    with_reducible rfl
  rotate_left
  · simp only [Act.put, lists_, i64_w, i32_w]
    rfl
  refine pu_ 9 (some 38) mkPx7_31 HT_ ?_ rfl rfl (by kernel_rfl) (fun _ _ _ h => h) (Or.inl ⟨by rfl, ?_⟩) ?_ ?_ ?_
  rotate_left
  · intro w'
    go_simp
    with_reducible rfl
  rotate_left
  · simp only [Act.put, lists_, i64_w, i32_w]
    rfl
  refine pu_ 10 (some 39) mkPx7_32 HT_ ?_ rfl rfl (by kernel_rfl) (fun _ _ _ h => h) (Or.inl ⟨by rfl, ?_⟩) ?_ ?_ ?_
  rotate_left
  · intro w'
    go_simp
    with_reducible rfl
  rotate_left
  · simp only [Act.put, lists_, i64_w, i32_w]
    rfl
  refine one_ (i := 11) (N := none) mkPx7_33 rfl rfl (one_of HT_.out (by kernel_rfl)) (by decide) (fun K hK => ?_)
  have hs35 : w34.cell? ⟨gb191, 3, none⟩ = some (.bool false) := bc3 BK191
  have hfs35 := blk_frozen BK191.out 3
  have hns35_0 := NB0_191.out
  have hns35_1 := NB178_191.out
  have hms35_0 := NB191_0.out
  have hms35_1 := NB191_178.out
  refine skip_ (w1 := ?_) (by rfl) rfl ?_ ?_
  rotate_left
  · go_simp
    rfl
  refine hK.out _ _ ⟨((cell_far (p := ⟨gb191, _, none⟩) NB0_191.out _).trans (hHeld.1)), ((cell_far (p := ⟨gb191, _, none⟩) NB0_191.out _).trans (hHeld.2.1)), ((cell_far (p := ⟨gb191, _, none⟩) NB0_191.out _).trans (hHeld.2.2))⟩ (fun hHeld => ?_)
  clear hK K
  refine done_ (done_of HT_.out (by kernel_rfl)) ?_
  have HI0 := Aside0.mk (show IsS55 w0 _ g t188 t189 t190 from ⟨BK0.out, GE0.out⟩)
  clear BK0 GE0 GW0
  obtain ⟨HGz36, hgz36⟩ := HI0.out
  have hcz36_0 := cellS55_0 HGz36
  have hcz36_1 := cellS55_1 HGz36
  have hcz36_2 := cellS55_2 HGz36
  have hfz36_0 := blk_frozen HGz36 0
  have hfz36_1 := blk_frozen HGz36 1
  have hfz36_2 := blk_frozen HGz36 2
  clear HGz36 hgz36
  try go_wp2_with (first | ((with_reducible refine gate_callee (f := 44) rfl ?_); refine goesL_ (some 48) rfl rfl Try.func44 (by kernel_rfl) rfl #[.pointer (some ⟨g, 0, none⟩)] rfl (by (try simp only [maps_]); first | done | rfl) ?_; (with_reducible refine (batch_Take.calls k g t188 (wrap64 (t189 + 1)) t190 t192 t195 t196 t197 w0 _ ?side1 ?side2 A23.out).mono ?_); (case side1 => repeat (first | (with_reducible first | exact HI0.out | apply IsS55.alloc | apply IsS55.drewN | apply IsS55.drew | apply IsS55.set_0 | apply IsS55.set_1 | apply IsS55.set_2 | apply IsS55.far (hne := NB0_178.out) | apply IsS55.far (hne := NB0_191.out)) | exact HI0.out)); (case side2 => repeat (first | (with_reducible first | exact HB.out | apply below_alloc | apply pw_below_drewN | apply below_drew1 | refine below_set ?_ (IsS55.ge HI0.out) | refine below_set ?_ GE178.out | refine below_set ?_ GE191.out) | exact HB.out)); rintro e w37 ⟨v193, rfl, ho0, hi, hb, hk⟩; refine ⟨_, rfl, ?_⟩; have n0_ := Aside0.mk (KeepBut.blk hk (g' := gb178) (o := .cells #[.int .i64 0, .int .i64 0, .int .i64 0, .bool false, .slice none 0 0] 24 (0, 0)) (by (with_reducible repeat (first | refine blk_drewN ?_ _ | refine blk_drew ?_ | refine blk_alloc ?_ _)); refine blk_far ?_ NB178_0.out _; refine blk_far ?_ NB178_191.out _; exact gb_ BK178) NB178_0.out (by simp)); have n1_ := Aside0.mk (KeepBut.blk hk (g' := gb191) (o := .cells #[.int .i64 t179, .int .i64 t183, .int .i64 t187, .bool ((bt t188 t189) == 1), .slice none 0 0] 24 (0, 0)) (by (with_reducible repeat (first | refine blk_drewN ?_ _ | refine blk_drew ?_ | refine blk_alloc ?_ _)); refine blk_far ?_ NB191_0.out _; refine blk_put (cs := #[.int .i64 t179, .int .i64 t183, .int .i64 t187, .bool false, .slice none 0 0]) ?_ 3 _ rfl; exact gb_ BK191) NB191_0.out (by simp)); have n2_ := Aside0.mk (Kd.R_lower ho0 (keep_size (w := w) (g := g) (row := none) (by repeat (first | (with_reducible first | exact HK.out | apply KeepBut.set_ | apply keep_drewN | apply keep_drew | apply keep_alloc | refine keep_far ?_ GW178.out _ | refine keep_far ?_ GW191.out _) | exact HK.out)))); have n3_ := Aside0.mk (KeepBut.trans (by repeat (first | (with_reducible first | exact HK.out | apply KeepBut.set_ | apply keep_drewN | apply keep_drew | apply keep_alloc | refine keep_far ?_ GW178.out _ | refine keep_far ?_ GW191.out _) | exact HK.out)) hk (.inl rfl)); have n4_ := Aside0.mk (hb); have n5_ := Aside0.mk (hi); clear BK178; clear BK191; clear HK; clear HB; clear HI0; have BK178 := n0_; have BK191 := n1_; have HO194 := n2_; have HK := n3_; have HB := n4_; have HI0 := n5_; clear n0_ n1_ n2_ n3_ n4_ n5_; (try clear hb); (try clear hb2); (try clear hk); (try clear hi); (try clear ho0); obtain ⟨Ao38, co38, eo38⟩ := Kd.R_slice HO194.out; subst eo38; have hcz39_0 := bc0 BK191; have hcz39_1 := bc1 BK191; have hcz39_2 := bc2 BK191; have hcz39_3 := bc3 BK191; have hcz39_4 := bc4 BK191; have hfz39_0 := bf_ BK191 0; have hfz39_1 := bf_ BK191 1; have hfz39_2 := bf_ BK191 2; have hfz39_3 := bf_ BK191 3; have hfz39_4 := bf_ BK191 4; have hnb40 := NB178_0.out; have hnc40 := NB0_178.out; have hcz41_0 := bc0 BK178; have hcz41_1 := bc1 BK178; have hcz41_2 := bc2 BK178; have hcz41_3 := bc3 BK178; have hcz41_4 := bc4 BK178; have hfz41_0 := bf_ BK178 0; have hfz41_1 := bf_ BK178 1; have hfz41_2 := bf_ BK178 2; have hfz41_3 := bf_ BK178 3; have hfz41_4 := bf_ BK178 4))
  refine bodyPost_ret (results_cell_row rfl _ _ gb178 24 #[.int .i64 t179, .int .i64 t183, .int .i64 t187, .bool ((bt t188 t189) == 1), .slice Ao38 t192.length co38] (0, 0) _ rfl (by (with_reducible repeat (first | refine blk_drewN ?_ _ | refine blk_drew ?_ | refine blk_alloc ?_ _)); refine blk_put (cs := #[.int .i64 t179, .int .i64 t183, .int .i64 t187, .bool ((bt t188 t189) == 1), .slice none 0 0]) ?_ 4 _ rfl; refine blk_put (cs := #[.int .i64 t179, .int .i64 t183, .int .i64 t187, .bool false, .slice none 0 0]) ?_ 3 _ rfl; refine blk_put (cs := #[.int .i64 t179, .int .i64 t183, .int .i64 0, .bool false, .slice none 0 0]) ?_ 2 _ rfl; refine blk_put (cs := #[.int .i64 t179, .int .i64 0, .int .i64 0, .bool false, .slice none 0 0]) ?_ 1 _ rfl; refine blk_put (cs := #[.int .i64 0, .int .i64 0, .int .i64 0, .bool false, .slice none 0 0]) ?_ 0 _ rfl; refine blk_far ?_ NB178_191.out _; exact gb_ BK178) Try.underlying24 rfl (by kernel_rfl)) rfl ?_
  exact ⟨_, by first | rfl | (simp [*, errW_none, errW_some] <;> rfl), by (with_reducible repeat (first | apply Kd.R_alloc | apply Kd.R_drewN | apply Kd.R_drew)); exact Kd.R_mono (Kd.R_far (p := ⟨gb178, 4, none⟩) (Kd.R_far (p := ⟨gb178, 3, none⟩) (Kd.R_far (p := ⟨gb178, 2, none⟩) (Kd.R_far (p := ⟨gb178, 1, none⟩) (Kd.R_far (p := ⟨gb178, 0, none⟩) (Kd.R_far (p := ⟨gb191, 4, none⟩) (Kd.R_types (Kd.R_types HO194.out BK191.out (by decide)) BK178.out (by decide)) (fun _ hk => hk.1.2) (.slice Ao38 t192.length co38)) (fun _ hk => hk.2) (.int .i64 t179)) (fun _ hk => hk.2) (.int .i64 t183)) (fun _ hk => hk.2) (.int .i64 t187)) (fun _ hk => hk.2) (.bool ((bt t188 t189) == 1))) (fun _ hk => hk.2) (.slice Ao38 t192.length co38)) (fun _ hk => trivial), by repeat (first | (with_reducible first | exact HI0.out | apply IsS55.alloc | apply IsS55.drewN | apply IsS55.drew | apply IsS55.set_0 | apply IsS55.set_1 | apply IsS55.set_2 | apply IsS55.far (hne := NB0_178.out) | apply IsS55.far (hne := NB0_191.out)) | exact HI0.out), by repeat (first | (with_reducible first | exact HB.out | apply below_alloc | apply pw_below_drewN | apply below_drew1 | refine below_set ?_ (IsS55.ge HI0.out) | refine below_set ?_ GE178.out | refine below_set ?_ GE191.out) | exact HB.out), by repeat (first | (with_reducible first | exact HK.out | apply KeepBut.set_ | apply keep_drewN | apply keep_drew | apply keep_alloc | refine keep_far ?_ GW178.out _ | refine keep_far ?_ GW191.out _) | exact HK.out)⟩

/-! ### item_Read: function 11 -/
def item_Read.f (k : Nat) (a0 : ByteArray) : Option (Int × Int × Int × Bool × (List (S39)) × Int × Int) := (seal_Open.f k a0).bind fun bt199 => (if bt199.2.2 = 0 then ((item_take.f k bt199.1 0 0).bind fun bt203 => ((item_Bytes.f k bt203.1 bt203.2.1 bt203.2.2.1 bt203.2.2.2.1 bt203.2.2.2.2.1).bind fun bt214 => (if bt214.2 = 0 then (if 0 ≤ bt199.2.1 then (if bt199.2.1 ≤ (a0.size : Int) then (if bt214.1.toList = (a0.extract 0 (bt199.2.1 : Int).toNat).toList then (some (bt203.1, bt203.2.1, bt203.2.2.1, bt203.2.2.2.1, bt203.2.2.2.2.1, bt199.2.1, 0)) else (some (0, 0, 0, false, ([] : List (S39)), 0, 10))) else (none)) else (none)) else (some (0, 0, 0, false, ([] : List (S39)), 0, 10))))) else (some (0, 0, 0, false, ([] : List (S39)), 0, bt199.2.2)))
theorem item_Read.mono : ∀ a0 k, LeO (item_Read.f k a0) (item_Read.f (k + 1) a0) := by
  intro a0 k
  unfold item_Read.f
  repeat' first
      | (with_reducible exact item_Bytes.mono _ _ _ _ _ _)
      | (with_reducible exact item_take.mono _ _ _ _)
      | (with_reducible exact seal_Open.mono _ _)
      | (with_reducible exact LeO.refl _)
      | (with_reducible exact LeO.none _)
      | (with_reducible refine LeO.ite ?_ ?_)
      | (with_reducible refine LeO.bind ?_ (fun _ => ?_))
      | exact item_Bytes.mono _ _ _ _ _ _
      | exact item_take.mono _ _ _ _
      | exact seal_Open.mono _ _
      | exact LeO.none _
      | refine LeO.ite ?_ ?_
      | refine LeO.bind ?_ (fun _ => ?_)
set_option maxHeartbeats 8000000 in
set_option maxRecDepth 100000 in
theorem item_Read.calls (k : Nat) (a0 : ByteArray) (r1 : Int) (r2 : Int) (r3 : Int) (r4 : Bool) (r5 : List (S39)) (r6 : Int) (r7 : Int) (w : World) (h : item_Read.f k a0 = some (r1, r2, r3, r4, r5, r6, r7)) :
    Calls Try.prog 11 #[.string a0] w fun e w' => ∃ v4_ : Value, e = .returned (.tuple #[.agg #[.int .i64 r1, .int .i64 r2, .int .i64 r3, .bool r4, v4_], .int .i64 r6, .int .i64 r7]) ∧ Kd.R k39 39 w' w.heap.size (fun _ => True) v4_ r5 ∧ Below w.heap.size w w' := by
  have hu24 := Try.underlying24
  have hu55 := Try.underlying55
  have HB := Aside0.mk (Below.refl w.heap.size w)
  have H : ((seal_Open.f k a0).bind fun bt199 => (if bt199.2.2 = 0 then ((item_take.f k bt199.1 0 0).bind fun bt203 => ((item_Bytes.f k bt203.1 bt203.2.1 bt203.2.2.1 bt203.2.2.2.1 bt203.2.2.2.2.1).bind fun bt214 => (if bt214.2 = 0 then (if 0 ≤ bt199.2.1 then (if bt199.2.1 ≤ (a0.size : Int) then (if bt214.1.toList = (a0.extract 0 (bt199.2.1 : Int).toNat).toList then (some (bt203.1, bt203.2.1, bt203.2.2.1, bt203.2.2.2.1, bt203.2.2.2.2.1, bt199.2.1, 0)) else (some (0, 0, 0, false, ([] : List (S39)), 0, 10))) else (none)) else (none)) else (some (0, 0, 0, false, ([] : List (S39)), 0, 10))))) else (some (0, 0, 0, false, ([] : List (S39)), 0, bt199.2.2)))) = some (r1, r2, r3, r4, r5, r6, r7) := h
  clear h
  replace H := Option.bind_eq_some_iff.mp H
  obtain ⟨⟨t199, t200, t201⟩, A20, H⟩ := H
  try dsimp only at H
  have A2 := Aside0.mk A20
  clear A20
  by_cases c3 : t201 = 0
  rotate_left
  · rw [if_neg c3] at H
    have c3b0 : (t201 == 0) = false := beq_eq_false_iff_ne.mpr c3
    have c3b1 : (t201 != 0) = true := bne_iff_ne.mpr c3
    simp only [Option.some.injEq, Prod.mk.injEq] at H
    obtain ⟨rfl, rfl, rfl, rfl, rfl, rfl, rfl⟩ := H
    go_enter Try.func11, Try.ntmps11
    go_wp2_with (first | ((with_reducible refine gate_dst (N := 2) rfl ?_); refine box_event ?hg (N := 2) ?hd (cs := #[.int .i64 0, .int .i64 0, .int .i64 0, .bool false, .slice none 0 0]) (t := 24) ?hr ?_; (case hd => rfl); (case hg => rfl); (case hr => first | (go_simp; done) | (go_simp; rfl)); intro gb198 hg w47 hbox hb; have n0_ := bs_ HB hb; have n1_ := Aside0.mk (hbox); have n2_ := gz_ HB hg; have n3_ := gz_ HB hg; clear HB; have HB := n0_; have BK198 := n1_; have GW198 := n2_; have GE198 := n3_; clear n0_ n1_ n2_ n3_; clear hb hbox hg) | ((with_reducible refine gate_callee (f := 24) rfl ?_); refine goesL_ (some 13) rfl rfl Try.func24 (by kernel_rfl) rfl #[.string a0] rfl (by (try simp only [maps_]); first | done | rfl) ?_; (with_reducible refine (seal_Open.calls k a0 t199 t200 t201 _ A2.out).mono ?_); rintro e w48 ⟨rfl, hb⟩; refine ⟨_, rfl, ?_⟩; have n0_ := bb_ BK198 hb; have n1_ := bl_ [gb198] HB ⟨GE198, ⟨⟩⟩ hb; clear BK198; clear HB; have BK198 := n0_; have HB := n1_; clear n0_ n1_; (try clear hb); (try clear hb2); (try clear hk); (try clear hi); have hcz49_0 := bc0 BK198; have hcz49_1 := bc1 BK198; have hcz49_2 := bc2 BK198; have hcz49_3 := bc3 BK198; have hcz49_4 := bc4 BK198; have hfz49_0 := bf_ BK198 0; have hfz49_1 := bf_ BK198 1; have hfz49_2 := bf_ BK198 2; have hfz49_3 := bf_ BK198 3; have hfz49_4 := bf_ BK198 4))
    refine bodyPost_ret (results_ctt rfl _ _ gb198 24 #[.int .i64 0, .int .i64 0, .int .i64 0, .bool false, .slice none 0 0] (0, 0) _ rfl (by (with_reducible repeat (first | refine blk_drewN ?_ _ | refine blk_drew ?_ | refine blk_alloc ?_ _)); refine blk_put (cs := #[.int .i64 0, .int .i64 0, .int .i64 0, .bool false, .slice none 0 0]) ?_ 4 _ rfl; refine blk_put (cs := #[.int .i64 0, .int .i64 0, .int .i64 0, .bool false, .slice none 0 0]) ?_ 3 _ rfl; refine blk_put (cs := #[.int .i64 0, .int .i64 0, .int .i64 0, .bool false, .slice none 0 0]) ?_ 2 _ rfl; refine blk_put (cs := #[.int .i64 0, .int .i64 0, .int .i64 0, .bool false, .slice none 0 0]) ?_ 1 _ rfl; refine blk_put (cs := #[.int .i64 0, .int .i64 0, .int .i64 0, .bool false, .slice none 0 0]) ?_ 0 _ rfl; exact gb_ BK198) Try.underlying24 rfl (by kernel_rfl)) rfl ?_
    exact ⟨_, by first | rfl | (simp [*, errW_none, errW_some] <;> rfl), by first | exact Kd.R_nil _ _ _ _ _ | exact Kd.N_nil _ _ _ _ _ | exact Kd.V_nil _ _ _ _ _ | exact Kd.Q_nil _ _ _ _ _ | exact Kd.S_nil _ _ _ _ _, gwl_ [gb198] HB ⟨GE198, ⟨⟩⟩⟩
  rw [if_pos c3] at H
  have c3b0 : (t201 == 0) = true := beq_iff_eq.mpr c3
  have c3b1 : (t201 != 0) = false := bne_eq_false_iff_eq.mpr c3
  clear c3
  replace H := Option.bind_eq_some_iff.mp H
  obtain ⟨⟨t203, t204, t205, t206, t207, t210, t211, t212⟩, A40, H⟩ := H
  try dsimp only at H
  have A4 := Aside0.mk A40
  clear A40
  replace H := Option.bind_eq_some_iff.mp H
  obtain ⟨⟨t214, t215⟩, A50, H⟩ := H
  try dsimp only at H
  have A5 := Aside0.mk A50
  clear A50
  by_cases c6 : t215 = 0
  rotate_left
  · rw [if_neg c6] at H
    have c6b0 : (t215 == 0) = false := beq_eq_false_iff_ne.mpr c6
    have c6b1 : (t215 != 0) = true := bne_iff_ne.mpr c6
    simp only [Option.some.injEq, Prod.mk.injEq] at H
    obtain ⟨rfl, rfl, rfl, rfl, rfl, rfl, rfl⟩ := H
    go_enter Try.func11, Try.ntmps11
    go_wp2_with (first | ((with_reducible refine gate_dst (N := 2) rfl ?_); refine box_event ?hg (N := 2) ?hd (cs := #[.int .i64 0, .int .i64 0, .int .i64 0, .bool false, .slice none 0 0]) (t := 24) ?hr ?_; (case hd => rfl); (case hg => rfl); (case hr => first | (go_simp; done) | (go_simp; rfl)); intro gb198 hg w35 hbox hb; have n0_ := bs_ HB hb; have n1_ := Aside0.mk (hbox); have n2_ := gz_ HB hg; have n3_ := gz_ HB hg; clear HB; have HB := n0_; have BK198 := n1_; have GW198 := n2_; have GE198 := n3_; clear n0_ n1_ n2_ n3_; clear hb hbox hg) | ((with_reducible refine gate_callee (f := 24) rfl ?_); refine goesL_ (some 13) rfl rfl Try.func24 (by kernel_rfl) rfl #[.string a0] rfl (by (try simp only [maps_]); first | done | rfl) ?_; (with_reducible refine (seal_Open.calls k a0 t199 t200 t201 _ A2.out).mono ?_); rintro e w36 ⟨rfl, hb⟩; refine ⟨_, rfl, ?_⟩; have n0_ := bb_ BK198 hb; have n1_ := bl_ [gb198] HB ⟨GE198, ⟨⟩⟩ hb; clear BK198; clear HB; have BK198 := n0_; have HB := n1_; clear n0_ n1_; (try clear hb); (try clear hb2); (try clear hk); (try clear hi)) | ((with_reducible refine gate_dst (N := 23) rfl ?_); refine box_event ?hg (N := 23) ?hd (cs := #[.string t199, .int .i64 0, .int .i64 0]) (t := 55) ?hr ?_; (case hd => rfl); (case hg => rfl); (case hr => first | (go_simp; done) | (go_simp; rfl)); intro gb202 hg w37 hbox hb; have n0_ := bb_ BK198 hb; have n1_ := bl_ [gb198] HB ⟨GE198, ⟨⟩⟩ hb; have n2_ := gn_ BK198 hg; have n3_ := Aside0.mk ((by rw [hg]; exact Nat.ne_of_gt (blk_lt (g := gb198) (o := .cells #[.int .i64 0, .int .i64 0, .int .i64 0, .bool false, .slice none 0 0] 24 (0, 0)) (gb_ BK198)) : gb202 ≠ gb198)); have n4_ := Aside0.mk ((show IsS55 w w37 gb202 t199 0 0 from ⟨hbox, (by rw [hg]; exact (below_size (gwl_ [gb198] HB ⟨GE198, ⟨⟩⟩)) : w.heap.size ≤ gb202)⟩)); clear BK198; clear HB; have BK198 := n0_; have HB := n1_; have NB198_202 := n2_; have NB202_198 := n3_; have HI202 := n4_; clear n0_ n1_ n2_ n3_ n4_; clear hb hbox hg) | ((with_reducible refine gate_callee (f := 25) rfl ?_); refine goesL_ (some 24) rfl rfl Try.func25 (by kernel_rfl) rfl #[.pointer (some ⟨gb202, 0, none⟩)] rfl (by (try simp only [maps_]); first | done | rfl) ?_; (with_reducible refine (item_take.calls k gb202 t199 0 0 t203 t204 t205 t206 t207 t210 t211 t212 w _ ?side1 ?side2 A4.out).mono ?_); (case side1 => repeat (first | (with_reducible first | exact HI202.out | apply IsS55.alloc | apply IsS55.drewN | apply IsS55.drew | apply IsS55.set_0 | apply IsS55.set_1 | apply IsS55.set_2 | apply IsS55.far (hne := NB202_198.out)) | exact HI202.out)); (case side2 => repeat (first | (with_reducible first | exact HB.out | apply below_alloc | apply pw_below_drewN | apply below_drew1 | refine below_set ?_ (IsS55.ge HI202.out) | refine below_set ?_ GE198.out) | exact HB.out)); rintro e w38 ⟨v208, rfl, ho0, hi, hb, hk⟩; refine ⟨_, rfl, ?_⟩; have n0_ := Aside0.mk (KeepBut.blk hk (g' := gb198) (o := .cells #[.int .i64 0, .int .i64 0, .int .i64 0, .bool false, .slice none 0 0] 24 (0, 0)) (gb_ BK198) NB198_202.out (by simp)); have n1_ := Aside0.mk (Kd.R_lower ho0 (below_size (by repeat (first | (with_reducible first | exact HB.out | apply below_alloc | apply pw_below_drewN | apply below_drew1 | refine below_set ?_ (IsS55.ge HI202.out) | refine below_set ?_ GE198.out) | exact HB.out)))); have n2_ := Aside0.mk (hb); have n3_ := Aside0.mk (hi); clear BK198; clear HB; clear HI202; have BK198 := n0_; have HO209 := n1_; have HB := n2_; have HI202 := n3_; clear n0_ n1_ n2_ n3_; (try clear hb); (try clear hb2); (try clear hk); (try clear hi); (try clear ho0)) | ((with_reducible refine gate_dst (N := 8) rfl ?_); refine box_event ?hg (N := 8) ?hd (cs := #[.int .i64 0, .int .i64 0, .int .i64 0, .bool false, .slice none 0 0]) (t := 24) ?hr ?_; (case hd => rfl); (case hg => rfl); (case hr => first | (go_simp; done) | (go_simp; rfl)); intro gb213 hg w39 hbox hb; have n0_ := rb_ HO209 hb; have n1_ := bb_ BK198 hb; have n2_ := Aside0.mk (IsS55.below (by repeat (first | (with_reducible first | exact HI202.out | apply IsS55.alloc | apply IsS55.drewN | apply IsS55.drew | apply IsS55.set_0 | apply IsS55.set_1 | apply IsS55.set_2 | apply IsS55.far (hne := NB202_198.out)) | exact HI202.out)) hb); have n3_ := Aside0.mk (below_step (by repeat (first | (with_reducible first | exact HB.out | apply below_alloc | apply pw_below_drewN | apply below_drew1 | refine below_set ?_ (IsS55.ge HI202.out) | refine below_set ?_ GE198.out) | exact HB.out)) hb); have n4_ := Aside0.mk (hbox); have n5_ := Aside0.mk ((by rw [hg]; exact (below_size (by repeat (first | (with_reducible first | exact HB.out | apply below_alloc | apply pw_below_drewN | apply below_drew1 | refine below_set ?_ (IsS55.ge HI202.out) | refine below_set ?_ GE198.out) | exact HB.out))) : w.heap.size ≤ gb213)); have n6_ := Aside0.mk ((by rw [hg]; exact (below_size (by repeat (first | (with_reducible first | exact HB.out | apply below_alloc | apply pw_below_drewN | apply below_drew1 | refine below_set ?_ (IsS55.ge HI202.out) | refine below_set ?_ GE198.out) | exact HB.out))) : w.heap.size ≤ gb213)); have n7_ := gn_ BK198 hg; have n8_ := Aside0.mk ((by rw [hg]; exact Nat.ne_of_gt (blk_lt (g := gb198) (o := .cells #[.int .i64 0, .int .i64 0, .int .i64 0, .bool false, .slice none 0 0] 24 (0, 0)) (gb_ BK198)) : gb213 ≠ gb198)); have n9_ := Aside0.mk ((by rw [hg]; exact Nat.ne_of_lt (IsS55.lt (show IsS55 w _ gb202 t210 t211 t212 from by repeat (first | (with_reducible first | exact HI202.out | apply IsS55.alloc | apply IsS55.drewN | apply IsS55.drew | apply IsS55.set_0 | apply IsS55.set_1 | apply IsS55.set_2 | apply IsS55.far (hne := NB202_198.out)) | exact HI202.out))) : gb202 ≠ gb213)); have n10_ := Aside0.mk ((by rw [hg]; exact Nat.ne_of_gt (IsS55.lt (show IsS55 w _ gb202 t210 t211 t212 from by repeat (first | (with_reducible first | exact HI202.out | apply IsS55.alloc | apply IsS55.drewN | apply IsS55.drew | apply IsS55.set_0 | apply IsS55.set_1 | apply IsS55.set_2 | apply IsS55.far (hne := NB202_198.out)) | exact HI202.out))) : gb213 ≠ gb202)); clear HO209; clear BK198; clear HI202; clear HB; have HO209 := n0_; have BK198 := n1_; have HI202 := n2_; have HB := n3_; have BK213 := n4_; have GW213 := n5_; have GE213 := n6_; have NB198_213 := n7_; have NB213_198 := n8_; have NB202_213 := n9_; have NB213_202 := n10_; clear n0_ n1_ n2_ n3_ n4_ n5_ n6_ n7_ n8_ n9_ n10_; clear hb hbox hg; have hnb40 := NB213_198.out; have hnc40 := NB198_213.out; have hnb41 := NB213_202.out; have hnc41 := NB202_213.out; have hcz42_0 := bc0 BK213; have hcz42_1 := bc1 BK213; have hcz42_2 := bc2 BK213; have hcz42_3 := bc3 BK213; have hcz42_4 := bc4 BK213; have hfz42_0 := bf_ BK213 0; have hfz42_1 := bf_ BK213 1; have hfz42_2 := bf_ BK213 2; have hfz42_3 := bf_ BK213 3; have hfz42_4 := bf_ BK213 4; obtain ⟨Ao43, co43, eo43⟩ := Kd.R_slice HO209.out; subst eo43) | ((with_reducible refine gate_callee (f := 9) rfl ?_); refine goesL_ (some 27) rfl rfl Try.func9 (by kernel_rfl) rfl #[.agg #[.int .i64 t203, .int .i64 t204, .int .i64 t205, .bool t206, .slice Ao43 t207.length co43]] rfl (by (try simp only [maps_]); first | done | rfl) ?_; (with_reducible refine (item_Bytes.calls k t203 t204 t205 t206 _ _ t207 t214 t215 _ ?side1 ?side2 A5.out).mono ?_); (case side1 => refine (Kd.R_reads' (e := 39) (base := w.heap.size) (ok := fun k_ => True) (n := t207.length) (c := co43) ?_).2.2; exact (by (with_reducible repeat (first | apply Kd.R_alloc | apply Kd.R_drewN | apply Kd.R_drew)); exact (Kd.R_mono (Kd.R_far (p := ⟨gb213, 4, none⟩) (Kd.R_far (p := ⟨gb213, 3, none⟩) (Kd.R_far (p := ⟨gb213, 2, none⟩) (Kd.R_far (p := ⟨gb213, 1, none⟩) (Kd.R_far (p := ⟨gb213, 0, none⟩) (Kd.R_types HO209.out BK213.out (by decide)) (fun _ hk => hk.2) (.int .i64 t203)) (fun _ hk => hk.2) (.int .i64 t204)) (fun _ hk => hk.2) (.int .i64 t205)) (fun _ hk => hk.2) (.bool t206)) (fun _ hk => hk.2) (.slice Ao43 t207.length co43)) (fun _ h_ => h_.1)))); (case side2 => exact (Kd.R_reads' HO209.out).2.1); rintro e w44 ⟨rfl, hb⟩; refine ⟨_, rfl, ?_⟩; have n0_ := Aside0.mk (Kd.R_below (by (with_reducible repeat (first | apply Kd.R_alloc | apply Kd.R_drewN | apply Kd.R_drew)); exact (Kd.R_mono (Kd.R_far (p := ⟨gb213, 4, none⟩) (Kd.R_far (p := ⟨gb213, 3, none⟩) (Kd.R_far (p := ⟨gb213, 2, none⟩) (Kd.R_far (p := ⟨gb213, 1, none⟩) (Kd.R_far (p := ⟨gb213, 0, none⟩) (Kd.R_types HO209.out BK213.out (by decide)) (fun _ hk => hk.2) (.int .i64 t203)) (fun _ hk => hk.2) (.int .i64 t204)) (fun _ hk => hk.2) (.int .i64 t205)) (fun _ hk => hk.2) (.bool t206)) (fun _ hk => hk.2) (.slice Ao43 t207.length co43)) (fun _ h_ => h_.1))) hb); have n1_ := Aside0.mk (blk_below (g := gb198) (o := .cells #[.int .i64 0, .int .i64 0, .int .i64 0, .bool false, .slice none 0 0] 24 (0, 0)) (by (with_reducible repeat (first | refine blk_drewN ?_ _ | refine blk_drew ?_ | refine blk_alloc ?_ _)); refine blk_far ?_ NB198_213.out _; refine blk_far ?_ NB198_213.out _; refine blk_far ?_ NB198_213.out _; refine blk_far ?_ NB198_213.out _; refine blk_far ?_ NB198_213.out _; exact gb_ BK198) hb); have n2_ := Aside0.mk (IsS55.below (show IsS55 w (((((w39.setCell ⟨gb213, 0, none⟩ (.int .i64 t203)).setCell ⟨gb213, 1, none⟩ (.int .i64 t204)).setCell ⟨gb213, 2, none⟩ (.int .i64 t205)).setCell ⟨gb213, 3, none⟩ (.bool t206)).setCell ⟨gb213, 4, none⟩ (.slice Ao43 t207.length co43)) gb202 t210 t211 t212 from by repeat (first | (with_reducible first | exact HI202.out | apply IsS55.alloc | apply IsS55.drewN | apply IsS55.drew | apply IsS55.set_0 | apply IsS55.set_1 | apply IsS55.set_2 | apply IsS55.far (hne := NB202_198.out) | apply IsS55.far (hne := NB202_213.out)) | exact HI202.out)) hb); have n3_ := Aside0.mk (blk_below (g := gb213) (o := .cells #[.int .i64 t203, .int .i64 t204, .int .i64 t205, .bool t206, .slice Ao43 t207.length co43] 24 (0, 0)) (by (with_reducible repeat (first | refine blk_drewN ?_ _ | refine blk_drew ?_ | refine blk_alloc ?_ _)); refine blk_put (cs := #[.int .i64 t203, .int .i64 t204, .int .i64 t205, .bool t206, .slice none 0 0]) ?_ 4 _ rfl; refine blk_put (cs := #[.int .i64 t203, .int .i64 t204, .int .i64 t205, .bool false, .slice none 0 0]) ?_ 3 _ rfl; refine blk_put (cs := #[.int .i64 t203, .int .i64 t204, .int .i64 0, .bool false, .slice none 0 0]) ?_ 2 _ rfl; refine blk_put (cs := #[.int .i64 t203, .int .i64 0, .int .i64 0, .bool false, .slice none 0 0]) ?_ 1 _ rfl; refine blk_put (cs := #[.int .i64 0, .int .i64 0, .int .i64 0, .bool false, .slice none 0 0]) ?_ 0 _ rfl; exact gb_ BK213) hb); have n4_ := Aside0.mk (below_step (by repeat (first | (with_reducible first | exact HB.out | apply below_alloc | apply pw_below_drewN | apply below_drew1 | refine below_set ?_ (IsS55.ge HI202.out) | refine below_set ?_ GE198.out | refine below_set ?_ GE213.out) | exact HB.out)) hb); clear HO209; clear BK198; clear HI202; clear BK213; clear HB; have HO209 := n0_; have BK198 := n1_; have HI202 := n2_; have BK213 := n3_; have HB := n4_; clear n0_ n1_ n2_ n3_ n4_; (try clear hb); (try clear hb2); (try clear hk); (try clear hi); have hnb45 := NB198_202.out; have hnc45 := NB202_198.out; have hcz46_0 := bc0 BK198; have hcz46_1 := bc1 BK198; have hcz46_2 := bc2 BK198; have hcz46_3 := bc3 BK198; have hcz46_4 := bc4 BK198; have hfz46_0 := bf_ BK198 0; have hfz46_1 := bf_ BK198 1; have hfz46_2 := bf_ BK198 2; have hfz46_3 := bf_ BK198 3; have hfz46_4 := bf_ BK198 4))
    refine bodyPost_ret (results_ctt rfl _ _ gb198 24 #[.int .i64 0, .int .i64 0, .int .i64 0, .bool false, .slice none 0 0] (0, 0) _ rfl (by (with_reducible repeat (first | refine blk_drewN ?_ _ | refine blk_drew ?_ | refine blk_alloc ?_ _)); refine blk_put (cs := #[.int .i64 0, .int .i64 0, .int .i64 0, .bool false, .slice none 0 0]) ?_ 4 _ rfl; refine blk_put (cs := #[.int .i64 0, .int .i64 0, .int .i64 0, .bool false, .slice none 0 0]) ?_ 3 _ rfl; refine blk_put (cs := #[.int .i64 0, .int .i64 0, .int .i64 0, .bool false, .slice none 0 0]) ?_ 2 _ rfl; refine blk_put (cs := #[.int .i64 0, .int .i64 0, .int .i64 0, .bool false, .slice none 0 0]) ?_ 1 _ rfl; refine blk_put (cs := #[.int .i64 0, .int .i64 0, .int .i64 0, .bool false, .slice none 0 0]) ?_ 0 _ rfl; exact gb_ BK198) Try.underlying24 rfl (by kernel_rfl)) rfl ?_
    exact ⟨_, by first | rfl | (simp [*, errW_none, errW_some] <;> rfl), by first | exact Kd.R_nil _ _ _ _ _ | exact Kd.N_nil _ _ _ _ _ | exact Kd.V_nil _ _ _ _ _ | exact Kd.Q_nil _ _ _ _ _ | exact Kd.S_nil _ _ _ _ _, by repeat (first | (with_reducible first | exact HB.out | apply below_alloc | apply pw_below_drewN | apply below_drew1 | refine below_set ?_ (IsS55.ge HI202.out) | refine below_set ?_ GE198.out | refine below_set ?_ GE213.out) | exact HB.out)⟩
  rw [if_pos c6] at H
  have c6b0 : (t215 == 0) = true := beq_iff_eq.mpr c6
  have c6b1 : (t215 != 0) = false := bne_eq_false_iff_eq.mpr c6
  clear c6
  by_cases c7 : 0 ≤ t200
  rotate_left
  · rw [if_neg c7] at H
    exact absurd H (by simp)
  rw [if_pos c7] at H
  have c7b0 := eq_true c7
  have c7b1 : decide (0 ≤ t200) = true := decide_eq_true c7
  clear c7
  by_cases c8 : t200 ≤ (a0.size : Int)
  rotate_left
  · rw [if_neg c8] at H
    exact absurd H (by simp)
  rw [if_pos c8] at H
  have c8b0 := eq_true c8
  have c8b1 : decide (t200 ≤ (a0.size : Int)) = true := decide_eq_true c8
  clear c8
  by_cases c9 : t214.toList = (a0.extract 0 (t200 : Int).toNat).toList
  rotate_left
  · rw [if_neg c9] at H
    have c9b0 : (t214.toList == (a0.extract 0 (t200 : Int).toNat).toList) = false := beq_eq_false_iff_ne.mpr c9
    have c9b1 : (t214.toList != (a0.extract 0 (t200 : Int).toNat).toList) = true := bne_iff_ne.mpr c9
    simp only [Option.some.injEq, Prod.mk.injEq] at H
    obtain ⟨rfl, rfl, rfl, rfl, rfl, rfl, rfl⟩ := H
    go_enter Try.func11, Try.ntmps11
    go_wp2_with (first | ((with_reducible refine gate_dst (N := 2) rfl ?_); refine box_event ?hg (N := 2) ?hd (cs := #[.int .i64 0, .int .i64 0, .int .i64 0, .bool false, .slice none 0 0]) (t := 24) ?hr ?_; (case hd => rfl); (case hg => rfl); (case hr => first | (go_simp; done) | (go_simp; rfl)); intro gb198 hg w23 hbox hb; have n0_ := bs_ HB hb; have n1_ := Aside0.mk (hbox); have n2_ := gz_ HB hg; have n3_ := gz_ HB hg; clear HB; have HB := n0_; have BK198 := n1_; have GW198 := n2_; have GE198 := n3_; clear n0_ n1_ n2_ n3_; clear hb hbox hg) | ((with_reducible refine gate_callee (f := 24) rfl ?_); refine goesL_ (some 13) rfl rfl Try.func24 (by kernel_rfl) rfl #[.string a0] rfl (by (try simp only [maps_]); first | done | rfl) ?_; (with_reducible refine (seal_Open.calls k a0 t199 t200 t201 _ A2.out).mono ?_); rintro e w24 ⟨rfl, hb⟩; refine ⟨_, rfl, ?_⟩; have n0_ := bb_ BK198 hb; have n1_ := bl_ [gb198] HB ⟨GE198, ⟨⟩⟩ hb; clear BK198; clear HB; have BK198 := n0_; have HB := n1_; clear n0_ n1_; (try clear hb); (try clear hb2); (try clear hk); (try clear hi)) | ((with_reducible refine gate_dst (N := 23) rfl ?_); refine box_event ?hg (N := 23) ?hd (cs := #[.string t199, .int .i64 0, .int .i64 0]) (t := 55) ?hr ?_; (case hd => rfl); (case hg => rfl); (case hr => first | (go_simp; done) | (go_simp; rfl)); intro gb202 hg w25 hbox hb; have n0_ := bb_ BK198 hb; have n1_ := bl_ [gb198] HB ⟨GE198, ⟨⟩⟩ hb; have n2_ := gn_ BK198 hg; have n3_ := Aside0.mk ((by rw [hg]; exact Nat.ne_of_gt (blk_lt (g := gb198) (o := .cells #[.int .i64 0, .int .i64 0, .int .i64 0, .bool false, .slice none 0 0] 24 (0, 0)) (gb_ BK198)) : gb202 ≠ gb198)); have n4_ := Aside0.mk ((show IsS55 w w25 gb202 t199 0 0 from ⟨hbox, (by rw [hg]; exact (below_size (gwl_ [gb198] HB ⟨GE198, ⟨⟩⟩)) : w.heap.size ≤ gb202)⟩)); clear BK198; clear HB; have BK198 := n0_; have HB := n1_; have NB198_202 := n2_; have NB202_198 := n3_; have HI202 := n4_; clear n0_ n1_ n2_ n3_ n4_; clear hb hbox hg) | ((with_reducible refine gate_callee (f := 25) rfl ?_); refine goesL_ (some 24) rfl rfl Try.func25 (by kernel_rfl) rfl #[.pointer (some ⟨gb202, 0, none⟩)] rfl (by (try simp only [maps_]); first | done | rfl) ?_; (with_reducible refine (item_take.calls k gb202 t199 0 0 t203 t204 t205 t206 t207 t210 t211 t212 w _ ?side1 ?side2 A4.out).mono ?_); (case side1 => repeat (first | (with_reducible first | exact HI202.out | apply IsS55.alloc | apply IsS55.drewN | apply IsS55.drew | apply IsS55.set_0 | apply IsS55.set_1 | apply IsS55.set_2 | apply IsS55.far (hne := NB202_198.out)) | exact HI202.out)); (case side2 => repeat (first | (with_reducible first | exact HB.out | apply below_alloc | apply pw_below_drewN | apply below_drew1 | refine below_set ?_ (IsS55.ge HI202.out) | refine below_set ?_ GE198.out) | exact HB.out)); rintro e w26 ⟨v208, rfl, ho0, hi, hb, hk⟩; refine ⟨_, rfl, ?_⟩; have n0_ := Aside0.mk (KeepBut.blk hk (g' := gb198) (o := .cells #[.int .i64 0, .int .i64 0, .int .i64 0, .bool false, .slice none 0 0] 24 (0, 0)) (gb_ BK198) NB198_202.out (by simp)); have n1_ := Aside0.mk (Kd.R_lower ho0 (below_size (by repeat (first | (with_reducible first | exact HB.out | apply below_alloc | apply pw_below_drewN | apply below_drew1 | refine below_set ?_ (IsS55.ge HI202.out) | refine below_set ?_ GE198.out) | exact HB.out)))); have n2_ := Aside0.mk (hb); have n3_ := Aside0.mk (hi); clear BK198; clear HB; clear HI202; have BK198 := n0_; have HO209 := n1_; have HB := n2_; have HI202 := n3_; clear n0_ n1_ n2_ n3_; (try clear hb); (try clear hb2); (try clear hk); (try clear hi); (try clear ho0)) | ((with_reducible refine gate_dst (N := 8) rfl ?_); refine box_event ?hg (N := 8) ?hd (cs := #[.int .i64 0, .int .i64 0, .int .i64 0, .bool false, .slice none 0 0]) (t := 24) ?hr ?_; (case hd => rfl); (case hg => rfl); (case hr => first | (go_simp; done) | (go_simp; rfl)); intro gb213 hg w27 hbox hb; have n0_ := rb_ HO209 hb; have n1_ := bb_ BK198 hb; have n2_ := Aside0.mk (IsS55.below (by repeat (first | (with_reducible first | exact HI202.out | apply IsS55.alloc | apply IsS55.drewN | apply IsS55.drew | apply IsS55.set_0 | apply IsS55.set_1 | apply IsS55.set_2 | apply IsS55.far (hne := NB202_198.out)) | exact HI202.out)) hb); have n3_ := Aside0.mk (below_step (by repeat (first | (with_reducible first | exact HB.out | apply below_alloc | apply pw_below_drewN | apply below_drew1 | refine below_set ?_ (IsS55.ge HI202.out) | refine below_set ?_ GE198.out) | exact HB.out)) hb); have n4_ := Aside0.mk (hbox); have n5_ := Aside0.mk ((by rw [hg]; exact (below_size (by repeat (first | (with_reducible first | exact HB.out | apply below_alloc | apply pw_below_drewN | apply below_drew1 | refine below_set ?_ (IsS55.ge HI202.out) | refine below_set ?_ GE198.out) | exact HB.out))) : w.heap.size ≤ gb213)); have n6_ := Aside0.mk ((by rw [hg]; exact (below_size (by repeat (first | (with_reducible first | exact HB.out | apply below_alloc | apply pw_below_drewN | apply below_drew1 | refine below_set ?_ (IsS55.ge HI202.out) | refine below_set ?_ GE198.out) | exact HB.out))) : w.heap.size ≤ gb213)); have n7_ := gn_ BK198 hg; have n8_ := Aside0.mk ((by rw [hg]; exact Nat.ne_of_gt (blk_lt (g := gb198) (o := .cells #[.int .i64 0, .int .i64 0, .int .i64 0, .bool false, .slice none 0 0] 24 (0, 0)) (gb_ BK198)) : gb213 ≠ gb198)); have n9_ := Aside0.mk ((by rw [hg]; exact Nat.ne_of_lt (IsS55.lt (show IsS55 w _ gb202 t210 t211 t212 from by repeat (first | (with_reducible first | exact HI202.out | apply IsS55.alloc | apply IsS55.drewN | apply IsS55.drew | apply IsS55.set_0 | apply IsS55.set_1 | apply IsS55.set_2 | apply IsS55.far (hne := NB202_198.out)) | exact HI202.out))) : gb202 ≠ gb213)); have n10_ := Aside0.mk ((by rw [hg]; exact Nat.ne_of_gt (IsS55.lt (show IsS55 w _ gb202 t210 t211 t212 from by repeat (first | (with_reducible first | exact HI202.out | apply IsS55.alloc | apply IsS55.drewN | apply IsS55.drew | apply IsS55.set_0 | apply IsS55.set_1 | apply IsS55.set_2 | apply IsS55.far (hne := NB202_198.out)) | exact HI202.out))) : gb213 ≠ gb202)); clear HO209; clear BK198; clear HI202; clear HB; have HO209 := n0_; have BK198 := n1_; have HI202 := n2_; have HB := n3_; have BK213 := n4_; have GW213 := n5_; have GE213 := n6_; have NB198_213 := n7_; have NB213_198 := n8_; have NB202_213 := n9_; have NB213_202 := n10_; clear n0_ n1_ n2_ n3_ n4_ n5_ n6_ n7_ n8_ n9_ n10_; clear hb hbox hg; have hnb28 := NB213_198.out; have hnc28 := NB198_213.out; have hnb29 := NB213_202.out; have hnc29 := NB202_213.out; have hcz30_0 := bc0 BK213; have hcz30_1 := bc1 BK213; have hcz30_2 := bc2 BK213; have hcz30_3 := bc3 BK213; have hcz30_4 := bc4 BK213; have hfz30_0 := bf_ BK213 0; have hfz30_1 := bf_ BK213 1; have hfz30_2 := bf_ BK213 2; have hfz30_3 := bf_ BK213 3; have hfz30_4 := bf_ BK213 4; obtain ⟨Ao31, co31, eo31⟩ := Kd.R_slice HO209.out; subst eo31) | ((with_reducible refine gate_callee (f := 9) rfl ?_); refine goesL_ (some 27) rfl rfl Try.func9 (by kernel_rfl) rfl #[.agg #[.int .i64 t203, .int .i64 t204, .int .i64 t205, .bool t206, .slice Ao31 t207.length co31]] rfl (by (try simp only [maps_]); first | done | rfl) ?_; (with_reducible refine (item_Bytes.calls k t203 t204 t205 t206 _ _ t207 t214 t215 _ ?side1 ?side2 A5.out).mono ?_); (case side1 => refine (Kd.R_reads' (e := 39) (base := w.heap.size) (ok := fun k_ => True) (n := t207.length) (c := co31) ?_).2.2; exact (by (with_reducible repeat (first | apply Kd.R_alloc | apply Kd.R_drewN | apply Kd.R_drew)); exact (Kd.R_mono (Kd.R_far (p := ⟨gb213, 4, none⟩) (Kd.R_far (p := ⟨gb213, 3, none⟩) (Kd.R_far (p := ⟨gb213, 2, none⟩) (Kd.R_far (p := ⟨gb213, 1, none⟩) (Kd.R_far (p := ⟨gb213, 0, none⟩) (Kd.R_types HO209.out BK213.out (by decide)) (fun _ hk => hk.2) (.int .i64 t203)) (fun _ hk => hk.2) (.int .i64 t204)) (fun _ hk => hk.2) (.int .i64 t205)) (fun _ hk => hk.2) (.bool t206)) (fun _ hk => hk.2) (.slice Ao31 t207.length co31)) (fun _ h_ => h_.1)))); (case side2 => exact (Kd.R_reads' HO209.out).2.1); rintro e w32 ⟨rfl, hb⟩; refine ⟨_, rfl, ?_⟩; have n0_ := Aside0.mk (Kd.R_below (by (with_reducible repeat (first | apply Kd.R_alloc | apply Kd.R_drewN | apply Kd.R_drew)); exact (Kd.R_mono (Kd.R_far (p := ⟨gb213, 4, none⟩) (Kd.R_far (p := ⟨gb213, 3, none⟩) (Kd.R_far (p := ⟨gb213, 2, none⟩) (Kd.R_far (p := ⟨gb213, 1, none⟩) (Kd.R_far (p := ⟨gb213, 0, none⟩) (Kd.R_types HO209.out BK213.out (by decide)) (fun _ hk => hk.2) (.int .i64 t203)) (fun _ hk => hk.2) (.int .i64 t204)) (fun _ hk => hk.2) (.int .i64 t205)) (fun _ hk => hk.2) (.bool t206)) (fun _ hk => hk.2) (.slice Ao31 t207.length co31)) (fun _ h_ => h_.1))) hb); have n1_ := Aside0.mk (blk_below (g := gb198) (o := .cells #[.int .i64 0, .int .i64 0, .int .i64 0, .bool false, .slice none 0 0] 24 (0, 0)) (by (with_reducible repeat (first | refine blk_drewN ?_ _ | refine blk_drew ?_ | refine blk_alloc ?_ _)); refine blk_far ?_ NB198_213.out _; refine blk_far ?_ NB198_213.out _; refine blk_far ?_ NB198_213.out _; refine blk_far ?_ NB198_213.out _; refine blk_far ?_ NB198_213.out _; exact gb_ BK198) hb); have n2_ := Aside0.mk (IsS55.below (show IsS55 w (((((w27.setCell ⟨gb213, 0, none⟩ (.int .i64 t203)).setCell ⟨gb213, 1, none⟩ (.int .i64 t204)).setCell ⟨gb213, 2, none⟩ (.int .i64 t205)).setCell ⟨gb213, 3, none⟩ (.bool t206)).setCell ⟨gb213, 4, none⟩ (.slice Ao31 t207.length co31)) gb202 t210 t211 t212 from by repeat (first | (with_reducible first | exact HI202.out | apply IsS55.alloc | apply IsS55.drewN | apply IsS55.drew | apply IsS55.set_0 | apply IsS55.set_1 | apply IsS55.set_2 | apply IsS55.far (hne := NB202_198.out) | apply IsS55.far (hne := NB202_213.out)) | exact HI202.out)) hb); have n3_ := Aside0.mk (blk_below (g := gb213) (o := .cells #[.int .i64 t203, .int .i64 t204, .int .i64 t205, .bool t206, .slice Ao31 t207.length co31] 24 (0, 0)) (by (with_reducible repeat (first | refine blk_drewN ?_ _ | refine blk_drew ?_ | refine blk_alloc ?_ _)); refine blk_put (cs := #[.int .i64 t203, .int .i64 t204, .int .i64 t205, .bool t206, .slice none 0 0]) ?_ 4 _ rfl; refine blk_put (cs := #[.int .i64 t203, .int .i64 t204, .int .i64 t205, .bool false, .slice none 0 0]) ?_ 3 _ rfl; refine blk_put (cs := #[.int .i64 t203, .int .i64 t204, .int .i64 0, .bool false, .slice none 0 0]) ?_ 2 _ rfl; refine blk_put (cs := #[.int .i64 t203, .int .i64 0, .int .i64 0, .bool false, .slice none 0 0]) ?_ 1 _ rfl; refine blk_put (cs := #[.int .i64 0, .int .i64 0, .int .i64 0, .bool false, .slice none 0 0]) ?_ 0 _ rfl; exact gb_ BK213) hb); have n4_ := Aside0.mk (below_step (by repeat (first | (with_reducible first | exact HB.out | apply below_alloc | apply pw_below_drewN | apply below_drew1 | refine below_set ?_ (IsS55.ge HI202.out) | refine below_set ?_ GE198.out | refine below_set ?_ GE213.out) | exact HB.out)) hb); clear HO209; clear BK198; clear HI202; clear BK213; clear HB; have HO209 := n0_; have BK198 := n1_; have HI202 := n2_; have BK213 := n3_; have HB := n4_; clear n0_ n1_ n2_ n3_ n4_; (try clear hb); (try clear hb2); (try clear hk); (try clear hi); have hnb33 := NB198_202.out; have hnc33 := NB202_198.out; have hcz34_0 := bc0 BK198; have hcz34_1 := bc1 BK198; have hcz34_2 := bc2 BK198; have hcz34_3 := bc3 BK198; have hcz34_4 := bc4 BK198; have hfz34_0 := bf_ BK198 0; have hfz34_1 := bf_ BK198 1; have hfz34_2 := bf_ BK198 2; have hfz34_3 := bf_ BK198 3; have hfz34_4 := bf_ BK198 4))
    refine bodyPost_ret (results_ctt rfl _ _ gb198 24 #[.int .i64 0, .int .i64 0, .int .i64 0, .bool false, .slice none 0 0] (0, 0) _ rfl (by (with_reducible repeat (first | refine blk_drewN ?_ _ | refine blk_drew ?_ | refine blk_alloc ?_ _)); refine blk_put (cs := #[.int .i64 0, .int .i64 0, .int .i64 0, .bool false, .slice none 0 0]) ?_ 4 _ rfl; refine blk_put (cs := #[.int .i64 0, .int .i64 0, .int .i64 0, .bool false, .slice none 0 0]) ?_ 3 _ rfl; refine blk_put (cs := #[.int .i64 0, .int .i64 0, .int .i64 0, .bool false, .slice none 0 0]) ?_ 2 _ rfl; refine blk_put (cs := #[.int .i64 0, .int .i64 0, .int .i64 0, .bool false, .slice none 0 0]) ?_ 1 _ rfl; refine blk_put (cs := #[.int .i64 0, .int .i64 0, .int .i64 0, .bool false, .slice none 0 0]) ?_ 0 _ rfl; exact gb_ BK198) Try.underlying24 rfl (by kernel_rfl)) rfl ?_
    exact ⟨_, by first | rfl | (simp [*, errW_none, errW_some] <;> rfl), by first | exact Kd.R_nil _ _ _ _ _ | exact Kd.N_nil _ _ _ _ _ | exact Kd.V_nil _ _ _ _ _ | exact Kd.Q_nil _ _ _ _ _ | exact Kd.S_nil _ _ _ _ _, by repeat (first | (with_reducible first | exact HB.out | apply below_alloc | apply pw_below_drewN | apply below_drew1 | refine below_set ?_ (IsS55.ge HI202.out) | refine below_set ?_ GE198.out | refine below_set ?_ GE213.out) | exact HB.out)⟩
  rw [if_pos c9] at H
  have c9b0 : (t214.toList == (a0.extract 0 (t200 : Int).toNat).toList) = true := beq_iff_eq.mpr c9
  have c9b1 : (t214.toList != (a0.extract 0 (t200 : Int).toNat).toList) = false := bne_eq_false_iff_eq.mpr c9
  clear c9
  simp only [Option.some.injEq, Prod.mk.injEq] at H
  obtain ⟨rfl, rfl, rfl, rfl, rfl, rfl, rfl⟩ := H
  go_enter Try.func11, Try.ntmps11
  go_wp2_with (first | ((with_reducible refine gate_dst (N := 2) rfl ?_); refine box_event ?hg (N := 2) ?hd (cs := #[.int .i64 0, .int .i64 0, .int .i64 0, .bool false, .slice none 0 0]) (t := 24) ?hr ?_; (case hd => rfl); (case hg => rfl); (case hr => first | (go_simp; done) | (go_simp; rfl)); intro gb198 hg w10 hbox hb; have n0_ := bs_ HB hb; have n1_ := Aside0.mk (hbox); have n2_ := gz_ HB hg; have n3_ := gz_ HB hg; clear HB; have HB := n0_; have BK198 := n1_; have GW198 := n2_; have GE198 := n3_; clear n0_ n1_ n2_ n3_; clear hb hbox hg) | ((with_reducible refine gate_callee (f := 24) rfl ?_); refine goesL_ (some 13) rfl rfl Try.func24 (by kernel_rfl) rfl #[.string a0] rfl (by (try simp only [maps_]); first | done | rfl) ?_; (with_reducible refine (seal_Open.calls k a0 t199 t200 t201 _ A2.out).mono ?_); rintro e w11 ⟨rfl, hb⟩; refine ⟨_, rfl, ?_⟩; have n0_ := bb_ BK198 hb; have n1_ := bl_ [gb198] HB ⟨GE198, ⟨⟩⟩ hb; clear BK198; clear HB; have BK198 := n0_; have HB := n1_; clear n0_ n1_; (try clear hb); (try clear hb2); (try clear hk); (try clear hi)) | ((with_reducible refine gate_dst (N := 23) rfl ?_); refine box_event ?hg (N := 23) ?hd (cs := #[.string t199, .int .i64 0, .int .i64 0]) (t := 55) ?hr ?_; (case hd => rfl); (case hg => rfl); (case hr => first | (go_simp; done) | (go_simp; rfl)); intro gb202 hg w12 hbox hb; have n0_ := bb_ BK198 hb; have n1_ := bl_ [gb198] HB ⟨GE198, ⟨⟩⟩ hb; have n2_ := gn_ BK198 hg; have n3_ := Aside0.mk ((by rw [hg]; exact Nat.ne_of_gt (blk_lt (g := gb198) (o := .cells #[.int .i64 0, .int .i64 0, .int .i64 0, .bool false, .slice none 0 0] 24 (0, 0)) (gb_ BK198)) : gb202 ≠ gb198)); have n4_ := Aside0.mk ((show IsS55 w w12 gb202 t199 0 0 from ⟨hbox, (by rw [hg]; exact (below_size (gwl_ [gb198] HB ⟨GE198, ⟨⟩⟩)) : w.heap.size ≤ gb202)⟩)); clear BK198; clear HB; have BK198 := n0_; have HB := n1_; have NB198_202 := n2_; have NB202_198 := n3_; have HI202 := n4_; clear n0_ n1_ n2_ n3_ n4_; clear hb hbox hg) | ((with_reducible refine gate_callee (f := 25) rfl ?_); refine goesL_ (some 24) rfl rfl Try.func25 (by kernel_rfl) rfl #[.pointer (some ⟨gb202, 0, none⟩)] rfl (by (try simp only [maps_]); first | done | rfl) ?_; (with_reducible refine (item_take.calls k gb202 t199 0 0 t203 t204 t205 t206 t207 t210 t211 t212 w _ ?side1 ?side2 A4.out).mono ?_); (case side1 => repeat (first | (with_reducible first | exact HI202.out | apply IsS55.alloc | apply IsS55.drewN | apply IsS55.drew | apply IsS55.set_0 | apply IsS55.set_1 | apply IsS55.set_2 | apply IsS55.far (hne := NB202_198.out)) | exact HI202.out)); (case side2 => repeat (first | (with_reducible first | exact HB.out | apply below_alloc | apply pw_below_drewN | apply below_drew1 | refine below_set ?_ (IsS55.ge HI202.out) | refine below_set ?_ GE198.out) | exact HB.out)); rintro e w13 ⟨v208, rfl, ho0, hi, hb, hk⟩; refine ⟨_, rfl, ?_⟩; have n0_ := Aside0.mk (KeepBut.blk hk (g' := gb198) (o := .cells #[.int .i64 0, .int .i64 0, .int .i64 0, .bool false, .slice none 0 0] 24 (0, 0)) (gb_ BK198) NB198_202.out (by simp)); have n1_ := Aside0.mk (Kd.R_lower ho0 (below_size (by repeat (first | (with_reducible first | exact HB.out | apply below_alloc | apply pw_below_drewN | apply below_drew1 | refine below_set ?_ (IsS55.ge HI202.out) | refine below_set ?_ GE198.out) | exact HB.out)))); have n2_ := Aside0.mk (hb); have n3_ := Aside0.mk (hi); clear BK198; clear HB; clear HI202; have BK198 := n0_; have HO209 := n1_; have HB := n2_; have HI202 := n3_; clear n0_ n1_ n2_ n3_; (try clear hb); (try clear hb2); (try clear hk); (try clear hi); (try clear ho0)) | ((with_reducible refine gate_dst (N := 8) rfl ?_); refine box_event ?hg (N := 8) ?hd (cs := #[.int .i64 0, .int .i64 0, .int .i64 0, .bool false, .slice none 0 0]) (t := 24) ?hr ?_; (case hd => rfl); (case hg => rfl); (case hr => first | (go_simp; done) | (go_simp; rfl)); intro gb213 hg w14 hbox hb; have n0_ := rb_ HO209 hb; have n1_ := bb_ BK198 hb; have n2_ := Aside0.mk (IsS55.below (by repeat (first | (with_reducible first | exact HI202.out | apply IsS55.alloc | apply IsS55.drewN | apply IsS55.drew | apply IsS55.set_0 | apply IsS55.set_1 | apply IsS55.set_2 | apply IsS55.far (hne := NB202_198.out)) | exact HI202.out)) hb); have n3_ := Aside0.mk (below_step (by repeat (first | (with_reducible first | exact HB.out | apply below_alloc | apply pw_below_drewN | apply below_drew1 | refine below_set ?_ (IsS55.ge HI202.out) | refine below_set ?_ GE198.out) | exact HB.out)) hb); have n4_ := Aside0.mk (hbox); have n5_ := Aside0.mk ((by rw [hg]; exact (below_size (by repeat (first | (with_reducible first | exact HB.out | apply below_alloc | apply pw_below_drewN | apply below_drew1 | refine below_set ?_ (IsS55.ge HI202.out) | refine below_set ?_ GE198.out) | exact HB.out))) : w.heap.size ≤ gb213)); have n6_ := Aside0.mk ((by rw [hg]; exact (below_size (by repeat (first | (with_reducible first | exact HB.out | apply below_alloc | apply pw_below_drewN | apply below_drew1 | refine below_set ?_ (IsS55.ge HI202.out) | refine below_set ?_ GE198.out) | exact HB.out))) : w.heap.size ≤ gb213)); have n7_ := gn_ BK198 hg; have n8_ := Aside0.mk ((by rw [hg]; exact Nat.ne_of_gt (blk_lt (g := gb198) (o := .cells #[.int .i64 0, .int .i64 0, .int .i64 0, .bool false, .slice none 0 0] 24 (0, 0)) (gb_ BK198)) : gb213 ≠ gb198)); have n9_ := Aside0.mk ((by rw [hg]; exact Nat.ne_of_lt (IsS55.lt (show IsS55 w _ gb202 t210 t211 t212 from by repeat (first | (with_reducible first | exact HI202.out | apply IsS55.alloc | apply IsS55.drewN | apply IsS55.drew | apply IsS55.set_0 | apply IsS55.set_1 | apply IsS55.set_2 | apply IsS55.far (hne := NB202_198.out)) | exact HI202.out))) : gb202 ≠ gb213)); have n10_ := Aside0.mk ((by rw [hg]; exact Nat.ne_of_gt (IsS55.lt (show IsS55 w _ gb202 t210 t211 t212 from by repeat (first | (with_reducible first | exact HI202.out | apply IsS55.alloc | apply IsS55.drewN | apply IsS55.drew | apply IsS55.set_0 | apply IsS55.set_1 | apply IsS55.set_2 | apply IsS55.far (hne := NB202_198.out)) | exact HI202.out))) : gb213 ≠ gb202)); clear HO209; clear BK198; clear HI202; clear HB; have HO209 := n0_; have BK198 := n1_; have HI202 := n2_; have HB := n3_; have BK213 := n4_; have GW213 := n5_; have GE213 := n6_; have NB198_213 := n7_; have NB213_198 := n8_; have NB202_213 := n9_; have NB213_202 := n10_; clear n0_ n1_ n2_ n3_ n4_ n5_ n6_ n7_ n8_ n9_ n10_; clear hb hbox hg; have hnb15 := NB213_198.out; have hnc15 := NB198_213.out; have hnb16 := NB213_202.out; have hnc16 := NB202_213.out; have hcz17_0 := bc0 BK213; have hcz17_1 := bc1 BK213; have hcz17_2 := bc2 BK213; have hcz17_3 := bc3 BK213; have hcz17_4 := bc4 BK213; have hfz17_0 := bf_ BK213 0; have hfz17_1 := bf_ BK213 1; have hfz17_2 := bf_ BK213 2; have hfz17_3 := bf_ BK213 3; have hfz17_4 := bf_ BK213 4; obtain ⟨Ao18, co18, eo18⟩ := Kd.R_slice HO209.out; subst eo18) | ((with_reducible refine gate_callee (f := 9) rfl ?_); refine goesL_ (some 27) rfl rfl Try.func9 (by kernel_rfl) rfl #[.agg #[.int .i64 t203, .int .i64 t204, .int .i64 t205, .bool t206, .slice Ao18 t207.length co18]] rfl (by (try simp only [maps_]); first | done | rfl) ?_; (with_reducible refine (item_Bytes.calls k t203 t204 t205 t206 _ _ t207 t214 t215 _ ?side1 ?side2 A5.out).mono ?_); (case side1 => refine (Kd.R_reads' (e := 39) (base := w.heap.size) (ok := fun k_ => True) (n := t207.length) (c := co18) ?_).2.2; exact (by (with_reducible repeat (first | apply Kd.R_alloc | apply Kd.R_drewN | apply Kd.R_drew)); exact (Kd.R_mono (Kd.R_far (p := ⟨gb213, 4, none⟩) (Kd.R_far (p := ⟨gb213, 3, none⟩) (Kd.R_far (p := ⟨gb213, 2, none⟩) (Kd.R_far (p := ⟨gb213, 1, none⟩) (Kd.R_far (p := ⟨gb213, 0, none⟩) (Kd.R_types HO209.out BK213.out (by decide)) (fun _ hk => hk.2) (.int .i64 t203)) (fun _ hk => hk.2) (.int .i64 t204)) (fun _ hk => hk.2) (.int .i64 t205)) (fun _ hk => hk.2) (.bool t206)) (fun _ hk => hk.2) (.slice Ao18 t207.length co18)) (fun _ h_ => h_.1)))); (case side2 => exact (Kd.R_reads' HO209.out).2.1); rintro e w19 ⟨rfl, hb⟩; refine ⟨_, rfl, ?_⟩; have n0_ := Aside0.mk (Kd.R_below (by (with_reducible repeat (first | apply Kd.R_alloc | apply Kd.R_drewN | apply Kd.R_drew)); exact (Kd.R_mono (Kd.R_far (p := ⟨gb213, 4, none⟩) (Kd.R_far (p := ⟨gb213, 3, none⟩) (Kd.R_far (p := ⟨gb213, 2, none⟩) (Kd.R_far (p := ⟨gb213, 1, none⟩) (Kd.R_far (p := ⟨gb213, 0, none⟩) (Kd.R_types HO209.out BK213.out (by decide)) (fun _ hk => hk.2) (.int .i64 t203)) (fun _ hk => hk.2) (.int .i64 t204)) (fun _ hk => hk.2) (.int .i64 t205)) (fun _ hk => hk.2) (.bool t206)) (fun _ hk => hk.2) (.slice Ao18 t207.length co18)) (fun _ h_ => h_.1))) hb); have n1_ := Aside0.mk (blk_below (g := gb198) (o := .cells #[.int .i64 0, .int .i64 0, .int .i64 0, .bool false, .slice none 0 0] 24 (0, 0)) (by (with_reducible repeat (first | refine blk_drewN ?_ _ | refine blk_drew ?_ | refine blk_alloc ?_ _)); refine blk_far ?_ NB198_213.out _; refine blk_far ?_ NB198_213.out _; refine blk_far ?_ NB198_213.out _; refine blk_far ?_ NB198_213.out _; refine blk_far ?_ NB198_213.out _; exact gb_ BK198) hb); have n2_ := Aside0.mk (IsS55.below (show IsS55 w (((((w14.setCell ⟨gb213, 0, none⟩ (.int .i64 t203)).setCell ⟨gb213, 1, none⟩ (.int .i64 t204)).setCell ⟨gb213, 2, none⟩ (.int .i64 t205)).setCell ⟨gb213, 3, none⟩ (.bool t206)).setCell ⟨gb213, 4, none⟩ (.slice Ao18 t207.length co18)) gb202 t210 t211 t212 from by repeat (first | (with_reducible first | exact HI202.out | apply IsS55.alloc | apply IsS55.drewN | apply IsS55.drew | apply IsS55.set_0 | apply IsS55.set_1 | apply IsS55.set_2 | apply IsS55.far (hne := NB202_198.out) | apply IsS55.far (hne := NB202_213.out)) | exact HI202.out)) hb); have n3_ := Aside0.mk (blk_below (g := gb213) (o := .cells #[.int .i64 t203, .int .i64 t204, .int .i64 t205, .bool t206, .slice Ao18 t207.length co18] 24 (0, 0)) (by (with_reducible repeat (first | refine blk_drewN ?_ _ | refine blk_drew ?_ | refine blk_alloc ?_ _)); refine blk_put (cs := #[.int .i64 t203, .int .i64 t204, .int .i64 t205, .bool t206, .slice none 0 0]) ?_ 4 _ rfl; refine blk_put (cs := #[.int .i64 t203, .int .i64 t204, .int .i64 t205, .bool false, .slice none 0 0]) ?_ 3 _ rfl; refine blk_put (cs := #[.int .i64 t203, .int .i64 t204, .int .i64 0, .bool false, .slice none 0 0]) ?_ 2 _ rfl; refine blk_put (cs := #[.int .i64 t203, .int .i64 0, .int .i64 0, .bool false, .slice none 0 0]) ?_ 1 _ rfl; refine blk_put (cs := #[.int .i64 0, .int .i64 0, .int .i64 0, .bool false, .slice none 0 0]) ?_ 0 _ rfl; exact gb_ BK213) hb); have n4_ := Aside0.mk (below_step (by repeat (first | (with_reducible first | exact HB.out | apply below_alloc | apply pw_below_drewN | apply below_drew1 | refine below_set ?_ (IsS55.ge HI202.out) | refine below_set ?_ GE198.out | refine below_set ?_ GE213.out) | exact HB.out)) hb); clear HO209; clear BK198; clear HI202; clear BK213; clear HB; have HO209 := n0_; have BK198 := n1_; have HI202 := n2_; have BK213 := n3_; have HB := n4_; clear n0_ n1_ n2_ n3_ n4_; (try clear hb); (try clear hb2); (try clear hk); (try clear hi); have hcz20_0 := bc0 BK213; have hcz20_1 := bc1 BK213; have hcz20_2 := bc2 BK213; have hcz20_3 := bc3 BK213; have hcz20_4 := bc4 BK213; have hfz20_0 := bf_ BK213 0; have hfz20_1 := bf_ BK213 1; have hfz20_2 := bf_ BK213 2; have hfz20_3 := bf_ BK213 3; have hfz20_4 := bf_ BK213 4; have hnb21 := NB198_202.out; have hnc21 := NB202_198.out; have hcz22_0 := bc0 BK198; have hcz22_1 := bc1 BK198; have hcz22_2 := bc2 BK198; have hcz22_3 := bc3 BK198; have hcz22_4 := bc4 BK198; have hfz22_0 := bf_ BK198 0; have hfz22_1 := bf_ BK198 1; have hfz22_2 := bf_ BK198 2; have hfz22_3 := bf_ BK198 3; have hfz22_4 := bf_ BK198 4))
  refine bodyPost_ret (results_ctt rfl _ _ gb198 24 #[.int .i64 t203, .int .i64 t204, .int .i64 t205, .bool t206, .slice Ao18 t207.length co18] (0, 0) _ rfl (by (with_reducible repeat (first | refine blk_drewN ?_ _ | refine blk_drew ?_ | refine blk_alloc ?_ _)); refine blk_put (cs := #[.int .i64 t203, .int .i64 t204, .int .i64 t205, .bool t206, .slice none 0 0]) ?_ 4 _ rfl; refine blk_put (cs := #[.int .i64 t203, .int .i64 t204, .int .i64 t205, .bool false, .slice none 0 0]) ?_ 3 _ rfl; refine blk_put (cs := #[.int .i64 t203, .int .i64 t204, .int .i64 0, .bool false, .slice none 0 0]) ?_ 2 _ rfl; refine blk_put (cs := #[.int .i64 t203, .int .i64 0, .int .i64 0, .bool false, .slice none 0 0]) ?_ 1 _ rfl; refine blk_put (cs := #[.int .i64 0, .int .i64 0, .int .i64 0, .bool false, .slice none 0 0]) ?_ 0 _ rfl; exact gb_ BK198) Try.underlying24 rfl (by kernel_rfl)) rfl ?_
  exact ⟨_, by first | rfl | (simp [*, errW_none, errW_some] <;> rfl), by (with_reducible repeat (first | apply Kd.R_alloc | apply Kd.R_drewN | apply Kd.R_drew)); exact Kd.R_mono (Kd.R_far (p := ⟨gb198, 4, none⟩) (Kd.R_far (p := ⟨gb198, 3, none⟩) (Kd.R_far (p := ⟨gb198, 2, none⟩) (Kd.R_far (p := ⟨gb198, 1, none⟩) (Kd.R_far (p := ⟨gb198, 0, none⟩) (Kd.R_types HO209.out BK198.out (by decide)) (fun _ hk => hk.2) (.int .i64 t203)) (fun _ hk => hk.2) (.int .i64 t204)) (fun _ hk => hk.2) (.int .i64 t205)) (fun _ hk => hk.2) (.bool t206)) (fun _ hk => hk.2) (.slice Ao18 t207.length co18)) (fun _ hk => trivial), by repeat (first | (with_reducible first | exact HB.out | apply below_alloc | apply pw_below_drewN | apply below_drew1 | refine below_set ?_ (IsS55.ge HI202.out) | refine below_set ?_ GE198.out | refine below_set ?_ GE213.out) | exact HB.out)⟩

end Go.Proofs.Ytkmbgihfdfgmgaa.P
