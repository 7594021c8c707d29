import Derived.Test.YtmbedgopceigaaaQTabC
import Derived.Test.YtmbedgopceigaaaQSortLay
import Derived.Test.YtmbedgopceigaaaQSortRow
import Derived.Test.YtmbedgopceigaaaQOrder
import Derived.Test.YtmbedgopceigaaaM3
namespace Go.Proofs.Ytmbedgopceigaaa.Q
open Go.RowKit Go.Lib Go.Proofs Go.Proofs.Ytmbedgopceigaaa.P Go.Proofs.YtmbedgopceigaaaW.PrintWords Go.Proofs.YtmbedgopceigaaaW.PrintLast Go.Proofs.YtmbedgopceigaaaW.PrintMore
set_option linter.unusedVariables false
set_option linter.unusedSimpArgs false
attribute [local go_sem high] string_leq string_geq string_gtr
/-! sheet.compare, as slices.SortFunc wants it -/
/-- Only blocks that are new, and draws. -/
structure Gd (w w' : World) : Prop where
  below : Below w.heap.size w w'
  drawn : w.drawn ≤ w'.drawn
theorem Gd.refl (w : World) : Gd w w := ⟨Below.refl _ _, Nat.le_refl _⟩
theorem Gd.alloc {w w' : World} (h : Gd w w') (o : Obj) : Gd w (w'.alloc o) := ⟨below_alloc h.below _, h.drawn⟩
theorem Gd.drewN {w w' : World} (h : Gd w w') (n : Nat) : Gd w (w'.drewN n) := ⟨⟨h.below.os, h.below.tape, h.below.output, h.below.size, h.below.block⟩, Nat.le_trans h.drawn (Nat.le_add_right _ _)⟩
theorem Gd.drew {w w' : World} (h : Gd w w') : Gd w w'.drew := ⟨⟨h.below.os, h.below.tape, h.below.output, h.below.size, h.below.block⟩, Nat.le_trans h.drawn (Nat.le_succ _)⟩
theorem Gd.grow {w w' : World} (h : Gd w w') : ∃ q os', w' = Go.Sort.grow (w.drewN q) os' := by
  obtain ⟨⟨h1, h2, h3, h4, h5⟩, h6⟩ := h
  refine ⟨w'.drawn - w.drawn, w'.heap.extract w.heap.size w'.heap.size, ?_⟩
  obtain ⟨hp, tp, dr, os_, ou⟩ := w'
  simp only at h1 h2 h3 h4 h5 h6
  subst h1 h2 h3
  unfold Go.Sort.grow World.drewN
  simp only [World.mk.injEq, true_and, and_true]
  refine ⟨?_, by omega⟩
  apply Array.ext_getElem?
  intro i
  rw [Array.getElem?_append]
  by_cases hi : i < w.heap.size
  · rw [if_pos hi, h5 i hi]
  · rw [if_neg hi, Array.getElem?_extract]
    by_cases h2 : i < hp.size
    · rw [if_pos (by omega)]
      congr 1
      omega
    · rw [if_neg (by omega), Array.getElem?_eq_none (by omega)]
def cmpI (a b : Int) : Int := if a < b then -1 else if b < a then 1 else 0
def cfT (x y : S32) : Int := if x.f1 = 0 ∧ y.f1 = 0 then cmpI y.f0 x.f0 else if cmpI x.f1 y.f1 ≠ 0 then cmpI x.f1 y.f1 else Go.Lib.compareBytes x.f2.data.toList y.f2.data.toList
def encT (x : S32) : List Value := [.int .i64 x.f0, .int .i64 x.f1, .string x.f2, .string x.f3, .int .i64 x.f4]
theorem cmpI_f (a b : Int) : cmp_Compare_int.f a b = some (cmpI a b) := by
  unfold cmp_Compare_int.f cmp_isNaN_int.f cmpI
  simp only [bne_self_eq_false, Option.bind_some, Bool.false_eq_true, if_false]
  by_cases h1 : a < b
  · rw [if_pos h1, if_pos h1]
  · rw [if_neg h1, if_neg h1]
    by_cases h2 : b < a
    · rw [if_pos h2, if_pos h2]
    · rw [if_neg h2, if_neg h2]
theorem cmpS_f (a b : ByteArray) : strings_Compare.f a b = some (Go.Lib.compareBytes a.data.toList b.data.toList) := rfl
theorem or_f (a b : Int) : cmp_Or_int.f 3 [a, b] = some (if a ≠ 0 then a else b) := by
  unfold cmp_Or_int.f
  simp only [cmp_Or_int.l0, List.length_cons, List.length_nil]
  by_cases ha : a = 0
  · subst ha
    by_cases hb : b = 0
    · subst hb; simp [rd, wrap64]
    · simp [rd, wrap64, hb]
  · simp [rd, wrap64, ha]
theorem c2row {w : World} {g : Nat} {a b : Int} (h : w.heap[g]? = some (.cells #[.int .i64 a, .int .i64 b] 3 (0, 0))) : (Kd.int .i64).C w (some ⟨g, 0, none⟩) [a, b].length [a, b] := by
  have B := Aside0.mk h
  refine ⟨rfl, (show (2 : Nat) ≤ 9223372036854775807 by decide), fun _ => ⟨⟨g, 0, none⟩, rfl, fun j p hj => ?_⟩⟩
  match j, hj with
  | 0, hj =>
    injection hj with hj
    subst hj
    refine ⟨[.int .i64 a], rfl, rfl, fun i u hu => ?_⟩
    match i, hu with
    | 0, hu => injection hu with hu; subst hu; exact bc0 B
  | 1, hj =>
    injection hj with hj
    subst hj
    refine ⟨[.int .i64 b], rfl, rfl, fun i u hu => ?_⟩
    match i, hu with
    | 0, hu => injection hu with hu; subst hu; exact bc1 B
instance : Inhabited S32 := ⟨z32⟩
theorem OrT (W : World) (g : Nat) (ca cb co : Int) (hc : co = if ca ≠ 0 then ca else cb) (h : (Kd.int .i64).C W (some ⟨g, 0, none⟩) [ca, cb].length [ca, cb]) :
    Calls Try.prog 51 #[.slice (some ⟨g, 0, none⟩) 2 2] W fun e w' => e = .returned (.int .i64 co) ∧ Drawn0 W w' :=
  hc ▸ cmp_Or_int.calls 3 (some ⟨g, 0, none⟩) 2 [ca, cb] _ W h (by simp) (or_f ca cb)
set_option maxHeartbeats 4000000 in
set_option maxRecDepth 100000 in
theorem CmpT (w : World) (x y : S32) :
    Calls Try.prog 34 #[.agg #[.int .i64 x.f0, .int .i64 x.f1, .string x.f2, .string x.f3, .int .i64 x.f4], .agg #[.int .i64 y.f0, .int .i64 y.f1, .string y.f2, .string y.f3, .int .i64 y.f4]] w fun e w' => e = .returned (.int .i64 (cfT x y)) ∧ Gd w w' := by
  go_enter Try.func34, Try.ntmps34
  go_upto_region 1 with go_step3
  have BK1 := Aside0.mk (blk_alloc (blk_new w (.cells #[.int .i64 x.f0, .int .i64 x.f1, .string x.f2, .string x.f3, .int .i64 x.f4] 32)) (.cells #[.int .i64 y.f0, .int .i64 y.f1, .string y.f2, .string y.f3, .int .i64 y.f4] 32))
  have BK2 := Aside0.mk (show ((w.alloc (.cells #[.int .i64 x.f0, .int .i64 x.f1, .string x.f2, .string x.f3, .int .i64 x.f4] 32)).alloc (.cells #[.int .i64 y.f0, .int .i64 y.f1, .string y.f2, .string y.f3, .int .i64 y.f4] 32)).heap[w.heap.size + 1]? = some (.cells #[.int .i64 y.f0, .int .i64 y.f1, .string y.f2, .string y.f3, .int .i64 y.f4] 32 (0, 0)) from by
    have h_ := blk_new (w.alloc (.cells #[.int .i64 x.f0, .int .i64 x.f1, .string x.f2, .string x.f3, .int .i64 x.f4] 32)) (.cells #[.int .i64 y.f0, .int .i64 y.f1, .string y.f2, .string y.f3, .int .i64 y.f4] 32)
    rwa [show (w.alloc (.cells #[.int .i64 x.f0, .int .i64 x.f1, .string x.f2, .string x.f3, .int .i64 x.f4] 32)).heap.size = w.heap.size + 1 from Array.size_push _] at h_)
  have HG := Aside0.mk (((Gd.refl w).alloc (.cells #[.int .i64 x.f0, .int .i64 x.f1, .string x.f2, .string x.f3, .int .i64 x.f4] 32)).alloc (.cells #[.int .i64 y.f0, .int .i64 y.f1, .string y.f2, .string y.f3, .int .i64 y.f4] 32))
  generalize (w.alloc (.cells #[.int .i64 x.f0, .int .i64 x.f1, .string x.f2, .string x.f3, .int .i64 x.f4] 32)).alloc (.cells #[.int .i64 y.f0, .int .i64 y.f1, .string y.f2, .string y.f3, .int .i64 y.f4] 32) = W2 at BK1 BK2 HG ⊢
  generalize w.heap.size + 1 = g2 at BK2 ⊢
  generalize w.heap.size = g1 at BK1 ⊢
  by_cases hx : x.f1 = 0
  · have hx0 : (x.f1 == 0) = true := beq_iff_eq.mpr hx
    by_cases hy : y.f1 = 0
    · have hy0 : (y.f1 == 0) = true := beq_iff_eq.mpr hy
      have HCF := Aside0.mk (show cfT x y = cmpI y.f0 x.f0 by unfold cfT; rw [if_pos ⟨hx, hy⟩])
      clear hx hy
      have hc0 := bc0 BK1
      have hc1 := bc1 BK1
      have hd0 := bc0 BK2
      have hd1 := bc1 BK2
      go_wp2_with (go_at_call 50; go_loud (with_reducible refine (cmp_Compare_int.calls y.f0 x.f0 _ _ (cmpI_f _ _)).mono ?_; rintro e w' ⟨rfl, ⟨nd, rfl⟩⟩))
      go_ret
      exact ⟨by rw [HCF.out]; rfl, HG.out.drewN _⟩
    have hy0 : (y.f1 == 0) = false := beq_eq_false_iff_ne.mpr hy
    have HCF := Aside0.mk (show cfT x y = if cmpI x.f1 y.f1 ≠ 0 then cmpI x.f1 y.f1 else Go.Lib.compareBytes x.f2.data.toList y.f2.data.toList by unfold cfT; rw [if_neg (fun h => hy h.2)])
    clear hx hy
    have hc0 := bc0 BK1
    have hc1 := bc1 BK1
    have hd0 := bc0 BK2
    have hd1 := bc1 BK2
    go_upto_region 3 with go_step3
    try clear hx0 hy0 hc0 hc1 hd0 hd1
    go_wp2
    have n0_ := Aside0.mk (blk_drew BK1.out)
    have n1_ := Aside0.mk (blk_drew BK2.out)
    have n2_ := Aside0.mk (HG.out.drew)
    clear BK1 BK2 HG
    have BK1 := n0_
    have BK2 := n1_
    have HG := n2_
    clear n0_ n1_ n2_
    refine start_ (n := 13) (S := fun w' => w'.cell? ⟨g1, 0, none⟩ = some (.int .i64 x.f0) ∧ w'.cell? ⟨g1, 1, none⟩ = some (.int .i64 x.f1) ∧ w'.cell? ⟨g1, 2, none⟩ = some (.string x.f2) ∧ w'.cell? ⟨g2, 0, none⟩ = some (.int .i64 y.f0) ∧ w'.cell? ⟨g2, 1, none⟩ = some (.int .i64 y.f1) ∧ w'.cell? ⟨g2, 2, none⟩ = some (.string y.f2)) (ds := []) #[false, false, false, false, false, false, false, false, false, false, false, false, false] (by kernel_rfl) rfl rfl ⟨bc0 BK1, bc1 BK1, bc2 BK1, bc0 BK2, bc1 BK2, bc2 BK2⟩ (fun hHeld => ?_); refine with_tabW sheet_compare.tab3 sheet_compare.bits3 (fun HT_ HW_ => ?_)
    generalize W2.drew = W3 at BK1 BK2 HG hHeld ⊢
    refine pu_ 0 (some 18) #[true, false, false, false, false, false, false, false, false, false, false, false, false] HT_ ?_ rfl rfl (by kernel_rfl) (fun _ _ _ h => h) (Or.inl ⟨by rfl, ?_⟩) ?_ ?_ ?_
    rotate_left
    · intro w'
      go_simp
      with_reducible rfl
    rotate_left
    · simp only [Act.put, lists_, i64_w, i32_w]
      rfl
    refine pu_ 2 (some 20) #[true, false, true, false, false, false, false, false, false, false, false, false, false] HT_ ?_ rfl rfl (by kernel_rfl) (fun _ _ _ h => h) (Or.inl ⟨by rfl, ?_⟩) ?_ ?_ ?_
    rotate_left
    · intro w'
      go_simp
      with_reducible rfl
    rotate_left
    · simp only [Act.put, lists_, i64_w, i32_w]
      rfl
    refine pu_ 5 (some 23) #[true, false, true, false, false, true, false, false, false, false, false, false, false] HT_ ?_ rfl rfl (by kernel_rfl) (fun _ _ _ h => h) (Or.inl ⟨by rfl, ?_⟩) ?_ ?_ ?_
    rotate_left
    · intro w'
      go_simp
      with_reducible rfl
    rotate_left
    · simp only [Act.put, lists_, i64_w, i32_w]
      rfl
    refine pu_ 7 (some 25) #[true, false, true, false, false, true, false, true, false, false, false, false, false] HT_ ?_ rfl rfl (by kernel_rfl) (fun _ _ _ h => h) (Or.inl ⟨by rfl, ?_⟩) ?_ ?_ ?_
    rotate_left
    · intro w'
      go_simp
      with_reducible rfl
    rotate_left
    · simp only [Act.put, lists_, i64_w, i32_w]
      rfl
    refine take_ (i := 1) (N := some 19) (v := ?_) (a' := ?_) #[true, true, true, false, false, true, false, true, false, false, false, false, false] rfl rfl (take_ofW HT_.out HW_.out (by kernel_rfl)) (fun _ _ _ h => h) (Or.inl ⟨by rfl, ?_⟩) hHeld ?_ ?_
    rotate_left
    · rintro w' ⟨s0, s1, s2, s3, s4, s5⟩
      go_simp
      with_reducible rfl
    rotate_left
    · simp only [Act.put, lists_, i64_w, i32_w]
      rfl
    refine take_ (i := 3) (N := some 21) (v := ?_) (a' := ?_) #[true, true, true, true, false, true, false, true, false, false, false, false, false] rfl rfl (take_ofW HT_.out HW_.out (by kernel_rfl)) (fun _ _ _ h => h) (Or.inl ⟨by rfl, ?_⟩) hHeld ?_ ?_
    rotate_left
    · rintro w' ⟨s0, s1, s2, s3, s4, s5⟩
      go_simp
      with_reducible rfl
    rotate_left
    · simp only [Act.put, lists_, i64_w, i32_w]
      rfl
    refine take_ (i := 6) (N := some 24) (v := ?_) (a' := ?_) #[true, true, true, true, false, true, true, true, false, false, false, false, false] rfl rfl (take_ofW HT_.out HW_.out (by kernel_rfl)) (fun _ _ _ h => h) (Or.inl ⟨by rfl, ?_⟩) hHeld ?_ ?_
    rotate_left
    · rintro w' ⟨s0, s1, s2, s3, s4, s5⟩
      go_simp
      with_reducible rfl
    rotate_left
    · simp only [Act.put, lists_, i64_w, i32_w]
      rfl
    refine take_ (i := 8) (N := some 26) (v := ?_) (a' := ?_) #[true, true, true, true, false, true, true, true, true, false, false, false, false] rfl rfl (take_ofW HT_.out HW_.out (by kernel_rfl)) (fun _ _ _ h => h) (Or.inl ⟨by rfl, ?_⟩) hHeld ?_ ?_
    rotate_left
    · rintro w' ⟨s0, s1, s2, s3, s4, s5⟩
      go_simp
      with_reducible rfl
    rotate_left
    · simp only [Act.put, lists_, i64_w, i32_w]
      rfl
    refine one_ (i := 4) (N := some 22) #[true, true, true, true, true, true, true, true, true, false, false, false, false] rfl rfl (one_of HT_.out (by kernel_rfl)) (by decide) (fun K hK => ?_)
    refine goes_ Try.func50 (by kernel_rfl) rfl #[.int .i64 x.f1, .int .i64 y.f1] (by rfl) rfl rfl (by (try simp only [maps_]); first | done | rfl) ?_
    with_reducible refine (cmp_Compare_int.calls x.f1 y.f1 _ _ (cmpI_f _ _)).mono ?_
    rintro e w' ⟨rfl, ⟨nd, rfl⟩⟩
    refine ⟨_, rfl, ?_⟩
    have n0_ := Aside0.mk (blk_drewN BK1.out nd)
    have n1_ := Aside0.mk (blk_drewN BK2.out nd)
    have n2_ := Aside0.mk (HG.out.drewN nd)
    clear BK1 BK2 HG
    have BK1 := n0_
    have BK2 := n1_
    have HG := n2_
    clear n0_ n1_ n2_
    generalize W3.drewN nd = W4 at BK1 BK2 HG ⊢
    refine hK.out _ _ ⟨bc0 BK1, bc1 BK1, bc2 BK1, bc0 BK2, bc1 BK2, bc2 BK2⟩ (fun hHeld => ?_)
    clear hK K
    refine norm_ (a' := ?_) ?_ ?_
    rotate_left
    · show Act.put _ (some 22) _ = _
      simp only [Act.put, lists_, i64_w, i32_w]
      rfl
    refine one_ (i := 9) (N := some 27) #[true, true, true, true, true, true, true, true, true, true, false, false, false] rfl rfl (one_of HT_.out (by kernel_rfl)) (by decide) (fun K hK => ?_)
    refine goes_ Try.func52 (by kernel_rfl) rfl #[.string x.f2, .string y.f2] (by rfl) rfl rfl (by (try simp only [maps_]); first | done | rfl) ?_
    with_reducible refine (strings_Compare.calls x.f2 y.f2 _ _ (cmpS_f _ _)).mono ?_
    rintro e w' ⟨rfl, ⟨nd, rfl⟩⟩
    refine ⟨_, rfl, ?_⟩
    have n0_ := Aside0.mk (blk_drewN BK1.out nd)
    have n1_ := Aside0.mk (blk_drewN BK2.out nd)
    have n2_ := Aside0.mk (HG.out.drewN nd)
    clear BK1 BK2 HG
    have BK1 := n0_
    have BK2 := n1_
    have HG := n2_
    clear n0_ n1_ n2_
    generalize W4.drewN nd = W5 at BK1 BK2 HG ⊢
    refine hK.out _ _ ⟨bc0 BK1, bc1 BK1, bc2 BK1, bc0 BK2, bc1 BK2, bc2 BK2⟩ (fun hHeld => ?_)
    clear hK K
    refine norm_ (a' := ?_) ?_ ?_
    rotate_left
    · show Act.put _ (some 27) _ = _
      simp only [Act.put, lists_, i64_w, i32_w]
      rfl
    generalize cmpI x.f1 y.f1 = ca at HCF ⊢
    generalize Go.Lib.compareBytes x.f2.data.toList y.f2.data.toList = cb at HCF ⊢
    obtain ⟨co, hco⟩ : ∃ co, co = (if ca ≠ 0 then ca else cb) := ⟨_, rfl⟩
    rw [← hco] at HCF
    have HCO := Aside0.mk hco
    clear hco
    refine one_ (i := 10) (N := some 28) #[true, true, true, true, true, true, true, true, true, true, true, false, false] rfl rfl (one_of HT_.out (by kernel_rfl)) (by decide) (fun K hK => ?_)
    refine event_step (v := .slice (some ⟨W5.heap.size, 0, none⟩) 2 2) (w1 := W5.alloc (.cells #[.int .i64 ca, .int .i64 cb] 3)) ?hg ?hr ?_
    (case hg => rfl)
    (case hr => first | (go_simp; done) | (go_simp; rfl))
    have HRL := Aside0.mk (c2row (blk_new W5 (.cells #[.int .i64 ca, .int .i64 cb] 3)))
    have n0_ := Aside0.mk (blk_alloc BK1.out (.cells #[.int .i64 ca, .int .i64 cb] 3))
    have n1_ := Aside0.mk (blk_alloc BK2.out (.cells #[.int .i64 ca, .int .i64 cb] 3))
    have n2_ := Aside0.mk (HG.out.alloc (.cells #[.int .i64 ca, .int .i64 cb] 3))
    clear BK1 BK2 HG
    have BK1 := n0_
    have BK2 := n1_
    have HG := n2_
    clear n0_ n1_ n2_
    generalize W5.alloc (.cells #[.int .i64 ca, .int .i64 cb] 3) = W6 at BK1 BK2 HG HRL ⊢
    generalize W5.heap.size = g5 at HRL ⊢
    refine hK.out _ _ ⟨bc0 BK1, bc1 BK1, bc2 BK1, bc0 BK2, bc1 BK2, bc2 BK2⟩ (fun hHeld => ?_)
    clear hK K
    refine norm_ (a' := ?_) ?_ ?_
    rotate_left
    · show Act.put _ (some 28) _ = _
      simp only [Act.put, lists_, i64_w, i32_w]
      rfl
    refine one_ (i := 11) (N := some 29) #[true, true, true, true, true, true, true, true, true, true, true, true, false] rfl rfl (one_of HT_.out (by kernel_rfl)) (by decide) (fun K hK => ?_)
    refine goes_ Try.func51 (by kernel_rfl) rfl #[.slice (some ⟨g5, 0, none⟩) 2 2] (by rfl) rfl rfl (by (try simp only [maps_]); first | done | rfl) ?_
    with_reducible refine (OrT W6 g5 ca cb co HCO.out HRL.out).mono ?_
    rintro e w' ⟨rfl, ⟨nd, rfl⟩⟩
    refine ⟨_, rfl, ?_⟩
    have n0_ := Aside0.mk (blk_drewN BK1.out nd)
    have n1_ := Aside0.mk (blk_drewN BK2.out nd)
    have n2_ := Aside0.mk (HG.out.drewN nd)
    clear BK1 BK2 HG
    have BK1 := n0_
    have BK2 := n1_
    have HG := n2_
    clear n0_ n1_ n2_
    generalize W6.drewN nd = W7 at BK1 BK2 HG ⊢
    refine hK.out _ _ ⟨bc0 BK1, bc1 BK1, bc2 BK1, bc0 BK2, bc1 BK2, bc2 BK2⟩ (fun hHeld => ?_)
    clear hK K
    refine norm_ (a' := ?_) ?_ ?_
    rotate_left
    · show Act.put _ (some 29) _ = _
      simp only [Act.put, lists_, i64_w, i32_w]
      rfl
    refine pu_ 12 (some 4) #[true, true, true, true, true, true, true, true, true, true, true, true, true] HT_ ?_ rfl rfl (by kernel_rfl) (fun _ _ _ h => h) (Or.inl ⟨by rfl, ?_⟩) ?_ ?_ ?_
    rotate_left
    · intro w'
      go_simp
      with_reducible rfl
    rotate_left
    · simp only [Act.put, lists_, i64_w, i32_w]
      rfl
    refine done_ (done_of HT_.out (by kernel_rfl)) ?_
    try go_wp2
    go_ret
    exact ⟨by rw [HCF.out]; rfl, HG.out⟩
  have hx0 : (x.f1 == 0) = false := beq_eq_false_iff_ne.mpr hx
  have HCF := Aside0.mk (show cfT x y = if cmpI x.f1 y.f1 ≠ 0 then cmpI x.f1 y.f1 else Go.Lib.compareBytes x.f2.data.toList y.f2.data.toList by unfold cfT; rw [if_neg (fun h => hx h.1)])
  clear hx
  have hc0 := bc0 BK1
  have hc1 := bc1 BK1
  go_upto_region 3 with go_step3
  try clear hx0 hc0 hc1
  go_wp2
  have n0_ := Aside0.mk (blk_drew BK1.out)
  have n1_ := Aside0.mk (blk_drew BK2.out)
  have n2_ := Aside0.mk (HG.out.drew)
  clear BK1 BK2 HG
  have BK1 := n0_
  have BK2 := n1_
  have HG := n2_
  clear n0_ n1_ n2_
  refine start_ (n := 13) (S := fun w' => w'.cell? ⟨g1, 0, none⟩ = some (.int .i64 x.f0) ∧ w'.cell? ⟨g1, 1, none⟩ = some (.int .i64 x.f1) ∧ w'.cell? ⟨g1, 2, none⟩ = some (.string x.f2) ∧ w'.cell? ⟨g2, 0, none⟩ = some (.int .i64 y.f0) ∧ w'.cell? ⟨g2, 1, none⟩ = some (.int .i64 y.f1) ∧ w'.cell? ⟨g2, 2, none⟩ = some (.string y.f2)) (ds := []) #[false, false, false, false, false, false, false, false, false, false, false, false, false] (by kernel_rfl) rfl rfl ⟨bc0 BK1, bc1 BK1, bc2 BK1, bc0 BK2, bc1 BK2, bc2 BK2⟩ (fun hHeld => ?_); refine with_tabW sheet_compare.tab3 sheet_compare.bits3 (fun HT_ HW_ => ?_)
  generalize W2.drew = W3 at BK1 BK2 HG hHeld ⊢
  refine pu_ 0 (some 18) #[true, false, false, false, false, false, false, false, false, false, false, false, false] HT_ ?_ rfl rfl (by kernel_rfl) (fun _ _ _ h => h) (Or.inl ⟨by rfl, ?_⟩) ?_ ?_ ?_
  rotate_left
  · intro w'
    go_simp
    with_reducible rfl
  rotate_left
  · simp only [Act.put, lists_, i64_w, i32_w]
    rfl
  refine pu_ 2 (some 20) #[true, false, true, false, false, false, false, false, false, false, false, false, false] HT_ ?_ rfl rfl (by kernel_rfl) (fun _ _ _ h => h) (Or.inl ⟨by rfl, ?_⟩) ?_ ?_ ?_
  rotate_left
  · intro w'
    go_simp
    with_reducible rfl
  rotate_left
  · simp only [Act.put, lists_, i64_w, i32_w]
    rfl
  refine pu_ 5 (some 23) #[true, false, true, false, false, true, false, false, false, false, false, false, false] HT_ ?_ rfl rfl (by kernel_rfl) (fun _ _ _ h => h) (Or.inl ⟨by rfl, ?_⟩) ?_ ?_ ?_
  rotate_left
  · intro w'
    go_simp
    with_reducible rfl
  rotate_left
  · simp only [Act.put, lists_, i64_w, i32_w]
    rfl
  refine pu_ 7 (some 25) #[true, false, true, false, false, true, false, true, false, false, false, false, false] HT_ ?_ rfl rfl (by kernel_rfl) (fun _ _ _ h => h) (Or.inl ⟨by rfl, ?_⟩) ?_ ?_ ?_
  rotate_left
  · intro w'
    go_simp
    with_reducible rfl
  rotate_left
  · simp only [Act.put, lists_, i64_w, i32_w]
    rfl
  refine take_ (i := 1) (N := some 19) (v := ?_) (a' := ?_) #[true, true, true, false, false, true, false, true, false, false, false, false, false] rfl rfl (take_ofW HT_.out HW_.out (by kernel_rfl)) (fun _ _ _ h => h) (Or.inl ⟨by rfl, ?_⟩) hHeld ?_ ?_
  rotate_left
  · rintro w' ⟨s0, s1, s2, s3, s4, s5⟩
    go_simp
    with_reducible rfl
  rotate_left
  · simp only [Act.put, lists_, i64_w, i32_w]
    rfl
  refine take_ (i := 3) (N := some 21) (v := ?_) (a' := ?_) #[true, true, true, true, false, true, false, true, false, false, false, false, false] rfl rfl (take_ofW HT_.out HW_.out (by kernel_rfl)) (fun _ _ _ h => h) (Or.inl ⟨by rfl, ?_⟩) hHeld ?_ ?_
  rotate_left
  · rintro w' ⟨s0, s1, s2, s3, s4, s5⟩
    go_simp
    with_reducible rfl
  rotate_left
  · simp only [Act.put, lists_, i64_w, i32_w]
    rfl
  refine take_ (i := 6) (N := some 24) (v := ?_) (a' := ?_) #[true, true, true, true, false, true, true, true, false, false, false, false, false] rfl rfl (take_ofW HT_.out HW_.out (by kernel_rfl)) (fun _ _ _ h => h) (Or.inl ⟨by rfl, ?_⟩) hHeld ?_ ?_
  rotate_left
  · rintro w' ⟨s0, s1, s2, s3, s4, s5⟩
    go_simp
    with_reducible rfl
  rotate_left
  · simp only [Act.put, lists_, i64_w, i32_w]
    rfl
  refine take_ (i := 8) (N := some 26) (v := ?_) (a' := ?_) #[true, true, true, true, false, true, true, true, true, false, false, false, false] rfl rfl (take_ofW HT_.out HW_.out (by kernel_rfl)) (fun _ _ _ h => h) (Or.inl ⟨by rfl, ?_⟩) hHeld ?_ ?_
  rotate_left
  · rintro w' ⟨s0, s1, s2, s3, s4, s5⟩
    go_simp
    with_reducible rfl
  rotate_left
  · simp only [Act.put, lists_, i64_w, i32_w]
    rfl
  refine one_ (i := 4) (N := some 22) #[true, true, true, true, true, true, true, true, true, false, false, false, false] rfl rfl (one_of HT_.out (by kernel_rfl)) (by decide) (fun K hK => ?_)
  refine goes_ Try.func50 (by kernel_rfl) rfl #[.int .i64 x.f1, .int .i64 y.f1] (by rfl) rfl rfl (by (try simp only [maps_]); first | done | rfl) ?_
  with_reducible refine (cmp_Compare_int.calls x.f1 y.f1 _ _ (cmpI_f _ _)).mono ?_
  rintro e w' ⟨rfl, ⟨nd, rfl⟩⟩
  refine ⟨_, rfl, ?_⟩
  have n0_ := Aside0.mk (blk_drewN BK1.out nd)
  have n1_ := Aside0.mk (blk_drewN BK2.out nd)
  have n2_ := Aside0.mk (HG.out.drewN nd)
  clear BK1 BK2 HG
  have BK1 := n0_
  have BK2 := n1_
  have HG := n2_
  clear n0_ n1_ n2_
  generalize W3.drewN nd = W4 at BK1 BK2 HG ⊢
  refine hK.out _ _ ⟨bc0 BK1, bc1 BK1, bc2 BK1, bc0 BK2, bc1 BK2, bc2 BK2⟩ (fun hHeld => ?_)
  clear hK K
  refine norm_ (a' := ?_) ?_ ?_
  rotate_left
  · show Act.put _ (some 22) _ = _
    simp only [Act.put, lists_, i64_w, i32_w]
    rfl
  refine one_ (i := 9) (N := some 27) #[true, true, true, true, true, true, true, true, true, true, false, false, false] rfl rfl (one_of HT_.out (by kernel_rfl)) (by decide) (fun K hK => ?_)
  refine goes_ Try.func52 (by kernel_rfl) rfl #[.string x.f2, .string y.f2] (by rfl) rfl rfl (by (try simp only [maps_]); first | done | rfl) ?_
  with_reducible refine (strings_Compare.calls x.f2 y.f2 _ _ (cmpS_f _ _)).mono ?_
  rintro e w' ⟨rfl, ⟨nd, rfl⟩⟩
  refine ⟨_, rfl, ?_⟩
  have n0_ := Aside0.mk (blk_drewN BK1.out nd)
  have n1_ := Aside0.mk (blk_drewN BK2.out nd)
  have n2_ := Aside0.mk (HG.out.drewN nd)
  clear BK1 BK2 HG
  have BK1 := n0_
  have BK2 := n1_
  have HG := n2_
  clear n0_ n1_ n2_
  generalize W4.drewN nd = W5 at BK1 BK2 HG ⊢
  refine hK.out _ _ ⟨bc0 BK1, bc1 BK1, bc2 BK1, bc0 BK2, bc1 BK2, bc2 BK2⟩ (fun hHeld => ?_)
  clear hK K
  refine norm_ (a' := ?_) ?_ ?_
  rotate_left
  · show Act.put _ (some 27) _ = _
    simp only [Act.put, lists_, i64_w, i32_w]
    rfl
  generalize cmpI x.f1 y.f1 = ca at HCF ⊢
  generalize Go.Lib.compareBytes x.f2.data.toList y.f2.data.toList = cb at HCF ⊢
  obtain ⟨co, hco⟩ : ∃ co, co = (if ca ≠ 0 then ca else cb) := ⟨_, rfl⟩
  rw [← hco] at HCF
  have HCO := Aside0.mk hco
  clear hco
  refine one_ (i := 10) (N := some 28) #[true, true, true, true, true, true, true, true, true, true, true, false, false] rfl rfl (one_of HT_.out (by kernel_rfl)) (by decide) (fun K hK => ?_)
  refine event_step (v := .slice (some ⟨W5.heap.size, 0, none⟩) 2 2) (w1 := W5.alloc (.cells #[.int .i64 ca, .int .i64 cb] 3)) ?hg ?hr ?_
  (case hg => rfl)
  (case hr => first | (go_simp; done) | (go_simp; rfl))
  have HRL := Aside0.mk (c2row (blk_new W5 (.cells #[.int .i64 ca, .int .i64 cb] 3)))
  have n0_ := Aside0.mk (blk_alloc BK1.out (.cells #[.int .i64 ca, .int .i64 cb] 3))
  have n1_ := Aside0.mk (blk_alloc BK2.out (.cells #[.int .i64 ca, .int .i64 cb] 3))
  have n2_ := Aside0.mk (HG.out.alloc (.cells #[.int .i64 ca, .int .i64 cb] 3))
  clear BK1 BK2 HG
  have BK1 := n0_
  have BK2 := n1_
  have HG := n2_
  clear n0_ n1_ n2_
  generalize W5.alloc (.cells #[.int .i64 ca, .int .i64 cb] 3) = W6 at BK1 BK2 HG HRL ⊢
  generalize W5.heap.size = g5 at HRL ⊢
  refine hK.out _ _ ⟨bc0 BK1, bc1 BK1, bc2 BK1, bc0 BK2, bc1 BK2, bc2 BK2⟩ (fun hHeld => ?_)
  clear hK K
  refine norm_ (a' := ?_) ?_ ?_
  rotate_left
  · show Act.put _ (some 28) _ = _
    simp only [Act.put, lists_, i64_w, i32_w]
    rfl
  refine one_ (i := 11) (N := some 29) #[true, true, true, true, true, true, true, true, true, true, true, true, false] rfl rfl (one_of HT_.out (by kernel_rfl)) (by decide) (fun K hK => ?_)
  refine goes_ Try.func51 (by kernel_rfl) rfl #[.slice (some ⟨g5, 0, none⟩) 2 2] (by rfl) rfl rfl (by (try simp only [maps_]); first | done | rfl) ?_
  with_reducible refine (OrT W6 g5 ca cb co HCO.out HRL.out).mono ?_
  rintro e w' ⟨rfl, ⟨nd, rfl⟩⟩
  refine ⟨_, rfl, ?_⟩
  have n0_ := Aside0.mk (blk_drewN BK1.out nd)
  have n1_ := Aside0.mk (blk_drewN BK2.out nd)
  have n2_ := Aside0.mk (HG.out.drewN nd)
  clear BK1 BK2 HG
  have BK1 := n0_
  have BK2 := n1_
  have HG := n2_
  clear n0_ n1_ n2_
  generalize W6.drewN nd = W7 at BK1 BK2 HG ⊢
  refine hK.out _ _ ⟨bc0 BK1, bc1 BK1, bc2 BK1, bc0 BK2, bc1 BK2, bc2 BK2⟩ (fun hHeld => ?_)
  clear hK K
  refine norm_ (a' := ?_) ?_ ?_
  rotate_left
  · show Act.put _ (some 29) _ = _
    simp only [Act.put, lists_, i64_w, i32_w]
    rfl
  refine pu_ 12 (some 4) #[true, true, true, true, true, true, true, true, true, true, true, true, true] HT_ ?_ rfl rfl (by kernel_rfl) (fun _ _ _ h => h) (Or.inl ⟨by rfl, ?_⟩) ?_ ?_ ?_
  rotate_left
  · intro w'
    go_simp
    with_reducible rfl
  rotate_left
  · simp only [Act.put, lists_, i64_w, i32_w]
    rfl
  refine done_ (done_of HT_.out (by kernel_rfl)) ?_
  try go_wp2
  go_ret
  exact ⟨by rw [HCF.out]; rfl, HG.out⟩

theorem lt_ntrans {a b c : List UInt8} (h1 : Op.bytesLess a b = false) (h2 : Op.bytesLess b c = false) : Op.bytesLess a c = false := by
  rcases not_lt h2 with rfl | h2
  · exact h1
  cases hac : Op.bytesLess a c with
  | false => rfl
  | true => have := lt_trans hac h2; rw [this] at h1; cases h1
theorem cmpI_neg {a b : Int} : cmpI a b < 0 ↔ a < b := by
  unfold cmpI; split <;> (try split) <;> omega
theorem cmpI_zero {a b : Int} : cmpI a b = 0 ↔ a = b := by
  unfold cmpI; split <;> (try split) <;> omega
theorem cmpS_neg {a b : List UInt8} : Go.Lib.compareBytes a b < 0 ↔ Op.bytesLess a b = true := by
  rw [cmp_tells]
  by_cases h : Op.bytesLess a b = true
  · rw [if_pos h]; simp [h]
  · rw [if_neg h]
    constructor
    · intro h2; split at h2 <;> omega
    · intro h2; exact absurd h2 h
/-- The order of tables. -/
def ltT (x y : S32) : Bool := if x.f1 = y.f1 then (if x.f1 = 0 then decide (y.f0 < x.f0) else Op.bytesLess x.f2.data.toList y.f2.data.toList) else decide (x.f1 < y.f1)
theorem lt_cf (x y : S32) : ltOf cfT x y = ltT x y := by
  unfold ltOf cfT ltT
  by_cases h1 : x.f1 = y.f1
  · rw [if_pos h1]
    by_cases h0 : x.f1 = 0
    · simp only [if_pos (show x.f1 = 0 ∧ y.f1 = 0 from ⟨h0, h1 ▸ h0⟩), if_pos h0, cmpI_neg]
    · rw [if_neg (fun h => h0 h.1), if_neg (fun h => h (cmpI_zero.2 h1)), if_neg h0]
      cases hb : Op.bytesLess x.f2.data.toList y.f2.data.toList with
      | true => exact decide_eq_true (cmpS_neg.2 hb)
      | false => exact decide_eq_false (fun h => by rw [cmpS_neg.1 h] at hb; cases hb)
  · simp only [if_neg h1, if_neg (show ¬ (x.f1 = 0 ∧ y.f1 = 0) from fun h => h1 (h.1.trans h.2.symm)), if_pos (show cmpI x.f1 y.f1 ≠ 0 from fun h => h1 (cmpI_zero.1 h)), cmpI_neg]
theorem ltT_irrefl (x : S32) : ltT x x = false := by
  unfold ltT
  rw [if_pos rfl]
  split
  · exact decide_eq_false (by omega)
  · exact lt_irrefl _
theorem ltT_trans {x y z : S32} (h1 : ltT x y = true) (h2 : ltT y z = true) : ltT x z = true := by
  unfold ltT at *
  by_cases e1 : x.f1 = y.f1
  · by_cases e2 : y.f1 = z.f1
    · rw [if_pos e1] at h1
      rw [if_pos e2] at h2
      rw [if_pos (e1.trans e2)]
      by_cases e0 : x.f1 = 0
      · rw [if_pos e0] at h1 ⊢
        rw [if_pos (e1 ▸ e0)] at h2
        exact decide_eq_true (Int.lt_trans (of_decide_eq_true h2) (of_decide_eq_true h1))
      · rw [if_neg e0] at h1 ⊢
        rw [if_neg (fun h => e0 (e1.trans h))] at h2
        exact lt_trans h1 h2
    · rw [if_neg e2] at h2
      rw [if_neg (fun h => e2 (e1.symm.trans h)), e1]
      exact h2
  · rw [if_neg e1] at h1
    by_cases e2 : y.f1 = z.f1
    · rw [if_neg (fun h => e1 (h.trans e2.symm)), ← e2]
      exact h1
    · rw [if_neg e2] at h2
      have a1 := of_decide_eq_true h1
      have a2 := of_decide_eq_true h2
      rw [if_neg (by omega)]
      exact decide_eq_true (by omega)
theorem ltT_ntrans {x y z : S32} (h1 : ltT x y = false) (h2 : ltT y z = false) : ltT x z = false := by
  unfold ltT at *
  by_cases e1 : x.f1 = y.f1
  · by_cases e2 : y.f1 = z.f1
    · rw [if_pos e1] at h1
      rw [if_pos e2] at h2
      rw [if_pos (e1.trans e2)]
      by_cases e0 : x.f1 = 0
      · rw [if_pos e0] at h1 ⊢
        rw [if_pos (e1 ▸ e0)] at h2
        have a1 := of_decide_eq_false h1
        have a2 := of_decide_eq_false h2
        exact decide_eq_false (by omega)
      · rw [if_neg e0] at h1 ⊢
        rw [if_neg (fun h => e0 (e1.trans h))] at h2
        exact lt_ntrans h1 h2
    · rw [if_neg e2] at h2
      rw [if_neg (fun h => e2 (e1.symm.trans h)), e1]
      exact h2
  · rw [if_neg e1] at h1
    by_cases e2 : y.f1 = z.f1
    · rw [if_neg (fun h => e1 (h.trans e2.symm)), ← e2]
      exact h1
    · rw [if_neg e2] at h2
      have a1 := of_decide_eq_false h1
      have a2 := of_decide_eq_false h2
      rw [if_neg (by omega)]
      exact decide_eq_false (by omega)
theorem swoT : Go.Sort.SWO (ltOf cfT) where
  irrefl x := by rw [lt_cf]; exact ltT_irrefl x
  trans x y z h1 h2 := by rw [lt_cf] at *; exact ltT_trans h1 h2
  ntrans x y z h1 h2 := by rw [lt_cf] at *; exact ltT_ntrans h1 h2
theorem SortT {base : Nat} {ok : Nat → Prop} {v : Value} {xs : List S32} {W : World} (HO : Kd.R k32 32 W base ok v xs) (hn : xs.length ≤ 1000000) :
    Calls Try.prog 33 #[v, .func (.func 34) #[] #[]] W fun e w' => e = .returned (.tuple #[]) ∧ ∃ ys : List S32, ys.Perm xs ∧ ys.Pairwise (fun a b => ltT b a = false) ∧ Kd.R k32 32 w' base ok v ys ∧ W.grownBy w' v.ownBlock := by
  have eg : ∀ args w, (callFunc 34 args).run Try.prog w = .ok (.enter 34 args) w := enters_of Try.func34 (by kernel_rfl) rfl
  have h := sort_row (α := S32) Try.sortW k32 encT (fun w base ok x cs => ⟨k32_openM, fun h => by rw [h]; exact k32_mkM w base ok x⟩) (fun _ => rfl) (fun x v hv => by simp [encT] at hv; rcases hv with rfl | rfl | rfl | rfl | rfl <;> rfl) Try.isAgg32 Try.sizeOf32 cfT swoT 34 #[] eg (fun W x y => (CmpT W x y).mono (fun e w' h => ⟨h.1, h.2.grow⟩)) HO (by omega)
  refine Calls.mono h ?_
  rintro e w' ⟨rfl, ys, hp, hs, hR, hg⟩
  exact ⟨rfl, ys, hp, hs.imp (fun h => by rw [lt_cf] at h; exact h), hR, hg⟩
end Go.Proofs.Ytmbedgopceigaaa.Q
