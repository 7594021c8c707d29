-- Printed by a changed copy of the kit's printer (wip/tools/ext.py); labels and more
import Derived.Test.YtnjbmcjhhadojaaM0
namespace Go.Proofs.Ytnjbmcjhhadojaa.P
open Go.RowKit Go.Proofs.YtnjbmcjhhadojaaW.PrintWords Go.Proofs.YtnjbmcjhhadojaaW.PrintLast Go.Proofs.YtnjbmcjhhadojaaW.PrintMore
attribute [local go_sem] max2_int min2_int max_two min_two max_three min_three max_four min_four   -- for this text's walks alone
attribute [local go_sem high] string_leq string_geq string_gtr
set_option linter.unusedVariables false
set_option linter.unusedSimpArgs false

/-! ### batch_Neat: function 18 -/
-- by hand
mutual
def batch_Neat.l0 : Nat → List (S49) → List (S49) → List (S49) → Int → Int → Option ((List (S49)))
  | 0, _, _, _, _, _ => none
  | k + 1, x0, x3, x8, x9, x10 => if x10 < x9 then (if 0 ≤ x10 then (if x10 < (x8.length : Int) then (if 0 ≤ (wrap64 (x10 + 1)) then (if (wrap64 (x10 + 1)) ≤ (x0.length : Int) then ((some (x0.drop ((wrap64 (x10 + 1)) : Int).toNat : List (S49))).bind fun y214 => (batch_Neat.l1 k x0 x3 x8 x9 x10 y214 (y214.length : Int) 0 ((rd_T49 x8 x10).f0) ((rd_T49 x8 x10).f1) ((rd_T49 x8 x10).f2))) else (none)) else (none)) else (none)) else (none)) else (some x3)
def batch_Neat.l1 : Nat → List (S49) → List (S49) → List (S49) → Int → Int → List (S49) → Int → Int → ByteArray → Bool → ByteArray → Option ((List (S49)))
  | 0, _, _, _, _, _, _, _, _, _, _, _ => none
  | k + 1, x0, x3, x8, x9, x10, x18, x19, x20, x214000, x214001, x214002 => if x20 < x19 then (if 0 ≤ x20 then (if x20 < (x18.length : Int) then (if ((rd_T49 x18 x20).f0).toList = x214000.toList then (batch_Neat.l0 k x0 x3 x8 x9 (wrap64 (x10 + 1))) else (batch_Neat.l1 k x0 x3 x8 x9 x10 x18 x19 (wrap64 (x20 + 1)) x214000 x214001 x214002)) else (none)) else (none)) else (if x3.length < 3518437208883 then (batch_Neat.l0 k x0 (x3 ++ [(⟨x214000, x214001, x214002⟩ : S49)]) x8 x9 (wrap64 (x10 + 1))) else (none))
end
theorem batch_Neat.keyless {a b : List UInt8} : decide (Go.Lib.compareBytes a b < 0) = Op.bytesLess a b := by
  rw [Go.Proofs.Ytnjbmcjhhadojaa.Q.cmp_tells]
  by_cases h : Op.bytesLess a b = true
  · rw [if_pos h, h]; rfl
  · rw [if_neg h, Bool.eq_false_iff.2 h]
    by_cases h2 : a = b
    · rw [if_pos h2]; rfl
    · rw [if_neg h2]; rfl
instance : Inhabited S49 := ⟨z49⟩
def batch_Neat.lt (x y : S49) : Bool := Op.bytesLess x.f0.data.toList y.f0.data.toList
def batch_Neat.ins (x : S49) : List S49 → List S49
  | [] => [x]
  | y :: t => if batch_Neat.lt y x = true then y :: batch_Neat.ins x t else x :: y :: t
def batch_Neat.sort (l : List S49) : List S49 := l.foldr batch_Neat.ins []
def batch_Neat.once : List S49 → Bool
  | [] => true
  | x :: t => (t.all fun y => x.f0.data.toList != y.f0.data.toList) && batch_Neat.once t
def batch_Neat.ok (l : List S49) : Bool := batch_Neat.once l && decide (l.length < 4611686018427387904)
theorem batch_Neat.ins_perm (x : S49) : ∀ l : List S49, (batch_Neat.ins x l).Perm (x :: l)
  | [] => List.Perm.refl _
  | y :: t => by
    unfold batch_Neat.ins
    split
    · exact ((batch_Neat.ins_perm x t).cons y).trans (List.Perm.swap x y t)
    · exact List.Perm.refl _
theorem batch_Neat.sort_perm : ∀ l : List S49, (batch_Neat.sort l).Perm l
  | [] => List.Perm.refl _
  | x :: t => (batch_Neat.ins_perm x _).trans ((batch_Neat.sort_perm t).cons x)
theorem batch_Neat.lt_asymm {x y : S49} (h : batch_Neat.lt x y = true) : batch_Neat.lt y x = false := Go.Proofs.Ytnjbmcjhhadojaa.Q.lt_asymm h
theorem batch_Neat.lt_ntrans {x y z : S49} (h1 : batch_Neat.lt x y = false) (h2 : batch_Neat.lt y z = false) : batch_Neat.lt x z = false := by
  cases h : batch_Neat.lt x z with
  | false => rfl
  | true =>
    rcases Go.Proofs.Ytnjbmcjhhadojaa.Q.not_lt h2 with e | e
    · have h3 : batch_Neat.lt x y = batch_Neat.lt x z := by unfold batch_Neat.lt; rw [e]
      rw [h3, h] at h1; cases h1
    · have h3 : batch_Neat.lt x y = true := Go.Proofs.Ytnjbmcjhhadojaa.Q.lt_trans h e
      rw [h3] at h1; cases h1
theorem batch_Neat.ins_sorted (x : S49) : ∀ l : List S49, l.Pairwise (fun a b => batch_Neat.lt b a = false) → (batch_Neat.ins x l).Pairwise (fun a b => batch_Neat.lt b a = false)
  | [], _ => by simp [batch_Neat.ins]
  | y :: t, h => by
    have h1 := List.pairwise_cons.1 h
    unfold batch_Neat.ins
    split
    · rename_i hc
      refine List.pairwise_cons.2 ⟨fun b hb => ?_, batch_Neat.ins_sorted x t h1.2⟩
      rcases List.mem_cons.1 ((batch_Neat.ins_perm x t).mem_iff.1 hb) with rfl | hb
      · exact batch_Neat.lt_asymm hc
      · exact h1.1 b hb
    · rename_i hc
      have hc := Bool.eq_false_iff.2 hc
      refine List.pairwise_cons.2 ⟨fun b hb => ?_, h⟩
      rcases List.mem_cons.1 hb with rfl | hb
      · exact hc
      · exact batch_Neat.lt_ntrans (h1.1 b hb) hc
theorem batch_Neat.sort_sorted : ∀ l : List S49, (batch_Neat.sort l).Pairwise (fun a b => batch_Neat.lt b a = false)
  | [] => List.Pairwise.nil
  | x :: t => batch_Neat.ins_sorted x _ (batch_Neat.sort_sorted t)
theorem batch_Neat.once_eq : ∀ {l : List S49}, batch_Neat.once l = true → ∀ a ∈ l, ∀ b ∈ l, a.f0.data.toList = b.f0.data.toList → a = b
  | [], _, a, ha, _, _, _ => by cases ha
  | x :: t, h, a, ha, b, hb, e => by
    simp only [batch_Neat.once, Bool.and_eq_true, List.all_eq_true, bne_iff_ne] at h
    rcases List.mem_cons.1 ha with ra | ha
    · rcases List.mem_cons.1 hb with rb | hb
      · rw [ra, rb]
      · rw [ra] at e
        exact absurd e (h.1 b hb)
    · rcases List.mem_cons.1 hb with rb | hb
      · rw [rb] at e
        exact absurd e.symm (h.1 a ha)
      · exact batch_Neat.once_eq h.2 a ha b hb e
theorem batch_Neat.unique {xs ys : List S49} (ho : batch_Neat.once xs = true) (hp : ys.Perm xs) (hs : ys.Pairwise (fun a b => batch_Neat.lt b a = false)) : ys = batch_Neat.sort xs := by
  refine List.Perm.eq_of_pairwise (le := fun x y => batch_Neat.lt y x = false) ?_ hs (batch_Neat.sort_sorted xs) (hp.trans (batch_Neat.sort_perm xs).symm)
  intro a b ha hb h1 h2
  refine batch_Neat.once_eq ho a (hp.mem_iff.1 ha) b ((batch_Neat.sort_perm xs).mem_iff.1 hb) ?_
  rcases Go.Proofs.Ytnjbmcjhhadojaa.Q.not_lt h1 with e | e
  · exact e.symm
  · have h3 : batch_Neat.lt a b = true := e
    rw [h3] at h2; cases h2
def batch_Neat.cf (x y : S49) : Int := Go.Lib.compareBytes x.f0.data.toList y.f0.data.toList
theorem batch_Neat.ltOf (x y : S49) : Go.Proofs.ltOf batch_Neat.cf x y = batch_Neat.lt x y := batch_Neat.keyless
theorem batch_Neat.swo : Go.Sort.SWO (Go.Proofs.ltOf batch_Neat.cf) where
  irrefl x := by rw [batch_Neat.ltOf]; exact Go.Proofs.Ytnjbmcjhhadojaa.Q.lt_irrefl _
  trans x y z h1 h2 := by rw [batch_Neat.ltOf] at *; exact Go.Proofs.Ytnjbmcjhhadojaa.Q.lt_trans h1 h2
  ntrans x y z h1 h2 := by rw [batch_Neat.ltOf] at *; exact batch_Neat.lt_ntrans h1 h2
def batch_Neat.enc (x : S49) : List Value := [.string x.f0, .bool x.f1, .string x.f2]
set_option maxHeartbeats 1000000 in
set_option maxRecDepth 100000 in
theorem batch_Neat.bytes (a0 : ByteArray) (a1 : ByteArray) (w : World) :
    Calls Try.prog 54 #[.string a0, .string a1] w fun e w' => e = .returned (.int .i64 (Go.Lib.compareBytes a0.data.toList a1.data.toList)) ∧ w' = w := by
  go_enter Try.func54, Try.ntmps54
  go_wp2
  rw [run_callFunc_extern Try.func66 (by kernel_rfl) (by kernel_rfl) (by kernel_rfl) (e := Extern.BytealgCompare.compare) (by kernel_rfl), Lib.run_compareString]
  simp only [Result.andThen]
  rw [Oper.upon_value]
  go_wp2
  go_ret
  exact ⟨rfl, rfl⟩
set_option maxHeartbeats 1000000 in
set_option maxRecDepth 100000 in
theorem batch_Neat.texts (a0 : ByteArray) (a1 : ByteArray) (w : World) :
    Calls Try.prog 39 #[.string a0, .string a1] w fun e w' => e = .returned (.int .i64 (Go.Lib.compareBytes a0.data.toList a1.data.toList)) ∧ w' = w := by
  have hcon := fun W : World => batch_Neat.bytes a0 a1 W
  generalize Go.Lib.compareBytes a0.data.toList a1.data.toList = r at hcon ⊢
  go_enter Try.func39, Try.ntmps39
  go_wp2_with (go_at_call 54; refine (hcon _).mono ?_; rintro e w' ⟨rfl, rfl⟩)
  go_ret
  exact ⟨rfl, rfl⟩
set_option maxHeartbeats 1000000 in
set_option maxRecDepth 100000 in
/-- The comparing function. -/
theorem batch_Neat.compares (W : World) (x y : S49) :
    Calls Try.prog 38 #[.agg (batch_Neat.enc x).toArray, .agg (batch_Neat.enc y).toArray] W fun e w' => e = .returned (.int .i64 (batch_Neat.cf x y)) ∧ ∃ q os', w' = Go.Sort.grow (W.drewN q) os' := by
  have hcon := fun W : World => batch_Neat.texts x.f0 y.f0 W
  unfold batch_Neat.cf
  generalize Go.Lib.compareBytes x.f0.data.toList y.f0.data.toList = r at hcon ⊢
  show Calls Try.prog 38 #[.agg #[.string x.f0, .bool x.f1, .string x.f2], .agg #[.string y.f0, .bool y.f1, .string y.f2]] W _
  go_enter Try.func38, Try.ntmps38
  go_wp2_with (go_at_call 39; refine (hcon _).mono ?_; rintro e w' ⟨rfl, rfl⟩)
  go_ret
  exact ⟨rfl, 0, _, by rw [Go.Sort.alloc_eq_grow, Go.Sort.alloc_eq_grow, Go.Sort.grow_grow]; rfl⟩
theorem batch_Neat.sorts {base : Nat} {ok : Nat → Prop} {v : Value} {xs : List S49} {W : World} (HO : Kd.R k49 49 W base ok v xs) (hok : batch_Neat.ok xs = true) :
    Calls Try.prog 37 #[v, .func (.func 38) #[] #[]] W fun e w' => e = .returned (.tuple #[]) ∧ Kd.R k49 49 w' base ok v (batch_Neat.sort xs) ∧ W.grownBy w' v.ownBlock := by
  unfold batch_Neat.ok at hok
  rw [Bool.and_eq_true, decide_eq_true_eq] at hok
  have eg : ∀ args w, (callFunc 38 args).run Try.prog w = .ok (.enter 38 args) w := enters_of Try.func38 (by kernel_rfl) rfl
  have h := Go.Proofs.Ytnjbmcjhhadojaa.Q.sort_row Try.sortW k49 batch_Neat.enc (fun w base ok x cs => ⟨k49_openM, fun h => by rw [h]; exact k49_mkM w base ok x⟩) (fun _ => rfl) (fun x v hv => by simp [batch_Neat.enc] at hv; rcases hv with rfl | rfl | rfl <;> rfl) Try.isAgg49 Try.sizeOf49 batch_Neat.cf batch_Neat.swo 38 #[] eg (fun W x y => batch_Neat.compares W x y) HO hok.2
  refine Calls.mono h ?_
  rintro e w' ⟨rfl, ys, hp, hs, hR, hg⟩
  obtain rfl := batch_Neat.unique hok.1 hp (hs.imp (fun h => by rw [batch_Neat.ltOf] at h; exact h))
  exact ⟨rfl, hR, hg⟩
def batch_Neat.f (k : Nat) (l0 : List (S49)) : Option (List (S49)) := (batch_Neat.l0 k l0 ([] : List (S49)) l0 (l0.length : Int) 0).bind fun y => if batch_Neat.ok y = true then some (batch_Neat.sort y) else none
theorem batch_Neat.mono_l : ∀ k, (∀ y0 y1 y2 y3 y4, LeO (batch_Neat.l0 k y0 y1 y2 y3 y4) (batch_Neat.l0 (k + 1) y0 y1 y2 y3 y4)) ∧ (∀ y0 y1 y2 y3 y4 y5 y6 y7 y8 y9 y10, LeO (batch_Neat.l1 k y0 y1 y2 y3 y4 y5 y6 y7 y8 y9 y10) (batch_Neat.l1 (k + 1) y0 y1 y2 y3 y4 y5 y6 y7 y8 y9 y10))
  | 0 => ⟨fun _ _ _ _ _ r h => by simp [batch_Neat.l0] at h, fun _ _ _ _ _ _ _ _ _ _ _ r h => by simp [batch_Neat.l1] at h⟩
  | k + 1 => by
    obtain ⟨ih0, ih1⟩ := batch_Neat.mono_l k
    refine ⟨?_, ?_⟩
    · intro y0 y1 y2 y3 y4
      unfold batch_Neat.l0
      repeat' first
      | (with_reducible exact ih0 _ _ _ _ _)
      | (with_reducible exact ih1 _ _ _ _ _ _ _ _ _ _ _)
      | (with_reducible exact LeO.refl _)
      | (with_reducible exact LeO.none _)
      | (with_reducible refine LeO.ite ?_ ?_)
      | (with_reducible refine LeO.bind ?_ (fun _ => ?_))
      | exact ih0 _ _ _ _ _
      | exact ih1 _ _ _ _ _ _ _ _ _ _ _
      | exact LeO.none _
      | refine LeO.ite ?_ ?_
      | refine LeO.bind ?_ (fun _ => ?_)
    · intro y0 y1 y2 y3 y4 y5 y6 y7 y8 y9 y10
      unfold batch_Neat.l1
      repeat' first
      | (with_reducible exact ih0 _ _ _ _ _)
      | (with_reducible exact ih1 _ _ _ _ _ _ _ _ _ _ _)
      | (with_reducible exact LeO.refl _)
      | (with_reducible exact LeO.none _)
      | (with_reducible refine LeO.ite ?_ ?_)
      | (with_reducible refine LeO.bind ?_ (fun _ => ?_))
      | exact ih0 _ _ _ _ _
      | exact ih1 _ _ _ _ _ _ _ _ _ _ _
      | exact LeO.none _
      | refine LeO.ite ?_ ?_
      | refine LeO.bind ?_ (fun _ => ?_)
theorem batch_Neat.mono : ∀ a0 k, LeO (batch_Neat.f k a0) (batch_Neat.f (k + 1) a0) := by
  intro a0 k
  obtain ⟨ih0, ih1⟩ := batch_Neat.mono_l k
  unfold batch_Neat.f
  repeat' first
      | (with_reducible exact ih0 _ _ _ _ _)
      | (with_reducible exact ih1 _ _ _ _ _ _ _ _ _ _ _)
      | (with_reducible exact LeO.refl _)
      | (with_reducible exact LeO.none _)
      | (with_reducible refine LeO.ite ?_ ?_)
      | (with_reducible refine LeO.bind ?_ (fun _ => ?_))
      | exact ih0 _ _ _ _ _
      | exact ih1 _ _ _ _ _ _ _ _ _ _ _
      | exact LeO.none _
      | refine LeO.ite ?_ ?_
      | refine LeO.bind ?_ (fun _ => ?_)
set_option maxHeartbeats 8000000 in
set_option maxRecDepth 100000 in
theorem batch_Neat.calls (k : Nat) (A0 : Option Addr) (c0 : Nat) (l0 : List (S49)) (rr : List (S49)) (w : World) (hr0 : Kd.C k49 w A0 l0.length l0) (hc0 : l0.length ≤ c0) (h : batch_Neat.f k l0 = some rr) :
    Calls Try.prog 18 #[.slice A0 l0.length c0] w fun e w' => ∃ v0_ : Value, e = .returned (v0_) ∧ Kd.R k49 49 w' w.heap.size (fun _ => True) v0_ rr ∧ Below w.heap.size w w' := by
  have hu49 := Try.underlying49
  have HR0 := Aside0.mk hr0
  have HC0 := Aside0.mk hc0
  clear hr0 hc0
  have HB := Aside0.mk (Below.refl w.heap.size w)
  obtain ⟨r, H, hrr⟩ := Option.bind_eq_some_iff.1 h
  have HRR := Aside0.mk hrr
  clear h hrr
  have H' := Aside0.mk H
  clear H
  go_enter Try.func18, Try.ntmps18
  go_wp2_with (first | go_step3 | go_in)
  go_loopg [3, 10] k (fun kq v3 v10 w' => ∃ (x3_1 : List (S49)) (x10_1 : Int), v10 = .int .i64 x10_1 ∧ Aside0 (batch_Neat.l0 kq l0 x3_1 l0 (l0.length : Int) x10_1 = some r) ∧ Aside0 (kq ≤ k) ∧ Aside0 (Kd.R k49 49 w' w.heap.size (fun _ => True) v3 x3_1) ∧ Aside0 (Below w.heap.size w w'))
  case atStart => exact ⟨(([] : List (S49))), (0), (by first | rfl | (simp; done) | (simp [*]; done)), H', ⟨Nat.le_refl _⟩, ⟨by first | exact Kd.R_nil _ _ _ _ _ | exact Kd.N_nil _ _ _ _ _ | exact Kd.V_nil _ _ _ _ _ | exact Kd.Q_nil _ _ _ _ _ | exact Kd.S_nil _ _ _ _ _⟩, ⟨by repeat (first | (with_reducible first | exact HB.out | apply below_alloc | apply pw_below_drewN | apply below_drew1) | exact HB.out)⟩⟩
  case round =>
    clear H'
    try clear c1
    obtain ⟨x3_1, x10_1, rfl, HA, HK1, HO_3, HB⟩ := hrel
    cases gk with
    | zero => exact absurd HA.out (by simp [batch_Neat.l0])
    | succ k1 =>
      have H := HA.out
      clear HA
      simp only [batch_Neat.l0] at H
      by_cases c2 : x10_1 < (l0.length : Int)
      · rw [if_pos c2] at H
        have c2b0 : decide (x10_1 < (l0.length : Int)) = true := decide_eq_true c2
        clear c2
        by_cases c3 : 0 ≤ x10_1
        · rw [if_pos c3] at H
          have c3b0 : decide (0 ≤ x10_1) = true := decide_eq_true c3
          clear c3
          by_cases c4 : x10_1 < (l0.length : Int)
          · rw [if_pos c4] at H
            have c4b0 : decide (x10_1 < (l0.length : Int)) = true := decide_eq_true c4
            clear c4
            obtain ⟨ji5, hji5⟩ : ∃ j_ : Int, (wrap64 (x10_1 + 1)) = j_ := ⟨_, rfl⟩
            replace H : (if 0 ≤ (ji5) then (if (ji5) ≤ (l0.length : Int) then ((some (l0.drop ((ji5) : Int).toNat : List (S49))).bind fun y214 => (batch_Neat.l1 k1 l0 x3_1 l0 (l0.length : Int) x10_1 y214 (y214.length : Int) 0 ((rd_T49 l0 x10_1).f0) ((rd_T49 l0 x10_1).f1) ((rd_T49 l0 x10_1).f2))) else (none)) else (none)) = some r := by first | (rw [hji5] at H; exact H) | (simp only [hji5] at H ⊢; exact H)
            have hji5w : (IntKind.i64.wrap (x10_1 + 1)) = ji5 := (i64_w _).trans hji5
            by_cases c6 : 0 ≤ (ji5)
            · rw [if_pos c6] at H
              have c6b0 := eq_true c6
              have c6b1 : decide (0 ≤ (ji5)) = true := decide_eq_true c6
              clear c6
              by_cases c7 : (ji5) ≤ (l0.length : Int)
              · rw [if_pos c7] at H
                have c7b0 := eq_true c7
                have c7b1 : decide ((ji5) ≤ (l0.length : Int)) = true := decide_eq_true c7
                clear c7
                obtain ⟨y214, hy214⟩ : ∃ y_ : List (S49), y_ = (l0.drop ((ji5) : Int).toNat) := ⟨_, rfl⟩
                replace H : (batch_Neat.l1 k1 l0 x3_1 l0 (l0.length : Int) x10_1 y214 (y214.length : Int) 0 ((rd_T49 l0 x10_1).f0) ((rd_T49 l0 x10_1).f1) ((rd_T49 l0 x10_1).f2)) = some r := by first | (rw [hy214]; with_reducible exact H) | (have H2_ := (Option.bind_some _ _).symm.trans H; rw [hy214]; with_reducible exact H2_) | (have H2_ := (Option.bind_some _ _).symm.trans H; with_reducible exact H2_) | with_reducible exact H | (rw [hy214]; exact H) | exact H
                have Ny214 := Aside0.mk hy214
                clear hy214
                have H' := Aside0.mk H
                clear H
                have p212 : 0 ≤ (x10_1 : Int) := of_decide_eq_true (by first | (with_reducible assumption) | assumption)
                have q212 : x10_1 < (l0.length : Int) := of_decide_eq_true (by first | (with_reducible assumption) | assumption)
                obtain ⟨ad212, e212, hx212_0, hx212_1, hx212_2⟩ := at_T49 HR0.out x10_1 p212 q212
                cases e212
                replace hx212_0 := (HB.out.cell (World.block_lt_of_cell? w _ hx212_0)).trans hx212_0
                replace hx212_1 := (HB.out.cell (World.block_lt_of_cell? w _ hx212_1)).trans hx212_1
                replace hx212_2 := (HB.out.cell (World.block_lt_of_cell? w _ hx212_2)).trans hx212_2
                replace p212 := eq_true p212
                replace q212 := eq_true q212
                go_wp2_with (first | go_step3 | ((with_reducible refine gate_dst (N := 5) rfl ?_); refine box_event ?hg (N := 5) ?hd (cs := #[.string (⟨#[]⟩ : ByteArray), .bool false, .string (⟨#[]⟩ : ByteArray)]) (t := 49) ?hr ?_; (case hd => rfl); (case hg => rfl); (case hr => first | (go_simp; done) | (go_simp; rfl)); intro gb213 hg w8 hbox hb; have n0_ := Aside0.mk (Kd.R_below (Kd.R_elderB (by (with_reducible repeat (first | apply Kd.R_alloc | apply Kd.R_drewN | apply Kd.R_drew)); exact HO_3.out) gb213 (Nat.le_of_eq hg.symm)) hb); have n1_ := Aside0.mk (below_step (by repeat (first | (with_reducible first | exact HB.out | apply below_alloc | apply pw_below_drewN | apply below_drew1) | exact HB.out)) hb); have n2_ := Aside0.mk (hbox); have n3_ := Aside0.mk ((by rw [hg]; exact (below_size (by repeat (first | (with_reducible first | exact HB.out | apply below_alloc | apply pw_below_drewN | apply below_drew1) | exact HB.out))) : w.heap.size ≤ gb213)); have n4_ := Aside0.mk ((by rw [hg]; exact (below_size (by repeat (first | (with_reducible first | exact HB.out | apply below_alloc | apply pw_below_drewN | apply below_drew1) | exact HB.out))) : w.heap.size ≤ gb213)); clear HO_3; clear HB; have HO_3 := n0_; have HB := n1_; have BK213 := n2_; have GW213 := n3_; have GE213 := n4_; clear n0_ n1_ n2_ n3_ n4_; clear hb hbox hg; have hcz9_0 : w8.cell? ⟨gb213, 0, none⟩ = some (.string (⟨#[]⟩ : ByteArray)) := (blk_cell BK213.out 0).trans rfl; have hcz9_1 : w8.cell? ⟨gb213, 1, none⟩ = some (.bool false) := (blk_cell BK213.out 1).trans rfl; have hcz9_2 : w8.cell? ⟨gb213, 2, none⟩ = some (.string (⟨#[]⟩ : ByteArray)) := (blk_cell BK213.out 2).trans rfl; have hfz9_0 := blk_frozen BK213.out 0; have hfz9_1 := blk_frozen BK213.out 1; have hfz9_2 := blk_frozen BK213.out 2) | ((with_reducible refine gate_store (t := 49) (p := 5) rfl ?_); refine store_event (t := 49) (p := 5) (v := ?vo_w10) (w1 := (((w8.setCell ⟨gb213, 0, none⟩ (.string ((rd_T49 l0 x10_1).f0))).setCell ⟨gb213, 1, none⟩ (.bool ((rd_T49 l0 x10_1).f1))).setCell ⟨gb213, 2, none⟩ (.string ((rd_T49 l0 x10_1).f2)))) ?hg ?ho ?hn ?hr ?_; (case ho => rfl); (case hg => rfl); (case hn => rfl); (case hr => first | (go_simp; done) | (go_simp; rfl)); intro w10 hw; have n0_ : Aside0 (Kd.R k49 49 w10 w.heap.size (fun k_ => k_ ≠ gb213) u3 x3_1) := ⟨(by rw [hw]; exact (by (with_reducible repeat (first | apply Kd.R_alloc | apply Kd.R_drewN | apply Kd.R_drew)); exact Kd.R_mono (Kd.R_far (p := ⟨gb213, 2, none⟩) (Kd.R_far (p := ⟨gb213, 1, none⟩) (Kd.R_far (p := ⟨gb213, 0, none⟩) (Kd.R_mono HO_3.out (fun k_ hk => (⟨hk, hk.2⟩ : _ ∧ k_ ≠ gb213))) (fun _ hk => hk.2) (.string ((rd_T49 l0 x10_1).f0))) (fun _ hk => hk.2) (.bool ((rd_T49 l0 x10_1).f1))) (fun _ hk => hk.2) (.string ((rd_T49 l0 x10_1).f2))) (fun _ hk => hk.1.2)))⟩; have n1_ : Aside0 (w10.heap[gb213]? = some (.cells #[.string ((rd_T49 l0 x10_1).f0), .bool ((rd_T49 l0 x10_1).f1), .string ((rd_T49 l0 x10_1).f2)] 49 (0, 0))) := ⟨(by rw [hw]; exact (by (with_reducible repeat (first | refine blk_drewN ?_ _ | refine blk_drew ?_ | refine blk_alloc ?_ _)); refine blk_put (cs := #[.string ((rd_T49 l0 x10_1).f0), .bool ((rd_T49 l0 x10_1).f1), .string (⟨#[]⟩ : ByteArray)]) ?_ 2 _ rfl; (with_reducible repeat (first | refine blk_drewN ?_ _ | refine blk_drew ?_ | refine blk_alloc ?_ _)); refine blk_put (cs := #[.string ((rd_T49 l0 x10_1).f0), .bool false, .string (⟨#[]⟩ : ByteArray)]) ?_ 1 _ rfl; (with_reducible repeat (first | refine blk_drewN ?_ _ | refine blk_drew ?_ | refine blk_alloc ?_ _)); refine blk_put (cs := #[.string (⟨#[]⟩ : ByteArray), .bool false, .string (⟨#[]⟩ : ByteArray)]) ?_ 0 _ rfl; (with_reducible repeat (first | refine blk_drewN ?_ _ | refine blk_drew ?_ | refine blk_alloc ?_ _)); exact BK213.out))⟩; have n2_ : Aside0 (Below w.heap.size w w10) := ⟨(by rw [hw]; exact (by repeat (first | (with_reducible first | exact HB.out | apply below_alloc | apply pw_below_drewN | apply below_drew1 | refine below_set ?_ GE213.out) | exact HB.out)))⟩; clear hw; clear HO_3; clear BK213; clear HB; have HO_3 := n0_; have BK213 := n1_; have HB := n2_; clear n0_ n1_ n2_; have q11 : ((ji5) : Int) ≤ ((l0.length : Int) : Int) := of_decide_eq_true (by first | (with_reducible assumption) | assumption); obtain ⟨i011, hi011, _, hsz11, _⟩ := info_parts info49; have hroom11 : l0.length ≤ c0 := HC0.out; have hC11 : Kd.C k49 _ (some ad212) l0.length l0 := HR0.out; have q011 : (0 : Int) ≤ ((ji5) : Int) := of_decide_eq_true (by first | (with_reducible assumption) | assumption); have hcut11 := cut_from (P := Try.prog) 22 49 .i64 Try.underlying22 hi011 3 hsz11 (some ad212) l0.length c0 (ji5) q011 q11; have hr11 := Kd.C_drop (m := ((ji5) : Int).toNat) (c := c0) hC11 (by omega) hroom11; obtain ⟨A11, hA11⟩ : ∃ A1, A1 = (if c0 = ((ji5) : Int).toNat then (some ad212) else ((some ad212) : Option Addr).map (·.add (((ji5) : Int).toNat * 3))) := ⟨_, rfl⟩; obtain ⟨c11, hc11⟩ : ∃ c1, c1 = c0 - ((ji5) : Int).toNat := ⟨_, rfl⟩; have hy11 : y214.length = l0.length - ((ji5) : Int).toNat := (by rw [Ny214.out, List.length_drop] <;> omega); rw [show (l0).drop ((ji5) : Int).toNat = y214 from Ny214.out.symm] at hr11; replace hr11 : Kd.C k49 _ A11 y214.length y214 := (by rw [hA11]; exact hr11); rw [← hy11, ← hA11, ← hc11] at hcut11; have HR217 := Aside0.mk hr11; have HC217 := Aside0.mk (show y214.length ≤ c11 from by rw [hy11, hc11]; exact Nat.sub_le_sub_right hroom11 _); clear hr11 hC11 hroom11 hi011 hsz11 hc11; have KY11 := Aside0.mk hy11; have KA11 := Aside0.mk hA11; clear hy11 hA11; replace q11 := eq_true q11))
                go_loopg [20] k1 (fun kq v20 w' => ∃ (x20_2 : Int), v20 = .int .i64 x20_2 ∧ Aside0 (batch_Neat.l1 kq l0 x3_1 l0 (l0.length : Int) x10_1 y214 (y214.length : Int) x20_2 ((rd_T49 l0 x10_1).f0) ((rd_T49 l0 x10_1).f1) ((rd_T49 l0 x10_1).f2) = some r) ∧ Aside0 (kq ≤ k1) ∧ Aside0 (Kd.R k49 49 w' w.heap.size (fun k_ => k_ ≠ gb213) u3 x3_1) ∧ Aside0 (w'.heap[gb213]? = some (.cells #[.string ((rd_T49 l0 x10_1).f0), .bool ((rd_T49 l0 x10_1).f1), .string ((rd_T49 l0 x10_1).f2)] 49 (0, 0))) ∧ Aside0 (Below w.heap.size w w'))
                case atStart => exact ⟨(0), (by first | rfl | (simp; done) | (simp [*]; done)), H', ⟨Nat.le_refl _⟩, ⟨by (with_reducible repeat (first | apply Kd.R_alloc | apply Kd.R_drewN | apply Kd.R_drew)); exact HO_3.out⟩, ⟨by (with_reducible repeat (first | refine blk_drewN ?_ _ | refine blk_drew ?_ | refine blk_alloc ?_ _)); exact BK213.out⟩, ⟨by repeat (first | (with_reducible first | exact HB.out | apply below_alloc | apply pw_below_drewN | apply below_drew1 | refine below_set ?_ GE213.out) | exact HB.out)⟩⟩
                case round =>
                  clear H'
                  try clear c1
                  try clear q1
                  try clear c2
                  try clear c2b0
                  try clear p2
                  try clear q2
                  try clear hx2
                  try clear c3
                  try clear c3b0
                  try clear p3
                  try clear c4
                  try clear c4b0
                  try clear c6
                  try clear c6b0
                  try clear c6b1
                  try clear p6
                  try clear c7
                  try clear c7b0
                  try clear c7b1
                  try clear c11
                  try clear q11
                  try clear hcz9_0
                  try clear hcz9_1
                  try clear hcz9_2
                  try clear hfz9_0
                  try clear hfz9_1
                  try clear hfz9_2
                  try clear hx212_0
                  try clear hx212_1
                  try clear hx212_2
                  try clear p212
                  try clear q011
                  try clear q11
                  try clear q212
                  obtain ⟨x20_2, rfl, HA, HK2, HO_3, BK213, HB⟩ := hrel
                  cases gk with
                  | zero => exact absurd HA.out (by simp [batch_Neat.l1])
                  | succ k2 =>
                    have H := HA.out
                    clear HA
                    simp only [batch_Neat.l1] at H
                    by_cases c12 : x20_2 < (y214.length : Int)
                    · rw [if_pos c12] at H
                      have c12b0 : decide (x20_2 < (y214.length : Int)) = true := decide_eq_true c12
                      clear c12
                      by_cases c13 : 0 ≤ x20_2
                      · rw [if_pos c13] at H
                        have c13b0 : decide (0 ≤ x20_2) = true := decide_eq_true c13
                        clear c13
                        by_cases c14 : x20_2 < (y214.length : Int)
                        · rw [if_pos c14] at H
                          have c14b0 : decide (x20_2 < (y214.length : Int)) = true := decide_eq_true c14
                          clear c14
                          by_cases c15 : ((rd_T49 y214 x20_2).f0).toList = ((rd_T49 l0 x10_1).f0).toList
                          · rw [if_pos c15] at H
                            have c15b0 : (((rd_T49 y214 x20_2).f0).toList == ((rd_T49 l0 x10_1).f0).toList) = true := beq_iff_eq.mpr c15
                            have c15b1 : (((rd_T49 y214 x20_2).f0).toList != ((rd_T49 l0 x10_1).f0).toList) = false := bne_eq_false_iff_eq.mpr c15
                            clear c15
                            have H' := Aside0.mk H
                            clear H
                            have p218 : 0 ≤ (x20_2 : Int) := of_decide_eq_true (by first | (with_reducible assumption) | assumption)
                            have q218 : x20_2 < (y214.length : Int) := of_decide_eq_true (by first | (with_reducible assumption) | assumption)
                            obtain ⟨ad218, e218, hx218_0, hx218_1, hx218_2⟩ := at_T49 HR217.out x20_2 p218 q218
                            cases e218
                            replace hx218_0 := (HB.out.cell (World.block_lt_of_cell? w _ hx218_0)).trans hx218_0
                            replace hx218_1 := (HB.out.cell (World.block_lt_of_cell? w _ hx218_1)).trans hx218_1
                            replace hx218_2 := (HB.out.cell (World.block_lt_of_cell? w _ hx218_2)).trans hx218_2
                            replace p218 := eq_true p218
                            replace q218 := eq_true q218
                            go_wp2_with (first | go_step3 | ((with_reducible refine gate_dst (N := 7) rfl ?_); refine box_event ?hg (N := 7) ?hd (cs := #[.string (⟨#[]⟩ : ByteArray), .bool false, .string (⟨#[]⟩ : ByteArray)]) (t := 49) ?hr ?_; (case hd => rfl); (case hg => rfl); (case hr => first | (go_simp; done) | (go_simp; rfl)); intro gb219 hg w16 hbox hb; have n0_ := Aside0.mk (Kd.R_below (Kd.R_elderB (by (with_reducible repeat (first | apply Kd.R_alloc | apply Kd.R_drewN | apply Kd.R_drew)); exact HO_3.out) gb219 (Nat.le_of_eq hg.symm)) hb); have n1_ := Aside0.mk (blk_below (g := gb213) (o := .cells #[.string ((rd_T49 l0 x10_1).f0), .bool ((rd_T49 l0 x10_1).f1), .string ((rd_T49 l0 x10_1).f2)] 49 (0, 0)) (by (with_reducible repeat (first | refine blk_drewN ?_ _ | refine blk_drew ?_ | refine blk_alloc ?_ _)); exact BK213.out) hb); have n2_ := Aside0.mk (below_step (by repeat (first | (with_reducible first | exact HB.out | apply below_alloc | apply pw_below_drewN | apply below_drew1 | refine below_set ?_ GE213.out) | exact HB.out)) hb); have n3_ := Aside0.mk (hbox); have n4_ := Aside0.mk ((by rw [hg]; exact (below_size (by repeat (first | (with_reducible first | exact HB.out | apply below_alloc | apply pw_below_drewN | apply below_drew1 | refine below_set ?_ GE213.out) | exact HB.out))) : w.heap.size ≤ gb219)); have n5_ := Aside0.mk ((by rw [hg]; exact (below_size (by repeat (first | (with_reducible first | exact HB.out | apply below_alloc | apply pw_below_drewN | apply below_drew1 | refine below_set ?_ GE213.out) | exact HB.out))) : w.heap.size ≤ gb219)); have n6_ := Aside0.mk ((by rw [hg]; exact Nat.ne_of_lt (blk_lt (g := gb213) (o := .cells #[.string ((rd_T49 l0 x10_1).f0), .bool ((rd_T49 l0 x10_1).f1), .string ((rd_T49 l0 x10_1).f2)] 49 (0, 0)) (by (with_reducible repeat (first | refine blk_drewN ?_ _ | refine blk_drew ?_ | refine blk_alloc ?_ _)); exact BK213.out)) : gb213 ≠ gb219)); have n7_ := Aside0.mk ((by rw [hg]; exact Nat.ne_of_gt (blk_lt (g := gb213) (o := .cells #[.string ((rd_T49 l0 x10_1).f0), .bool ((rd_T49 l0 x10_1).f1), .string ((rd_T49 l0 x10_1).f2)] 49 (0, 0)) (by (with_reducible repeat (first | refine blk_drewN ?_ _ | refine blk_drew ?_ | refine blk_alloc ?_ _)); exact BK213.out)) : gb219 ≠ gb213)); clear HO_3; clear BK213; clear HB; have HO_3 := n0_; have BK213 := n1_; have HB := n2_; have BK219 := n3_; have GW219 := n4_; have GE219 := n5_; have NB213_219 := n6_; have NB219_213 := n7_; clear n0_ n1_ n2_ n3_ n4_ n5_ n6_ n7_; clear hb hbox hg; have hnb17 := NB219_213.out; have hnc17 := NB213_219.out; have hcz18_0 : w16.cell? ⟨gb219, 0, none⟩ = some (.string (⟨#[]⟩ : ByteArray)) := (blk_cell BK219.out 0).trans rfl; have hcz18_1 : w16.cell? ⟨gb219, 1, none⟩ = some (.bool false) := (blk_cell BK219.out 1).trans rfl; have hcz18_2 : w16.cell? ⟨gb219, 2, none⟩ = some (.string (⟨#[]⟩ : ByteArray)) := (blk_cell BK219.out 2).trans rfl; have hfz18_0 := blk_frozen BK219.out 0; have hfz18_1 := blk_frozen BK219.out 1; have hfz18_2 := blk_frozen BK219.out 2; have hcz19_0 : w16.cell? ⟨gb213, 0, none⟩ = some (.string ((rd_T49 l0 x10_1).f0)) := (blk_cell BK213.out 0).trans rfl; have hcz19_1 : w16.cell? ⟨gb213, 1, none⟩ = some (.bool ((rd_T49 l0 x10_1).f1)) := (blk_cell BK213.out 1).trans rfl; have hcz19_2 : w16.cell? ⟨gb213, 2, none⟩ = some (.string ((rd_T49 l0 x10_1).f2)) := (blk_cell BK213.out 2).trans rfl; have hfz19_0 := blk_frozen BK213.out 0; have hfz19_1 := blk_frozen BK213.out 1; have hfz19_2 := blk_frozen BK213.out 2))
                            go_roundg k2
                            case measure => have := HK1.out; have := HK2.out; omega
                            case rel => exact ⟨(x3_1), (wrap64 (x10_1 + 1)), (by first | rfl | (simp; done) | (simp [*]; done)), H', ⟨by have := HK1.out; have := HK2.out; omega⟩, ⟨by (with_reducible repeat (first | apply Kd.R_alloc | apply Kd.R_drewN | apply Kd.R_drew)); exact Kd.R_mono (Kd.R_far (p := ⟨gb219, 2, none⟩) (Kd.R_far (p := ⟨gb219, 1, none⟩) (Kd.R_far (p := ⟨gb219, 0, none⟩) (Kd.R_mono HO_3.out (fun k_ hk => (⟨hk, hk.2⟩ : _ ∧ k_ ≠ gb219))) (fun _ hk => hk.2) (.string ((rd_T49 y214 x20_2).f0))) (fun _ hk => hk.2) (.bool ((rd_T49 y214 x20_2).f1))) (fun _ hk => hk.2) (.string ((rd_T49 y214 x20_2).f2))) (fun _ hk => trivial)⟩, ⟨by repeat (first | (with_reducible first | exact HB.out | apply below_alloc | apply pw_below_drewN | apply below_drew1 | refine below_set ?_ GE213.out | refine below_set ?_ GE219.out) | exact HB.out)⟩⟩
                          · rw [if_neg c15] at H
                            have c15b0 : (((rd_T49 y214 x20_2).f0).toList == ((rd_T49 l0 x10_1).f0).toList) = false := beq_eq_false_iff_ne.mpr c15
                            have c15b1 : (((rd_T49 y214 x20_2).f0).toList != ((rd_T49 l0 x10_1).f0).toList) = true := bne_iff_ne.mpr c15
                            have H' := Aside0.mk H
                            clear H
                            have p218 : 0 ≤ (x20_2 : Int) := of_decide_eq_true (by first | (with_reducible assumption) | assumption)
                            have q218 : x20_2 < (y214.length : Int) := of_decide_eq_true (by first | (with_reducible assumption) | assumption)
                            obtain ⟨ad218, e218, hx218_0, hx218_1, hx218_2⟩ := at_T49 HR217.out x20_2 p218 q218
                            cases e218
                            replace hx218_0 := (HB.out.cell (World.block_lt_of_cell? w _ hx218_0)).trans hx218_0
                            replace hx218_1 := (HB.out.cell (World.block_lt_of_cell? w _ hx218_1)).trans hx218_1
                            replace hx218_2 := (HB.out.cell (World.block_lt_of_cell? w _ hx218_2)).trans hx218_2
                            replace p218 := eq_true p218
                            replace q218 := eq_true q218
                            go_wp2_with (first | go_step3 | ((with_reducible refine gate_dst (N := 7) rfl ?_); refine box_event ?hg (N := 7) ?hd (cs := #[.string (⟨#[]⟩ : ByteArray), .bool false, .string (⟨#[]⟩ : ByteArray)]) (t := 49) ?hr ?_; (case hd => rfl); (case hg => rfl); (case hr => first | (go_simp; done) | (go_simp; rfl)); intro gb219 hg w20 hbox hb; have n0_ := Aside0.mk (Kd.R_below (Kd.R_elderB (by (with_reducible repeat (first | apply Kd.R_alloc | apply Kd.R_drewN | apply Kd.R_drew)); exact HO_3.out) gb219 (Nat.le_of_eq hg.symm)) hb); have n1_ := Aside0.mk (blk_below (g := gb213) (o := .cells #[.string ((rd_T49 l0 x10_1).f0), .bool ((rd_T49 l0 x10_1).f1), .string ((rd_T49 l0 x10_1).f2)] 49 (0, 0)) (by (with_reducible repeat (first | refine blk_drewN ?_ _ | refine blk_drew ?_ | refine blk_alloc ?_ _)); exact BK213.out) hb); have n2_ := Aside0.mk (below_step (by repeat (first | (with_reducible first | exact HB.out | apply below_alloc | apply pw_below_drewN | apply below_drew1 | refine below_set ?_ GE213.out) | exact HB.out)) hb); have n3_ := Aside0.mk (hbox); have n4_ := Aside0.mk ((by rw [hg]; exact (below_size (by repeat (first | (with_reducible first | exact HB.out | apply below_alloc | apply pw_below_drewN | apply below_drew1 | refine below_set ?_ GE213.out) | exact HB.out))) : w.heap.size ≤ gb219)); have n5_ := Aside0.mk ((by rw [hg]; exact (below_size (by repeat (first | (with_reducible first | exact HB.out | apply below_alloc | apply pw_below_drewN | apply below_drew1 | refine below_set ?_ GE213.out) | exact HB.out))) : w.heap.size ≤ gb219)); have n6_ := Aside0.mk ((by rw [hg]; exact Nat.ne_of_lt (blk_lt (g := gb213) (o := .cells #[.string ((rd_T49 l0 x10_1).f0), .bool ((rd_T49 l0 x10_1).f1), .string ((rd_T49 l0 x10_1).f2)] 49 (0, 0)) (by (with_reducible repeat (first | refine blk_drewN ?_ _ | refine blk_drew ?_ | refine blk_alloc ?_ _)); exact BK213.out)) : gb213 ≠ gb219)); have n7_ := Aside0.mk ((by rw [hg]; exact Nat.ne_of_gt (blk_lt (g := gb213) (o := .cells #[.string ((rd_T49 l0 x10_1).f0), .bool ((rd_T49 l0 x10_1).f1), .string ((rd_T49 l0 x10_1).f2)] 49 (0, 0)) (by (with_reducible repeat (first | refine blk_drewN ?_ _ | refine blk_drew ?_ | refine blk_alloc ?_ _)); exact BK213.out)) : gb219 ≠ gb213)); clear HO_3; clear BK213; clear HB; have HO_3 := n0_; have BK213 := n1_; have HB := n2_; have BK219 := n3_; have GW219 := n4_; have GE219 := n5_; have NB213_219 := n6_; have NB219_213 := n7_; clear n0_ n1_ n2_ n3_ n4_ n5_ n6_ n7_; clear hb hbox hg; have hnb21 := NB219_213.out; have hnc21 := NB213_219.out; have hcz22_0 : w20.cell? ⟨gb219, 0, none⟩ = some (.string (⟨#[]⟩ : ByteArray)) := (blk_cell BK219.out 0).trans rfl; have hcz22_1 : w20.cell? ⟨gb219, 1, none⟩ = some (.bool false) := (blk_cell BK219.out 1).trans rfl; have hcz22_2 : w20.cell? ⟨gb219, 2, none⟩ = some (.string (⟨#[]⟩ : ByteArray)) := (blk_cell BK219.out 2).trans rfl; have hfz22_0 := blk_frozen BK219.out 0; have hfz22_1 := blk_frozen BK219.out 1; have hfz22_2 := blk_frozen BK219.out 2; have hcz23_0 : w20.cell? ⟨gb213, 0, none⟩ = some (.string ((rd_T49 l0 x10_1).f0)) := (blk_cell BK213.out 0).trans rfl; have hcz23_1 : w20.cell? ⟨gb213, 1, none⟩ = some (.bool ((rd_T49 l0 x10_1).f1)) := (blk_cell BK213.out 1).trans rfl; have hcz23_2 : w20.cell? ⟨gb213, 2, none⟩ = some (.string ((rd_T49 l0 x10_1).f2)) := (blk_cell BK213.out 2).trans rfl; have hfz23_0 := blk_frozen BK213.out 0; have hfz23_1 := blk_frozen BK213.out 1; have hfz23_2 := blk_frozen BK213.out 2))
                            go_roundg k2
                            case measure => have := HK1.out; have := HK2.out; omega
                            case rel => exact ⟨(wrap64 (x20_2 + 1)), (by first | rfl | (simp; done) | (simp [*]; done)), H', ⟨by have := HK1.out; have := HK2.out; omega⟩, ⟨by (with_reducible repeat (first | apply Kd.R_alloc | apply Kd.R_drewN | apply Kd.R_drew)); exact Kd.R_mono (Kd.R_far (p := ⟨gb219, 2, none⟩) (Kd.R_far (p := ⟨gb219, 1, none⟩) (Kd.R_far (p := ⟨gb219, 0, none⟩) (Kd.R_mono HO_3.out (fun k_ hk => (⟨hk, hk.2⟩ : _ ∧ k_ ≠ gb219))) (fun _ hk => hk.2) (.string ((rd_T49 y214 x20_2).f0))) (fun _ hk => hk.2) (.bool ((rd_T49 y214 x20_2).f1))) (fun _ hk => hk.2) (.string ((rd_T49 y214 x20_2).f2))) (fun _ hk => hk.1.1)⟩, ⟨by (with_reducible repeat (first | refine blk_drewN ?_ _ | refine blk_drew ?_ | refine blk_alloc ?_ _)); refine blk_far ?_ NB213_219.out _; (with_reducible repeat (first | refine blk_drewN ?_ _ | refine blk_drew ?_ | refine blk_alloc ?_ _)); refine blk_far ?_ NB213_219.out _; (with_reducible repeat (first | refine blk_drewN ?_ _ | refine blk_drew ?_ | refine blk_alloc ?_ _)); refine blk_far ?_ NB213_219.out _; (with_reducible repeat (first | refine blk_drewN ?_ _ | refine blk_drew ?_ | refine blk_alloc ?_ _)); exact BK213.out⟩, ⟨by repeat (first | (with_reducible first | exact HB.out | apply below_alloc | apply pw_below_drewN | apply below_drew1 | refine below_set ?_ GE213.out | refine below_set ?_ GE219.out) | exact HB.out)⟩⟩
                        · rw [if_neg c14] at H
                          exact absurd H (by simp)
                      · rw [if_neg c13] at H
                        exact absurd H (by simp)
                    · rw [if_neg c12] at H
                      have c12b0 : decide (x20_2 < (y214.length : Int)) = false := decide_eq_false c12
                      clear c12
                      by_cases c24 : x3_1.length < 3518437208883
                      · rw [if_pos c24] at H
                        have LMc24 := Aside0.mk c24
                        clear c24
                        obtain ⟨y220, hy220⟩ : ∃ y_ : List (S49), y_ = (x3_1 ++ [(⟨((rd_T49 l0 x10_1).f0), ((rd_T49 l0 x10_1).f1), ((rd_T49 l0 x10_1).f2)⟩ : S49)]) := ⟨_, rfl⟩
                        replace H : (batch_Neat.l0 k2 l0 y220 l0 (l0.length : Int) (wrap64 (x10_1 + 1))) = some r := by first | (rw [hy220]; with_reducible exact H) | (have H2_ := (Option.bind_some _ _).symm.trans H; rw [hy220]; with_reducible exact H2_) | (have H2_ := (Option.bind_some _ _).symm.trans H; with_reducible exact H2_) | with_reducible exact H | (rw [hy220]; exact H) | exact H
                        have Ny220 := Aside0.mk hy220
                        clear hy220
                        have H' := Aside0.mk H
                        clear H
                        have hcz25_0 : wr.cell? ⟨gb213, 0, none⟩ = some (.string ((rd_T49 l0 x10_1).f0)) := (blk_cell BK213.out 0).trans rfl
                        have hcz25_1 : wr.cell? ⟨gb213, 1, none⟩ = some (.bool ((rd_T49 l0 x10_1).f1)) := (blk_cell BK213.out 1).trans rfl
                        have hcz25_2 : wr.cell? ⟨gb213, 2, none⟩ = some (.string ((rd_T49 l0 x10_1).f2)) := (blk_cell BK213.out 2).trans rfl
                        have hfz25_0 := blk_frozen BK213.out 0
                        have hfz25_1 := blk_frozen BK213.out 1
                        have hfz25_2 := blk_frozen BK213.out 2
                        go_wp2_with (first | go_step3 | ((with_reducible refine gate_builtin (b := .append) (xs := #[.tmp 30, .tmp 32]) rfl ?_); at_builtin; refine Kd.R_append k49 (w0 := w) w.heap.size rfl (.tmp 30) (.tmp 32) 22 49 (.agg #[(.string ⟨#[]⟩), (.bool false), (.string ⟨#[]⟩)]) 40 rfl Try.underlying22 info49 rfl (by decide) (by omega) u3 x3_1 (⟨((rd_T49 l0 x10_1).f0), ((rd_T49 l0 x10_1).f1), ((rd_T49 l0 x10_1).f2)⟩ : S49) [.string ((rd_T49 l0 x10_1).f0), .bool ((rd_T49 l0 x10_1).f1), .string ((rd_T49 l0 x10_1).f2)] (fun k_ => k_ ≠ gb213) (fun _ => False) rfl rfl ?aP (fun _ hk => hk.elim) ?aF ?aO ?aB ?aS ?aL ?_; (case aP => exact k49_mkM _ _ _ (⟨((rd_T49 l0 x10_1).f0), ((rd_T49 l0 x10_1).f1), ((rd_T49 l0 x10_1).f2)⟩ : S49)); (case aB => exact (by repeat (first | (with_reducible first | exact HB.out | apply below_alloc | apply pw_below_drewN | apply below_drew1 | refine below_set ?_ GE213.out) | exact HB.out))); (case aF => exact (fun k_ hk => Kd.freshB (g := gb213) (o := .cells #[.string ((rd_T49 l0 x10_1).f0), .bool ((rd_T49 l0 x10_1).f1), .string ((rd_T49 l0 x10_1).f2)] 49 (0, 0)) (by (with_reducible repeat (first | refine blk_drewN ?_ _ | refine blk_drew ?_ | refine blk_alloc ?_ _)); exact BK213.out) k_ hk)); (case aO => exact (by (with_reducible repeat (first | apply Kd.R_alloc | apply Kd.R_drewN | apply Kd.R_drew)); exact HO_3.out)); (case aS => exact (below_size (by repeat (first | (with_reducible first | exact HB.out | apply below_alloc | apply pw_below_drewN | apply below_drew1 | refine below_set ?_ GE213.out) | exact HB.out)))); (case aL => have := LMc24.out; omega); intro v221 w26 ho hb hg hat; rw [← Ny220.out] at ho; have n0_ := Aside0.mk (blk_grown (g := gb213) (o := .cells #[.string ((rd_T49 l0 x10_1).f0), .bool ((rd_T49 l0 x10_1).f1), .string ((rd_T49 l0 x10_1).f2)] 49 (0, 0)) (by (with_reducible repeat (first | refine blk_drewN ?_ _ | refine blk_drew ?_ | refine blk_alloc ?_ _)); exact BK213.out) hg (Kd.R_away HO_3.out (fun _ hk => hk))); have n1_ := Aside0.mk (hb); have n2_ := Aside0.mk (ho); clear BK213; clear HB; clear HO_3; have BK213 := n0_; have HB := n1_; have HO222 := n2_; clear n0_ n1_ n2_; clear ho hb hg hat))
                        go_roundg k2
                        case measure => have := HK1.out; have := HK2.out; omega
                        case rel => exact ⟨(y220), (wrap64 (x10_1 + 1)), (by first | rfl | (simp; done) | (simp [*]; done)), H', ⟨by have := HK1.out; have := HK2.out; omega⟩, ⟨by (with_reducible repeat (first | apply Kd.R_alloc | apply Kd.R_drewN | apply Kd.R_drew)); exact Kd.R_mono HO222.out (fun _ hk => trivial)⟩, ⟨by repeat (first | (with_reducible first | exact HB.out | apply below_alloc | apply pw_below_drewN | apply below_drew1 | refine below_set ?_ GE213.out) | exact HB.out)⟩⟩
                      · rw [if_neg c24] at H
                        exact absurd H (by simp)
              · rw [if_neg c7] at H
                exact absurd H (by simp)
            · rw [if_neg c6] at H
              exact absurd H (by simp)
          · rw [if_neg c4] at H
            exact absurd H (by simp)
        · rw [if_neg c3] at H
          exact absurd H (by simp)
      · rw [if_neg c2] at H
        have c2b0 : decide (x10_1 < (l0.length : Int)) = false := decide_eq_false c2
        clear c2
        obtain rfl := Option.some.inj H
        have hok : batch_Neat.ok x3_1 = true := by
          cases hq : batch_Neat.ok x3_1 with
          | true => rfl
          | false => have := HRR.out; rw [hq] at this; cases this
        have hrr := HRR.out
        rw [if_pos hok] at hrr
        obtain rfl := Option.some.inj hrr
        clear HRR hrr
        have hcon := batch_Neat.sorts HO_3.out hok
        clear hok
        go_wp2_with (first | go_step3 | (go_at_call 37; refine hcon.mono ?_; rintro e w9 ⟨rfl, hS, hG⟩; have n0_ := Aside0.mk hS; have n1_ := Aside0.mk (HB.out.grown hG (below_size HB.out) (Kd.R_base HO_3.out)); clear HO_3 HB hS hG hcon; have HO_3 := n0_; have HB := n1_; clear n0_ n1_) | go_in)
        ((try rw [Exit.noGoto_ret]); go_ret)
        exact ⟨_, by first | rfl | (simp [errW_none, errW_some] <;> rfl) | (simp [*, errW_none, errW_some] <;> rfl), by (with_reducible repeat (first | apply Kd.R_alloc | apply Kd.R_drewN | apply Kd.R_drew)); exact HO_3.out, by repeat (first | (with_reducible first | exact HB.out | apply below_alloc | apply pw_below_drewN | apply below_drew1) | exact HB.out)⟩

end Go.Proofs.Ytnjbmcjhhadojaa.P
