import Derived.Test.YtfpnllajpnnfdaaQTabE
namespace Go.Proofs.Ytfpnllajpnnfdaa.Q
open Go.RowKit Go.Lib Go.Proofs Go.Proofs.Ytfpnllajpnnfdaa.P Go.Proofs.YtfpnllajpnnfdaaW.PrintWords Go.Proofs.YtfpnllajpnnfdaaW.PrintLast Go.Proofs.YtfpnllajpnnfdaaW.PrintMore
set_option linter.unusedVariables false
set_option linter.unusedSimpArgs false
attribute [local go_sem] max_two min_two
attribute [local go_sem high] string_leq string_geq string_gtr
/-! choose.Cover, choose.Between, choose.Pick -/
def minS (x y : ByteArray) : ByteArray := if Op.bytesLess y.data.toList x.data.toList = true then y else x
def maxS (x y : ByteArray) : ByteArray := if Op.bytesLess x.data.toList y.data.toList = true then y else x
theorem min2_str (x y : ByteArray) : Builtin.min2 (.string x) (.string y) = pure (.string (minS x y)) := by
  unfold minS
  cases h : Op.bytesLess y.data.toList x.data.toList with
  | false =>
    rcases not_lt h with e | h2
    · obtain rfl := eq_of_data e
      simp [Builtin.min2, Op.stringOp, asBool]
    · simp [Builtin.min2, Op.stringOp, asBool, toL, h2]
  | true =>
    have h2 := lt_asymm h
    have h3 : ¬ x.data = y.data := fun e => lt_ne h (by rw [e])
    simp [Builtin.min2, Op.stringOp, asBool, toL, h2, h3]
theorem max2_str (x y : ByteArray) : Builtin.max2 (.string x) (.string y) = pure (.string (maxS x y)) := by
  unfold maxS
  cases h : Op.bytesLess x.data.toList y.data.toList with
  | false =>
    simp [Builtin.max2, Op.stringOp, asBool, toL, h]
  | true =>
    simp [Builtin.max2, Op.stringOp, asBool, toL, h]
def cvB (key : ByteArray) (t : S46) : Bool := !(Op.bytesLess key.data.toList t.f2.data.toList) && !(Op.bytesLess t.f3.data.toList key.data.toList)
def bwB (from_ to_ : ByteArray) (t : S46) : Bool := !(Op.bytesLess t.f3.data.toList from_.data.toList) && (decide (to_.data.toList = []) || Op.bytesLess t.f2.data.toList to_.data.toList)
def reB (lo hi : ByteArray) (t : S46) : Bool := !(Op.bytesLess t.f3.data.toList lo.data.toList) && !(Op.bytesLess hi.data.toList t.f2.data.toList)
theorem take_filter {α : Type} (p : α → Bool) (l : List α) (i : Nat) (h : i < l.length) : (l.take (i + 1)).filter p = (l.take i).filter p ++ (if p l[i] = true then [l[i]] else []) := by
  rw [List.take_succ_eq_append_getElem h, List.filter_append]
  congr 1
  cases hb : p l[i] <;> simp [hb]
theorem len_filter {α : Type} (p : α → Bool) (l : List α) (i : Nat) : ((l.take i).filter p).length ≤ l.length := by
  have h1 := List.length_filter_le p (l.take i)
  rw [List.length_take] at h1
  omega
set_option maxHeartbeats 4000000 in
set_option maxRecDepth 100000 in
theorem SCover (w : World) (g : Nat) (l : List S46) (lg sq nx : Int) (key : ByteArray) (h : Sh w g l lg sq nx) (hl : l.length ≤ 1000000) : Calls Try.prog 15 #[.pointer (some ⟨g, 0, none⟩), .string key] w fun e w' => ∃ v : Value, e = .returned v ∧ Kd.R k46 46 w' w.heap.size (fun _ => True) v (l.filter (cvB key)) ∧ Below w.heap.size w w' := by
  have HS := Aside0.mk h
  have HL := Aside0.mk hl
  clear h hl
  go_enter Try.func15, Try.ntmps15
  go_wp2_with (go_at_call 19; with_reducible refine (STables _ g l lg sq nx HS.out HL.out).mono ?_; rintro e w1 ⟨v9, rfl, ho, hb⟩; have HV := Aside0.mk ho; have HW := Aside0.mk hb; clear ho hb; obtain ⟨A9, c9, e9, h5, h6⟩ := Kd.R_reads HV.out; subst e9; have HR := Aside0.mk h6; clear h5 h6)
  go_loopg [5, 11] l.length (fun kq v5 v11 w' => ∃ (i : Nat), v11 = .int .i64 (i : Int) ∧ Aside0 (kq + i = l.length) ∧ Aside0 (Kd.R k46 46 w' w1.heap.size (fun _ => True) v5 ((l.take i).filter (cvB key))) ∧ Aside0 (Below w1.heap.size w1 w'))
  case atStart => exact ⟨0, rfl, ⟨by omega⟩, ⟨Kd.R_nil _ _ _ _ _⟩, ⟨Below.refl _ _⟩⟩
  obtain ⟨i, rfl, HQ, HO, HB⟩ := hrel
  by_cases hlt : i < l.length
  · obtain ⟨k1, rfl⟩ : ∃ k1, gk = k1 + 1 := ⟨gk - 1, by have := HQ.out; omega⟩
    have hd0 : decide (i < l.length) = true := decide_eq_true hlt
    have hd1 : decide ((i : Int) < (l.length : Int)) = true := decide_eq_true (by omega)
    have p0 : 0 ≤ (i : Int) := by omega
    have q0 : (i : Int) < (l.length : Int) := by omega
    obtain ⟨ad, e_, hx0, hx1, hx2, hx3, hx4⟩ := at_T46 (Kd.C_below HR.out HB.out) (i : Int) p0 q0
    cases e_
    rw [Int.toNat_natCast, rdT l i hlt] at hx0 hx1 hx2 hx3 hx4
    have HT := Aside0.mk (take_filter (cvB key) l i hlt)
    have HLN := Aside0.mk (len_filter (cvB key) l i)
    obtain ⟨y, hy⟩ : ∃ y, y = l[i] := ⟨_, rfl⟩
    rw [← hy] at hx0 hx1 hx2 hx3 hx4 HT
    clear hy
    go_upto_region 5 with go_step3
    have n0_ := Aside0.mk (Kd.R_below HO.out (below_alloc (Below.refl _ wr) (.cells #[.int .i64 y.f0, .int .i64 y.f1, .string y.f2, .string y.f3, .int .i64 y.f4] 46)))
    have n1_ := bs_ HB (below_alloc (Below.refl _ wr) (.cells #[.int .i64 y.f0, .int .i64 y.f1, .string y.f2, .string y.f3, .int .i64 y.f4] 46))
    have BX := Aside0.mk (blk_new wr (.cells #[.int .i64 y.f0, .int .i64 y.f1, .string y.f2, .string y.f3, .int .i64 y.f4] 46))
    clear HO HB hx0 hx1 hx2 hx3 hx4
    have HO := n0_
    have HB := n1_
    clear n0_ n1_
    generalize wr.alloc (.cells #[.int .i64 y.f0, .int .i64 y.f1, .string y.f2, .string y.f3, .int .i64 y.f4] 46) = w2 at HO HB BX ⊢
    generalize wr.heap.size = gb at BX ⊢
    have hz0 := bc0 BX
    have hz1 := bc1 BX
    have hz2 := bc2 BX
    have hz3 := bc3 BX
    have hz4 := bc4 BX
    cases h1 : Op.bytesLess key.toList y.f2.toList with
    | true =>
      have hp : cvB key y = false := by unfold cvB; rw [← toL, ← toL, h1]; rfl
      rw [hp, if_neg (by decide), List.append_nil] at HT
      clear hp
      go_wp2
      go_roundg k1
      case measure => have := HQ.out; omega
      case rel => exact ⟨i + 1, by have h2_ := HL.out; simp; unfold wrap64; omega, ⟨by have := HQ.out; omega⟩, ⟨by rw [HT.out]; exact HO.out⟩, HB⟩
    | false =>
      cases h2 : Op.bytesLess y.f3.toList key.toList with
      | true =>
        have hp : cvB key y = false := by unfold cvB; rw [← toL, ← toL, ← toL, h1, h2]; rfl
        rw [hp, if_neg (by decide), List.append_nil] at HT
        clear hp
        go_wp2
        go_roundg k1
        case measure => have := HQ.out; omega
        case rel => exact ⟨i + 1, by have h2_ := HL.out; simp; unfold wrap64; omega, ⟨by have := HQ.out; omega⟩, ⟨by rw [HT.out]; exact HO.out⟩, HB⟩
      | false =>
        have hp : cvB key y = true := by unfold cvB; rw [← toL, ← toL, ← toL, h1, h2]; rfl
        rw [hp, if_pos rfl] at HT
        clear hp
        go_wp2_with (first | ((with_reducible refine gate_builtin (b := .append) (xs := #[.tmp 25, .tmp 27]) rfl ?_); (try (refine gate_guard (by rfl) ?_; dsimp only)); at_builtin; go_loud (refine Kd.R_append k46 (w0 := w1) w1.heap.size rfl (.tmp 25) (.tmp 27) 32 46 (.agg #[(.int .i64 0), (.int .i64 0), (.string ⟨#[]⟩), (.string ⟨#[]⟩), (.int .i64 0)]) 56 rfl Try.underlying32 info46 rfl (by decide) (by omega) u5 ((l.take i).filter (cvB key)) y [.int .i64 y.f0, .int .i64 y.f1, .string y.f2, .string y.f3, .int .i64 y.f4] (fun _ => True) (fun _ => False) rfl rfl (k46_mkM _ _ _ y) (fun _ h => h.elim) (fun _ _ => trivial) HO.out HB.out HB.out.size (by have := HLN.out; have := HL.out; omega) ?_; intro v1 w4 ho hb hg hat; rw [← HT.out] at ho; have HO2 := Aside0.mk ho; have HB2 := Aside0.mk hb; clear ho hb hg hat HO HB BX hz0 hz1 hz2 hz3 hz4)))
        go_roundg k1
        case measure => have := HQ.out; omega
        case rel => exact ⟨i + 1, by have h2_ := HL.out; simp; unfold wrap64; omega, ⟨by have := HQ.out; omega⟩, HO2, HB2⟩
  have hd0 : decide (i < l.length) = false := decide_eq_false hlt
  have hd1 : decide ((i : Int) < (l.length : Int)) = false := decide_eq_false (by omega)
  have HTK := Aside0.mk (List.take_of_length_le (show l.length ≤ i by omega))
  go_wp2
  (try rw [Exit.noGoto_ret])
  go_ret
  exact ⟨_, rfl, by have h_ := HO.out; rw [HTK.out] at h_; exact Kd.R_lower h_ (below_size HW.out), below_step HW.out HB.out⟩
set_option maxHeartbeats 4000000 in
set_option maxRecDepth 100000 in
theorem SBetween (w : World) (g : Nat) (l : List S46) (lg sq nx : Int) (from_ to_ : ByteArray) (h : Sh w g l lg sq nx) (hl : l.length ≤ 1000000) : Calls Try.prog 17 #[.pointer (some ⟨g, 0, none⟩), .string from_, .string to_] w fun e w' => ∃ v : Value, e = .returned v ∧ Kd.R k46 46 w' w.heap.size (fun _ => True) v (l.filter (bwB from_ to_)) ∧ Below w.heap.size w w' := by
  have HS := Aside0.mk h
  have HL := Aside0.mk hl
  clear h hl
  go_enter Try.func17, Try.ntmps17
  go_wp2_with (first | go_step3 | (go_at_call 19; with_reducible refine (STables _ g l lg sq nx HS.out HL.out).mono ?_; rintro e w1 ⟨v9, rfl, ho, hb⟩; have HV := Aside0.mk ho; have HW := Aside0.mk hb; clear ho hb; obtain ⟨A9, c9, e9, h5, h6⟩ := Kd.R_reads HV.out; subst e9; have HR := Aside0.mk h6; clear h5 h6))
  go_loopg [7, 13] l.length (fun kq v7 v13 w' => ∃ (i : Nat), v13 = .int .i64 (i : Int) ∧ Aside0 (kq + i = l.length) ∧ Aside0 (Kd.R k46 46 w' w1.heap.size (fun _ => True) v7 ((l.take i).filter (bwB from_ to_))) ∧ Aside0 (Below w1.heap.size w1 w'))
  case atStart => exact ⟨0, rfl, ⟨by omega⟩, ⟨Kd.R_nil _ _ _ _ _⟩, ⟨Below.refl _ _⟩⟩
  obtain ⟨i, rfl, HQ, HO, HB⟩ := hrel
  by_cases hlt : i < l.length
  · obtain ⟨k1, rfl⟩ : ∃ k1, gk = k1 + 1 := ⟨gk - 1, by have := HQ.out; omega⟩
    have hd0 : decide (i < l.length) = true := decide_eq_true hlt
    have hd1 : decide ((i : Int) < (l.length : Int)) = true := decide_eq_true (by omega)
    have p0 : 0 ≤ (i : Int) := by omega
    have q0 : (i : Int) < (l.length : Int) := by omega
    obtain ⟨ad, e_, hx0, hx1, hx2, hx3, hx4⟩ := at_T46 (Kd.C_below HR.out HB.out) (i : Int) p0 q0
    cases e_
    rw [Int.toNat_natCast, rdT l i hlt] at hx0 hx1 hx2 hx3 hx4
    have HT := Aside0.mk (take_filter (bwB from_ to_) l i hlt)
    have HLN := Aside0.mk (len_filter (bwB from_ to_) l i)
    obtain ⟨y, hy⟩ : ∃ y, y = l[i] := ⟨_, rfl⟩
    rw [← hy] at hx0 hx1 hx2 hx3 hx4 HT
    clear hy
    go_upto_region 5 with go_step3
    have n0_ := Aside0.mk (Kd.R_below HO.out (below_alloc (Below.refl _ wr) (.cells #[.int .i64 y.f0, .int .i64 y.f1, .string y.f2, .string y.f3, .int .i64 y.f4] 46)))
    have n1_ := bs_ HB (below_alloc (Below.refl _ wr) (.cells #[.int .i64 y.f0, .int .i64 y.f1, .string y.f2, .string y.f3, .int .i64 y.f4] 46))
    have BX := Aside0.mk (blk_new wr (.cells #[.int .i64 y.f0, .int .i64 y.f1, .string y.f2, .string y.f3, .int .i64 y.f4] 46))
    clear HO HB hx0 hx1 hx2 hx3 hx4
    have HO := n0_
    have HB := n1_
    clear n0_ n1_
    generalize wr.alloc (.cells #[.int .i64 y.f0, .int .i64 y.f1, .string y.f2, .string y.f3, .int .i64 y.f4] 46) = w2 at HO HB BX ⊢
    generalize wr.heap.size = gb at BX ⊢
    have hz0 := bc0 BX
    have hz1 := bc1 BX
    have hz2 := bc2 BX
    have hz3 := bc3 BX
    have hz4 := bc4 BX
    cases h1 : Op.bytesLess y.f3.toList from_.toList with
    | true =>
      have hp : bwB from_ to_ y = false := by unfold bwB; rw [← toL, ← toL, h1]; rfl
      rw [hp, if_neg (by decide), List.append_nil] at HT
      clear hp
      go_wp2_with (first | go_step3 | go_in)
      (try (rw [Exit.noGoto_normal]; go_wp2_with go_step3))
      go_roundg k1
      case measure => have := HQ.out; omega
      case rel => exact ⟨i + 1, by have h2_ := HL.out; simp; unfold wrap64; omega, ⟨by have := HQ.out; omega⟩, ⟨by rw [HT.out]; exact HO.out⟩, HB⟩
    | false =>
      by_cases h3 : to_.toList = ([] : List UInt8)
      · have hp : bwB from_ to_ y = true := by unfold bwB; rw [← toL, ← toL, ← toL, ← toL, h1, decide_eq_true h3]; rfl
        have h3b : (to_.toList == ([] : List UInt8)) = true := beq_iff_eq.mpr h3
        have h3c : (to_.toList != ([] : List UInt8)) = false := bne_eq_false_iff_eq.mpr h3
        clear h3
        rw [hp, if_pos rfl] at HT
        clear hp
        go_wp2_with (first | go_step3 | ((with_reducible refine gate_builtin (b := .append) (xs := #[.tmp 30, .tmp 32]) rfl ?_); (try (refine gate_guard (by rfl) ?_; dsimp only)); at_builtin; go_loud (refine Kd.R_append k46 (w0 := w1) w1.heap.size rfl (.tmp 30) (.tmp 32) 32 46 (.agg #[(.int .i64 0), (.int .i64 0), (.string ⟨#[]⟩), (.string ⟨#[]⟩), (.int .i64 0)]) 56 rfl Try.underlying32 info46 rfl (by decide) (by omega) u7 ((l.take i).filter (bwB from_ to_)) y [.int .i64 y.f0, .int .i64 y.f1, .string y.f2, .string y.f3, .int .i64 y.f4] (fun _ => True) (fun _ => False) rfl rfl (k46_mkM _ _ _ y) (fun _ h => h.elim) (fun _ _ => trivial) HO.out HB.out HB.out.size (by have := HLN.out; have := HL.out; omega) ?_; intro v1 w4 ho hb hg hat; rw [← HT.out] at ho; have HO2 := Aside0.mk ho; have HB2 := Aside0.mk hb; clear ho hb hg hat HO HB BX hz0 hz1 hz2 hz3 hz4)))
        (try (rw [Exit.noGoto_normal]; go_wp2_with go_step3))
        go_roundg k1
        case measure => have := HQ.out; omega
        case rel => exact ⟨i + 1, by have h2_ := HL.out; simp; unfold wrap64; omega, ⟨by have := HQ.out; omega⟩, HO2, HB2⟩
      have h3b : (to_.toList == ([] : List UInt8)) = false := beq_eq_false_iff_ne.mpr h3
      have h3c : (to_.toList != ([] : List UInt8)) = true := bne_iff_ne.mpr h3
      cases h2 : Op.bytesLess y.f2.toList to_.toList with
      | true =>
        have hp : bwB from_ to_ y = true := by unfold bwB; rw [← toL, ← toL, ← toL, ← toL, h1, h2]; simp
        clear h3
        rw [hp, if_pos rfl] at HT
        clear hp
        go_wp2_with (first | go_step3 | ((with_reducible refine gate_builtin (b := .append) (xs := #[.tmp 30, .tmp 32]) rfl ?_); (try (refine gate_guard (by rfl) ?_; dsimp only)); at_builtin; go_loud (refine Kd.R_append k46 (w0 := w1) w1.heap.size rfl (.tmp 30) (.tmp 32) 32 46 (.agg #[(.int .i64 0), (.int .i64 0), (.string ⟨#[]⟩), (.string ⟨#[]⟩), (.int .i64 0)]) 56 rfl Try.underlying32 info46 rfl (by decide) (by omega) u7 ((l.take i).filter (bwB from_ to_)) y [.int .i64 y.f0, .int .i64 y.f1, .string y.f2, .string y.f3, .int .i64 y.f4] (fun _ => True) (fun _ => False) rfl rfl (k46_mkM _ _ _ y) (fun _ h => h.elim) (fun _ _ => trivial) HO.out HB.out HB.out.size (by have := HLN.out; have := HL.out; omega) ?_; intro v1 w4 ho hb hg hat; rw [← HT.out] at ho; have HO2 := Aside0.mk ho; have HB2 := Aside0.mk hb; clear ho hb hg hat HO HB BX hz0 hz1 hz2 hz3 hz4)))
        (try (rw [Exit.noGoto_normal]; go_wp2_with go_step3))
        go_roundg k1
        case measure => have := HQ.out; omega
        case rel => exact ⟨i + 1, by have h2_ := HL.out; simp; unfold wrap64; omega, ⟨by have := HQ.out; omega⟩, HO2, HB2⟩
      | false =>
        have hp : bwB from_ to_ y = false := by unfold bwB; rw [← toL, ← toL, ← toL, ← toL, h1, h2, decide_eq_false h3]; rfl
        clear h3
        rw [hp, if_neg (by decide), List.append_nil] at HT
        clear hp
        go_wp2_with (first | go_step3 | go_in)
        (try (rw [Exit.noGoto_normal]; go_wp2_with go_step3))
        go_roundg k1
        case measure => have := HQ.out; omega
        case rel => exact ⟨i + 1, by have h2_ := HL.out; simp; unfold wrap64; omega, ⟨by have := HQ.out; omega⟩, ⟨by rw [HT.out]; exact HO.out⟩, HB⟩
  have hd0 : decide (i < l.length) = false := decide_eq_false hlt
  have hd1 : decide ((i : Int) < (l.length : Int)) = false := decide_eq_false (by omega)
  have HTK := Aside0.mk (List.take_of_length_le (show l.length ≤ i by omega))
  go_wp2_with (first | go_step3 | go_in)
  (try rw [Exit.noGoto_ret])
  ((try rw [Exit.noGoto_ret]); go_ret)
  exact ⟨_, rfl, by have h_ := HO.out; rw [HTK.out] at h_; exact Kd.R_lower h_ (below_size HW.out), below_step HW.out HB.out⟩
/-- A row that is not the one that is appended to. -/
theorem grow_other {W w1 : World} {base : Nat} {v v1 u : Value} {xs : List S46} (h : Kd.R k46 46 W base (fun k => some k ≠ v.ownBlock) u xs) (hg : W.grownBy w1 v.ownBlock) (hat : v1.ownBlock = v.ownBlock ∨ ∃ b, v1.ownBlock = some b ∧ W.heap.size ≤ b) : Kd.R k46 46 w1 base (fun k => some k ≠ v1.ownBlock) u xs := by
  refine Kd.R_mono (Kd.R_grown (Kd.R_bound h) hg (fun k hk => hk.1)) (fun k hk => ?_)
  rcases hat with e | ⟨b, e, hb⟩
  · rw [e]; exact hk.1
  · rw [e]; intro e2
    have e3 : k = b := by injection e2
    have := hk.2.2.1
    omega
/-- The first and the last key of a row of tables, x and y ahead. -/
def loL (x : ByteArray) (l : List S46) : ByteArray := l.foldl (fun m t => minS m t.f2) x
def hiL (x : ByteArray) (l : List S46) : ByteArray := l.foldl (fun m t => maxS m t.f3) x
def tierL (l : List S46) (k : Int) : List S46 := l.filter (fun z => z.f1 == k)
def loP (l : List S46) : ByteArray := loL (rd_T46 (tierL l 0) 0).f2 (tierL l 0)
def hiP (l : List S46) : ByteArray := hiL (rd_T46 (tierL l 0) 0).f3 (tierL l 0)
def pickL (l : List S46) : List S46 := if (tierL l 0).length < 2 then [] else tierL l 0 ++ (tierL l 1).filter (reB (loP l) (hiP l))
def pickB (l : List S46) : Bool := !(decide ((tierL l 0).length < 2))
theorem STierL (w : World) (g : Nat) (l : List S46) (lg sq nx tier : Int) (h : Sh w g l lg sq nx) (hl : l.length ≤ 1000000) : Calls Try.prog 18 #[.pointer (some ⟨g, 0, none⟩), .int .i64 tier] w fun e w' => ∃ v : Value, e = .returned v ∧ Kd.R k46 46 w' w.heap.size (fun _ => True) v (tierL l tier) ∧ Below w.heap.size w w' := STier w g l lg sq nx tier h hl
theorem tier_len (l : List S46) (k : Int) : (tierL l k).length ≤ l.length := List.length_filter_le _ _
set_option maxHeartbeats 4000000 in
set_option maxRecDepth 100000 in
theorem SPick (w : World) (g : Nat) (l : List S46) (lg sq nx : Int) (h : Sh w g l lg sq nx) (hl : l.length ≤ 1000000) : Calls Try.prog 12 #[.pointer (some ⟨g, 0, none⟩)] w fun e w' => ∃ v : Value, e = .returned (.tuple #[v, .bool (pickB l)]) ∧ Kd.R k46 46 w' w.heap.size (fun _ => True) v (pickL l) ∧ Below w.heap.size w w' := by
  have HS := Aside0.mk h
  have HL := Aside0.mk hl
  clear h hl
  go_enter Try.func12, Try.ntmps12
  go_upto_region 2 with (first | go_step3 | (go_at_call 18; go_loud (with_reducible refine (STierL _ g l lg sq nx 0 HS.out HL.out).mono ?_; rintro e w1 ⟨v0, rfl, ho, hb⟩; have HV0 := Aside0.mk ho; have HW1 := Aside0.mk hb; clear ho hb)))
  obtain ⟨A0, c0, e0, h5, h6⟩ := Kd.R_reads HV0.out
  subst e0
  have HR0 := Aside0.mk h6
  have HLA := Aside0.mk (Nat.le_trans (tier_len l 0) HL.out)
  have HLB := Aside0.mk (Nat.le_trans (tier_len l 1) HL.out)
  clear h5 h6
  by_cases hfew : (tierL l 0).length < 2
  · have hd0 : decide ((tierL l 0).length < 2) = true := decide_eq_true hfew
    have hd1 : decide (((tierL l 0).length : Int) < 2) = true := decide_eq_true (by omega)
    have HP := Aside0.mk (show pickL l = [] ∧ pickB l = false by unfold pickL pickB; rw [if_pos hfew, decide_eq_true hfew]; exact ⟨rfl, rfl⟩)
    clear hfew
    go_wp2_with (first | go_step3 | go_in)
    ((try rw [Exit.noGoto_ret]); go_ret2)
    exact ⟨_, by rw [HP.out.2]; rfl, by rw [HP.out.1]; exact Kd.R_nil _ _ _ _ _, HW1.out⟩
  have hd0 : decide ((tierL l 0).length < 2) = false := decide_eq_false hfew
  have hd1 : decide (((tierL l 0).length : Int) < 2) = false := decide_eq_false (by omega)
  have HP := Aside0.mk (show pickL l = tierL l 0 ++ (tierL l 1).filter (reB (loP l) (hiP l)) ∧ pickB l = true by unfold pickL pickB; rw [if_neg hfew, decide_eq_false hfew]; exact ⟨rfl, rfl⟩)
  have HLO := Aside0.mk (show loP l = loL (rd_T46 (tierL l 0) 0).f2 (tierL l 0) from rfl)
  have HHI := Aside0.mk (show hiP l = hiL (rd_T46 (tierL l 0) 0).f3 (tierL l 0) from rfl)
  obtain ⟨lo, hlo⟩ : ∃ lo, lo = loP l := ⟨_, rfl⟩
  obtain ⟨hi, hhi⟩ : ∃ hi, hi = hiP l := ⟨_, rfl⟩
  rw [← hlo] at HLO HP
  rw [← hhi] at HHI HP
  obtain ⟨ad, e_, hx0, hx1, hx2, hx3, hx4⟩ := at_T46 HR0.out (0 : Int) (by omega) (by omega)
  cases e_
  obtain ⟨y, hy⟩ : ∃ y, y = rd_T46 (tierL l 0) 0 := ⟨_, rfl⟩
  rw [← hy] at hx0 hx1 hx2 hx3 hx4 HLO HHI
  have hx2b : w1.cell? ⟨ad.block, ad.off + 2, none⟩ = some (.string y.f2) := by simpa [Addr.add] using hx2
  have hx3b : w1.cell? ⟨ad.block, ad.off + 3, none⟩ = some (.string y.f3) := by simpa [Addr.add] using hx3
  have p1 : (0 : Int) < ((tierL l 0).length : Int) := by omega
  have p2 : 0 < (tierL l 0).length := by omega
  clear hy hlo hhi hx0 hx1 hx2 hx3 hx4 hfew
  generalize tierL l 0 = L0 at HV0 HR0 HLA HP HLO HHI hd0 hd1 p1 p2 ⊢
  go_wp2_with (first | go_step3 | go_in)
  refine start_ (n := 10) (S := fun w' => w'.cell? ⟨ad.block, ad.off + 2, none⟩ = some (.string y.f2) ∧ w'.cell? ⟨ad.block, ad.off + 3, none⟩ = some (.string y.f3)) (ds := []) #[false, false, false, false, false, false, false, false, false, false] (by kernel_rfl) rfl rfl ⟨hx2b, hx3b⟩ (fun hHeld => ?_)
  refine pure_ (i := 0) (N := some 16) (v := ?_) (a' := ?_) #[true, false, false, false, false, false, false, false, false, false] rfl rfl (by kernel_rfl) (fun _ _ _ h => h) (Or.inl ⟨by rfl, ?_⟩) ?_ ?_
  rotate_left
  · intro w'
    go_simp
    with_reducible rfl
  rotate_left
  · simp only [Act.put, List.setIfInBounds_toArray, List.set_cons_zero, List.set_cons_succ, i64_w, i32_w]
    rfl
  refine pure_ (i := 1) (N := some 17) (v := ?_) (a' := ?_) #[true, true, false, false, false, false, false, false, false, false] rfl rfl (by kernel_rfl) (fun _ _ _ h => h) (Or.inl ⟨by rfl, ?_⟩) ?_ ?_
  rotate_left
  · intro w'
    go_simp
    with_reducible rfl
  rotate_left
  · simp only [Act.put, List.setIfInBounds_toArray, List.set_cons_zero, List.set_cons_succ, i64_w, i32_w]
    rfl
  refine pure_ (i := 2) (N := some 18) (v := ?_) (a' := ?_) #[true, true, true, false, false, false, false, false, false, false] rfl rfl (by kernel_rfl) (fun _ _ _ h => h) (Or.inl ⟨by rfl, ?_⟩) ?_ ?_
  rotate_left
  · intro w'
    go_simp
    with_reducible rfl
  rotate_left
  · simp only [Act.put, List.setIfInBounds_toArray, List.set_cons_zero, List.set_cons_succ, i64_w, i32_w]
    rfl
  refine pure_ (i := 4) (N := some 20) (v := ?_) (a' := ?_) #[true, true, true, false, true, false, false, false, false, false] rfl rfl (by kernel_rfl) (fun _ _ _ h => h) (Or.inl ⟨by rfl, ?_⟩) ?_ ?_
  rotate_left
  · intro w'
    go_simp
    with_reducible rfl
  rotate_left
  · simp only [Act.put, List.setIfInBounds_toArray, List.set_cons_zero, List.set_cons_succ, i64_w, i32_w]
    rfl
  refine pure_ (i := 5) (N := some 21) (v := ?_) (a' := ?_) #[true, true, true, false, true, true, false, false, false, false] rfl rfl (by kernel_rfl) (fun _ _ _ h => h) (Or.inl ⟨by rfl, ?_⟩) ?_ ?_
  rotate_left
  · intro w'
    go_simp
    with_reducible rfl
  rotate_left
  · simp only [Act.put, List.setIfInBounds_toArray, List.set_cons_zero, List.set_cons_succ, i64_w, i32_w]
    rfl
  refine pure_ (i := 6) (N := some 22) (v := ?_) (a' := ?_) #[true, true, true, false, true, true, true, false, false, false] rfl rfl (by kernel_rfl) (fun _ _ _ h => h) (Or.inl ⟨by rfl, ?_⟩) ?_ ?_
  rotate_left
  · intro w'
    go_simp
    with_reducible rfl
  rotate_left
  · simp only [Act.put, List.setIfInBounds_toArray, List.set_cons_zero, List.set_cons_succ, i64_w, i32_w]
    rfl
  refine take_ (i := 3) (N := some 19) (v := ?_) (a' := ?_) #[true, true, true, true, true, true, true, false, false, false] rfl rfl (by kernel_rfl) (fun _ _ _ h => h) (Or.inl ⟨by rfl, ?_⟩) hHeld ?_ ?_
  rotate_left
  · rintro w' ⟨s0, s1⟩
    go_simp
    with_reducible rfl
  rotate_left
  · simp only [Act.put, List.setIfInBounds_toArray, List.set_cons_zero, List.set_cons_succ, i64_w, i32_w]
    rfl
  refine pure_ (i := 8) (N := some 5) (v := ?_) (a' := ?_) #[true, true, true, true, true, true, true, false, true, false] rfl rfl (by kernel_rfl) (fun _ _ _ h => h) (Or.inl ⟨by rfl, ?_⟩) ?_ ?_
  rotate_left
  · intro w'
    go_simp
    with_reducible rfl
  rotate_left
  · simp only [Act.put, List.setIfInBounds_toArray, List.set_cons_zero, List.set_cons_succ, i64_w, i32_w]
    rfl
  refine take_ (i := 7) (N := some 23) (v := ?_) (a' := ?_) #[true, true, true, true, true, true, true, true, true, false] rfl rfl (by kernel_rfl) (fun _ _ _ h => h) (Or.inl ⟨by rfl, ?_⟩) hHeld ?_ ?_
  rotate_left
  · rintro w' ⟨s0, s1⟩
    go_simp
    with_reducible rfl
  rotate_left
  · simp only [Act.put, List.setIfInBounds_toArray, List.set_cons_zero, List.set_cons_succ, i64_w, i32_w]
    rfl
  refine pure_ (i := 9) (N := some 6) (v := ?_) (a' := ?_) #[true, true, true, true, true, true, true, true, true, true] rfl rfl (by kernel_rfl) (fun _ _ _ h => h) (Or.inl ⟨by rfl, ?_⟩) ?_ ?_
  rotate_left
  · intro w'
    go_simp
    with_reducible rfl
  rotate_left
  · simp only [Act.put, List.setIfInBounds_toArray, List.set_cons_zero, List.set_cons_succ, i64_w, i32_w]
    rfl
  refine done_ (by kernel_rfl) ?_

  have n0_ := Aside0.mk (Kd.R_drew HV0.out)
  have n1_ := Aside0.mk (below_drew1 HW1.out)
  have n2_ := Aside0.mk (Kd.C_below HR0.out (below_drew1 (Below.refl _ _)))
  clear HV0 HW1 HR0 hx2b hx3b p1 p2 hd0 hd1
  have HV0 := n0_
  have HW1 := n1_
  have HR0 := n2_
  clear n0_ n1_ n2_
  generalize w1.drew = w2 at HV0 HW1 HR0 ⊢
  go_wp2_with (first | go_step3 | go_in)
  go_loopg [5, 6, 26] L0.length (fun kq v5 v6 v26 w' => ∃ (i : Nat) (a b : ByteArray), v26 = .int .i64 (i : Int) ∧ v5 = .string a ∧ v6 = .string b ∧ Aside0 (kq + i = L0.length) ∧ Aside0 (a = loL y.f2 (L0.take i)) ∧ Aside0 (b = hiL y.f3 (L0.take i)) ∧ Aside0 (Below w2.heap.size w2 w'))
  case atStart => exact ⟨0, _, _, rfl, rfl, rfl, ⟨by omega⟩, ⟨by rw [List.take_zero]; rfl⟩, ⟨by rw [List.take_zero]; rfl⟩, ⟨Below.refl _ _⟩⟩
  obtain ⟨i, ka, kb, rfl, rfl, rfl, HQ, HA, HBk, HB⟩ := hrel
  by_cases hlt : i < L0.length
  · obtain ⟨k1, rfl⟩ : ∃ k1, gk = k1 + 1 := ⟨gk - 1, by have := HQ.out; omega⟩
    have hd0 : decide (i < L0.length) = true := decide_eq_true hlt
    have hd1 : decide ((i : Int) < (L0.length : Int)) = true := decide_eq_true (by omega)
    have p0 : 0 ≤ (i : Int) := by omega
    have q0 : (i : Int) < (L0.length : Int) := by omega
    obtain ⟨ad2, e_, hx0, hx1, hx2, hx3, hx4⟩ := at_T46 (Kd.C_below HR0.out HB.out) (i : Int) p0 q0
    cases e_
    rw [Int.toNat_natCast, rdT L0 i hlt] at hx0 hx1 hx2 hx3 hx4
    obtain ⟨z, hz⟩ : ∃ z, z = L0[i] := ⟨_, rfl⟩
    have HA2 := Aside0.mk (show loL y.f2 (L0.take (i + 1)) = minS ka z.f2 by rw [HA.out, List.take_succ_eq_append_getElem hlt, ← hz]; unfold loL; rw [List.foldl_append]; rfl)
    have HB2 := Aside0.mk (show hiL y.f3 (L0.take (i + 1)) = maxS kb z.f3 by rw [HBk.out, List.take_succ_eq_append_getElem hlt, ← hz]; unfold hiL; rw [List.foldl_append]; rfl)
    rw [← hz] at hx0 hx1 hx2 hx3 hx4
    clear hz
    go_upto_region 8 with go_step3
    have n1_ := bs_ HB (below_alloc (Below.refl _ wr) (.cells #[.int .i64 z.f0, .int .i64 z.f1, .string z.f2, .string z.f3, .int .i64 z.f4] 46))
    have BX := Aside0.mk (blk_new wr (.cells #[.int .i64 z.f0, .int .i64 z.f1, .string z.f2, .string z.f3, .int .i64 z.f4] 46))
    clear HB hx0 hx1 hx2 hx3 hx4
    have HB := n1_
    clear n1_
    generalize wr.alloc (.cells #[.int .i64 z.f0, .int .i64 z.f1, .string z.f2, .string z.f3, .int .i64 z.f4] 46) = w3 at HB BX ⊢
    generalize wr.heap.size = gb at BX ⊢
    have hz2 := bc2 BX
    have hz3 := bc3 BX
    have hm1 := min2_str ka z.f2
    have hm2 := max2_str kb z.f3
    generalize minS ka z.f2 = m1 at hm1 HA2
    generalize maxS kb z.f3 = m2 at hm2 HB2
    go_wp2_with (first | go_step3 | go_in)
    refine start_ (n := 10) (S := fun w' => w'.cell? ⟨gb, 2, none⟩ = some (.string z.f2) ∧ w'.cell? ⟨gb, 3, none⟩ = some (.string z.f3)) (ds := []) #[false, false, false, false, false, false, false, false, false, false] (by kernel_rfl) rfl rfl ⟨hz2, hz3⟩ (fun hHeld => ?_)
    refine pure_ (i := 0) (N := some 30) (v := ?_) (a' := ?_) #[true, false, false, false, false, false, false, false, false, false] rfl rfl (by kernel_rfl) (fun _ _ _ h => h) (Or.inl ⟨by rfl, ?_⟩) ?_ ?_
    rotate_left
    · intro w'
      go_simp
      with_reducible rfl
    rotate_left
    · simp only [Act.put, List.setIfInBounds_toArray, List.set_cons_zero, List.set_cons_succ, i64_w, i32_w]
      rfl
    refine pure_ (i := 1) (N := some 31) (v := ?_) (a' := ?_) #[true, true, false, false, false, false, false, false, false, false] rfl rfl (by kernel_rfl) (fun _ _ _ h => h) (Or.inl ⟨by rfl, ?_⟩) ?_ ?_
    rotate_left
    · intro w'
      go_simp
      with_reducible rfl
    rotate_left
    · simp only [Act.put, List.setIfInBounds_toArray, List.set_cons_zero, List.set_cons_succ, i64_w, i32_w]
      rfl
    refine pure_ (i := 4) (N := some 34) (v := ?_) (a' := ?_) #[true, true, false, false, true, false, false, false, false, false] rfl rfl (by kernel_rfl) (fun _ _ _ h => h) (Or.inl ⟨by rfl, ?_⟩) ?_ ?_
    rotate_left
    · intro w'
      go_simp
      with_reducible rfl
    rotate_left
    · simp only [Act.put, List.setIfInBounds_toArray, List.set_cons_zero, List.set_cons_succ, i64_w, i32_w]
      rfl
    refine pure_ (i := 5) (N := some 35) (v := ?_) (a' := ?_) #[true, true, false, false, true, true, false, false, false, false] rfl rfl (by kernel_rfl) (fun _ _ _ h => h) (Or.inl ⟨by rfl, ?_⟩) ?_ ?_
    rotate_left
    · intro w'
      go_simp
      with_reducible rfl
    rotate_left
    · simp only [Act.put, List.setIfInBounds_toArray, List.set_cons_zero, List.set_cons_succ, i64_w, i32_w]
      rfl
    refine take_ (i := 2) (N := some 32) (v := ?_) (a' := ?_) #[true, true, true, false, true, true, false, false, false, false] rfl rfl (by kernel_rfl) (fun _ _ _ h => h) (Or.inl ⟨by rfl, ?_⟩) hHeld ?_ ?_
    rotate_left
    · rintro w' ⟨s0, s1⟩
      go_simp
      with_reducible rfl
    rotate_left
    · simp only [Act.put, List.setIfInBounds_toArray, List.set_cons_zero, List.set_cons_succ, i64_w, i32_w]
      rfl
    refine pure_ (i := 3) (N := some 33) (v := ?_) (a' := ?_) #[true, true, true, true, true, true, false, false, false, false] rfl rfl (by kernel_rfl) (fun _ _ _ h => h) (Or.inl ⟨by rfl, ?_⟩) ?_ ?_
    rotate_left
    · intro w'
      go_simp
      with_reducible rfl
    rotate_left
    · simp only [Act.put, List.setIfInBounds_toArray, List.set_cons_zero, List.set_cons_succ, i64_w, i32_w]
      rfl
    refine pure_ (i := 8) (N := some 5) (v := ?_) (a' := ?_) #[true, true, true, true, true, true, false, false, true, false] rfl rfl (by kernel_rfl) (fun _ _ _ h => h) (Or.inl ⟨by rfl, ?_⟩) ?_ ?_
    rotate_left
    · intro w'
      go_simp
      with_reducible rfl
    rotate_left
    · simp only [Act.put, List.setIfInBounds_toArray, List.set_cons_zero, List.set_cons_succ, i64_w, i32_w]
      rfl
    refine take_ (i := 6) (N := some 36) (v := ?_) (a' := ?_) #[true, true, true, true, true, true, true, false, true, false] rfl rfl (by kernel_rfl) (fun _ _ _ h => h) (Or.inl ⟨by rfl, ?_⟩) hHeld ?_ ?_
    rotate_left
    · rintro w' ⟨s0, s1⟩
      go_simp
      with_reducible rfl
    rotate_left
    · simp only [Act.put, List.setIfInBounds_toArray, List.set_cons_zero, List.set_cons_succ, i64_w, i32_w]
      rfl
    refine pure_ (i := 7) (N := some 37) (v := ?_) (a' := ?_) #[true, true, true, true, true, true, true, true, true, false] rfl rfl (by kernel_rfl) (fun _ _ _ h => h) (Or.inl ⟨by rfl, ?_⟩) ?_ ?_
    rotate_left
    · intro w'
      go_simp
      with_reducible rfl
    rotate_left
    · simp only [Act.put, List.setIfInBounds_toArray, List.set_cons_zero, List.set_cons_succ, i64_w, i32_w]
      rfl
    refine pure_ (i := 9) (N := some 6) (v := ?_) (a' := ?_) #[true, true, true, true, true, true, true, true, true, true] rfl rfl (by kernel_rfl) (fun _ _ _ h => h) (Or.inl ⟨by rfl, ?_⟩) ?_ ?_
    rotate_left
    · intro w'
      go_simp
      with_reducible rfl
    rotate_left
    · simp only [Act.put, List.setIfInBounds_toArray, List.set_cons_zero, List.set_cons_succ, i64_w, i32_w]
      rfl
    refine done_ (by kernel_rfl) ?_

    go_wp2_with (first | go_step3 | go_in)
    (try (rw [Exit.noGoto_normal]; go_wp2_with go_step3))
    go_roundg k1
    case measure => have := HQ.out; omega
    case rel => exact ⟨i + 1, m1, m2, by have h2_ := HLA.out; simp; unfold wrap64; omega, rfl, rfl, ⟨by have := HQ.out; omega⟩, ⟨HA2.out.symm⟩, ⟨HB2.out.symm⟩, ⟨below_drew1 HB.out⟩⟩
  have hd0 : decide (i < L0.length) = false := decide_eq_false hlt
  have hd1 : decide ((i : Int) < (L0.length : Int)) = false := decide_eq_false (by omega)
  have HA2 := Aside0.mk (show lo = ka by rw [HA.out, HLO.out, List.take_of_length_le (by omega)])
  have HB2 := Aside0.mk (show hi = kb by rw [HBk.out, HHI.out, List.take_of_length_le (by omega)])
  obtain ⟨ha2⟩ := HA2
  obtain ⟨hb2⟩ := HB2
  subst ha2
  subst hb2
  have HS2 := Aside0.mk (HS.out.below (below_step HW1.out HB.out))
  go_wp2_with (first | go_step3 | (go_at_call 18; go_loud (with_reducible refine (STierL _ g l lg sq nx 1 HS2.out HL.out).mono ?_; rintro e w4 ⟨v1, rfl, ho, hb⟩; have HV1 := Aside0.mk ho; have n0_ := Aside0.mk (below_step (below_step HW1.out HB.out) hb); have n1_ := Aside0.mk (Kd.R_below (Kd.R_below HV0.out HB.out) hb); clear ho hb; obtain ⟨A1, c1, e1, h5, h6⟩ := Kd.R_reads HV1.out; subst e1; clear h5 h6)))
  have HXA := Aside0.mk (show Kd.R k46 46 w4 0 (fun k => some k ≠ (Value.slice (some ad) L0.length c0).ownBlock) (.slice A1 (tierL l 1).length c1) (tierL l 1) from by
    refine Kd.R_lower (Kd.R_mono (Kd.R_bound HV1.out) (fun k hk e => ?_)) (Nat.zero_le _)
    obtain ⟨_, hown⟩ := Kd.R_own (Kd.R_below HV0.out HB.out)
    have h1 := own_lt hown k e.symm
    have h2 := hk.2.1
    omega)
  have HBA := n0_
  have HACC := n1_
  have HBL := HLA
  clear n0_ n1_ HV1 HB HW1 HV0 HR0 HS2
  generalize tierL l 1 = L1 at HXA HLB HP ⊢
  go_loopg [4, 42] L1.length (fun kq v4 v42 w' => ∃ (i : Nat), v42 = .int .i64 (i : Int) ∧ Aside0 (kq + i = L1.length) ∧ Aside0 (Kd.R k46 46 w' w.heap.size (fun _ => True) v4 (L0 ++ (L1.take i).filter (reB lo hi))) ∧ Aside0 (Below w.heap.size w w') ∧ Aside0 (Kd.R k46 46 w' 0 (fun k => some k ≠ v4.ownBlock) (.slice A1 L1.length c1) L1))
  case atStart => exact ⟨0, rfl, ⟨by omega⟩, ⟨by rw [List.take_zero, List.filter_nil, List.append_nil]; exact HACC.out⟩, HBA, HXA⟩
  clear HACC HBA HXA
  obtain ⟨i, rfl, HQ, HO, HB, HX⟩ := hrel
  by_cases hlt : i < L1.length
  · obtain ⟨k1, rfl⟩ : ∃ k1, gk = k1 + 1 := ⟨gk - 1, by have := HQ.out; omega⟩
    have hd0 : decide (i < L1.length) = true := decide_eq_true hlt
    have hd1 : decide ((i : Int) < (L1.length : Int)) = true := decide_eq_true (by omega)
    have p0 : 0 ≤ (i : Int) := by omega
    have q0 : (i : Int) < (L1.length : Int) := by omega
    obtain ⟨ad, e_, hx0, hx1, hx2, hx3, hx4⟩ := at_T46 (show Kd.C k46 wr A1 L1.length L1 from (Kd.R_reads' HX.out).2.2) (i : Int) p0 q0
    cases e_
    rw [Int.toNat_natCast, rdT L1 i hlt] at hx0 hx1 hx2 hx3 hx4
    have HT := Aside0.mk (take_filter (reB lo hi) L1 i hlt)
    have HLN := Aside0.mk (len_filter (reB lo hi) L1 i)
    obtain ⟨y, hy⟩ : ∃ y, y = L1[i] := ⟨_, rfl⟩
    rw [← hy] at hx0 hx1 hx2 hx3 hx4 HT
    clear hy
    go_upto_region 13 with go_step3
    have n0_ := Aside0.mk (Kd.R_below HO.out (below_alloc (Below.refl _ wr) (.cells #[.int .i64 y.f0, .int .i64 y.f1, .string y.f2, .string y.f3, .int .i64 y.f4] 46)))
    have n1_ := bs_ HB (below_alloc (Below.refl _ wr) (.cells #[.int .i64 y.f0, .int .i64 y.f1, .string y.f2, .string y.f3, .int .i64 y.f4] 46))
    have BX := Aside0.mk (blk_new wr (.cells #[.int .i64 y.f0, .int .i64 y.f1, .string y.f2, .string y.f3, .int .i64 y.f4] 46))
    have n2_ := Aside0.mk (Kd.R_below HX.out (below_alloc (Below.refl _ wr) (.cells #[.int .i64 y.f0, .int .i64 y.f1, .string y.f2, .string y.f3, .int .i64 y.f4] 46)))
    clear HO HB HX hx0 hx1 hx2 hx3 hx4
    have HO := n0_
    have HB := n1_
    have HX := n2_
    clear n0_ n1_ n2_
    generalize wr.alloc (.cells #[.int .i64 y.f0, .int .i64 y.f1, .string y.f2, .string y.f3, .int .i64 y.f4] 46) = w2 at HO HB BX HX ⊢
    generalize wr.heap.size = gb at BX ⊢
    have hz0 := bc0 BX
    have hz1 := bc1 BX
    have hz2 := bc2 BX
    have hz3 := bc3 BX
    have hz4 := bc4 BX
    cases h1 : Op.bytesLess y.f3.toList lo.toList with
    | true =>
      have hp : reB lo hi y = false := by unfold reB; rw [← toL, ← toL, h1]; rfl
      rw [hp, if_neg (by decide), List.append_nil] at HT
      clear hp
      go_wp2_with (first | go_step3 | go_in)
      (try (rw [Exit.noGoto_normal]; go_wp2_with go_step3))
      go_roundg k1
      case measure => have := HQ.out; omega
      case rel => exact ⟨i + 1, by have h2_ := HLB.out; simp; unfold wrap64; omega, ⟨by have := HQ.out; omega⟩, ⟨by rw [HT.out]; exact HO.out⟩, HB, HX⟩
    | false =>
      cases h2 : Op.bytesLess hi.toList y.f2.toList with
      | true =>
        have hp : reB lo hi y = false := by unfold reB; rw [← toL, ← toL, ← toL, ← toL, h1, h2]; rfl
        rw [hp, if_neg (by decide), List.append_nil] at HT
        clear hp
        go_wp2_with (first | go_step3 | go_in)
        (try (rw [Exit.noGoto_normal]; go_wp2_with go_step3))
        go_roundg k1
        case measure => have := HQ.out; omega
        case rel => exact ⟨i + 1, by have h2_ := HLB.out; simp; unfold wrap64; omega, ⟨by have := HQ.out; omega⟩, ⟨by rw [HT.out]; exact HO.out⟩, HB, HX⟩
      | false =>
        have hp : reB lo hi y = true := by unfold reB; rw [← toL, ← toL, ← toL, ← toL, h1, h2]; rfl
        rw [hp, if_pos rfl] at HT
        clear hp
        go_wp2_with (first | go_step3 | ((with_reducible refine gate_builtin (b := .append) (xs := #[.tmp 56, .tmp 58]) rfl ?_); (try (refine gate_guard (by rfl) ?_; dsimp only)); at_builtin; go_loud (refine Kd.R_append k46 (w0 := w) w.heap.size rfl (.tmp 56) (.tmp 58) 32 46 (.agg #[(.int .i64 0), (.int .i64 0), (.string ⟨#[]⟩), (.string ⟨#[]⟩), (.int .i64 0)]) 56 rfl Try.underlying32 info46 rfl (by decide) (by omega) u4 (L0 ++ (L1.take i).filter (reB lo hi)) y [.int .i64 y.f0, .int .i64 y.f1, .string y.f2, .string y.f3, .int .i64 y.f4] (fun _ => True) (fun _ => False) rfl rfl (k46_mkM _ _ _ y) (fun _ h => h.elim) (fun _ _ => trivial) HO.out HB.out HB.out.size (by have := HLN.out; have := HLB.out; have := HBL.out; rw [List.length_append]; omega) ?_; intro v1 w4 ho hb hg hat; rw [List.append_assoc] at ho; rw [← HT.out] at ho; have HO2 := Aside0.mk ho; have HB2 := Aside0.mk hb; have HX2 := Aside0.mk (grow_other HX.out hg hat); clear ho hb hg hat HX HO HB BX hz0 hz1 hz2 hz3 hz4)))
        (try (rw [Exit.noGoto_normal]; go_wp2_with go_step3))
        go_roundg k1
        case measure => have := HQ.out; omega
        case rel => exact ⟨i + 1, by have h2_ := HLB.out; simp; unfold wrap64; omega, ⟨by have := HQ.out; omega⟩, HO2, HB2, HX2⟩
  have hd0 : decide (i < L1.length) = false := decide_eq_false hlt
  have hd1 : decide ((i : Int) < (L1.length : Int)) = false := decide_eq_false (by omega)
  have HTK := Aside0.mk (List.take_of_length_le (show L1.length ≤ i by omega))
  go_wp2_with (first | go_step3 | go_in)
  (try rw [Exit.noGoto_ret])
  ((try rw [Exit.noGoto_ret]); go_ret2)
  exact ⟨_, by rw [HP.out.2]; rfl, by have h_ := HO.out; rw [HTK.out] at h_; rw [HP.out.1]; exact h_, HB.out⟩
end Go.Proofs.Ytfpnllajpnnfdaa.Q
