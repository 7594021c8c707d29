import Derived.Test.YtfpnllajpnnfdaaQTabR
import Derived.Test.YtfpnllajpnnfdaaQTabG
import Derived.Test.YtfpnllajpnnfdaaM4
namespace Go.Proofs.Ytfpnllajpnnfdaa.Q
open Go.RowKit Go.Lib Go.Proofs Go.Proofs.Ytfpnllajpnnfdaa.P Go.Proofs.YtfpnllajpnnfdaaW.PrintWords Go.Proofs.YtfpnllajpnnfdaaW.PrintLast Go.Proofs.YtfpnllajpnnfdaaW.PrintMore
set_option linter.unusedVariables false
set_option linter.unusedSimpArgs false
attribute [local go_sem high] string_leq string_geq string_gtr
/-! The document's sheet at block g -/
structure Rh (w : World) (g : Nat) (l : List S46) (lg sq nx : Int) : Prop where
  out : ∃ u, w.heap[g]? = some (.cells #[u, .int .i64 lg, .int .i64 sq, .int .i64 nx] 53 (0, 0)) ∧ Kd.R k46 46 w 0 (fun k => k ≠ g) u l
theorem Rh.reads {w : World} {g : Nat} {l : List S46} {lg sq nx : Int} (h : Rh w g l lg sq nx) : ∃ A c, w.heap[g]? = some (.cells #[.slice A l.length c, .int .i64 lg, .int .i64 sq, .int .i64 nx] 53 (0, 0)) ∧ l.length ≤ c ∧ Kd.C k46 w A l.length l := by
  obtain ⟨u, h1, h2⟩ := h.out
  obtain ⟨A, c, rfl, h4, h5⟩ := Kd.R_reads h2
  exact ⟨A, c, h1, h4, h5⟩
theorem Rh.lt {w : World} {g : Nat} {l : List S46} {lg sq nx : Int} (h : Rh w g l lg sq nx) : g < w.heap.size := by
  obtain ⟨u, h1, _⟩ := h.out
  exact blk_lt h1
theorem Rh.below {w w' : World} {g : Nat} {l : List S46} {lg sq nx : Int} (h : Rh w g l lg sq nx) (hb : Below w.heap.size w w') : Rh w' g l lg sq nx := by
  obtain ⟨u, h1, h2⟩ := h.out
  exact ⟨u, blk_below h1 hb, Kd.R_below h2 hb⟩
/-- A sheet's box is turned: the document's one stays. -/
theorem Rh.fr {w w' : World} {g g2 : Nat} {l m : List S46} {lg sq nx lg2 sq2 nx2 : Int} (h : Rh w g l lg sq nx) (h2 : Sh w g2 m lg2 sq2 nx2) (hf : Fr w w' (fun k => k = g2)) : Rh w' g l lg sq nx := by
  obtain ⟨u, h1, hr⟩ := h.out
  obtain ⟨u2, h3, _⟩ := h2.out
  have hne : g ≠ g2 := blk_ne h1 h3 (by decide)
  refine ⟨u, (hf.block g (blk_lt h1) hne).trans h1, Kd.R_mono (Kd.R_step (Kd.R_types hr h3 (by simp [k46, Kd.iso, Kd.pair, Kd.int, Kd.string, Kd.scalar])) (fun k hk hlt => hf.block k hlt hk.2)) (fun k hk => hk.1)⟩
theorem Sh.frR {w w' : World} {g g2 : Nat} {l m : List S46} {lg sq nx lg2 sq2 nx2 : Int} (h : Sh w g l lg sq nx) (h2 : Rh w g2 m lg2 sq2 nx2) (hf : Fr w w' (fun k => k = g2)) : Sh w' g l lg sq nx := by
  obtain ⟨u, h1, hr⟩ := h.out
  obtain ⟨u2, h3, _⟩ := h2.out
  have hne : g ≠ g2 := blk_ne h1 h3 (by decide)
  refine ⟨u, (hf.block g (blk_lt h1) hne).trans h1, Kd.R_mono (Kd.R_step (Kd.R_types hr h3 (by simp [k46, Kd.iso, Kd.pair, Kd.int, Kd.string, Kd.scalar])) (fun k hk hlt => hf.block k hlt hk.2)) (fun k hk => hk.1)⟩
set_option maxHeartbeats 4000000 in
set_option maxRecDepth 100000 in
theorem RNew (w : World) : Calls Try.prog 9 #[] w fun e w' => ∃ g : Nat, e = .returned (.pointer (some ⟨g, 0, none⟩)) ∧ Rh w' g [] 1 0 1 ∧ w.heap.size ≤ g ∧ Below w.heap.size w w' := by
  go_enter Try.func9, Try.ntmps9
  go_wp2
  go_ret
  exact ⟨w.heap.size, rfl, ⟨.slice none 0 0, blk_new w _, Kd.R_nil _ _ _ _ _⟩, Nat.le_refl _, below_alloc (Below.refl _ _) _⟩
set_option maxHeartbeats 4000000 in
set_option maxRecDepth 100000 in
theorem RTier (w : World) (g : Nat) (l : List S46) (lg sq nx tier : Int) (h : Rh w g l lg sq nx) (hl : l.length ≤ 1000000) : Calls Try.prog 33 #[.pointer (some ⟨g, 0, none⟩), .int .i64 tier] w fun e w' => ∃ v : Value, e = .returned v ∧ Kd.R k46 46 w' w.heap.size (fun _ => True) v (tierL l tier) ∧ Below w.heap.size w w' := by
  obtain ⟨A, c, h1, h2, h3⟩ := h.reads
  have B := Aside0.mk h1
  have HR := Aside0.mk h3
  have HC := Aside0.mk h2
  have HL := Aside0.mk hl
  have HB := Aside0.mk (Below.refl w.heap.size w)
  clear h1 h3 h2 hl h
  go_enter Try.func33, Try.ntmps33
  go_wp2
  go_loopg [5, 6] l.length (fun kq v5 v6 w' => ∃ (i : Nat), v6 = .int .i64 (i : Int) ∧ Aside0 (kq + i = l.length) ∧ Aside0 (Kd.R k46 46 w' w.heap.size (fun _ => True) v5 ((l.take i).filter (fun z => z.f1 == tier))) ∧ Aside0 (Below w.heap.size w w'))
  case atStart => exact ⟨0, rfl, ⟨by omega⟩, ⟨Kd.R_nil _ _ _ _ _⟩, HB⟩
  clear HB
  obtain ⟨i, rfl, HQ, HO, HB⟩ := hrel
  have hc0 := bc0 (bb_ B HB.out)
  by_cases hlt : i < l.length
  · obtain ⟨k1, rfl⟩ : ∃ k1, gk = k1 + 1 := ⟨gk - 1, by have := HQ.out; omega⟩
    have hd0 : decide (i < l.length) = true := decide_eq_true hlt
    have hd1 : decide ((i : Int) < (l.length : Int)) = true := decide_eq_true (by omega)
    have p0 : 0 ≤ (i : Int) := by omega
    have q0 : (i : Int) < (l.length : Int) := by omega
    obtain ⟨ad, e_, hx0, hx1, hx2, hx3, hx4⟩ := at_T46 (Kd.C_below HR.out HB.out) (i : Int) p0 q0
    cases e_
    rw [Int.toNat_natCast, rdT l i hlt] at hx0 hx1 hx2 hx3 hx4
    have HT := Aside0.mk (take_filter (fun z => z.f1 == tier) l i hlt)
    have HLN := Aside0.mk (len_filter (fun z => z.f1 == tier) l i)
    obtain ⟨y, hy⟩ : ∃ y, y = l[i] := ⟨_, rfl⟩
    rw [← hy] at hx0 hx1 hx2 hx3 hx4 HT
    clear hy
    cases hb : (y.f1 == tier) with
    | false =>
      rw [hb, if_neg (by decide), List.append_nil] at HT
      go_wp2
      go_roundg k1
      case measure => have := HQ.out; omega
      case rel => exact ⟨i + 1, by have h2_ := HL.out; simp; unfold wrap64; omega, ⟨by have := HQ.out; omega⟩, ⟨by rw [HT.out]; exact HO.out⟩, HB⟩
    | true =>
      rw [hb, if_pos rfl] at HT
      go_wp2_with (first | ((with_reducible refine gate_builtin (b := .append) (xs := #[.tmp 26, .tmp 34]) rfl ?_); at_builtin; go_loud (refine Kd.R_append k46 (w0 := w) w.heap.size rfl (.tmp 26) (.tmp 34) 32 46 (.agg #[(.int .i64 0), (.int .i64 0), (.string ⟨#[]⟩), (.string ⟨#[]⟩), (.int .i64 0)]) 56 rfl Try.underlying32 info46 rfl (by decide) (by omega) u5 ((l.take i).filter (fun z => z.f1 == tier)) y [.int .i64 y.f0, .int .i64 y.f1, .string y.f2, .string y.f3, .int .i64 y.f4] (fun _ => True) (fun _ => False) rfl rfl (k46_mkM _ _ _ y) (fun _ h => h.elim) (fun _ _ => trivial) HO.out HB.out HB.out.size (by have := HLN.out; have := HL.out; omega) ?_; intro v1 w4 ho hb hg hat; rw [← HT.out] at ho; have HO2 := Aside0.mk ho; have HB2 := Aside0.mk hb; clear ho hb hg hat HO HB hx0 hx1 hx2 hx3 hx4 hc0)))
      go_roundg k1
      case measure => have := HQ.out; omega
      case rel => exact ⟨i + 1, by have h2_ := HL.out; simp; unfold wrap64; omega, ⟨by have := HQ.out; omega⟩, HO2, HB2⟩
  have hd0 : decide (i < l.length) = false := decide_eq_false hlt
  have hd1 : decide ((i : Int) < (l.length : Int)) = false := decide_eq_false (by omega)
  have HE := Aside0.mk (List.take_of_length_le (show l.length ≤ i by omega))
  go_wp2
  go_ret
  exact ⟨_, rfl, by have h_ := HO.out; rwa [HE.out] at h_, HB.out⟩
set_option maxHeartbeats 8000000 in
set_option maxRecDepth 100000 in
theorem ROne (w : World) (g : Nat) (l : List S46) (lg sq nx : Int) (from_ to_ : ByteArray) (h : Rh w g l lg sq nx) (hl : l.length ≤ 1000000) : Calls Try.prog 16 #[.pointer (some ⟨g, 0, none⟩), .string from_, .string to_, .bool true] w fun e w' => ∃ v : Value, e = .returned v ∧ Kd.R k46 46 w' w.heap.size (fun _ => True) v (l.filter (cvB from_)) ∧ Below w.heap.size w w' := by
  obtain ⟨A, c, h1, h2, h3⟩ := h.reads
  have B := Aside0.mk h1
  have HR := Aside0.mk h3
  have HC := Aside0.mk h2
  have HL := Aside0.mk hl
  have HB := Aside0.mk (Below.refl w.heap.size w)
  clear h1 h3 h2 hl h
  go_enter Try.func16, Try.ntmps16
  go_wp2
  go_loopg [9, 10] l.length (fun kq v9 v10 w' => ∃ (i : Nat), v10 = .int .i64 (i : Int) ∧ Aside0 (kq + i = l.length) ∧ Aside0 (Kd.R k46 46 w' w.heap.size (fun _ => True) v9 ((l.take i).filter (cvB from_))) ∧ Aside0 (Below w.heap.size w w'))
  case atStart => exact ⟨0, rfl, ⟨by omega⟩, ⟨Kd.R_nil _ _ _ _ _⟩, HB⟩
  clear HB
  obtain ⟨i, rfl, HQ, HO, HB⟩ := hrel
  have hc0 := bc0 (bb_ B HB.out)
  by_cases hlt : i < l.length
  · obtain ⟨k1, rfl⟩ : ∃ k1, gk = k1 + 1 := ⟨gk - 1, by have := HQ.out; omega⟩
    have hd0 : decide (i < l.length) = true := decide_eq_true hlt
    have hd1 : decide ((i : Int) < (l.length : Int)) = true := decide_eq_true (by omega)
    have p0 : 0 ≤ (i : Int) := by omega
    have q0 : (i : Int) < (l.length : Int) := by omega
    obtain ⟨ad, e_, hx0, hx1, hx2, hx3, hx4⟩ := at_T46 (Kd.C_below HR.out HB.out) (i : Int) p0 q0
    cases e_
    rw [Int.toNat_natCast, rdT l i hlt] at hx0 hx1 hx2 hx3 hx4
    have HT := Aside0.mk (take_filter (cvB from_) l i hlt)
    have HLN := Aside0.mk (len_filter (cvB from_) l i)
    obtain ⟨y, hy⟩ : ∃ y, y = l[i] := ⟨_, rfl⟩
    rw [← hy] at hx0 hx1 hx2 hx3 hx4 HT
    clear hy
    go_upto_region 6 with go_step3
    have n0_ := Aside0.mk (Kd.R_below HO.out (below_alloc (Below.refl _ wr) (.cells #[.int .i64 y.f0, .int .i64 y.f1, .string y.f2, .string y.f3, .int .i64 y.f4] 46)))
    have n1_ := bs_ HB (below_alloc (Below.refl _ wr) (.cells #[.int .i64 y.f0, .int .i64 y.f1, .string y.f2, .string y.f3, .int .i64 y.f4] 46))
    have BX := Aside0.mk (blk_new wr (.cells #[.int .i64 y.f0, .int .i64 y.f1, .string y.f2, .string y.f3, .int .i64 y.f4] 46))
    clear HO HB hx0 hx1 hx2 hx3 hx4 hc0
    have HO := n0_
    have HB := n1_
    clear n0_ n1_
    generalize wr.alloc (.cells #[.int .i64 y.f0, .int .i64 y.f1, .string y.f2, .string y.f3, .int .i64 y.f4] 46) = w2 at HO HB BX ⊢
    generalize wr.heap.size = gb at BX ⊢
    have hc0 := bc0 (bb_ B HB.out)
    have hz0 := bc0 BX
    have hz1 := bc1 BX
    have hz2 := bc2 BX
    have hz3 := bc3 BX
    have hz4 := bc4 BX
    cases h1 : Op.bytesLess from_.toList y.f2.toList with
    | true =>
      have hp : cvB from_ y = false := by unfold cvB; rw [← toL, ← toL, h1]; rfl
      rw [hp, if_neg (by decide), List.append_nil] at HT
      clear hp
      go_wp2
      go_roundg k1
      case measure => have := HQ.out; omega
      case rel => exact ⟨i + 1, by have h2_ := HL.out; simp; unfold wrap64; omega, ⟨by have := HQ.out; omega⟩, ⟨by rw [HT.out]; exact HO.out⟩, HB⟩
    | false =>
      cases h2 : Op.bytesLess y.f3.toList from_.toList with
      | true =>
        have hp : cvB from_ y = false := by unfold cvB; rw [← toL, ← toL, ← toL, h1, h2]; rfl
        rw [hp, if_neg (by decide), List.append_nil] at HT
        clear hp
        go_wp2
        go_roundg k1
        case measure => have := HQ.out; omega
        case rel => exact ⟨i + 1, by have h2_ := HL.out; simp; unfold wrap64; omega, ⟨by have := HQ.out; omega⟩, ⟨by rw [HT.out]; exact HO.out⟩, HB⟩
      | false =>
        have hp : cvB from_ y = true := by unfold cvB; rw [← toL, ← toL, ← toL, h1, h2]; rfl
        rw [hp, if_pos rfl] at HT
        clear hp
        go_wp2_with (first | ((with_reducible refine gate_builtin (b := .append) (xs := #[.tmp 61, .tmp 63]) rfl ?_); (try (refine gate_guard (by rfl) ?_; dsimp only)); at_builtin; go_loud (refine Kd.R_append k46 (w0 := w) w.heap.size rfl (.tmp 61) (.tmp 63) 32 46 (.agg #[(.int .i64 0), (.int .i64 0), (.string ⟨#[]⟩), (.string ⟨#[]⟩), (.int .i64 0)]) 56 rfl Try.underlying32 info46 rfl (by decide) (by omega) u9 ((l.take i).filter (cvB from_)) y [.int .i64 y.f0, .int .i64 y.f1, .string y.f2, .string y.f3, .int .i64 y.f4] (fun _ => True) (fun _ => False) rfl rfl (k46_mkM _ _ _ y) (fun _ h => h.elim) (fun _ _ => trivial) HO.out HB.out HB.out.size (by have := HLN.out; have := HL.out; omega) ?_; intro v1 w4 ho hb hg hat; rw [← HT.out] at ho; have HO2 := Aside0.mk ho; have HB2 := Aside0.mk hb; clear ho hb hg hat HO HB BX hz0 hz1 hz2 hz3 hz4 hc0)))
        go_roundg k1
        case measure => have := HQ.out; omega
        case rel => exact ⟨i + 1, by have h2_ := HL.out; simp; unfold wrap64; omega, ⟨by have := HQ.out; omega⟩, HO2, HB2⟩
  have hd0 : decide (i < l.length) = false := decide_eq_false hlt
  have hd1 : decide ((i : Int) < (l.length : Int)) = false := decide_eq_false (by omega)
  have HE := Aside0.mk (List.take_of_length_le (show l.length ≤ i by omega))
  go_wp2
  go_ret
  exact ⟨_, rfl, by have h_ := HO.out; rwa [HE.out] at h_, HB.out⟩
set_option maxHeartbeats 8000000 in
set_option maxRecDepth 100000 in
theorem RBetween (w : World) (g : Nat) (l : List S46) (lg sq nx : Int) (from_ to_ : ByteArray) (h : Rh w g l lg sq nx) (hl : l.length ≤ 1000000) : Calls Try.prog 16 #[.pointer (some ⟨g, 0, none⟩), .string from_, .string to_, .bool false] w fun e w' => ∃ v : Value, e = .returned v ∧ Kd.R k46 46 w' w.heap.size (fun _ => True) v (l.filter (bwB from_ to_)) ∧ Below w.heap.size w w' := by
  obtain ⟨A, c, h1, h2, h3⟩ := h.reads
  have B := Aside0.mk h1
  have HR := Aside0.mk h3
  have HC := Aside0.mk h2
  have HL := Aside0.mk hl
  have HB := Aside0.mk (Below.refl w.heap.size w)
  clear h1 h3 h2 hl h
  go_enter Try.func16, Try.ntmps16
  go_wp2
  go_loopg [9, 10] l.length (fun kq v9 v10 w' => ∃ (i : Nat), v10 = .int .i64 (i : Int) ∧ Aside0 (kq + i = l.length) ∧ Aside0 (Kd.R k46 46 w' w.heap.size (fun _ => True) v9 ((l.take i).filter (bwB from_ to_))) ∧ Aside0 (Below w.heap.size w w'))
  case atStart => exact ⟨0, rfl, ⟨by omega⟩, ⟨Kd.R_nil _ _ _ _ _⟩, HB⟩
  clear HB
  obtain ⟨i, rfl, HQ, HO, HB⟩ := hrel
  have hc0 := bc0 (bb_ B HB.out)
  by_cases hlt : i < l.length
  · obtain ⟨k1, rfl⟩ : ∃ k1, gk = k1 + 1 := ⟨gk - 1, by have := HQ.out; omega⟩
    have hd0 : decide (i < l.length) = true := decide_eq_true hlt
    have hd1 : decide ((i : Int) < (l.length : Int)) = true := decide_eq_true (by omega)
    have p0 : 0 ≤ (i : Int) := by omega
    have q0 : (i : Int) < (l.length : Int) := by omega
    obtain ⟨ad, e_, hx0, hx1, hx2, hx3, hx4⟩ := at_T46 (Kd.C_below HR.out HB.out) (i : Int) p0 q0
    cases e_
    rw [Int.toNat_natCast, rdT l i hlt] at hx0 hx1 hx2 hx3 hx4
    have HT := Aside0.mk (take_filter (bwB from_ to_) l i hlt)
    have HLN := Aside0.mk (len_filter (bwB from_ to_) l i)
    obtain ⟨y, hy⟩ : ∃ y, y = l[i] := ⟨_, rfl⟩
    rw [← hy] at hx0 hx1 hx2 hx3 hx4 HT
    clear hy
    go_upto_region 6 with go_step3
    have n0_ := Aside0.mk (Kd.R_below HO.out (below_alloc (Below.refl _ wr) (.cells #[.int .i64 y.f0, .int .i64 y.f1, .string y.f2, .string y.f3, .int .i64 y.f4] 46)))
    have n1_ := bs_ HB (below_alloc (Below.refl _ wr) (.cells #[.int .i64 y.f0, .int .i64 y.f1, .string y.f2, .string y.f3, .int .i64 y.f4] 46))
    have BX := Aside0.mk (blk_new wr (.cells #[.int .i64 y.f0, .int .i64 y.f1, .string y.f2, .string y.f3, .int .i64 y.f4] 46))
    clear HO HB hx0 hx1 hx2 hx3 hx4 hc0
    have HO := n0_
    have HB := n1_
    clear n0_ n1_
    generalize wr.alloc (.cells #[.int .i64 y.f0, .int .i64 y.f1, .string y.f2, .string y.f3, .int .i64 y.f4] 46) = w2 at HO HB BX ⊢
    generalize wr.heap.size = gb at BX ⊢
    have hc0 := bc0 (bb_ B HB.out)
    have hz0 := bc0 BX
    have hz1 := bc1 BX
    have hz2 := bc2 BX
    have hz3 := bc3 BX
    have hz4 := bc4 BX
    cases h1 : Op.bytesLess y.f3.toList from_.toList with
    | true =>
      have hp : bwB from_ to_ y = false := by unfold bwB; rw [← toL, ← toL, h1]; rfl
      rw [hp, if_neg (by decide), List.append_nil] at HT
      clear hp
      go_wp2
      go_roundg k1
      case measure => have := HQ.out; omega
      case rel => exact ⟨i + 1, by have h2_ := HL.out; simp; unfold wrap64; omega, ⟨by have := HQ.out; omega⟩, ⟨by rw [HT.out]; exact HO.out⟩, HB⟩
    | false =>
      by_cases h3 : to_.toList = ([] : List UInt8)
      · have h3b : (to_.toList == ([] : List UInt8)) = true := beq_iff_eq.mpr h3
        have h3c : (to_.toList != ([] : List UInt8)) = false := bne_eq_false_iff_eq.mpr h3
        have hp : bwB from_ to_ y = true := by unfold bwB; rw [← toL, ← toL, ← toL, ← toL, h1, decide_eq_true h3]; rfl
        clear h3
        rw [hp, if_pos rfl] at HT
        clear hp
        go_wp2_with (first | ((with_reducible refine gate_builtin (b := .append) (xs := #[.tmp 61, .tmp 63]) rfl ?_); (try (refine gate_guard (by rfl) ?_; dsimp only)); at_builtin; go_loud (refine Kd.R_append k46 (w0 := w) w.heap.size rfl (.tmp 61) (.tmp 63) 32 46 (.agg #[(.int .i64 0), (.int .i64 0), (.string ⟨#[]⟩), (.string ⟨#[]⟩), (.int .i64 0)]) 56 rfl Try.underlying32 info46 rfl (by decide) (by omega) u9 ((l.take i).filter (bwB from_ to_)) y [.int .i64 y.f0, .int .i64 y.f1, .string y.f2, .string y.f3, .int .i64 y.f4] (fun _ => True) (fun _ => False) rfl rfl (k46_mkM _ _ _ y) (fun _ h => h.elim) (fun _ _ => trivial) HO.out HB.out HB.out.size (by have := HLN.out; have := HL.out; omega) ?_; intro v1 w4 ho hb hg hat; rw [← HT.out] at ho; have HO2 := Aside0.mk ho; have HB2 := Aside0.mk hb; clear ho hb hg hat HO HB BX hz0 hz1 hz2 hz3 hz4 hc0)))
        go_roundg k1
        case measure => have := HQ.out; omega
        case rel => exact ⟨i + 1, by have h2_ := HL.out; simp; unfold wrap64; omega, ⟨by have := HQ.out; omega⟩, HO2, HB2⟩
      have h3b : (to_.toList == ([] : List UInt8)) = false := beq_eq_false_iff_ne.mpr h3
      have h3c : (to_.toList != ([] : List UInt8)) = true := bne_iff_ne.mpr h3
      cases h2 : Op.bytesLess y.f2.toList to_.toList with
      | true =>
        have hp : bwB from_ to_ y = true := by unfold bwB; rw [← toL, ← toL, ← toL, ← toL, h1, h2]; simp
        clear h3
        rw [hp, if_pos rfl] at HT
        clear hp
        go_wp2_with (first | ((with_reducible refine gate_builtin (b := .append) (xs := #[.tmp 61, .tmp 63]) rfl ?_); (try (refine gate_guard (by rfl) ?_; dsimp only)); at_builtin; go_loud (refine Kd.R_append k46 (w0 := w) w.heap.size rfl (.tmp 61) (.tmp 63) 32 46 (.agg #[(.int .i64 0), (.int .i64 0), (.string ⟨#[]⟩), (.string ⟨#[]⟩), (.int .i64 0)]) 56 rfl Try.underlying32 info46 rfl (by decide) (by omega) u9 ((l.take i).filter (bwB from_ to_)) y [.int .i64 y.f0, .int .i64 y.f1, .string y.f2, .string y.f3, .int .i64 y.f4] (fun _ => True) (fun _ => False) rfl rfl (k46_mkM _ _ _ y) (fun _ h => h.elim) (fun _ _ => trivial) HO.out HB.out HB.out.size (by have := HLN.out; have := HL.out; omega) ?_; intro v1 w4 ho hb hg hat; rw [← HT.out] at ho; have HO2 := Aside0.mk ho; have HB2 := Aside0.mk hb; clear ho hb hg hat HO HB BX hz0 hz1 hz2 hz3 hz4 hc0)))
        go_roundg k1
        case measure => have := HQ.out; omega
        case rel => exact ⟨i + 1, by have h2_ := HL.out; simp; unfold wrap64; omega, ⟨by have := HQ.out; omega⟩, HO2, HB2⟩
      | false =>
        have hp : bwB from_ to_ y = false := by unfold bwB; rw [← toL, ← toL, ← toL, ← toL, h1, h2, decide_eq_false h3]; rfl
        clear h3
        rw [hp, if_neg (by decide), List.append_nil] at HT
        clear hp
        go_wp2
        go_roundg k1
        case measure => have := HQ.out; omega
        case rel => exact ⟨i + 1, by have h2_ := HL.out; simp; unfold wrap64; omega, ⟨by have := HQ.out; omega⟩, ⟨by rw [HT.out]; exact HO.out⟩, HB⟩
  have hd0 : decide (i < l.length) = false := decide_eq_false hlt
  have hd1 : decide ((i : Int) < (l.length : Int)) = false := decide_eq_false (by omega)
  have HE := Aside0.mk (List.take_of_length_le (show l.length ≤ i by omega))
  go_wp2
  go_ret
  exact ⟨_, rfl, by have h_ := HO.out; rwa [HE.out] at h_, HB.out⟩
end Go.Proofs.Ytfpnllajpnnfdaa.Q
