import Derived.Test.YtmbedgopceigaaaQTabB
import Derived.Lib.LazyBuf
namespace Go.Proofs.Ytmbedgopceigaaa.Q
open Go.RowKit Go.Lib Go.Proofs.Ytmbedgopceigaaa.P Go.Proofs.YtmbedgopceigaaaW.PrintWords Go.Proofs.YtmbedgopceigaaaW.PrintLast Go.Proofs.YtmbedgopceigaaaW.PrintMore
set_option linter.unusedVariables false
set_option linter.unusedSimpArgs false
attribute [local go_sem high] string_leq string_geq string_gtr
/-! slices.Clone, slices.DeleteFunc at tables -/
set_option maxHeartbeats 4000000 in
set_option maxRecDepth 100000 in
theorem CloneT (w : World) (A0 : Option Addr) (c0 : Nat) (l0 : List S32) (hr0 : Kd.C k32 w A0 l0.length l0) (hc0 : l0.length ≤ c0) (hl : l0.length ≤ 1000000) :
    Calls Try.prog 25 #[.slice A0 l0.length c0] w fun e w' => ∃ v0_ : Value, e = .returned v0_ ∧ Kd.R k32 32 w' w.heap.size (fun _ => True) v0_ l0 ∧ Below w.heap.size w w' := by
  have HL := Aside0.mk hl
  have HR := Aside0.mk hr0
  have HB := Aside0.mk (Below.refl w.heap.size w)
  cases A0 with
  | none =>
    have h0 : l0 = [] := by
      cases l0 with
      | nil => rfl
      | cons x t =>
        obtain ⟨ad, he, _⟩ := hr0.2.2 (by simp)
        cases he
    subst h0
    clear hl hr0 hc0 HL HR
    have ke := fun W : World => run_eql_slice_nil (P := Try.prog) W 33 32 none 0 c0 Try.underlying33
    go_enter Try.func25, Try.ntmps25
    go_wp2
    go_ret
    exact ⟨_, rfl, Kd.R_nil _ _ _ _ _, HB.out⟩
  | some ad =>
    clear hl hr0
    have ke := fun W : World => run_eql_slice_nil (P := Try.prog) W 33 32 (some ad) l0.length c0 Try.underlying33
    go_enter Try.func25, Try.ntmps25
    go_wp2_with (first
      | ((with_reducible refine gate_dst (N := 5) rfl ?_); refine Kd.R_lit k32 _ 32 ?hg (N := 5) ?hd (xs := ([] : List S32)) (inner := []) (ok := fun _ => True) (okp := fun _ => True) ?hr ?hp (fun _ hk => hk) trivial (Below.refl _ _) (Nat.le_refl _) (by simp) ?_; (case hd => rfl); (case hg => rfl); (case hr => first | (go_simp; done) | (go_simp; rfl)); (case hp => exact Reps.none _ _); intro v1 w1 ho hb hg_ hnew_; clear hg_ hnew_; have n0_ := Aside0.mk (Kd.R_lower ho (below_size HB.out)); have n1_ := Aside0.mk (Kd.C_below HR.out hb); have n2_ := Aside0.mk (below_step HB.out hb); clear HB HR hb ho; have HO := n0_; have HR := n1_; have HB := n2_; clear n0_ n1_ n2_)
      | ((with_reducible refine gate_builtin (b := .append) (xs := #[.tmp 5, .tmp 6]) rfl ?_); at_builtin; refine Kd.R_append_rows k32 (w0 := w) w.heap.size rfl (.tmp 5) (.tmp 6) 33 32 (.agg #[(.int .i64 0), (.int .i64 0), (.string ⟨#[]⟩), (.string ⟨#[]⟩), (.int .i64 0)]) 56 rfl Try.underlying33 info32 rfl (by decide) (by omega) v1 ([] : List S32) l0 _ _ _ (fun _ => True) (fun _ => False) rfl rfl ?aO ?aR (fun _ _ h => h) (fun _ h => h.elim) ?aF ?aB ?aS ?aL ?_; (case aR => exact HR.out); (case aB => exact HB.out); (case aF => exact (fun _ _ => trivial)); (case aO => exact HO.out); (case aS => exact (below_size HB.out)); (case aL => have := HL.out; simp only [List.length_nil]; omega); intro v2 w2 ho hb hg hat; rw [List.nil_append] at ho; have HO2 := Aside0.mk ho; have HB2 := Aside0.mk hb; clear ho hb hg hat HO HR HB))
    go_ret
    exact ⟨_, rfl, HO2.out, HB2.out⟩
/-- clear over n elements of a row of one's own, from i on. -/
theorem run_clear_T (w : World) (g i m c : Nat) (cur : Array Value) (hh : w.heap[g]? = some (.cells cur 32 (0, 0))) (hm : 0 < m) (hfit : i * 5 + m * 5 ≤ cur.size) :
    ∃ zs : List Value, zs.length = m * 5 ∧ ∀ ty : Nat, (Builtin.clear_ #[33] ty #[.slice (some ⟨g, i * 5, none⟩) m c]).run Try.prog w = .ok (.tuple #[]) (w.setCells g (i * 5) zs) := by
  obtain ⟨inf, hi, hz⟩ := Option.map_eq_some_iff.1 info32
  have hz0 : inf.zero = some (.agg #[(.int .i64 0), (.int .i64 0), (.string ⟨#[]⟩), (.string ⟨#[]⟩), (.int .i64 0)]) := by injection hz
  have hzero : ∀ W : World, (zeroValue 32).run Try.prog W = .ok (.agg #[(.int .i64 0), (.int .i64 0), (.string ⟨#[]⟩), (.string ⟨#[]⟩), (.int .i64 0)]) W := fun W => by
    simp [zeroValue, typeInfo, hi, hz0]
  have hl0 : (Builtin.zeroCells (Value.cells (.agg #[(.int .i64 0), (.int .i64 0), (.string ⟨#[]⟩), (.string ⟨#[]⟩), (.int .i64 0)])) m).toList.length = m * 5 := by
    simp [Builtin.zeroCells, Value.cells]
  have h1 : ∀ q ∈ (Builtin.zeroCells (Value.cells (.agg #[(.int .i64 0), (.int .i64 0), (.string ⟨#[]⟩), (.string ⟨#[]⟩), (.int .i64 0)])) m).toList, q.oneCell' = true := by
    intro q hq
    have hc5 : (Value.cells (.agg #[(.int .i64 0), (.int .i64 0), (.string ⟨#[]⟩), (.string ⟨#[]⟩), (.int .i64 0)])) = #[(.int .i64 0), (.int .i64 0), (.string ⟨#[]⟩), (.string ⟨#[]⟩), (.int .i64 0)] := by rfl
    rw [Array.mem_toList_iff] at hq
    simp only [Builtin.zeroCells, hc5] at hq
    rw [Array.mem_map] at hq
    obtain ⟨j, _, rfl⟩ := hq
    show ((#[(.int .i64 0), (.int .i64 0), (.string ⟨#[]⟩), (.string ⟨#[]⟩), (.int .i64 0)] : Array Value)[j % 5]!).oneCell' = true
    have hlt : j % 5 < 5 := Nat.mod_lt _ (by decide)
    generalize j % 5 = r at hlt
    match r, hlt with
    | 0, _ => rfl
    | 1, _ => rfl
    | 2, _ => rfl
    | 3, _ => rfl
    | 4, _ => rfl
  refine ⟨_, hl0, fun ty => ?_⟩
  have hst := run_storeCells_cells (P := Try.prog) g (i * 5) (Builtin.zeroCells (Value.cells (.agg #[(.int .i64 0), (.int .i64 0), (.string ⟨#[]⟩), (.string ⟨#[]⟩), (.int .i64 0)])) m).toList 0 w (fun j hj => by rw [cell_of_row w g _ cur 32 (0, 0) hh]; simp; omega) (fun j _ => blk_frozen hh _) h1
  simp only [Nat.add_zero] at hst
  obtain ⟨p, rfl⟩ : ∃ p, m = p + 1 := ⟨m - 1, by omega⟩
  simp [Builtin.clear_, run_underlying (show Try.prog.underlying 33 = some (.slice 32) from Try.underlying33), hzero, hst]
/-- The head of an own row, its tail overwritten. -/
theorem R_head {w : World} {base : Nat} {ok : Nat → Prop} {g n c : Nat} {xs : List S32} (h : Kd.R k32 32 w base ok (.slice (some ⟨g, 0, none⟩) n c) xs) (i : Nat) (hi : i < n) :
    ∃ cur, w.heap[g]? = some (.cells cur 32 (0, 0)) ∧ base ≤ g ∧ i * 5 + (n - i) * 5 ≤ cur.size ∧ ∀ zs : List Value, zs.length = (n - i) * 5 → Kd.R k32 32 (w.setCells g (i * 5) zs) base ok (.slice (some ⟨g, 0, none⟩) i c) (xs.take i) := by
  obtain ⟨h0, inner, hown, hr⟩ := h
  obtain ⟨hlen, hown2⟩ := hown
  have hnx : n = xs.length := by
    rcases hown2 with ⟨hv, _⟩ | ⟨g', cap', cur, hv, _⟩
    · cases hv
    · injection hv
  rcases hown2 with ⟨hv, _⟩ | ⟨g', cap', cur, hv, hb, hh, hnc, hcm, hcs, htake⟩
  · cases hv
  injection hv with ha _ hc
  injection ha with ha
  injection ha with hg'
  subst hg'; subst hc
  have hsz : k32.sz = 5 := rfl
  rw [hsz] at hcs htake hlen
  refine ⟨cur, hh, hb, by omega, fun zs hz => ?_⟩
  obtain ⟨cur', h3, h4, h5⟩ := setCells_row zs (i * 5) w cur hh (by rw [hz]; omega)
  have hil : (xs.take i).length = i := by rw [List.length_take]; omega
  refine ⟨h0, inner.take (i * 5), ⟨by rw [List.length_take, hlen, hil, hsz]; omega, .inr ⟨g, c, cur', by rw [hil], hb, h3, by rw [hil]; omega, hcm, by rw [hsz, h4, hcs], ?_⟩⟩, ?_⟩
  · rw [hil, hsz, h5, List.take_append_of_le_length (by rw [List.length_append, List.length_take, Array.length_toList]; omega), List.take_append_of_le_length (by rw [List.length_take, Array.length_toList]; omega), List.take_take, ← htake, List.take_take]
    congr 1
    omega
  · refine ⟨by rw [List.length_take, hlen, hil, hsz]; omega, fun j p hj => ?_⟩
    have hji : j < i := by
      rcases Nat.lt_or_ge j i with h | h
      · exact h
      · rw [List.getElem?_eq_none (by rw [hil]; exact h)] at hj; cases hj
    rw [List.getElem?_take_of_lt hji] at hj
    have hq := hr.2 j p hj
    have e1 : ((inner.take (i * 5)).drop (j * k32.sz)).take k32.sz = (inner.drop (j * k32.sz)).take k32.sz := by
      rw [hsz, List.drop_take, List.take_take]
      congr 1
      omega
    rw [e1]
    refine Kd.M_step hq (fun k hk hlt => ?_)
    exact setCells_far zs _ k (fun he => hk.2 (by rw [he]; rfl))
theorem addr0 (g n : Nat) : (⟨g, 0, none⟩ : Addr).add n = ⟨g, n, none⟩ := by
  unfold Addr.add
  split <;> simp_all
theorem below_setCells {w0 w : World} {b g : Nat} (h : Below b w0 w) (hg : b ≤ g) (o : Nat) (vs : List Value) : Below b w0 (w.setCells g o vs) := by
  obtain ⟨s1, s2, s3, s4⟩ := setCells_same g vs o w
  exact ⟨s1.trans h.os, s2.trans h.tape, s3.trans h.output, by rw [s4]; exact h.size, fun k hk => (setCells_far vs o k (by omega)).trans (h.block k hk)⟩
/-- What DeleteFunc has done at place j: i kept, the rest as it was. -/
def DelI (p : S32 → Bool) (l xs : List S32) (i j : Nat) : Prop := xs.length = l.length ∧ i < j ∧ j ≤ l.length ∧ xs.take i = (l.take j).filter (fun z => !p z) ∧ xs.drop j = l.drop j
theorem DelI.start {p : S32 → Bool} {l : List S32} {i : Nat} (hi : i < l.length) (hp : p l[i] = true) (hn : ∀ j (hj : j < l.length), j < i → p l[j] = false) : DelI p l l i (i + 1) := by
  refine ⟨rfl, by omega, by omega, ?_, rfl⟩
  rw [List.take_succ_eq_append_getElem hi, List.filter_append]
  have h1 : (l.take i).filter (fun z => !p z) = l.take i := by
    rw [List.filter_eq_self]
    intro z hz
    obtain ⟨j, hj, rfl⟩ := List.getElem_of_mem hz
    rw [List.length_take] at hj
    rw [List.getElem_take, hn j (by omega) (by omega)]
    rfl
  have h2 : ([l[i]] : List S32).filter (fun z => !p z) = [] := by simp [hp]
  rw [h1, h2, List.append_nil]
theorem DelI.get {p : S32 → Bool} {l xs : List S32} {i j : Nat} (h : DelI p l xs i j) (hj : j < l.length) : rd_T32 xs (j : Int) = l[j] := by
  have e : xs[j]? = l[j]? := by
    have := congrArg (fun q => q[0]?) h.2.2.2.2
    simpa using this
  unfold rd_T32
  rw [Int.toNat_natCast, List.getD_eq_getElem?_getD, e, List.getElem?_eq_getElem hj]
  rfl
theorem DelI.skip {p : S32 → Bool} {l xs : List S32} {i j : Nat} (h : DelI p l xs i j) (hj : j < l.length) (hp : p l[j] = true) : DelI p l xs i (j + 1) := by
  obtain ⟨h1, h2, h3, h4, h5⟩ := h
  refine ⟨h1, by omega, by omega, ?_, ?_⟩
  · rw [h4, List.take_succ_eq_append_getElem hj, List.filter_append]
    simp [hp]
  · rw [← List.drop_drop, ← List.drop_drop, h5]
theorem DelI.keep {p : S32 → Bool} {l xs : List S32} {i j : Nat} (h : DelI p l xs i j) (hj : j < l.length) (hp : p l[j] = false) : DelI p l (xs.set i l[j]) (i + 1) (j + 1) := by
  obtain ⟨h1, h2, h3, h4, h5⟩ := h
  refine ⟨by rw [List.length_set, h1], by omega, by omega, ?_, ?_⟩
  · rw [List.take_succ_eq_append_getElem (by rw [List.length_set]; omega), List.getElem_set_self, List.take_set_of_le (Nat.le_refl _), h4, List.take_succ_eq_append_getElem hj, List.filter_append]
    simp [hp]
  · rw [List.drop_set_of_lt (by omega), ← List.drop_drop, ← List.drop_drop, h5]
theorem DelI.done {p : S32 → Bool} {l xs : List S32} {i j : Nat} (h : DelI p l xs i j) (hj : ¬ j < l.length) : xs.take i = l.filter (fun z => !p z) := by
  obtain ⟨h1, h2, h3, h4, h5⟩ := h
  rw [h4, List.take_of_length_le (by omega)]
set_option maxHeartbeats 4000000 in
set_option maxRecDepth 100000 in
theorem DelB (w0 w : World) (l : List S32) (v : Value) (hR : Kd.R k32 32 w w0.heap.size (fun _ => True) v l) (hb : Below w0.heap.size w0 w) (hl : l.length ≤ 1000000) (gp : Nat) (G : List Int) (AG : Option Addr) (cG : Nat) (v1 v2 v3 : Value) (hc : w0.heap[gp]? = some (.cells #[.slice AG G.length cG, v1, v2, v3] 36 (0, 0))) (hG : (Kd.int .i64).C w0 AG G.length G) (hgl : G.length ≤ 1000000) :
    Calls Try.prog 29 #[v, .func (.func 30) #[] #[.pointer (some ⟨gp, 0, none⟩)]] w fun e w' => ∃ v' : Value, e = .returned v' ∧ Kd.R k32 32 w' w0.heap.size (fun _ => True) v' (l.filter (fun z : S32 => !(G.any (fun y => z.f0 == y)))) ∧ Below w0.heap.size w0 w' := by
  obtain ⟨A, c, rfl, hlc, hrd⟩ := Kd.R_reads hR
  have HR := Aside0.mk hR
  have HB := Aside0.mk hb
  have HRD := Aside0.mk hrd
  have HL := Aside0.mk hl
  have HLC := Aside0.mk hlc
  have HC := Aside0.mk hc
  have HG := Aside0.mk hG
  have HGL := Aside0.mk hgl
  have HBW := Aside0.mk (Below.refl w.heap.size w)
  clear hR hb hrd hl hlc hc hG hgl
  go_enter Try.func29, Try.ntmps29
  go_upto_region 2 with (go_at_call 46; go_loud (with_reducible refine (IdxB _ A c l gp G AG cG v1 v2 v3 HRD.out HL.out (blk_below HC.out HB.out) (Kd.C_below HG.out HB.out) HGL.out).mono ?_; rintro e w1 ⟨r, rfl, hi, hb⟩; have HI := Aside0.mk hi; have n0_ := Aside0.mk (Kd.R_below HR.out hb); have n1_ := bs_ HB hb; clear HR HB HRD HBW hi hb; have HR := n0_; have HB := n1_; clear n0_ n1_))
  obtain ⟨hI⟩ := HI
  rcases hI with ⟨i, rfl, hi, hpi, hni⟩ | ⟨rfl, hn⟩
  rotate_left
  · have hfl : l.filter (fun z : S32 => !(G.any (fun y => z.f0 == y))) = l := by
      rw [List.filter_eq_self]
      intro z hz
      simp only [hn z hz, Bool.not_false]
    have HFL := Aside0.mk hfl
    clear hfl hn
    go_wp2
    go_ret
    exact ⟨_, rfl, by rw [HFL.out]; exact HR.out, HB.out⟩
  have HD := Aside0.mk (DelI.start (p := (fun z : S32 => G.any (fun y => z.f0 == y))) hi hpi hni)
  obtain ⟨ad, e_⟩ : ∃ ad : Addr, A = some ad := by
    rcases Kd.R_slice1 HR.out (by omega) with ⟨ad, c', e⟩
    injection e with e1
    exact ⟨ad, e1⟩
  subst e_
  obtain ⟨g, e_⟩ : ∃ g : Nat, ad = ⟨g, 0, none⟩ := by
    obtain ⟨_, inner, hown, _⟩ := HR.out
    rcases hown.2 with ⟨hv, _⟩ | ⟨g', cap', cur, hv, _⟩
    · cases hv
    · injection hv with ha
      injection ha with ha
      exact ⟨g', ha⟩
  subst e_
  have hm1 : ((i : Int) == (-1 : Int)) = false := beq_eq_false_iff_ne.mpr (by omega)
  have hm2 : decide ((i : Int) = (-1 : Int)) = false := decide_eq_false (by omega)
  have hw1 : wrap64 ((i : Int) + 1) = ((i + 1 : Nat) : Int) := by have := HL.out; unfold wrap64; omega
  clear hi hpi hni
  go_wp2
  go_loopg [5, 6] l.length (fun kq v5 v6 w' => ∃ (i j : Nat) (xs : List S32), v5 = .int .i64 (i : Int) ∧ v6 = .int .i64 (j : Int) ∧ Aside0 (l.length ≤ kq + j) ∧ Aside0 (DelI (fun z : S32 => G.any (fun y => z.f0 == y)) l xs i j) ∧ Aside0 (Kd.R k32 32 w' w0.heap.size (fun _ => True) (.slice (some ⟨g, 0, none⟩) l.length c) xs) ∧ Aside0 (Below w0.heap.size w0 w'))
  case atStart => exact ⟨i, i + 1, l, rfl, by rw [← hw1], ⟨by have := HD.out.2.2.1; omega⟩, HD, HR, HB⟩
  clear HB HR HD hm1 hm2 hw1
  obtain ⟨i, j, xs, rfl, rfl, HQ, HD, HR, HB⟩ := hrel
  by_cases hlt : j < l.length
  · obtain ⟨k1, rfl⟩ : ∃ k1, gk = k1 + 1 := ⟨gk - 1, by have := HQ.out; omega⟩
    have hd0 : decide (j < l.length) = true := decide_eq_true hlt
    have hd1 : decide ((j : Int) < (l.length : Int)) = true := decide_eq_true (by omega)
    have p0 : 0 ≤ (j : Int) := by omega
    have q0 : (j : Int) < (l.length : Int) := by omega
    have hij : i < j := HD.out.2.1
    have p1 : 0 ≤ (i : Int) := by omega
    have q1 : (i : Int) < (l.length : Int) := by omega
    obtain ⟨ad, e_, hx0, hx1, hx2, hx3, hx4⟩ := at_T32 (show Kd.C k32 wr (some ⟨g, 0, none⟩) l.length xs from by have h_ := Kd.R_reads' HR.out; rw [h_.1]; exact h_.2.2) (j : Int) p0 q0
    cases e_
    rw [Int.toNat_natCast, HD.out.get hlt] at hx0 hx1 hx2 hx3 hx4
    have HY0 := Aside0.mk (HD.out.get hlt)
    obtain ⟨y, hy⟩ : ∃ y, y = l[j] := ⟨_, rfl⟩
    rw [← hy] at hx0 hx1 hx2 hx3 hx4
    rw [addr0] at hx0 hx1 hx2 hx3 hx4
    dsimp only at hx0 hx1 hx2 hx3 hx4
    have HY := Aside0.mk hy
    clear hy
    go_upto_region 8 with go_step3
    have n0_ := Aside0.mk (Kd.R_below HR.out (below_alloc (Below.refl _ wr) (.cells #[.int .i64 y.f0, .int .i64 y.f1, .string y.f2, .string y.f3, .int .i64 y.f4] 32)))
    have n1_ := bs_ HB (below_alloc (Below.refl _ wr) (.cells #[.int .i64 y.f0, .int .i64 y.f1, .string y.f2, .string y.f3, .int .i64 y.f4] 32))
    have BX := Aside0.mk (blk_new wr (.cells #[.int .i64 y.f0, .int .i64 y.f1, .string y.f2, .string y.f3, .int .i64 y.f4] 32))
    clear HR HB hx0 hx1 hx2 hx3 hx4
    have HR := n0_
    have HB := n1_
    clear n0_ n1_
    generalize wr.alloc (.cells #[.int .i64 y.f0, .int .i64 y.f1, .string y.f2, .string y.f3, .int .i64 y.f4] 32) = w2 at HR HB BX ⊢
    generalize wr.heap.size = gb at BX ⊢
    have hz0 := bc0 BX
    have hz1 := bc1 BX
    have hz2 := bc2 BX
    have hz3 := bc3 BX
    have hz4 := bc4 BX
    cases hp : (G.any (fun z => y.f0 == z) : Bool) with
    | true =>
      have HT := Aside0.mk hp
      have HD2 := Aside0.mk (HD.out.skip hlt (by rw [← HY.out]; exact hp))
      clear hp HD
      go_upto_region 6 with (go_at_call 30; go_loud (with_reducible refine (CloB _ y gp G AG cG v1 v2 v3 (blk_below HC.out HB.out) (Kd.C_below HG.out HB.out) HGL.out).mono ?_; rintro e w3 ⟨rfl, hb⟩; have n0_ := Aside0.mk (Kd.R_below HR.out hb); have n1_ := bs_ HB hb; have n2_ := bb_ BX hb; clear HR HB BX hz0 hz1 hz2 hz3 hz4 hb; have HR := n0_; have HB := n1_; have BX := n2_; clear n0_ n1_ n2_; rw [HT.out]))
      go_wp2
      go_roundg k1
      case measure => have := HQ.out; omega
      case rel => exact ⟨i, j + 1, xs, rfl, by have h2_ := HL.out; simp; unfold wrap64; omega, ⟨by have := HQ.out; omega⟩, HD2, HR, HB⟩
    | false =>
      have HT := Aside0.mk hp
      have HD2 := Aside0.mk (HD.out.keep hlt (by rw [← HY.out]; exact hp))
      rw [← HY.out] at HD2
      clear hp HD
      go_upto_region 9 with (go_at_call 30; go_loud (with_reducible refine (CloB _ y gp G AG cG v1 v2 v3 (blk_below HC.out HB.out) (Kd.C_below HG.out HB.out) HGL.out).mono ?_; rintro e w3 ⟨rfl, hb⟩; have n0_ := Aside0.mk (Kd.R_below HR.out hb); have n1_ := bs_ HB hb; have n2_ := bb_ BX hb; clear HR HB BX hz0 hz1 hz2 hz3 hz4 hb; have HR := n0_; have HB := n1_; have BX := n2_; clear n0_ n1_ n2_; rw [HT.out]))
      have hz0 := bc0 BX
      have hz1 := bc1 BX
      have hz2 := bc2 BX
      have hz3 := bc3 BX
      have hz4 := bc4 BX
      obtain ⟨ad, cv, e_, hcl, _, hcc⟩ := Kd.C_get (show Kd.C k32 w3 (some ⟨g, 0, none⟩) l.length xs from by have h_ := Kd.R_reads' HR.out; rw [h_.1]; exact h_.2.2) z32 (i : Int) p1 q1
      cases e_
      have HCL := Aside0.mk hcl
      have HCC := Aside0.mk (show ∀ j u, cv[j]? = some u → w3.cell? ⟨g, (i : Int).toNat * k32.sz + j, none⟩ = some u from fun j u hu => by
        have h_ := hcc j u hu
        rw [addr0] at h_; exact h_)
      clear hcl hcc
      go_wp2_with (first | ((with_reducible refine gate_store (t := 32) (p := 33) rfl ?_); go_loud (refine Kd.R_store k32 (w0 := w0) w0.heap.size rfl rfl 32 (.tmp 33) (.tmp 32) rfl 32 (i : Int) 0 xs y (.agg #[.int .i64 y.f0, .int .i64 y.f1, .string y.f2, .string y.f3, .int .i64 y.f4]) [.int .i64 y.f0, .int .i64 y.f1, .string y.f2, .string y.f3, .int .i64 y.f4] cv (fun _ => True) (fun _ => False) rfl ?aO rfl rfl (by kernel_rfl) ?aH HR.out p1 q1 HCL.out HCC.out (Nat.le_refl 5) ?aM (fun _ h => h.elim) HB.out ?_; (case aO => rfl); (case aH => (intro q hq; simp at hq; rcases hq with rfl | rfl | rfl | rfl | rfl <;> rfl)); (case aM => (have h5_ : cv.drop (0 + 5) = [] := List.drop_eq_nil_of_le (by rw [HCL.out]; exact Nat.le_refl _); simp only [List.take_zero, List.nil_append]; rw [show (0 + [Value.int .i64 y.f0, .int .i64 y.f1, .string y.f2, .string y.f3, .int .i64 y.f4].length) = 0 + 5 from rfl, h5_]; exact k32_mkM _ _ _ y)); intro w4 ho hb hg; rw [Int.toNat_natCast] at ho; have HR2 := Aside0.mk ho; have HB2 := Aside0.mk hb; clear ho hb hg HR HB BX hz0 hz1 hz2 hz3 hz4 HCC)))
      go_roundg k1
      case measure => have := HQ.out; omega
      case rel => exact ⟨i + 1, j + 1, xs.set i y, by have h2_ := HL.out; simp; unfold wrap64; omega, by have h2_ := HL.out; simp; unfold wrap64; omega, ⟨by have := HQ.out; omega⟩, HD2, HR2, HB2⟩
  have hd0 : decide (j < l.length) = false := decide_eq_false hlt
  have hd1 : decide ((j : Int) < (l.length : Int)) = false := decide_eq_false (by omega)
  have hil : i < l.length := by have h_ := HD.out.2.1; have h2_ := HD.out.2.2.1; omega
  have HDN := Aside0.mk (HD.out.done hlt)
  obtain ⟨cur, hh, hbase, hfit, hzs⟩ := R_head HR.out i hil
  obtain ⟨zs, hzl, hcl⟩ := run_clear_T wr g i (l.length - i) (c - i) cur hh (by omega) hfit
  have HO := Aside0.mk (hzs zs hzl)
  have HB2 := Aside0.mk (show Below w0.heap.size w0 (wr.setCells g (i * 5) zs) from below_setCells HB.out hbase _ _)
  clear hh hbase hfit hzs hzl HD HR HB
  have p1 : 0 ≤ (i : Int) := by omega
  have q1 : (i : Int) ≤ (l.length : Int) := by omega
  have q2 : (i : Int) ≤ (c : Int) := by have := HLC.out; omega
  have hic : i < c := by have := HLC.out; omega
  go_wp2
  go_ret
  exact ⟨_, rfl, by rw [← HDN.out]; exact HO.out, HB2.out⟩
end Go.Proofs.Ytmbedgopceigaaa.Q
