import Derived.Test.YtdkdnfgpgedglaaPx0
import Derived.Shelf.Spec.SlicesInsert
import Derived.Laws.CopyRow
import Derived.Laws.CopyOwn
import Derived.Lib.AppendZerosOnto
import Derived.Test.YtdkdnfgpgedglaaQShort
import Derived.Test.YtdkdnfgpgedglaaQBase
namespace Go.Proofs.Ytdkdnfgpgedglaa.P
open Go.RowKit Go.Lib Go.Proofs.YtdkdnfgpgedglaaW.PrintWords Go.Proofs.YtdkdnfgpgedglaaW.PrintLast Go.Proofs.YtdkdnfgpgedglaaW.PrintMore
set_option linter.unusedVariables false
set_option linter.unusedSimpArgs false
/-! slices.Insert of one element at rows of entries -/
/-- copy(d, s), elements of several cells, the row that is written told whole. -/
theorem run_copy_rowN {P : Program} (w : World) (dT sT ty elem : TypeId) (g o dLen dCap : Nat) (a : Addr) (sLen sCap size : Nat) (cur : Array Value) (t : TypeId) (cs : List Value)
    (hu : P.underlying dT = some (.slice elem)) (hs : (P.info? elem).map (·.size) = some size)
    (hg : w.heap[g]? = some (.cells cur t (0, 0))) (hn : cs.length = Nat.min sLen dLen * size)
    (hsrc : ∀ j v, cs[j]? = some v → w.cell? (a.add j) = some v) (hfit : o + cs.length ≤ cur.size) (h1 : ∀ v ∈ cs, v.oneCell' = true) :
    (Builtin.copy_ #[dT, sT] ty #[.slice (some ⟨g, o, none⟩) dLen dCap, .slice (some a) sLen sCap]).run P w =
      .ok (goInt (Nat.min sLen dLen)) (w.setRow g (cur.toList.take o ++ cs ++ cur.toList.drop (o + cs.length)).toArray) := by
  have hl := run_loadCells_list (P := P) w a cs hsrc
  have hst := run_storeCells_at P g o t cs 0 cur w hg (by simpa using hfit) h1
  cases hq : P.info? elem with
  | none => simp [hq] at hs
  | some i =>
    have hi : i.size = size := by simpa [hq] using hs
    simp [Builtin.copy_, run_underlying hu, Builtin.lenOf, Builtin.firstCells, sizeOf, typeInfo, hq, hi, ← hn, hl, hst]
theorem cell_at {w : World} {g : Nat} {cur : Array Value} {t : TypeId} (hg : w.heap[g]? = some (.cells cur t (0, 0))) (j : Nat) : w.cell? ⟨g, j, none⟩ = cur[j]? := by
  simp [World.cell?, hg]
set_option maxHeartbeats 4000000 in
set_option maxRecDepth 100000 in
/-- There is room, the place is ahead of the end: in place. -/
theorem insert_shift (g n c i vb vc : Nat) (cur : Array Value) (vs : List Value) (w : World) (hi : i < n) (hroom : n + 1 ≤ c) (hc63 : c ≤ 9223372036854775807) (hvb : vb ≠ g)
    (hg : w.heap[g]? = some (.cells cur 29 (0, 0))) (hsz : cur.size = c * 4) (hv : w.heap[vb]? = some (.cells vs.toArray 29 (0, 0))) (hvl : vs.length = 4)
    (h1c : ∀ v ∈ cur.toList.take (n * 4), v.oneCell' = true) (h1v : ∀ v ∈ vs, v.oneCell' = true) :
    Calls Try.prog 26 #[.slice (some ⟨g, 0, none⟩) n c, .int .i64 i, .slice (some ⟨vb, 0, none⟩) 1 vc] w fun e w' =>
      e = .returned (.slice (some ⟨g, 0, none⟩) (n + 1) c) ∧ w' = w.drew.setRow g (cur.toList.take (i * 4) ++ vs ++ (cur.toList.drop (i * 4)).take ((n - i) * 4) ++ cur.toList.drop ((n + 1) * 4)).toArray := by
  have hu22 := Try.underlying22
  have hz2 : ¬ ((i : Int) = (n : Int)) := by omega
  have hinf : (Try.prog.info? 29).map (·.size) = some 4 := by
    have := info29
    cases h : Try.prog.info? 29 with
    | none => rw [h] at this; cases this
    | some q => rw [h] at this; simp only [Option.map_some, Option.some.injEq, Prod.mk.injEq] at this ⊢; exact this.2.1
  have hov : ∀ lb cb, (callFunc 33 #[.slice (some ⟨vb, 0, none⟩) 1 vc, .slice (some ⟨g, (i + 1) * 4, none⟩) lb cb]).run Try.prog w = .ok (.value (.bool false)) w := fun lb cb => by
    rw [run_callFunc_extern Try.func33 (by kernel_rfl) (by kernel_rfl) (by kernel_rfl) (e := Extern.SlicesOverlaps.overlaps #[22, 22] #[4]) (by kernel_rfl),
      Lib.run_overlaps_apart w 22 4 29 Try.underlying22 4 Try.sizeOf29 ⟨vb, 0, none⟩ ⟨g, (i + 1) * 4, none⟩ 1 vc lb cb hvb 29 29 vs.toArray.size cur.size (by simp [World.shape?, hv]) (by simp [World.shape?, hg]) (by omega) (by simp [World.frozen?, hv]) (by simp [World.frozen?, hv])]
    rfl
  have hgd : w.drew.heap[g]? = some (.cells cur 29 (0, 0)) := hg
  obtain ⟨mid, hmid⟩ : ∃ mid, mid = (cur.toList.drop (i * 4)).take ((n - i) * 4) := ⟨_, rfl⟩
  have hml : mid.length = (n - i) * 4 := by rw [hmid, List.length_take, List.length_drop, Array.length_toList, hsz]; omega
  have hm1 : ∀ v ∈ mid, v.oneCell' = true := by
    intro v hv2
    refine h1c v ?_
    rw [hmid, List.take_drop] at hv2
    have := List.mem_of_mem_drop hv2
    rwa [show i * 4 + (n - i) * 4 = n * 4 by omega] at this
  obtain ⟨W1, hW1⟩ : ∃ W1, W1 = w.drew.setRow g (cur.toList.take ((i + 1) * 4) ++ mid ++ cur.toList.drop ((i + 1) * 4 + mid.length)).toArray := ⟨_, rfl⟩
  have hcp1 : ∀ ty dl dc sl sc, dl = n - i → sl = n + 1 - i → (Builtin.copy_ #[22, 22] ty #[.slice (some ⟨g, (i + 1) * 4, none⟩) dl dc, .slice (some ⟨g, i * 4, none⟩) sl sc]).run Try.prog w.drew = .ok (goInt ((n - i : Nat) : Int)) W1 := fun ty dl dc sl sc h1 h2 => by
    subst h1; subst h2
    have hmin : Nat.min (n + 1 - i) (n - i) = n - i := by simp only [Nat.min_def]; split <;> omega
    have := run_copy_rowN (P := Try.prog) w.drew 22 22 ty 29 g ((i + 1) * 4) (n - i) dc ⟨g, i * 4, none⟩ (n + 1 - i) sc 4 cur 29 mid Try.underlying22 hinf hgd (by rw [hmin, hml])
      (fun j v hj => by
        rw [Addr.add_lit, cell_at hgd]
        rw [hmid, List.getElem?_take] at hj
        split at hj
        · rw [List.getElem?_drop] at hj; rw [← Array.getElem?_toList]; exact hj
        · cases hj) (by rw [hml, hsz]; omega) hm1
    rw [hmin] at this
    rw [this, hW1]
  have hg1 : W1.heap[g]? = some (.cells (cur.toList.take ((i + 1) * 4) ++ mid ++ cur.toList.drop ((i + 1) * 4 + mid.length)).toArray 29 (0, 0)) := by rw [hW1]; exact setRow_heap _ g cur _ _ _ hgd
  have hv1 : W1.heap[vb]? = some (.cells vs.toArray 29 (0, 0)) := by rw [hW1, setRow_other _ g vb _ hvb]; exact hv
  have hlen1 : (cur.toList.take ((i + 1) * 4) ++ mid ++ cur.toList.drop ((i + 1) * 4 + mid.length)).length = c * 4 := by
    simp only [List.length_append, List.length_take, List.length_drop, Array.length_toList, hml, hsz]; omega
  have hcp2 : ∀ ty dl dc, 0 < dl → (Builtin.copy_ #[22, 22] ty #[.slice (some ⟨g, i * 4, none⟩) dl dc, .slice (some ⟨vb, 0, none⟩) 1 vc]).run Try.prog W1 = .ok (goInt ((1 : Nat) : Int)) (w.drew.setRow g (cur.toList.take (i * 4) ++ vs ++ mid ++ cur.toList.drop ((n + 1) * 4)).toArray) := fun ty dl dc h1 => by
    have hmin : Nat.min 1 dl = 1 := by simp only [Nat.min_def]; split <;> omega
    have := run_copy_rowN (P := Try.prog) W1 22 22 ty 29 g (i * 4) dl dc ⟨vb, 0, none⟩ 1 vc 4 _ 29 vs Try.underlying22 hinf hg1 (by rw [hmin, hvl])
      (fun j v hj => by
        rw [Addr.add_lit, Nat.zero_add, cell_at hv1]
        simpa using hj) (by rw [hvl]; simp only [List.size_toArray]; rw [hlen1]; omega) h1v
    rw [hmin] at this
    have e1 : (cur.toList.take ((i + 1) * 4) ++ mid ++ cur.toList.drop ((i + 1) * 4 + mid.length)).take (i * 4) = cur.toList.take (i * 4) := by
      rw [List.append_assoc, List.take_append_of_le_length (by rw [List.length_take, Array.length_toList, hsz]; omega), List.take_take]
      congr 1; omega
    have e2 : (cur.toList.take ((i + 1) * 4) ++ mid ++ cur.toList.drop ((i + 1) * 4 + mid.length)).drop (i * 4 + vs.length) = mid ++ cur.toList.drop ((n + 1) * 4) := by
      have e3 : i * 4 + vs.length = (cur.toList.take ((i + 1) * 4)).length := by rw [hvl, List.length_take, Array.length_toList, hsz]; omega
      rw [List.append_assoc, e3, List.drop_left, hml]
      congr 2; omega
    rw [this, hW1, setRow_setRow, List.toList_toArray, e1, e2]
    simp only [List.append_assoc]
  have mixed : Try.prog.follows .mixedOrders = true := by kernel_rfl
  have hw1 : IntKind.i64.wrap ((i : Int) + 1) = (i : Int) + 1 := by rw [IntKind.wrap_i64]; omega
  have hb1 : (0 : Int) ≤ (i : Int) + 1 := by omega
  have hin : i ≤ n := by omega
  have htn : ((i : Int) + 1).toNat = i + 1 := by omega
  have hb2 : ¬ (c = i + 1) := by omega
  have hb3 : (i : Int) ≤ (n : Int) + 1 := by omega
  have hb4 : ¬ (c = i) := by omega
  rw [← hmid]
  obtain ⟨W2, hW2⟩ : ∃ W2, W2 = w.drew.setRow g (cur.toList.take (i * 4) ++ vs ++ mid ++ cur.toList.drop ((n + 1) * 4)).toArray := ⟨_, rfl⟩
  rw [← hW2] at hcp2 ⊢
  clear hW1 hW2 hmid hg1 hv1 hlen1 hml hm1 hinf hgd h1c h1v hsz
  go_enter Try.func26, Try.ntmps26
  go_wp2_with (simp only [hov])
  go_region_law_o (refine step_copy_runI rfl _ _ 22 22 rfl _ _ (by simp [Act.eval, Act.put]) (by simp [Act.eval, Act.put]) (hcp1 _ _ _ _ _ (by omega) (by omega)) ?_)
  go_wp2_with ((with_reducible refine gate_builtin (b := .copy) (xs := #[.tmp 80, .tmp 81]) rfl ?_); refine wpList_copy_runI _ rfl _ _ 22 22 rfl _ _ rfl rfl (v' := goInt ((1 : Nat) : Int)) (w' := W2) ?hr ?_; (case hr => exact hcp2 _ _ _ (by omega)))
  go_ret
  exact ⟨rfl, rfl⟩
set_option maxHeartbeats 4000000 in
set_option maxRecDepth 100000 in
/-- There is no room, the place is ahead of the end: a new row. -/
theorem insert_grow (g n c i vb vc : Nat) (cur : Array Value) (vs : List Value) (w : World) (hi : i < n) (hnc : n ≤ c) (hroom : c < n + 1) (hbig : (n + 1) * 48 ≤ 140737488355328)
    (hg : w.heap[g]? = some (.cells cur 29 (0, 0))) (hsz : cur.size = c * 4) (hv : w.heap[vb]? = some (.cells vs.toArray 29 (0, 0))) (hvl : vs.length = 4)
    (h1c : ∀ v ∈ cur.toList.take (n * 4), v.oneCell' = true) (h1v : ∀ v ∈ vs, v.oneCell' = true) :
    Calls Try.prog 26 #[.slice (some ⟨g, 0, none⟩) n c, .int .i64 i, .slice (some ⟨vb, 0, none⟩) 1 vc] w fun e w' => ∃ (G : Nat) (row : List Value),
      e = .returned (.slice (some ⟨w.heap.size, 0, none⟩) (n + 1) G) ∧ w'.heap[w.heap.size]? = some (.cells row.toArray 29 (0, 0)) ∧ row.length = G * 4 ∧ n + 1 ≤ G ∧ G ≤ maxLen ∧
      row.take ((n + 1) * 4) = cur.toList.take (i * 4) ++ vs ++ (cur.toList.drop (i * 4)).take ((n - i) * 4) ∧ Below w.heap.size w w' := by
  have hu22 := Try.underlying22
  have hz2 : ¬ ((i : Int) = (n : Int)) := by omega
  have hz3 : (c : Int) < (n : Int) + 1 := by omega
  obtain ⟨i0, hi0, hz0, hzs, hzb⟩ := info_parts info29
  have hinf : (Try.prog.info? 29).map (·.size) = some 4 := by rw [hi0]; simp [hzs]
  have hgw : g < w.heap.size := blk_lt hg
  have hvw : vb < w.heap.size := blk_lt hv
  have hold : (Builtin.firstCells i0.size i (.slice (some ⟨g, 0, none⟩) i c)).run Try.prog w.drew = .ok (cur.toList.take (i * 4)).toArray w.drew := by
    rw [hzs]
    refine run_firstCells_some w.drew 4 i ⟨g, 0, none⟩ i c (cur.toList.take (i * 4)) (by rw [List.length_take, Array.length_toList, hsz]; omega) (fun j v hj => ?_)
    rw [Addr.add_lit, Nat.zero_add]
    rw [List.getElem?_take] at hj
    split at hj
    · rw [cell_at (show w.drew.heap[g]? = _ from hg), ← Array.getElem?_toList]; exact hj
    · cases hj
  obtain ⟨G, hG⟩ : ∃ G, G = grownCap w (n + 1) c 29 := ⟨_, rfl⟩
  obtain ⟨Z, hZ⟩ : ∃ Z : Value, Z = .agg #[(.string ⟨#[]⟩), (.int .i64 0), (.bool false), (.string ⟨#[]⟩)] := ⟨_, rfl⟩
  have hZ4 : Z.cells.size = 4 := by rw [hZ]; rfl
  obtain ⟨ROW, hROW⟩ : ∃ ROW : Array Value, ROW = (cur.toList.take (i * 4)).toArray ++ Builtin.zeroCells Z.cells (n + 1 - i) ++ Builtin.zeroCells Z.cells (G - (n + 1)) := ⟨_, rfl⟩
  obtain ⟨W1, hW1⟩ : ∃ W1, W1 = w.drew.alloc (.cells ROW 29) := ⟨_, rfl⟩
  have hrz : ∀ ty, (Builtin.append_ #[22, 3] ty #[.slice (some ⟨g, 0, none⟩) i c, .int .i64 ((n : Int) + 1 - (i : Int))]).run Try.prog w = .ok (.slice (some ⟨w.heap.size, 0, none⟩) (n + 1) G) W1 := fun ty => by
    have h := Lib.run_append_grow_zeros w 22 3 ty 29 i0 _ .i64 .i64 Try.underlying22 Try.underlying3 hi0 hz0 (some ⟨g, 0, none⟩) i c (cur.toList.take (i * 4)) hold (n + 1 - i) (by omega) (by omega) (by omega) (by omega) (by rw [hzb]; omega) (by rw [hzb, show i + (n + 1 - i) = n + 1 by omega]; exact growslice_fits hroom hbig)
    rw [show i + (n + 1 - i) = n + 1 by omega] at h
    rw [show (n : Int) + 1 - (i : Int) = ((n + 1 - i : Nat) : Int) by omega, h, hW1, hROW, hG, hZ]
  have hGn : n + 1 ≤ G := by rw [hG]; exact grownCap_ge w _ _ _
  have hGm : G ≤ maxLen := by rw [hG]; exact grownCap_le_maxLen w (n + 1) c 29 (by unfold maxLen; omega)
  have hRs : ROW.size = G * 4 := by
    rw [hROW]
    have hzk : ∀ k, (Builtin.zeroCells Z.cells k).size = k * 4 := fun k => by simp [Builtin.zeroCells, hZ, Value.cells]
    simp only [Array.size_append, hzk, List.size_toArray, List.length_take, Array.length_toList, hsz]
    omega
  have hg2 : W1.heap[w.heap.size]? = some (.cells ROW 29 (0, 0)) := by rw [hW1]; exact blk_new w.drew _
  have hb1 : Below w.heap.size w W1 := by rw [hW1]; exact below_alloc (below_drew1 (Below.refl _ _)) _
  have hv1 : W1.heap[vb]? = some (.cells vs.toArray 29 (0, 0)) := blk_below hv hb1
  have hg1 : W1.heap[g]? = some (.cells cur 29 (0, 0)) := blk_below hg hb1
  obtain ⟨R2, hR2⟩ : ∃ R2 : List Value, R2 = ROW.toList.take (i * 4) ++ vs ++ ROW.toList.drop (i * 4 + vs.length) := ⟨_, rfl⟩
  obtain ⟨W2, hW2⟩ : ∃ W2, W2 = W1.setRow w.heap.size R2.toArray := ⟨_, rfl⟩
  have hcp2 : ∀ ty dl dc, 0 < dl → (Builtin.copy_ #[22, 22] ty #[.slice (some ⟨w.heap.size, i * 4, none⟩) dl dc, .slice (some ⟨vb, 0, none⟩) 1 vc]).run Try.prog W1 = .ok (goInt ((1 : Nat) : Int)) W2 := fun ty dl dc h1 => by
    have hmin : Nat.min 1 dl = 1 := by simp only [Nat.min_def]; split <;> omega
    have := run_copy_rowN (P := Try.prog) W1 22 22 ty 29 w.heap.size (i * 4) dl dc ⟨vb, 0, none⟩ 1 vc 4 ROW 29 vs Try.underlying22 hinf hg2 (by rw [hmin, hvl])
      (fun j v hj => by
        rw [Addr.add_lit, Nat.zero_add, cell_at hv1]
        simpa using hj) (by rw [hvl, hRs]; omega) h1v
    rw [hmin] at this
    rw [this, hW2, hR2]
  have hR2l : R2.length = G * 4 := by
    rw [hR2]
    simp only [List.length_append, List.length_take, List.length_drop, Array.length_toList, hRs, hvl]; omega
  obtain ⟨mid, hmid⟩ : ∃ mid, mid = (cur.toList.drop (i * 4)).take ((n - i) * 4) := ⟨_, rfl⟩
  have hml : mid.length = (n - i) * 4 := by rw [hmid, List.length_take, List.length_drop, Array.length_toList, hsz]; omega
  have hm1 : ∀ v ∈ mid, v.oneCell' = true := by
    intro v hv2
    refine h1c v ?_
    rw [hmid, List.take_drop] at hv2
    have := List.mem_of_mem_drop hv2
    rwa [show i * 4 + (n - i) * 4 = n * 4 by omega] at this
  have hg22 : W2.heap[w.heap.size]? = some (.cells R2.toArray 29 (0, 0)) := by rw [hW2]; exact setRow_heap _ _ ROW _ _ _ hg2
  have hg12 : W2.heap[g]? = some (.cells cur 29 (0, 0)) := by rw [hW2, setRow_other _ _ g _ (by omega)]; exact hg1
  obtain ⟨R3, hR3⟩ : ∃ R3 : List Value, R3 = R2.take ((i + 1) * 4) ++ mid ++ R2.drop ((i + 1) * 4 + mid.length) := ⟨_, rfl⟩
  obtain ⟨W3, hW3⟩ : ∃ W3, W3 = W2.drew.setRow w.heap.size R3.toArray := ⟨_, rfl⟩
  have hcp3 : ∀ ty dl dc sl sc, dl = n - i → sl = n - i → (Builtin.copy_ #[22, 22] ty #[.slice (some ⟨w.heap.size, (i + 1) * 4, none⟩) dl dc, .slice (some ⟨g, i * 4, none⟩) sl sc]).run Try.prog W2.drew = .ok (goInt ((n - i : Nat) : Int)) W3 := fun ty dl dc sl sc h1 h2 => by
    subst h1; subst h2
    have hmin : Nat.min (n - i) (n - i) = n - i := by simp only [Nat.min_def]; split <;> omega
    have := run_copy_rowN (P := Try.prog) W2.drew 22 22 ty 29 w.heap.size ((i + 1) * 4) (n - i) dc ⟨g, i * 4, none⟩ (n - i) sc 4 _ 29 mid Try.underlying22 hinf (show W2.drew.heap[w.heap.size]? = _ from hg22) (by rw [hmin, hml])
      (fun j v hj => by
        rw [Addr.add_lit, cell_at (show W2.drew.heap[g]? = _ from hg12)]
        rw [hmid, List.getElem?_take] at hj
        split at hj
        · rw [List.getElem?_drop] at hj; rw [← Array.getElem?_toList]; exact hj
        · cases hj) (by rw [hml, List.size_toArray, hR2l]; omega) hm1
    rw [hmin] at this
    rw [this, hW3, hR3]
  have hfin : W3.heap[w.heap.size]? = some (.cells R3.toArray 29 (0, 0)) := by rw [hW3]; exact setRow_heap _ _ R2.toArray _ _ _ hg22
  have hR3l : R3.length = G * 4 := by
    rw [hR3]
    simp only [List.length_append, List.length_take, List.length_drop, hR2l, hml]; omega
  have hb3 : Below w.heap.size w W3 := by
    rw [hW3, hW2]
    exact below_setRow (below_drew1 (below_setRow hb1 (Nat.le_refl _) _)) (Nat.le_refl _) _
  have hR3t : R3.take ((n + 1) * 4) = cur.toList.take (i * 4) ++ vs ++ mid := by
    have e0 : ROW.toList.take (i * 4) = cur.toList.take (i * 4) := by
      rw [hROW]
      simp only [Array.toList_append, List.append_assoc]
      rw [List.take_append_of_le_length (by simp only [List.length_take, Array.length_toList, hsz]; omega)]
      simp only [List.take_take, Nat.min_self]
    have e1 : R2.take ((i + 1) * 4) = cur.toList.take (i * 4) ++ vs := by
      have h : (i + 1) * 4 = (cur.toList.take (i * 4) ++ vs).length := by rw [List.length_append, hvl, List.length_take, Array.length_toList, hsz]; omega
      rw [hR2, e0, h, List.take_left]
    have h2 : (n + 1) * 4 = (R2.take ((i + 1) * 4) ++ mid).length := by rw [List.length_append, List.length_take, hR2l, hml]; omega
    rw [hR3, h2, List.take_left, e1]
  rw [← hmid]
  have mixed : Try.prog.follows .mixedOrders = true := by kernel_rfl
  have hw1 : IntKind.i64.wrap ((i : Int) + 1) = (i : Int) + 1 := by rw [IntKind.wrap_i64]; omega
  have hbb1 : (0 : Int) ≤ (i : Int) + 1 := by omega
  have hin : i ≤ n := by omega
  have htn : ((i : Int) + 1).toNat = i + 1 := by omega
  have hG63 : G ≤ 9223372036854775807 := by unfold maxLen at hGm; omega
  have hGi : ¬ (G = i) := by omega
  have hGim : ¬ (G = i + 1) := by omega
  have hci : ¬ (c = i) := by omega
  have HF := Aside0.mk hfin
  have HL := Aside0.mk hR3l
  have HT := Aside0.mk hR3t
  have HBB := Aside0.mk hb3
  have HGn := Aside0.mk hGn
  have HGm := Aside0.mk hGm
  clear hfin hR3l hR3t hb3 hW3 hR3 hg12 hg22 hm1 hml hmid hR2l hW2 hR2 hg1 hv1 hb1 hg2 hRs hGm hW1 hROW hZ4 hZ hG hold hvw hgw hinf hzb hzs hz0 hi0 h1c h1v hsz
  go_enter Try.func26, Try.ntmps26
  go_wp2_with (first
    | ((with_reducible refine gate_builtin (b := .append) (xs := #[.tmp 34, .tmp 39]) rfl ?_); refine Lib.wpList_append_run _ rfl _ _ _ _ rfl _ _ rfl rfl _ _ (hrz _) ?_)
    | ((with_reducible refine gate_builtin (b := .copy) (xs := #[.tmp 43, .tmp 44]) rfl ?_); refine wpList_copy_runI _ rfl _ _ 22 22 rfl _ _ rfl rfl (v' := goInt ((1 : Nat) : Int)) (w' := W2) ?hr ?_; (case hr => exact hcp2 _ _ _ (by omega))))
  go_region_law_o (refine step_copy_runI rfl _ _ 22 22 rfl _ _ (by simp [Act.eval, Act.put]) (by simp [Act.eval, Act.put]) (hcp3 _ _ _ _ _ (by omega) (by omega)) ?_)
  go_wp2
  go_ret
  exact ⟨G, R3, rfl, HF.out, HL.out, HGn.out, HGm.out, HT.out, HBB.out⟩
/-- An entry's cells. -/
def ce (x : S29) : List Value := [.string x.f0, .int .i64 x.f1, .bool x.f2, .string x.f3]
theorem ce_one (x : S29) : ∀ v ∈ ce x, v.oneCell' = true := by
  intro v hv
  simp only [ce, List.mem_cons, List.not_mem_nil, or_false] at hv
  rcases hv with rfl | rfl | rfl | rfl <;> rfl
theorem reps_flat {R : S29 → List Value → Prop} (hR : ∀ x cs, R x cs → cs = ce x) : ∀ {l : List S29} {cs : List Value}, Reps R 4 l cs → cs = l.flatMap ce
  | [], cs, h => by
    have := h.1
    simp only [List.length_nil, Nat.zero_mul] at this
    rw [List.eq_nil_of_length_eq_zero this]; rfl
  | x :: t, cs, h => by
    have h0 := hR _ _ (h.2 0 x rfl)
    simp only [Nat.zero_mul, List.drop_zero] at h0
    have ht : Reps R 4 t (cs.drop 4) := by
      refine ⟨by have := h.1; rw [List.length_drop, this, List.length_cons]; omega, fun j p hj => ?_⟩
      have := h.2 (j + 1) p (by simpa using hj)
      rw [List.drop_drop]
      rwa [show (j + 1) * 4 = 4 + j * 4 by omega] at this
    rw [List.flatMap_cons, ← reps_flat hR ht, ← h0, List.take_append_drop]
theorem flat_reps {R : S29 → List Value → Prop} (hR : ∀ x, R x (ce x)) : ∀ (l : List S29), Reps R 4 l (l.flatMap ce)
  | [] => Reps.none _ _
  | x :: t => by
    have ih := flat_reps hR t
    refine ⟨by rw [List.flatMap_cons, List.length_append, ih.1, List.length_cons]; simp only [ce, List.length_cons, List.length_nil]; omega, fun j p hj => ?_⟩
    cases j with
    | zero =>
      obtain rfl : x = p := by simpa using hj
      exact hR x
    | succ j =>
      have := ih.2 j p (by simpa using hj)
      rw [List.flatMap_cons, show (j + 1) * 4 = (ce x).length + j * 4 by simp only [ce, List.length_cons, List.length_nil]; omega, ← List.drop_drop, List.drop_left]
      exact this
theorem flat_length (l : List S29) : (l.flatMap ce).length = l.length * 4 := (flat_reps (R := fun _ _ => True) (fun _ => trivial) l).1
theorem flat_one (l : List S29) : ∀ v ∈ l.flatMap ce, v.oneCell' = true := by
  intro v hv
  obtain ⟨x, _, hx⟩ := List.mem_flatMap.1 hv
  exact ce_one x v hx
theorem flat_take (l : List S29) (i : Nat) (h : i ≤ l.length) : (l.flatMap ce).take (i * 4) = (l.take i).flatMap ce := by
  have e : l.flatMap ce = (l.take i).flatMap ce ++ (l.drop i).flatMap ce := by rw [← List.flatMap_append, List.take_append_drop]
  have hl : i * 4 = ((l.take i).flatMap ce).length := by rw [flat_length, List.length_take]; omega
  rw [e, hl, List.take_left]
theorem flat_drop (l : List S29) (i : Nat) (h : i ≤ l.length) : (l.flatMap ce).drop (i * 4) = (l.drop i).flatMap ce := by
  have e : l.flatMap ce = (l.take i).flatMap ce ++ (l.drop i).flatMap ce := by rw [← List.flatMap_append, List.take_append_drop]
  have hl : i * 4 = ((l.take i).flatMap ce).length := by rw [flat_length, List.length_take]; omega
  rw [e, hl, List.drop_left]
theorem k_M {w : World} {base : Nat} {ok : Nat → Prop} (x : S29) : k29.M w base ok x (ce x) := k29_mkM w base ok x
def insL (l : List S29) (i : Nat) (e : S29) : List S29 := l.take i ++ e :: l.drop i
theorem insL_length (l : List S29) (i : Nat) (e : S29) : (insL l i e).length = l.length + 1 := by
  unfold insL
  rw [List.length_append, List.length_cons, List.length_take, List.length_drop]; omega
theorem insL_flat (l : List S29) (i : Nat) (e : S29) (h : i ≤ l.length) : (l.flatMap ce).take (i * 4) ++ ce e ++ ((l.flatMap ce).drop (i * 4)) = (insL l i e).flatMap ce := by
  unfold insL
  rw [flat_take l i h, flat_drop l i h, List.flatMap_append, List.flatMap_cons, List.append_assoc]
/-- slices.Insert(s, i, e), s a row of the call's own. -/
theorem Insert.calls (base : Nat) (ok : Nat → Prop) (u : Value) (l : List S29) (i : Nat) (e : S29) (vb vc : Nat) (w : World) (HO : Kd.R k29 29 w base ok u l) (hi : i ≤ l.length) (hv : w.heap[vb]? = some (.cells (ce e).toArray 29 (0, 0))) (hvb : some vb ≠ u.ownBlock) (hfresh : ∀ k, w.heap.size ≤ k → ok k) (hbase : base ≤ w.heap.size) (hbig : (l.length + 1) * 48 ≤ 140737488355328) (hvc : 1 ≤ vc) :
    Calls Try.prog 26 #[u, .int .i64 i, .slice (some ⟨vb, 0, none⟩) 1 vc] w fun x w' => ∃ u' : Value, x = .returned u' ∧ Kd.R k29 29 w' base ok u' (insL l i e) ∧ w.grownBy w' u.ownBlock ∧ (u'.ownBlock = u.ownBlock ∨ ∃ b, u'.ownBlock = some b ∧ w.heap.size ≤ b) := by
  obtain ⟨h0, inner, ho, hr⟩ := HO
  have hin : inner = l.flatMap ce := reps_flat (fun x cs h => k29_openM h) hr
  rcases Nat.lt_or_ge i l.length with hlt | hge
  · rcases ho.2 with ⟨_, hn⟩ | ⟨g, cap, cur, hu, hbg, hh, hnc, hcm, hcs, hct⟩
    · omega
    · have hcm' : cap ≤ 9223372036854775807 := by unfold maxLen at hcm; omega
      have hmid : (cur.toList.drop (i * 4)).take ((l.length - i) * 4) = (l.flatMap ce).drop (i * 4) := by
        rw [List.take_drop, show i * 4 + (l.length - i) * 4 = l.length * 4 by omega]
        rw [show cur.toList.take (l.length * 4) = inner from hct, hin]
      have htk : cur.toList.take (i * 4) = (l.flatMap ce).take (i * 4) := by
        rw [← hin, ← show cur.toList.take (l.length * 4) = inner from hct, List.take_take, Nat.min_eq_left (by omega)]
      have h1c : ∀ v ∈ cur.toList.take (l.length * 4), v.oneCell' = true := by rw [show cur.toList.take (l.length * 4) = inner from hct, hin]; exact flat_one l
      have hgne : vb ≠ g := by rintro rfl; exact hvb (by rw [hu]; rfl)
      have hob : u.ownBlock = some g := by rw [hu]; rfl
      subst hu
      rcases Nat.lt_or_ge cap (l.length + 1) with hroom | hroom
      · refine (insert_grow g l.length cap i vb vc cur (ce e) w hlt hnc hroom hbig hh hcs hv rfl h1c (ce_one e)).mono ?_
        rintro x w' ⟨G, row, rfl, hg2, hrl, hGn, hGm, hrt, hb⟩
        refine ⟨_, rfl, ⟨fun k hk => ?_, row.take ((l.length + 1) * 4), ?_, ?_⟩, grown_of_below hb _, .inr ⟨w.heap.size, rfl, Nat.le_refl _⟩⟩
        · have : w.heap.size = k := by simpa [Value.ownBlock] using hk
          exact hfresh k (by omega)
        · rw [insL_length]
          refine ⟨by rw [List.length_take, hrl]; show _ = (l.length + 1) * 4; omega, .inr ⟨w.heap.size, G, row.toArray, rfl, hbase, hg2, hGn, hGm, by rw [List.size_toArray, hrl]; rfl, rfl⟩⟩
        · rw [hrt, hmid, htk, insL_flat l i e hi]
          exact flat_reps (fun x => k_M x) _
      · refine (insert_shift g l.length cap i vb vc cur (ce e) w hlt hroom hcm' hgne hh hcs hv rfl h1c (ce_one e)).mono ?_
        rintro x w' ⟨rfl, rfl⟩
        have hrow : (cur.toList.take (i * 4) ++ ce e ++ (cur.toList.drop (i * 4)).take ((l.length - i) * 4) ++ cur.toList.drop ((l.length + 1) * 4)) = (insL l i e).flatMap ce ++ cur.toList.drop ((l.length + 1) * 4) := by rw [hmid, htk, insL_flat l i e hi]
        have hln : ((insL l i e).flatMap ce).length = (l.length + 1) * 4 := by rw [flat_length, insL_length]
        rw [hrow]
        have hgd : w.drew.heap[g]? = some (.cells cur 29 (0, 0)) := hh
        refine ⟨_, rfl, ⟨fun k hk => h0 k hk, (insL l i e).flatMap ce, ?_, flat_reps (fun x => k_M x) _⟩, ?_, .inl rfl⟩
        · rw [insL_length]
          have e1 : cur.toList.length = cap * 4 := Array.length_toList.trans hcs
          refine ⟨hln, .inr ⟨g, cap, _, rfl, hbg, setRow_heap _ g cur _ _ _ hgd, hroom, hcm, ?_, ?_⟩⟩
          · rw [List.size_toArray, List.length_append, hln, List.length_drop, e1]
            show _ = cap * 4
            omega
          · show (((insL l i e).flatMap ce ++ cur.toList.drop ((l.length + 1) * 4)).toArray).toList.take ((l.length + 1) * 4) = _
            rw [List.toList_toArray, ← hln, List.take_left]
        · exact ⟨rfl, rfl, rfl, by rw [setRow_size]; exact Nat.le_refl _, fun k hk hne => setRow_other _ g k _ (by rintro rfl; exact hne hob.symm)⟩
  · obtain rfl : i = l.length := by omega
    have HO0 : Kd.R k29 29 w base ok u l := ⟨h0, inner, ho, hr⟩
    obtain ⟨A, c0, hu, hA⟩ : ∃ A c0, u = .slice A l.length c0 ∧ (A = none ∨ l.length ≤ c0 ∧ ∃ g, A = some ⟨g, 0, none⟩) := by
      rcases ho.2 with ⟨h1, h2⟩ | ⟨g, cap, cur, h1, _, _, h2, _⟩
      · exact ⟨none, 0, by rw [h2]; exact h1, .inl rfl⟩
      · exact ⟨_, cap, h1, .inr ⟨h2, g, rfl⟩⟩
    subst hu
    have HO := Aside0.mk HO0
    have HRd : Aside0 (ReadsRow (k29.K w) 4 w (some ⟨vb, 0, none⟩) 1 [e]) := by
      refine ⟨rfl, by simp, fun _ => ⟨⟨vb, 0, none⟩, rfl, fun j p hj => ?_⟩⟩
      cases j with
      | zero =>
        obtain rfl : e = p := by simpa using hj
        refine ⟨ce e, rfl, k29_mk w e, fun q v hq => ?_⟩
        rw [Addr.add_lit, cell_at hv]
        simpa using hq
      | succ j => simp at hj
    have HFr := Aside0.mk hfresh
    have HBs := Aside0.mk hbase
    have HBg := Aside0.mk hbig
    have hu22 := Try.underlying22
    clear hfresh hbase hbig h0 hin hr ho HO0 hge hi hvb hv
    rcases hA with rfl | ⟨hcl, g, rfl⟩
    · go_enter Try.func26, Try.ntmps26
      go_wp2_with ((with_reducible refine gate_builtin (b := .append) (xs := #[.tmp 23, .tmp 24]) rfl ?_); refine Kd.R_append_rows k29 (Rr := k29.K w) (w0 := w) base rfl (.tmp 23) (.tmp 24) 22 29 _ 48 rfl Try.underlying22 info29 rfl (by decide) (by omega) (.slice none l.length c0) l [e] (some ⟨vb, 0, none⟩) 1 vc ok (fun _ => False) rfl rfl HO.out HRd.out (fun x cs h => by obtain rfl := k29_open h; exact k_M x) (fun _ h => h.elim) HFr.out (Below.refl _ _) HBs.out HBg.out ?_; intro v1 w1 ho hb hg hat; have HR := Aside0.mk ho; have HG := Aside0.mk hg; have HAt := Aside0.mk hat; clear ho hb hg hat)
      go_ret
      exact ⟨_, rfl, by unfold insL; rw [List.take_length, List.drop_length]; exact HR.out, HG.out, HAt.out⟩
    · by_cases hc0 : c0 = l.length
      · subst hc0
        go_enter Try.func26, Try.ntmps26
        go_wp2_with ((with_reducible refine gate_builtin (b := .append) (xs := #[.tmp 23, .tmp 24]) rfl ?_); refine Kd.R_append_rows k29 (Rr := k29.K w) (w0 := w) base rfl (.tmp 23) (.tmp 24) 22 29 _ 48 rfl Try.underlying22 info29 rfl (by decide) (by omega) (.slice (some ⟨g, 0, none⟩) l.length l.length) l [e] (some ⟨vb, 0, none⟩) 1 vc ok (fun _ => False) rfl rfl HO.out HRd.out (fun x cs h => by obtain rfl := k29_open h; exact k_M x) (fun _ h => h.elim) HFr.out (Below.refl _ _) HBs.out HBg.out ?_; intro v1 w1 ho hb hg hat; have HR := Aside0.mk ho; have HG := Aside0.mk hg; have HAt := Aside0.mk hat; clear ho hb hg hat)
        go_ret
        exact ⟨_, rfl, by unfold insL; rw [List.take_length, List.drop_length]; exact HR.out, HG.out, HAt.out⟩
      · have hc1 : l.length < c0 := by omega
        go_enter Try.func26, Try.ntmps26
        go_wp2_with ((with_reducible refine gate_builtin (b := .append) (xs := #[.tmp 23, .tmp 24]) rfl ?_); refine Kd.R_append_rows k29 (Rr := k29.K w) (w0 := w) base rfl (.tmp 23) (.tmp 24) 22 29 _ 48 rfl Try.underlying22 info29 rfl (by decide) (by omega) (.slice (some ⟨g, 0, none⟩) l.length c0) l [e] (some ⟨vb, 0, none⟩) 1 vc ok (fun _ => False) rfl rfl HO.out HRd.out (fun x cs h => by obtain rfl := k29_open h; exact k_M x) (fun _ h => h.elim) HFr.out (Below.refl _ _) HBs.out HBg.out ?_; intro v1 w1 ho hb hg hat; have HR := Aside0.mk ho; have HG := Aside0.mk hg; have HAt := Aside0.mk hat; clear ho hb hg hat)
        go_ret
        exact ⟨_, rfl, by unfold insL; rw [List.take_length, List.drop_length]; exact HR.out, HG.out, HAt.out⟩
end Go.Proofs.Ytdkdnfgpgedglaa.P
