import Derived.Test.YtdkdnfgpgedglaaQInsert
import Derived.Test.YtdkdnfgpgedglaaQEntrySpec
import Derived.Test.YtdkdnfgpgedglaaPx2
import Derived.Deep.RegionHeld3
namespace Go.Proofs.Ytdkdnfgpgedglaa.P
open Go.RowKit Go.Lib Go.Proofs.YtdkdnfgpgedglaaW.PrintWords Go.Proofs.YtdkdnfgpgedglaaW.PrintLast Go.Proofs.YtdkdnfgpgedglaaW.PrintMore
set_option linter.unusedVariables false
set_option linter.unusedSimpArgs false
attribute [local go_sem high] string_leq string_geq string_gtr
/-! The heap's methods -/
/-- A heap at block g: its entries in a row of its own, its bytes; what is F is its own. -/
def HpF (w : World) (g : Nat) (l : List S29) (n : Int) (F : Nat → Prop) : Prop :=
  ∃ u, w.heap[g]? = some (.cells #[u, .int .i64 n] 49 (0, 0)) ∧ F g ∧ Kd.R k29 29 w 0 (fun k => F k ∧ k ≠ g) u l
/-- The same, read. -/
def HpR (w : World) (g : Nat) (l : List S29) (n : Int) : Prop :=
  ∃ A c, w.heap[g]? = some (.cells #[.slice A l.length c, .int .i64 n] 49 (0, 0)) ∧ l.length ≤ c ∧ Kd.C k29 w A l.length l
theorem HpF.reads {w : World} {g : Nat} {l : List S29} {n : Int} {F : Nat → Prop} (h : HpF w g l n F) : HpR w g l n := by
  obtain ⟨u, h1, _, h3⟩ := h
  obtain ⟨A, c, rfl, h4, h5⟩ := Kd.R_reads h3
  exact ⟨A, c, h1, h4, h5⟩
theorem HpR.below {w w' : World} {g : Nat} {l : List S29} {n : Int} (h : HpR w g l n) (hb : Below w.heap.size w w') : HpR w' g l n := by
  obtain ⟨A, c, h1, h4, h5⟩ := h
  exact ⟨A, c, blk_below h1 hb, h4, Kd.C_below h5 hb⟩
theorem HpF.move {w w' : World} {g : Nat} {l : List S29} {n : Int} {F : Nat → Prop} (h : HpF w g l n F) (hm : ∀ k, F k → w'.heap[k]? = w.heap[k]?) : HpF w' g l n F := by
  obtain ⟨u, h1, h2, h3⟩ := h
  exact ⟨u, (hm g h2).trans h1, h2, Kd.R_move h3 (fun k hk => hm k hk.1)⟩
set_option maxHeartbeats 4000000 in
set_option maxRecDepth 100000 in
theorem HNew (w : World) : Calls Try.prog 10 #[] w fun e w' => ∃ g : Nat, e = .returned (.pointer (some ⟨g, 0, none⟩)) ∧ HpF w' g [] 0 (fun k => k = g) ∧ w.heap.size ≤ g ∧ g < w'.heap.size ∧ Below w.heap.size w w' := by
  go_enter Try.func10, Try.ntmps10
  go_wp2
  go_ret
  exact ⟨w.heap.size, rfl, ⟨.slice none 0 0, blk_new w _, rfl, Kd.R_nil _ _ _ _ _⟩, Nat.le_refl _, blk_lt (blk_new w _), below_alloc (Below.refl _ _) _⟩
set_option maxHeartbeats 4000000 in
set_option maxRecDepth 100000 in
theorem HLen (w : World) (g : Nat) (l : List S29) (n : Int) (h : HpR w g l n) : Calls Try.prog 20 #[.pointer (some ⟨g, 0, none⟩)] w fun e w' => e = .returned (.int .i64 (l.length : Int)) ∧ Below w.heap.size w w' := by
  obtain ⟨A, c, h1, h2, h3⟩ := h
  have B := Aside0.mk h1
  have hc0 := bc0 B
  have hc1 := bc1 B
  have hf0 := bf_ B 0
  clear h1 h3
  go_enter Try.func20, Try.ntmps20
  go_wp2
  go_ret
  exact ⟨rfl, Below.refl _ _⟩
set_option maxHeartbeats 4000000 in
set_option maxRecDepth 100000 in
theorem HBytes (w : World) (g : Nat) (l : List S29) (n : Int) (h : HpR w g l n) : Calls Try.prog 21 #[.pointer (some ⟨g, 0, none⟩)] w fun e w' => e = .returned (.int .i64 n) ∧ Below w.heap.size w w' := by
  obtain ⟨A, c, h1, h2, h3⟩ := h
  have B := Aside0.mk h1
  have hc0 := bc0 B
  have hc1 := bc1 B
  clear h1 h3
  go_enter Try.func21, Try.ntmps21
  go_wp2
  go_ret
  exact ⟨rfl, Below.refl _ _⟩
set_option maxHeartbeats 4000000 in
set_option maxRecDepth 100000 in
theorem HAll (w : World) (g : Nat) (l : List S29) (n : Int) (h : HpR w g l n) (hl : l.length < 2932031007402) : Calls Try.prog 17 #[.pointer (some ⟨g, 0, none⟩)] w fun e w' => ∃ v : Value, e = .returned v ∧ Kd.R k29 29 w' w.heap.size (fun _ => True) v l ∧ Below w.heap.size w w' := by
  obtain ⟨A, c, h1, h2, h3⟩ := h
  have hf : api_Entry_23.f l = some l := by unfold api_Entry_23.f; rw [if_pos hl]
  have HF := Aside0.mk hf
  have B := Aside0.mk h1
  have hc0 := bc0 B
  have hc1 := bc1 B
  have HR := Aside0.mk h3
  have HC := Aside0.mk h2
  clear h1 h3 h2 hf
  go_enter Try.func17, Try.ntmps17
  go_wp2_with ((with_reducible refine gate_callee (f := 23) rfl ?_); refine goesL_ (some 7) rfl rfl Try.func23 (by kernel_rfl) rfl #[.slice A l.length c] rfl (by (try simp only [maps_]); first | done | rfl) ?_; (with_reducible refine (api_Entry_23.calls A c l l _ HR.out HC.out HF.out).mono ?_); rintro e w1 ⟨v, rfl, ho, hb⟩; refine ⟨_, rfl, ?_⟩; have HO := Aside0.mk ho; have HB := Aside0.mk hb; clear ho hb)
  go_ret
  exact ⟨_, rfl, HO.out, HB.out⟩
set_option maxHeartbeats 4000000 in
set_option maxRecDepth 100000 in
theorem HGet_end (k : Nat) (w : World) (g : Nat) (l : List S29) (n : Int) (key : ByteArray) (seq : Int) (i : Nat) (h : HpR w g l n) (hF : entry_First.f k l key seq = some (i : Int)) (hi : i = l.length) :
    Calls Try.prog 14 #[.pointer (some ⟨g, 0, none⟩), .string key, .int .i64 seq] w fun e w' => e = .returned (.tuple #[.agg #[.string ⟨#[]⟩, .int .i64 0, .bool false, .string ⟨#[]⟩], .bool false]) ∧ Below w.heap.size w w' := by
  obtain ⟨A, c, h1, h2, h3⟩ := h
  have HF := Aside0.mk hF
  have B := Aside0.mk h1
  have HB := Aside0.mk (Below.refl w.heap.size w)
  have HR := Aside0.mk h3
  have HC := Aside0.mk h2
  clear h1 h3 h2 hF
  subst hi
  go_enter Try.func14, Try.ntmps14
  go_wp2_with (first | ((with_reducible refine gate_dst (N := 6) rfl ?_); refine box_event ?hg (N := 6) ?hd (cs := #[.string ⟨#[]⟩, .int .i64 0, .bool false, .string ⟨#[]⟩]) (t := 29) ?hr ?_; (case hd => rfl); (case hg => rfl); (case hr => first | (go_simp; done) | (go_simp; rfl)); intro gb hgb w1 hbox hb; have n0_ := bb_ B hb; have n1_ := bs_ HB hb; have n2_ := gn_ B hgb; have n3_ := Aside0.mk hbox; have GB := gz_ HB hgb; clear B HB; have B := n0_; have HB := n1_; have NB := n2_; have BX := n3_; clear n0_ n1_ n2_ n3_ hb hbox hgb; have hc0 := bc0 B; have hc1 := bc1 B) | ((with_reducible refine gate_callee (f := 24) rfl ?_); refine goesL_ (some 15) rfl rfl Try.func24 (by kernel_rfl) rfl #[.slice A l.length c, .string key, .int .i64 seq] rfl (by (try simp only [maps_]); first | done | rfl) ?_; (with_reducible refine (entry_First.calls k A c l key seq _ _ (cb_ HR HB) HC.out HF.out).mono ?_); rintro e w2 ⟨rfl, hb⟩; refine ⟨_, rfl, ?_⟩; have n0_ := bb_ B hb; have n1_ := bs_ HB hb; have n2_ := bb_ BX hb; clear B HB BX hc0 hc1; have B := n0_; have HB := n1_; have BX := n2_; clear n0_ n1_ n2_ hb; have hc0 := bc0 B; have hc1 := bc1 B; have hz0 := bc0 BX; have hz1 := bc1 BX; have hz2 := bc2 BX; have hz3 := bc3 BX; have hy0 := bf_ BX 0; have hy1 := bf_ BX 1; have hy2 := bf_ BX 2; have hy3 := bf_ BX 3))
  refine bodyPost_ret (results_ct rfl _ _ gb 29 #[.string ⟨#[]⟩, .int .i64 0, .bool false, .string ⟨#[]⟩] (0, 0) _ rfl (by refine blk_put (cs := #[.string ⟨#[]⟩, .int .i64 0, .bool false, .string ⟨#[]⟩]) ?_ 3 _ rfl; refine blk_put (cs := #[.string ⟨#[]⟩, .int .i64 0, .bool false, .string ⟨#[]⟩]) ?_ 2 _ rfl; refine blk_put (cs := #[.string ⟨#[]⟩, .int .i64 0, .bool false, .string ⟨#[]⟩]) ?_ 1 _ rfl; refine blk_put (cs := #[.string ⟨#[]⟩, .int .i64 0, .bool false, .string ⟨#[]⟩]) ?_ 0 _ rfl; exact BX.out) Try.underlying29 rfl (by kernel_rfl)) rfl ?_
  exact ⟨rfl, HB.out.setCell GB.out _ |>.setCell GB.out _ |>.setCell GB.out _ |>.setCell GB.out _⟩
set_option maxHeartbeats 4000000 in
set_option maxRecDepth 100000 in
theorem HGet_key (k : Nat) (w : World) (g : Nat) (l : List S29) (n : Int) (key : ByteArray) (seq : Int) (i : Nat) (h : HpR w g l n) (hF : entry_First.f k l key seq = some (i : Int)) (hi : i < l.length) (hk : (rd_T29 l (i : Int)).f0.toList ≠ key.toList) :
    Calls Try.prog 14 #[.pointer (some ⟨g, 0, none⟩), .string key, .int .i64 seq] w fun e w' => e = .returned (.tuple #[.agg #[.string ⟨#[]⟩, .int .i64 0, .bool false, .string ⟨#[]⟩], .bool false]) ∧ Below w.heap.size w w' := by
  obtain ⟨A, c, h1, h2, h3⟩ := h
  have HF := Aside0.mk hF
  have B := Aside0.mk h1
  have HB := Aside0.mk (Below.refl w.heap.size w)
  have HR := Aside0.mk h3
  have HC := Aside0.mk h2
  clear h1 h3 h2 hF
  have p0 : 0 ≤ (i : Int) := by omega
  have q0 : (i : Int) < (l.length : Int) := by omega
  have hk1 : ((rd_T29 l (i : Int)).f0.toList == key.toList) = false := beq_eq_false_iff_ne.2 hk
  have hk2 : ((rd_T29 l (i : Int)).f0.toList != key.toList) = true := bne_iff_ne.2 hk
  go_enter Try.func14, Try.ntmps14
  go_wp2_with (first | ((with_reducible refine gate_dst (N := 6) rfl ?_); refine box_event ?hg (N := 6) ?hd (cs := #[.string ⟨#[]⟩, .int .i64 0, .bool false, .string ⟨#[]⟩]) (t := 29) ?hr ?_; (case hd => rfl); (case hg => rfl); (case hr => first | (go_simp; done) | (go_simp; rfl)); intro gb hgb w1 hbox hb; have n0_ := bb_ B hb; have n1_ := bs_ HB hb; have n2_ := gn_ B hgb; have n3_ := Aside0.mk hbox; have GB := gz_ HB hgb; clear B HB; have B := n0_; have HB := n1_; have NB := n2_; have BX := n3_; clear n0_ n1_ n2_ n3_ hb hbox hgb; have hc0 := bc0 B; have hc1 := bc1 B) | ((with_reducible refine gate_callee (f := 24) rfl ?_); refine goesL_ (some 15) rfl rfl Try.func24 (by kernel_rfl) rfl #[.slice A l.length c, .string key, .int .i64 seq] rfl (by (try simp only [maps_]); first | done | rfl) ?_; (with_reducible refine (entry_First.calls k A c l key seq _ _ (cb_ HR HB) HC.out HF.out).mono ?_); rintro e w2 ⟨rfl, hb⟩; refine ⟨_, rfl, ?_⟩; have n0_ := bb_ B hb; have n1_ := bs_ HB hb; have n2_ := bb_ BX hb; clear B HB BX hc0 hc1; have B := n0_; have HB := n1_; have BX := n2_; clear n0_ n1_ n2_ hb; have hc0 := bc0 B; have hc1 := bc1 B; have hz0 := bc0 BX; have hz1 := bc1 BX; have hz2 := bc2 BX; have hz3 := bc3 BX; have hy0 := bf_ BX 0; have hy1 := bf_ BX 1; have hy2 := bf_ BX 2; have hy3 := bf_ BX 3; obtain ⟨ad, e_, hx0, hx1, hx2, hx3⟩ := at_T29 (Kd.C_below HR.out HB.out) (i : Int) (by omega) (by omega); cases e_; rw [Int.toNat_natCast] at hx0 hx1 hx2 hx3))
  refine bodyPost_ret (results_ct rfl _ _ gb 29 #[.string ⟨#[]⟩, .int .i64 0, .bool false, .string ⟨#[]⟩] (0, 0) _ rfl (by refine blk_put (cs := #[.string ⟨#[]⟩, .int .i64 0, .bool false, .string ⟨#[]⟩]) ?_ 3 _ rfl; refine blk_put (cs := #[.string ⟨#[]⟩, .int .i64 0, .bool false, .string ⟨#[]⟩]) ?_ 2 _ rfl; refine blk_put (cs := #[.string ⟨#[]⟩, .int .i64 0, .bool false, .string ⟨#[]⟩]) ?_ 1 _ rfl; refine blk_put (cs := #[.string ⟨#[]⟩, .int .i64 0, .bool false, .string ⟨#[]⟩]) ?_ 0 _ rfl; exact BX.out) Try.underlying29 rfl (by kernel_rfl)) rfl ?_
  exact ⟨rfl, HB.out.setCell GB.out _ |>.setCell GB.out _ |>.setCell GB.out _ |>.setCell GB.out _⟩
set_option maxHeartbeats 4000000 in
set_option maxRecDepth 100000 in
theorem HGet_some (k : Nat) (w : World) (g : Nat) (l : List S29) (n : Int) (key : ByteArray) (seq : Int) (i : Nat) (h : HpR w g l n) (hF : entry_First.f k l key seq = some (i : Int)) (hi : i < l.length) (hk : (rd_T29 l (i : Int)).f0.toList = key.toList) :
    Calls Try.prog 14 #[.pointer (some ⟨g, 0, none⟩), .string key, .int .i64 seq] w fun e w' => e = .returned (.tuple #[.agg #[.string (rd_T29 l (i : Int)).f0, .int .i64 (rd_T29 l (i : Int)).f1, .bool (rd_T29 l (i : Int)).f2, .string (rd_T29 l (i : Int)).f3], .bool true]) ∧ Below w.heap.size w w' := by
  obtain ⟨A, c, h1, h2, h3⟩ := h
  have HF := Aside0.mk hF
  have B := Aside0.mk h1
  have HB := Aside0.mk (Below.refl w.heap.size w)
  have HR := Aside0.mk h3
  have HC := Aside0.mk h2
  clear h1 h3 h2 hF
  have p0 : 0 ≤ (i : Int) := by omega
  have q0 : (i : Int) < (l.length : Int) := by omega
  have hk1 : ((rd_T29 l (i : Int)).f0.toList == key.toList) = true := beq_iff_eq.2 hk
  have hk2 : ((rd_T29 l (i : Int)).f0.toList != key.toList) = false := bne_eq_false_iff_eq.2 hk
  go_enter Try.func14, Try.ntmps14
  go_wp2_with (first | ((with_reducible refine gate_dst (N := 6) rfl ?_); refine box_event ?hg (N := 6) ?hd (cs := #[.string ⟨#[]⟩, .int .i64 0, .bool false, .string ⟨#[]⟩]) (t := 29) ?hr ?_; (case hd => rfl); (case hg => rfl); (case hr => first | (go_simp; done) | (go_simp; rfl)); intro gb hgb w1 hbox hb; have n0_ := bb_ B hb; have n1_ := bs_ HB hb; have n2_ := gn_ B hgb; have n3_ := Aside0.mk hbox; have GB := gz_ HB hgb; clear B HB; have B := n0_; have HB := n1_; have NB := n2_; have BX := n3_; clear n0_ n1_ n2_ n3_ hb hbox hgb; have hc0 := bc0 B; have hc1 := bc1 B) | ((with_reducible refine gate_callee (f := 24) rfl ?_); refine goesL_ (some 15) rfl rfl Try.func24 (by kernel_rfl) rfl #[.slice A l.length c, .string key, .int .i64 seq] rfl (by (try simp only [maps_]); first | done | rfl) ?_; (with_reducible refine (entry_First.calls k A c l key seq _ _ (cb_ HR HB) HC.out HF.out).mono ?_); rintro e w2 ⟨rfl, hb⟩; refine ⟨_, rfl, ?_⟩; have n0_ := bb_ B hb; have n1_ := bs_ HB hb; have n2_ := bb_ BX hb; clear B HB BX hc0 hc1; have B := n0_; have HB := n1_; have BX := n2_; clear n0_ n1_ n2_ hb; have hc0 := bc0 B; have hc1 := bc1 B; have hz0 := bc0 BX; have hz1 := bc1 BX; have hz2 := bc2 BX; have hz3 := bc3 BX; have hy0 := bf_ BX 0; have hy1 := bf_ BX 1; have hy2 := bf_ BX 2; have hy3 := bf_ BX 3; obtain ⟨ad, e_, hx0, hx1, hx2, hx3⟩ := at_T29 (Kd.C_below HR.out HB.out) (i : Int) (by omega) (by omega); cases e_; rw [Int.toNat_natCast] at hx0 hx1 hx2 hx3))
  refine bodyPost_ret (results_ct rfl _ _ gb 29 #[.string (rd_T29 l (i : Int)).f0, .int .i64 (rd_T29 l (i : Int)).f1, .bool (rd_T29 l (i : Int)).f2, .string (rd_T29 l (i : Int)).f3] (0, 0) _ rfl (by refine blk_put (cs := #[.string (rd_T29 l (i : Int)).f0, .int .i64 (rd_T29 l (i : Int)).f1, .bool (rd_T29 l (i : Int)).f2, .string ⟨#[]⟩]) ?_ 3 _ rfl; refine blk_put (cs := #[.string (rd_T29 l (i : Int)).f0, .int .i64 (rd_T29 l (i : Int)).f1, .bool false, .string ⟨#[]⟩]) ?_ 2 _ rfl; refine blk_put (cs := #[.string (rd_T29 l (i : Int)).f0, .int .i64 0, .bool false, .string ⟨#[]⟩]) ?_ 1 _ rfl; refine blk_put (cs := #[.string ⟨#[]⟩, .int .i64 0, .bool false, .string ⟨#[]⟩]) ?_ 0 _ rfl; exact BX.out) Try.underlying29 rfl (by kernel_rfl)) rfl ?_
  exact ⟨rfl, HB.out.setCell GB.out _ |>.setCell GB.out _ |>.setCell GB.out _ |>.setCell GB.out _⟩
set_option maxHeartbeats 4000000 in
set_option maxRecDepth 100000 in
theorem HCopy (w : World) (g : Nat) (l : List S29) (n : Int) (h : HpR w g l n) (hl : l.length < 2932031007402) : Calls Try.prog 11 #[.pointer (some ⟨g, 0, none⟩)] w fun e w' => ∃ (g' : Nat) (F : Nat → Prop), e = .returned (.pointer (some ⟨g', 0, none⟩)) ∧ HpF w' g' l n F ∧ (∀ k, F k → w.heap.size ≤ k ∧ k < w'.heap.size) ∧ Below w.heap.size w w' := by
  obtain ⟨A, c, h1, h2, h3⟩ := h
  have hf : api_Entry_23.f l = some l := by unfold api_Entry_23.f; rw [if_pos hl]
  have HF := Aside0.mk hf
  have B := Aside0.mk h1
  have hc0 := bc0 B
  have hc1 := bc1 B
  have HR := Aside0.mk h3
  have HC := Aside0.mk h2
  clear h1 h3 h2 hf
  go_enter Try.func11, Try.ntmps11
  go_wp2
  have hB0 : Below w.heap.size w w := Below.refl _ _
  go_region_held3 (fun w' => w'.cell? ⟨g, 0, none⟩ = some (.slice A l.length c) ∧ w'.cell? ⟨g, 1, none⟩ = some (.int .i64 n) ∧ Below w.heap.size w w')
    (first | exact ⟨hc0, hc1, below_drew hB0⟩ | exact ⟨q0, q1, q2⟩ | exact ⟨pw_cell_below (below_alloc (Below.refl _ _) _) q0, pw_cell_below (below_alloc (Below.refl _ _) _) q1, below_alloc q2 _⟩)
    (first | (go_at_call 23; refine (api_Entry_23.calls A c l l _ (Kd.C_below HR.out (below_drew hB0)) HC.out HF.out).mono ?_; rintro e w1 ⟨v, rfl, ho, hb⟩; obtain ⟨A', c', rfl⟩ := Kd.R_slice ho; have HO := Aside0.mk ho; have q0 := pw_cell_below hb hc0; have q1 := pw_cell_below hb hc1; have q2 := below_step (below_drew hB0) hb))
  have hnew : ∀ o, w1.heap.size < (w1.alloc o).heap.size := fun o => blk_lt (blk_new w1 o)
  go_wp2
  go_ret
  have hs : w.drew.heap.size = w.heap.size := rfl
  refine ⟨w1.heap.size, fun k => w.heap.size ≤ k ∧ k < (w1.alloc (.cells #[.slice A' l.length c', .int .i64 n] 49)).heap.size, rfl, ⟨.slice A' l.length c', blk_new _ _, ⟨q2.size, hnew _⟩, ?_⟩, fun k h => h, below_alloc q2 _⟩
  refine Kd.R_lower (Kd.R_alloc (Kd.R_mono (Kd.R_bound HO.out) (fun k hk => ⟨⟨hk.2.1, Nat.lt_trans hk.2.2.1 (hnew _)⟩, Nat.ne_of_lt hk.2.2.1⟩)) _) (Nat.zero_le _)
end Go.Proofs.Ytdkdnfgpgedglaa.P
