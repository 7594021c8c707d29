/- Proved: the law BatchLogs is true of every rows of writes, every three numbers. -/
import Derived.Test.YtnjbmcjhhadojaaQKnown12
import Derived.Test.YtnjbmcjhhadojaaQBatchLog
import Derived.Test.YtnjbmcjhhadojaaQBatchIsRef
import Derived.Test.YtnjbmcjhhadojaaPx17
namespace Go.Proofs.Ytnjbmcjhhadojaa.P
end Go.Proofs.Ytnjbmcjhhadojaa.P
namespace Go.Proofs.Ytnjbmcjhhadojaa.Q
end Go.Proofs.Ytnjbmcjhhadojaa.Q
namespace Go.Proofs.Ytnjbmcjhhadojaa.Pure
open Go.RowKit Go.Proofs.Ytnjbmcjhhadojaa.P Go.Proofs.YtnjbmcjhhadojaaW.PrintWords Go.Proofs.YtnjbmcjhhadojaaW.PrintLast Go.Proofs.YtnjbmcjhhadojaaW.PrintMore Go.Proofs.Ytnjbmcjhhadojaa.Q
set_option linter.unusedVariables false
set_option linter.unusedSimpArgs false
theorem wf_u16 {n : Int} (h : (Lit.int .u16 n).wf = true) : 0 ≤ n ∧ n ≤ 65535 := by
  simp only [Lit.wf, IntKind.min, IntKind.max, IntKind.signed, IntKind.bits, Bool.and_eq_true, decide_eq_true_eq] at h
  simpa using h
theorem rd_range (f : Nat → Int) (n i : Nat) (h : i < n) : rd ((List.range n).map f) (i : Int) = f i := by
  unfold rd
  rw [Int.toNat_natCast, List.getD_eq_getElem?_getD, List.getElem?_map, List.getElem?_range h]
  rfl
def endsN (g : Nat → List S49) (q j n : Nat) : List Int := (List.range n).map fun t => ((enN g q j (t + 1)).length : Int)
def countsN (g : Nat → List S49) (q j n : Nat) : List Int := (List.range n).map fun t => ((entsB (fromN g q j 0 (t + 1))).length : Int)
theorem endsN_len (g : Nat → List S49) (q j n : Nat) : (endsN g q j n).length = n := by simp [endsN]
theorem countsN_len (g : Nat → List S49) (q j n : Nat) : (countsN g q j n).length = n := by simp [countsN]
theorem enN_mono (g : Nat → List S49) (q j : Nat) {t n : Nat} (h : t ≤ n) : (enN g q j t).length ≤ (enN g q j n).length := by
  rw [show n = t + (n - t) by omega, enN_add, List.length_append]
  omega
theorem enN_ge (g : Nat → List S49) (q j n : Nat) : n ≤ (enN g q j n).length := by
  have := encB_ge (fromN g q j 0 n)
  rw [fromN_len] at this
  exact this
theorem seqN_jump (q j i : Nat) (hq : q ≤ 65535) (hi : i ≤ 20) (h : 0 < j ∧ j ≤ i) : wrap64 ((q : Int) + 1 + i + 1) = seqN q j i := by
  unfold seqN
  rw [if_pos h, w64 (by omega)]
theorem seqN_plain (q j i : Nat) (h : ¬ (0 < j ∧ j ≤ i)) : seqN q j i = (q : Int) + 1 + i := by
  unfold seqN
  rw [if_neg h, Int.add_zero]
theorem logs_fin (g : Nat → List S49) (q j : Nat) {n : Nat} (hq : q ≤ 65535) (hn : n ≤ 10) (hok : ∀ i, i < n → isB (g i) = true) {W : Nat} (hW : W ≤ n) (hno : ∀ i, i < W → ¬ (0 < j ∧ j ≤ i)) (hj : W < n → 0 < j ∧ W = j)
    (c t : Nat) (ht : t ≤ W) (hc : (enN g q j t).length ≤ c) (hc2 : t = W ∨ c < (enN g q j (t + 1)).length) (hc3 : c < (enN g q j n).length) :
    Ev (fun k => ravelinlaw12_BatchLogs.j8 k (q : Int) (S (enN g q j n)) (endsN g q j n) (countsN g q j n) (c : Int) (t : Int)) true := by
  have hl := enN_le g q j hq hn hok n (Nat.le_refl _)
  have hg := enN_ge g q j n
  have hlog := log_at g q j hq hn hok hW hno hj c t (c + 1) ht hc hc2 (by omega) (by have := enN_ge g q j t; omega)
  have ev := blog_ev ((enN g q j n).take c) (by rw [List.length_take]; omega)
  rw [show ((enN g q j n).take c).length + 1 = c + 1 by rw [List.length_take]; omega, hlog] at ev
  refine Ev.step (fun k => ravelinlaw12_BatchLogs.j8.eq_2 ..) (evT (by omega) (evT (by rw [S_size]; omega) ?_))
  rw [S_extract, Nat.sub_zero, List.drop_zero, Int.toNat_natCast]
  refine evBind ev ?_
  simp only
  by_cases h0 : t = 0
  · subst h0
    have e1 : entsB (fromN g q j 0 0) = [] := rfl
    have e2 : enN g q j 0 = [] := rfl
    rw [e1, e2]
    exact evT (by omega) (evT rfl (evT rfl (evSome _)))
  · have e : wrap64 ((t : Int) - 1) = ((t - 1 : Nat) : Int) := by rw [w64 (by omega)]; omega
    rw [e, if_neg h0]
    refine evF (by omega) (evT (by omega) (evT (by rw [countsN_len]; omega) (evT ?_ (evT ?_ (evT (by rw [endsN_len]; omega) ?_)))))
    · unfold countsN
      rw [rd_range _ _ _ (by omega), show t - 1 + 1 = t by omega]
    · rw [w64 (n := (q : Int)) (by omega), w64 (by omega)]
    · unfold endsN
      rw [rd_range _ _ _ (by omega), show t - 1 + 1 = t by omega]
      exact evEq (evSome _) (by simp)
theorem logs_l1 (g : Nat → List S49) (q j : Nat) {n : Nat} (hq : q ≤ 65535) (hn : n ≤ 10) (hok : ∀ i, i < n → isB (g i) = true) {W : Nat} (hW : W ≤ n) (hno : ∀ i, i < W → ¬ (0 < j ∧ j ≤ i)) (hj : W < n → 0 < j ∧ W = j)
    (c : Nat) (hc3 : c < (enN g q j n).length) (d : Nat) : ∀ t : Nat, t ≤ W → W - t = d → (enN g q j t).length ≤ c →
    Ev (fun k => ravelinlaw12_BatchLogs.l1 k (q : Int) (S (enN g q j n)) (endsN g q j n) (countsN g q j n) (W : Int) (c : Int) (t : Int)) true := by
  induction d with
  | zero =>
    intro t ht hd hc
    refine Ev.step (fun k => ravelinlaw12_BatchLogs.l1.eq_2 ..) (evF (by omega) ?_)
    exact logs_fin g q j hq hn hok hW hno hj c t ht hc (.inl (by omega)) hc3
  | succ d ih =>
    intro t ht hd hc
    refine Ev.step (fun k => ravelinlaw12_BatchLogs.l1.eq_2 ..) (evT (by omega) (evT (by omega) (evT (by rw [endsN_len]; omega) ?_)))
    have e : rd (endsN g q j n) (t : Int) = ((enN g q j (t + 1)).length : Int) := rd_range _ _ _ (by omega)
    rw [e]
    by_cases h : (enN g q j (t + 1)).length ≤ c
    · refine evT (by omega) ?_
      rw [w64 (by omega), show (t : Int) + 1 = ((t + 1 : Nat) : Int) by omega]
      exact ih (t + 1) (by omega) (by omega) h
    · refine evF (by omega) ?_
      exact logs_fin g q j hq hn hok hW hno hj c t ht hc (.inr (by omega)) hc3
theorem logs_j5 (g : Nat → List S49) (q j : Nat) {n : Nat} (hq : q ≤ 65535) (hn : n ≤ 10) (hok : ∀ i, i < n → isB (g i) = true) {W : Nat} (hW : W ≤ n) (hno : ∀ i, i < W → ¬ (0 < j ∧ j ≤ i)) (hj : W < n → 0 < j ∧ W = j) (hW1 : 1 ≤ W) (c : Nat) (hc : c ≤ 65535) :
    Ev (fun k => ravelinlaw12_BatchLogs.j5 k (q : Int) (c : Int) (S (enN g q j n)) (endsN g q j n) (countsN g q j n) (W : Int)) true := by
  have hl := enN_le g q j hq hn hok n (Nat.le_refl _)
  have hg := enN_ge g q j n
  have hm := enN_mono g q j hW
  have hlog := log_at g q j hq hn hok hW hno hj (enN g q j n).length W ((enN g q j n).length + 1) (Nat.le_refl _) hm (.inl rfl) (Nat.le_refl _) (by omega)
  rw [List.take_length, if_neg (by omega)] at hlog
  have ev := blog_ev (enN g q j n) (by omega)
  rw [hlog] at ev
  have e : wrap64 ((W : Int) - 1) = ((W - 1 : Nat) : Int) := by rw [w64 (by omega)]; omega
  refine Ev.step (fun k => ravelinlaw12_BatchLogs.j5.eq_2 ..) (evBind ev ?_)
  simp only
  rw [e]
  refine evT (by omega) (evT (by rw [countsN_len]; omega) (evT ?_ (evT ?_ (evT (by rw [endsN_len]; omega) ?_))))
  · unfold countsN
    rw [rd_range _ _ _ (by omega), show W - 1 + 1 = W by omega]
  · rw [w64 (n := (q : Int)) (by omega), w64 (by omega)]
  · have e2 : rd (endsN g q j n) ((W - 1 : Nat) : Int) = ((enN g q j W).length : Int) := by
      unfold endsN
      rw [rd_range _ _ _ (by omega), show W - 1 + 1 = W by omega]
    rw [e2, show ((((enN g q j W).length : Int)) != ((enN g q j W).length : Int)) = false by simp]
    refine Ev.step (fun k => ravelinlaw12_BatchLogs.j6.eq_2 ..) (evF (by simp) (evF (by rw [S_size]; omega) ?_))
    have e3 : Int.tmod (wrap64 (c : Int)) (((S (enN g q j n)).size : Nat) : Int) = ((c % (enN g q j n).length : Nat) : Int) := by
      rw [S_size, w64 (by omega), Int.tmod_eq_emod_of_nonneg (by omega), Int.natCast_emod]
    rw [e3]
    have hlt : c % (enN g q j n).length < (enN g q j n).length := Nat.mod_lt _ (by omega)
    exact logs_l1 g q j hq hn hok hW hno hj _ hlt _ 0 (by omega) rfl (by show 0 ≤ _; omega)
set_option maxHeartbeats 1000000 in
theorem logs_l0 (l : List (List S49)) (hl : ∀ y ∈ l, y.length ≤ 9223372036854775807) (q c j : Nat) (hq : q ≤ 65535) (hc : c ≤ 65535) (hn : l.length ≤ 10) (h1 : 1 ≤ l.length) (hj : j ≤ 1000) (d : Nat) :
    ∀ i : Nat, i ≤ l.length → l.length - i = d → (∀ t, t < i → isB (neatW (l.getD t [])) = true) →
    Ev (fun k => ravelinlaw12_BatchLogs.l0 k l (q : Int) (c : Int) (S (enN (fun t => neatW (l.getD t [])) q j i)) (endsN (fun t => neatW (l.getD t [])) q j i) (countsN (fun t => neatW (l.getD t [])) q j i) ((entsB (fromN (fun t => neatW (l.getD t [])) q j 0 i)).length : Int) (j : Int) (i : Int)) true := by
  generalize hG : (fun t => neatW (l.getD t [])) = g
  have hgd : ∀ t, neatW (l.getD t []) = g t := fun t => by rw [← hG]
  simp only [hgd]
  induction d with
  | zero =>
    intro i hi hd hok
    obtain rfl : i = l.length := by omega
    have J4 : ∀ b : Bool, (b = true ↔ 0 < j ∧ j < l.length) → Ev (fun k => ravelinlaw12_BatchLogs.j4 k (q : Int) (c : Int) (S (enN g q j l.length)) (endsN g q j l.length) (countsN g q j l.length) (j : Int) (l.length : Int) b) true := by
      intro b hb
      refine Ev.step (fun k => ravelinlaw12_BatchLogs.j4.eq_2 ..) ?_
      cases b with
      | true =>
        have := hb.1 rfl
        exact evT rfl (logs_j5 g q j hq hn hok (W := j) (by omega) (fun i hi => by omega) (fun _ => ⟨by omega, rfl⟩) (by omega) c hc)
      | false =>
        have hno : ¬ (0 < j ∧ j < l.length) := fun h => by have := hb.2 h; cases this
        exact evF (by simp) (logs_j5 g q j hq hn hok (W := l.length) (by omega) (fun i hi => by omega) (fun h => by omega) (by omega) c hc)
    refine Ev.step (fun k => ravelinlaw12_BatchLogs.l0.eq_2 ..) (evF (by omega) ?_)
    by_cases h : (j : Int) > 0
    · exact evT h (J4 _ (by rw [decide_eq_true_eq]; omega))
    · exact evF h (J4 _ (by simp; omega))
  | succ d ih =>
    intro i hi hd hok
    have hi2 : i < l.length := by omega
    refine Ev.step (fun k => ravelinlaw12_BatchLogs.l0.eq_2 ..) (evT (by omega) (evT (by omega) ?_))
    have er : rd_L6 l (i : Int) = l.getD i [] := by unfold rd_L6; rw [Int.toNat_natCast]
    rw [er]
    have hmem : l.getD i [] ∈ l := by
      rw [List.getD_eq_getElem?_getD, List.getElem?_eq_getElem hi2]; exact List.getElem_mem hi2
    obtain ⟨b, hb, hb2⟩ := few12_ev _ (hl _ hmem)
    refine evBind hb ?_
    cases b with
    | false => exact evF (by simp) (evSome _)
    | true =>
      have hlen := hb2 rfl
      refine evT rfl (evBind (neat_ev _ (by omega)) ?_)
      rw [hgd]
      have hle := enN_le g q j hq (n := i) (by omega) hok i (Nat.le_refl _)
      have hel := ents_len g q j hok i (Nat.le_refl _)
      rw [Nat.add_zero] at hel
      have hin := seqN_in q j i hq (by omega)
      have J3 : Ev (fun k => ravelinlaw12_BatchLogs.j3 k l (q : Int) (c : Int) (S (enN g q j i)) (endsN g q j i) (countsN g q j i) ((entsB (fromN g q j 0 i)).length : Int) (j : Int) (i : Int) (g i) (seqN q j i)) true := by
        have hgl : (g i).length ≤ 20 := by
          rw [← hgd]
          unfold neatW
          rw [(batch_Neat.sort_perm _).length_eq]
          have := lastW_len (l.getD i [])
          omega
        refine Ev.step (fun k => ravelinlaw12_BatchLogs.j3.eq_2 ..) (evBind (bbytes_ev _ _ (by omega)) ?_)
        cases hB : isB (g i) with
        | false =>
          unfold bytesB
          rw [hB]
          refine evF (by simp) (evBind (ris_ev _ (by omega)) ?_)
          rw [hB]
          exact evSome _
        | true =>
          have hgl2 := isB_len hB
          have hp := payB_len (seqN q j i) hB (inB_iff.1 hin).2
          have hs := sealL_len (payB (seqN q j i) (g i))
          have hs2 := numL_le (n := (payB (seqN q j i) (g i)).length) (by omega)
          rw [bytesB_some hB hin]
          refine evT rfl ?_
          simp only
          rw [S_append, S_size, S_size, S_size]
          refine evT (by omega) (evT (by rw [endsN_len]; omega) (evT (by rw [countsN_len]; omega) ?_))
          have hok2 : ∀ t, t < i + 1 → isB (g t) = true := by
            intro t ht
            by_cases h : t = i
            · rw [h]; exact hB
            · exact hok t (by omega)
          have e1 : enN g q j i ++ sealL (payB (seqN q j i) (g i)) = enN g q j (i + 1) := (enN_succ g q j i).symm
          have e2 : wrap64 (((entsB (fromN g q j 0 i)).length : Int) + ((g i).length : Int)) = ((entsB (fromN g q j 0 (i + 1))).length : Int) := by
            rw [ents_succ g q j (n := i + 1) hok2 i (by omega), w64 (by omega)]
            omega
          have e3 : endsN g q j i ++ [((enN g q j (i + 1)).length : Int)] = endsN g q j (i + 1) := by
            simp [endsN, List.range_succ]
          have e4 : countsN g q j i ++ [((entsB (fromN g q j 0 (i + 1))).length : Int)] = countsN g q j (i + 1) := by
            simp [countsN, List.range_succ]
          rw [e1, e2, e3, e4, w64 (n := (i : Int) + 1) (by omega), show (i : Int) + 1 = ((i + 1 : Nat) : Int) by omega]
          exact ih (i + 1) (by omega) (by omega) hok2
      have ew : wrap64 ((wrap64 ((wrap64 (q : Int)) + 1)) + (i : Int)) = (q : Int) + 1 + i := by
        rw [w64 (n := (q : Int)) (by omega), w64 (n := (q : Int) + 1) (by omega), w64 (by omega)]
      rw [ew]
      have J2 : ∀ b : Bool, (b = true ↔ 0 < j ∧ j ≤ i) → Ev (fun k => ravelinlaw12_BatchLogs.j2 k l (q : Int) (c : Int) (S (enN g q j i)) (endsN g q j i) (countsN g q j i) ((entsB (fromN g q j 0 i)).length : Int) (j : Int) (i : Int) (g i) ((q : Int) + 1 + i) b) true := by
        intro b hb
        refine Ev.step (fun k => ravelinlaw12_BatchLogs.j2.eq_2 ..) ?_
        cases b with
        | true =>
          rw [← seqN_jump q j i hq (by omega) (hb.1 rfl)] at J3
          exact evT rfl J3
        | false =>
          rw [seqN_plain q j i (fun h => by have := hb.2 h; cases this)] at J3
          exact evF (by simp) J3
      by_cases h : (j : Int) > 0
      · exact evT h (J2 _ (by rw [decide_eq_true_eq]; omega))
      · exact evF h (J2 _ (by simp; omega))
theorem BatchLogs : ravelinlaw12_BatchLogs.Pure := by
  intro l a b e _ hl ha hb he
  have ha2 := wf_u16 ha
  have hb2 := wf_u16 hb
  have he2 := wf_u8 he
  obtain ⟨q, rfl⟩ : ∃ v : Nat, a = (v : Int) := ⟨a.toNat, by omega⟩
  obtain ⟨c, rfl⟩ : ∃ v : Nat, b = (v : Int) := ⟨b.toNat, by omega⟩
  obtain ⟨u, rfl⟩ : ∃ v : Nat, e = (v : Int) := ⟨e.toNat, by omega⟩
  refine Ev.rounds (Ev.congr (fun k => ravelinlaw12_BatchLogs.f.eq_1 ..) (evBind known12 (evT rfl ?_)))
  have yes : Ev (fun k => ravelinlaw12_BatchLogs.j0 k l (q : Int) (c : Int) (u : Int) true) true := Ev.step (fun k => ravelinlaw12_BatchLogs.j0.eq_2 ..) (evT rfl (evSome _))
  by_cases h : (l.length : Int) > 10
  · exact evT h yes
  · refine evF h ?_
    by_cases h0 : l.length = 0
    · rw [h0]; exact yes
    · rw [beq_false_of_ne (show (l.length : Int) ≠ 0 by omega)]
      have e1 : wrap64 (2 * (l.length : Int)) = ((2 * l.length : Nat) : Int) := by rw [w64 (by omega)]; omega
      have e2 : Int.tmod (wrap64 (u : Int)) ((2 * l.length : Nat) : Int) = ((u % (2 * l.length) : Nat) : Int) := by
        rw [w64 (by omega), Int.tmod_eq_emod_of_nonneg (by omega), Int.natCast_emod]
      have hm : u % (2 * l.length) < 2 * l.length := Nat.mod_lt _ (by omega)
      refine Ev.step (fun k => ravelinlaw12_BatchLogs.j0.eq_2 ..) (evF (by simp) ?_)
      rw [e1, e2]
      refine evF (by omega) ?_
      exact logs_l0 l (fun y hy => (hl y hy).1) q c _ (by omega) (by omega) (by omega) (by omega) (by omega) _ 0 (by omega) rfl (fun t ht => by omega)
end Go.Proofs.Ytnjbmcjhhadojaa.Pure
