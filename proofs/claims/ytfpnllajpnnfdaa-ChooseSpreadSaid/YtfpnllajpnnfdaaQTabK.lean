import Derived.Test.YtfpnllajpnnfdaaQTabF
import Derived.Test.YtfpnllajpnnfdaaQTabG
namespace Go.Proofs.Ytfpnllajpnnfdaa.Q
open Go.RowKit Go.Lib Go.Proofs Go.Proofs.Ytfpnllajpnnfdaa.P Go.Proofs.YtfpnllajpnnfdaaW.PrintWords Go.Proofs.YtfpnllajpnnfdaaW.PrintLast Go.Proofs.YtfpnllajpnnfdaaW.PrintMore
set_option linter.unusedVariables false
set_option linter.unusedSimpArgs false
attribute [local go_sem] max_two min_two
attribute [local go_sem high] string_leq string_geq string_gtr
/-! ravelinlaw14.known -/
theorem srt_lit {xs ys : List S46} (hp : ys.Perm xs) (hs : ys.Pairwise (fun a b => ltT b a = false)) (hi : ∀ t ∈ xs, isT t = true) (hd : xs.Pairwise (fun a b => a.f0 ≠ b.f0)) (ha : xs.Pairwise (fun b a => meetT a b = false)) : srt xs = ys :=
  (srt_uniq (tot_of hi hd ha) hp hs).symm
def kT1 : S46 := ⟨1, 0, ⟨#[97]⟩, ⟨#[99]⟩, 1⟩
def kT2 : S46 := ⟨2, 0, ⟨#[102]⟩, ⟨#[103]⟩, 1⟩
def kT3 : S46 := ⟨3, 1, ⟨#[100]⟩, ⟨#[101]⟩, 1⟩
def kT4 : S46 := ⟨4, 1, ⟨#[109]⟩, ⟨#[110]⟩, 1⟩
def kC : List S46 := [kT1, kT2, kT3, kT4]
def kL : List S46 := [kT2, kT1, kT3, kT4]
theorem kE : doE ⟨[], 1, 0, 1⟩ [] kC 0 0 = 0 := by decide +kernel
theorem kSrt : srt (rowS [] [] kC) = kL := srt_lit (List.Perm.swap kT1 kT2 [kT3, kT4]) (by unfold kL; decide +kernel) (by unfold rowS kC; decide +kernel) (by unfold rowS kC; decide +kernel) (by unfold rowS kC; decide +kernel)
theorem kS : doS ⟨[], 1, 0, 1⟩ [] kC 0 0 = ⟨kL, 1, 0, 5⟩ := by
  unfold doS
  rw [if_pos kE]
  unfold doN
  rw [kSrt]
  rfl
theorem kPick0 : pickB [] = false ∧ pickL [] = [] := by decide +kernel
theorem kPick : pickL kL = [kT2, kT1, kT3] ∧ pickB kL = true := ⟨by rfl, by rfl⟩
theorem kCov : (kL.filter (cvB ⟨#[98]⟩)).length = 1 := by decide +kernel
theorem kBet : (kL.filter (bwB ⟨#[99]⟩ ⟨#[102]⟩)).length = 2 := by decide +kernel
theorem PickX (w : World) (g : Nat) (l : List S46) (lg sq nx : Int) (p : List S46) (b : Bool) (h : Sh w g l lg sq nx) (hl : l.length ≤ 1000000) (hp : pickL l = p) (hb : pickB l = b) : Calls Try.prog 12 #[.pointer (some ⟨g, 0, none⟩)] w fun e w' => ∃ (A : Option Addr) (c : Nat), e = .returned (.tuple #[.slice A p.length c, .bool b]) ∧ p.length ≤ c ∧ Kd.R k46 46 w' w.heap.size (fun _ => True) (.slice A p.length c) p ∧ Kd.C k46 w' A p.length p ∧ Below w.heap.size w w' := by
  refine (SPick w g l lg sq nx h hl).mono ?_
  rintro e w' ⟨v, rfl, hr, hb2⟩
  rw [hp] at hr
  obtain ⟨A, c, rfl, h5, h6⟩ := Kd.R_reads hr
  exact ⟨A, c, by rw [hb], h5, hr, h6, hb2⟩
theorem CoverX (w : World) (g : Nat) (l : List S46) (lg sq nx : Int) (key : ByteArray) (n : Nat) (h : Sh w g l lg sq nx) (hl : l.length ≤ 1000000) (hn : (l.filter (cvB key)).length = n) : Calls Try.prog 15 #[.pointer (some ⟨g, 0, none⟩), .string key] w fun e w' => ∃ (A : Option Addr) (c : Nat), e = .returned (.slice A n c) ∧ Below w.heap.size w w' := by
  refine (SCover w g l lg sq nx key h hl).mono ?_
  rintro e w' ⟨v, rfl, hr, hb2⟩
  obtain ⟨A, c, rfl, h5, h6⟩ := Kd.R_reads hr
  exact ⟨A, c, by rw [hn], hb2⟩
theorem BetwX (w : World) (g : Nat) (l : List S46) (lg sq nx : Int) (from_ to_ : ByteArray) (n : Nat) (h : Sh w g l lg sq nx) (hl : l.length ≤ 1000000) (hn : (l.filter (bwB from_ to_)).length = n) : Calls Try.prog 17 #[.pointer (some ⟨g, 0, none⟩), .string from_, .string to_] w fun e w' => ∃ (A : Option Addr) (c : Nat), e = .returned (.slice A n c) ∧ Below w.heap.size w w' := by
  refine (SBetween w g l lg sq nx from_ to_ h hl).mono ?_
  rintro e w' ⟨v, rfl, hr, hb2⟩
  obtain ⟨A, c, rfl, h5, h6⟩ := Kd.R_reads hr
  exact ⟨A, c, by rw [hn], hb2⟩
/-- An edit that does what is told of it. -/
theorem DoX (w : World) (g : Nat) (s : St) (hs : Sh w g s.l s.lg s.sq s.nx) (hinv : InvS s) (G : List Int) (AG : Option Addr) (cG : Nat) (C : List S46) (AC : Option Addr) (cC : Nat) (lg sq : Int)
    (hG : (Kd.int .i64).C w AG G.length G) (hcG : G.length ≤ cG) (hC : Kd.C k46 w AC C.length C) (hcC : C.length ≤ cC) (hlG : G.length ≤ 1000000) (hlC : C.length ≤ 1000000) (n : Int) (s2 : St) (hn : doE s G C lg sq = n) (h2 : doS s G C lg sq = s2) :
    Calls Try.prog 10 #[.pointer (some ⟨g, 0, none⟩), .agg #[.slice AG G.length cG, .slice AC C.length cC, .int .i64 lg, .int .i64 sq]] w fun e w' => e = .returned (.int .i64 n) ∧ Sh w' g s2.l s2.lg s2.sq s2.nx ∧ InvS s2 ∧ Fr w w' (fun k => k = g) := by
  refine (SDo w g s hs hinv G AG cG C AC cC lg sq hG hcG hC hcC hlG hlC).mono ?_
  rintro e w' ⟨rfl, h3, h4⟩
  have hi := doS_inv hinv G C lg sq
  rw [h2] at h3 hi
  exact ⟨by rw [hn], h3, hi, h4⟩
theorem DoC (w : World) (g : Nat) (s : St) (hs : Sh w g s.l s.lg s.sq s.nx) (hinv : InvS s) (C : List S46) (v : Value) (base : Nat) (hC : Kd.R k46 46 w base (fun _ => True) v C) (hlC : C.length ≤ 1000000) (n : Int) (s2 : St) (hn : doE s [] C 0 0 = n) (h2 : doS s [] C 0 0 = s2) :
    Calls Try.prog 10 #[.pointer (some ⟨g, 0, none⟩), .agg #[.slice none 0 0, v, .int .i64 0, .int .i64 0]] w fun e w' => e = .returned (.int .i64 n) ∧ Sh w' g s2.l s2.lg s2.sq s2.nx ∧ InvS s2 ∧ Fr w w' (fun k => k = g) := by
  obtain ⟨A, c, rfl, h5, h6⟩ := Kd.R_reads hC
  exact DoX w g s hs hinv [] none 0 C A c 0 0 (Kd.C_nil _ _) (Nat.le_refl _) h6 h5 (by decide) hlC n s2 hn h2
set_option maxHeartbeats 4000000 in
set_option maxRecDepth 100000 in
theorem SKnown (w : World) : Calls Try.prog 6 #[] w fun e w' => e = .returned (.bool true) ∧ Below w.heap.size w w' := by
  go_enter Try.func6, Try.ntmps6
  go_upto_region 5 with (first
    | (go_at_call 8; go_loud (with_reducible refine (SNew w).mono ?_; rintro e w1 ⟨g, rfl, hs, hge, hb⟩; have HS := Aside0.mk hs; have HGE := Aside0.mk hge; have HB := Aside0.mk hb; clear hs hge hb))
    | (go_at_call 12; go_loud (with_reducible refine (PickX _ g [] 1 0 1 [] false HS.out (by decide) kPick0.2 kPick0.1).mono ?_; rintro e w2 ⟨A2, c2, rfl, _, _, _, hb⟩; have n0_ := Aside0.mk (HS.out.below hb); have n1_ := bs_ HB hb; clear HS HB hb; have HS := n0_; have HB := n1_; clear n0_ n1_)))
  go_upto_region 6 with (first
    | ((with_reducible refine gate_dst (N := 19) rfl ?_); go_loud (refine Kd.R_lit k46 _ 46 ?hg (N := 19) ?hd (xs := [kT1, kT2, kT3, kT4]) (inner := [.int .i64 1, .int .i64 0, .string ⟨#[97]⟩, .string ⟨#[99]⟩, .int .i64 1, .int .i64 2, .int .i64 0, .string ⟨#[102]⟩, .string ⟨#[103]⟩, .int .i64 1, .int .i64 3, .int .i64 1, .string ⟨#[100]⟩, .string ⟨#[101]⟩, .int .i64 1, .int .i64 4, .int .i64 1, .string ⟨#[109]⟩, .string ⟨#[110]⟩, .int .i64 1]) (ok := fun _ => True) (okp := fun _ => True) ?hr ?hp (fun _ hk => hk) trivial (Below.refl _ _) (Nat.le_refl _) (by decide) ?_; (case hd => rfl); (case hg => rfl); (case hr => first | (go_simp; done) | (go_simp; rfl)); (case hp => exact (Reps.c5 (k46_mkM _ _ _ kT1) (Reps.c5 (k46_mkM _ _ _ kT2) (Reps.c5 (k46_mkM _ _ _ kT3) (Reps.c5 (k46_mkM _ _ _ kT4) (Reps.none _ _)))))); intro v3 w3 ho hb hg_ hnew_; have n0_ := Aside0.mk (HS.out.below hb); have n1_ := bs_ HB hb; obtain ⟨A3, c3, e3_, _, _⟩ := Kd.R_reads ho; have e3 : v3 = .slice A3 4 c3 := e3_; clear e3_; subst e3; have HC := Aside0.mk (show Kd.R k46 46 w3 _ (fun _ => True) (.slice A3 4 c3) kC from ho); clear HS HB hb ho hg_ hnew_; have HS := n0_; have HB := n1_; clear n0_ n1_))
    | (go_at_call 10; go_loud (with_reducible refine (DoC w3 g ⟨[], 1, 0, 1⟩ HS.out inv_new kC (.slice A3 4 c3) _ HC.out (by decide) 0 ⟨kL, 1, 0, 5⟩ kE kS).mono ?_; rintro e w4 ⟨rfl, hs, hi, hf⟩; have n1_ := Aside0.mk (Fr.to_below HB.out hf (fun k hk => by rw [hk]; exact HGE.out)); clear HS HB HC; have HS := Aside0.mk hs; have HB := n1_; clear n1_ hs hi hf)))
  go_upto_region 7 with (go_at_call 12; go_loud (with_reducible refine (PickX _ g kL 1 0 5 [kT2, kT1, kT3] true HS.out (by decide) kPick.1 kPick.2).mono ?_; rintro e w5 ⟨A5, c5, rfl, _, _, hc5, hb⟩; have n0_ := Aside0.mk (HS.out.below hb); have n1_ := bs_ HB hb; have HP := Aside0.mk hc5; clear HS HB hb hc5; have HS := n0_; have HB := n1_; clear n0_ n1_))
  obtain ⟨ad, e_, hx0, _, _, _, _⟩ := at_T46 HP.out (2 : Int) (by decide) (by decide)
  cases e_
  have hx : w5.cell? ⟨ad.block, ad.off + 10, none⟩ = some (.int .i64 3) := hx0
  clear hx0
  go_wp2_with (first
    | (go_at_call 15; go_loud (with_reducible refine (CoverX _ g kL 1 0 5 ⟨#[98]⟩ 1 HS.out (by decide) kCov).mono ?_; rintro e w6 ⟨A6, c6, rfl, hb⟩; have n0_ := Aside0.mk (HS.out.below hb); have n1_ := bs_ HB hb; clear HS HB hb; have HS := n0_; have HB := n1_; clear n0_ n1_))
    | (go_at_call 17; go_loud (with_reducible refine (BetwX _ g kL 1 0 5 ⟨#[99]⟩ ⟨#[102]⟩ 2 HS.out (by decide) kBet).mono ?_; rintro e w7 ⟨A7, c7, rfl, hb⟩; have n0_ := Aside0.mk (HS.out.below hb); have n1_ := bs_ HB hb; clear HS HB hb; have HS := n0_; have HB := n1_; clear n0_ n1_)))
  go_ret
  exact ⟨rfl, HB.out⟩
end Go.Proofs.Ytfpnllajpnnfdaa.Q
