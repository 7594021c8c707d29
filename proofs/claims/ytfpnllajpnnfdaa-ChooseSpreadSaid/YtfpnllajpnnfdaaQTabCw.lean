import Derived.Test.YtfpnllajpnnfdaaQTabCh
namespace Go.Proofs.Ytfpnllajpnnfdaa.Q
open Go.RowKit Go.Lib Go.Proofs Go.Proofs.Ytfpnllajpnnfdaa.P Go.Proofs.YtfpnllajpnnfdaaW.PrintWords Go.Proofs.YtfpnllajpnnfdaaW.PrintLast Go.Proofs.YtfpnllajpnnfdaaW.PrintMore
set_option linter.unusedVariables false
set_option linter.unusedSimpArgs false
attribute [local go_sem] max_two min_two
attribute [local go_sem high] string_leq string_geq string_gtr
/-! ravelinlaw14.ChooseSpread -/
theorem inv_newS : InvS new0 := inv_new
theorem fr_box {w w' : World} {g g2 t : Nat} {l : List S46} {lg sq nx : Int} {cs : Array Value} (hb : w.heap[g2]? = some (.cells cs t (0, 0))) (hs : Sh w g l lg sq nx) (ht : t ≠ 51) (hf : Fr w w' (fun k => k = g)) : w'.heap[g2]? = some (.cells cs t (0, 0)) := by
  obtain ⟨u, h1, _⟩ := hs.out
  exact (hf.block g2 (blk_lt hb) (blk_ne hb h1 ht)).trans hb
theorem PickN (w : World) (g : Nat) (l : List S46) (lg sq nx : Int) (p : List S46) (n : Nat) (h : Sh w g l lg sq nx) (hl : l.length ≤ 1000000) (hp : pickL l = p) (hb : pickB l = true) (hn : p.length = n) : Calls Try.prog 12 #[.pointer (some ⟨g, 0, none⟩)] w fun e w' => ∃ (A : Option Addr) (c : Nat), e = .returned (.tuple #[.slice A n c, .bool true]) ∧ Kd.C k46 w' A n p ∧ Below w.heap.size w w' := by
  refine (PickX w g l lg sq nx p true h hl hp hb).mono ?_
  rintro e w' ⟨A, c, rfl, _, _, h3, h4⟩
  rw [hn] at h3
  exact ⟨A, c, by rw [hn], h3, h4⟩
theorem size_al (w : World) (o : Obj) : (w.alloc o).heap.size = w.heap.size + 1 := Array.size_push _
theorem range_six (i : Nat) : (List.range (i + 1)).map sixT = (List.range i).map sixT ++ [sixT i] := by rw [List.range_succ, List.map_append]; rfl
set_option maxHeartbeats 8000000 in
set_option maxRecDepth 100000 in
theorem LSpread (w : World) (a b c d : Nat) (ha : a < 256) (hb : b < 256) (hc : c < 256) (hd : d < 256) :
    Calls Try.prog 5 #[.int .u8 (a : Int), .int .u8 (b : Int), .int .u8 (c : Int), .int .u8 (d : Int)] w fun e w' => e = .returned (.bool true) ∧ Below w.heap.size w w' := by
  have HB := Aside0.mk (Below.refl w.heap.size w)
  have HA := Aside0.mk ha
  have HBd := Aside0.mk hb
  have HCd := Aside0.mk hc
  have HDd := Aside0.mk hd
  clear ha hb hc hd
  go_enter Try.func5, Try.ntmps5
  go_upto_region 4 with (first
    | (go_at_call 6; refine (SKnown _).mono ?_; rintro e w1 ⟨rfl, hb⟩; have n0_ := Aside0.mk (below_step HB.out hb); clear HB hb; have HB := n0_; clear n0_)
    | (go_at_call 8; go_loud (with_reducible refine (SNew _).mono ?_; rintro e w3 ⟨g, rfl, hs, hge, hb⟩; have HS := Aside0.mk hs; have HGE := Aside0.mk (Nat.le_trans (below_size HB.out) hge); have n0_ := Aside0.mk (below_step HB.out hb); clear HB hs hge hb; have HB := n0_; clear n0_)))
  go_wp2
  go_loopg [10, 11] 6 (fun kq v10 v11 w' => ∃ (i : Nat), v11 = .int .i64 (i : Int) ∧ Aside0 (kq + i = 6) ∧ Aside0 (Kd.R k46 46 w' w3.heap.size (fun _ => True) v10 ((List.range i).map sixT)) ∧ Aside0 (Below w3.heap.size w3 w'))
  case atStart => exact ⟨0, rfl, ⟨by omega⟩, ⟨Kd.R_nil _ _ _ _ _⟩, ⟨Below.refl _ _⟩⟩
  obtain ⟨i, rfl, HQ, HO, HBI⟩ := hrel
  by_cases hlt : i < 6
  · obtain ⟨k1, rfl⟩ : ∃ k1, gk = k1 + 1 := ⟨gk - 1, by have := HQ.out; omega⟩
    have hd0 : decide (i < 6) = true := decide_eq_true hlt
    have hd1 : decide ((i : Int) < 6) = true := decide_eq_true (by omega)
    have HI := Aside0.mk hlt
    have HT := Aside0.mk (range_six i)
    obtain ⟨p, hp⟩ : ∃ p : Nat, p = 97 + 3 * i := ⟨_, rfl⟩
    obtain ⟨q, hq⟩ : ∃ q : Nat, q = 98 + 3 * i := ⟨_, rfl⟩
    obtain ⟨m3, hm3⟩ : ∃ m : Int, m = 3 * (i : Int) := ⟨_, rfl⟩
    obtain ⟨iv, hiv⟩ : ∃ m : Int, m = (i : Int) + 1 := ⟨_, rfl⟩
    have HE := Aside0.mk (show (⟨iv, 1, B1 p, B1 q, 1⟩ : S46) = sixT i by unfold sixT; rw [hp, hq, hiv]; rfl)
    have hcv1 := b1_conv (wr.alloc (.cells #[.int .u8 (p : Int)] 5)) wr.heap.size p (blk_new wr _) (by omega)
    have hcv2 := b1_conv ((wr.alloc (.cells #[.int .u8 (p : Int)] 5)).alloc (.cells #[.int .u8 (q : Int)] 5)) (wr.heap.size + 1) q (by have h_ := blk_new (wr.alloc (.cells #[.int .u8 (p : Int)] 5)) (.cells #[.int .u8 (q : Int)] 5); rw [size_al] at h_; exact h_) (by omega)
    have r1 : wrap64 (3 * (i : Int)) = m3 := by rw [← hm3]; exact w64 (by omega)
    have r2 : wrap64 (97 + m3) = (p : Int) := by clear r1; rw [w64 (by omega)]; omega
    have r4 : wrap64 (98 + m3) = (q : Int) := by clear r1 r2; rw [w64 (by omega)]; omega
    have r3 : IntKind.u8.wrap (p : Int) = (p : Int) := u8w1 (by clear r1 r2 r4; omega)
    have r5 : IntKind.u8.wrap (q : Int) = (q : Int) := u8w1 (by clear r1 r2 r3 r4; omega)
    have r6 : wrap64 ((i : Int) + 1) = iv := by rw [← hiv]; exact w64 (by clear r1 r2 r3 r4 r5; omega)
    have HIV := Aside0.mk hiv
    clear hp hq hm3 hiv hlt
    go_wp2_with (first | ((with_reducible refine gate_builtin (b := .append) (xs := #[.tmp 36, .tmp 52]) rfl ?_); at_builtin; go_loud (refine Kd.R_append k46 (w0 := w3) (W := (wr.alloc (.cells #[.int .u8 (p : Int)] 5)).alloc (.cells #[.int .u8 (q : Int)] 5)) w3.heap.size rfl (.tmp 36) (.tmp 52) 32 46 (.agg #[(.int .i64 0), (.int .i64 0), (.string ⟨#[]⟩), (.string ⟨#[]⟩), (.int .i64 0)]) 56 rfl Try.underlying32 info46 rfl (by decide) (by omega) u10 ((List.range i).map sixT) (⟨iv, 1, B1 p, B1 q, 1⟩ : S46) [.int .i64 iv, .int .i64 1, .string (B1 p), .string (B1 q), .int .i64 1] (fun _ => True) (fun _ => False) rfl (by rw [size_al, size_al]; rfl) (k46_mkM _ _ _ _) (fun _ h => h.elim) (fun _ _ => trivial) (Kd.R_below HO.out (below_alloc (below_alloc (Below.refl _ wr) _) _)) (bs_ HBI (below_alloc (below_alloc (Below.refl _ wr) _) _)).out (by have := below_size HBI.out; rw [size_al, size_al]; omega) (by clear r1 r2 r3 r4 r5 r6; have := HI.out; simp; omega) ?_; intro v1 w4 ho hb hg hat; rw [HE.out, ← HT.out] at ho; have HO2 := Aside0.mk ho; have HB2 := Aside0.mk hb; clear ho hb hg hat HO HBI hcv1 hcv2 r1 r2 r3 r4 r5)))
    go_roundg k1
    case measure => have := HQ.out; omega
    case rel => exact ⟨i + 1, by rw [r6, HIV.out]; rfl, ⟨by have := HQ.out; omega⟩, HO2, HB2⟩
  have hd0 : decide (i < 6) = false := decide_eq_false hlt
  have hd1 : decide ((i : Int) < 6) = false := decide_eq_false (by omega)
  have HC := Aside0.mk (show Kd.R k46 46 wr w3.heap.size (fun _ => True) u10 sixL by have h_ := HO.out; rwa [show i = 6 by have := HQ.out; omega] at h_)
  have HS2 := Aside0.mk (show Sh wr g new0.l new0.lg new0.sq new0.nx from HS.out.below HBI.out)
  have HB2 := Aside0.mk (below_step HB.out HBI.out)
  clear HS HB HO HBI HQ
  obtain ⟨A10, c10, e10, _, _⟩ := Kd.R_reads HC.out
  subst e10
  go_upto_region 12 with (go_at_call 10; go_loud (with_reducible refine (DoC wr g new0 HS2.out inv_newS sixL _ _ HC.out (by decide) 0 sp1 sp1_e sp1_s).mono ?_; rintro e w4 ⟨rfl, hs, hi, hf⟩; have HB := Aside0.mk (Fr.to_below HB2.out hf (fun k hk => by rw [hk]; exact HGE.out)); have HS := Aside0.mk hs; have HI := Aside0.mk hi; clear HS2 HB2 hs hi hf))
  obtain ⟨x, hx⟩ : ∃ x : Nat, (a : Int) % 18 = (x : Int) := ⟨a % 18, by omega⟩
  obtain ⟨y, hy⟩ : ∃ y : Nat, (c : Int) % 18 = (y : Int) := ⟨c % 18, by omega⟩
  obtain ⟨bm, hbm⟩ : ∃ y : Nat, (b : Int) % 4 = (y : Int) := ⟨b % 4, by omega⟩
  obtain ⟨dm, hdm⟩ : ∃ y : Nat, (d : Int) % 4 = (y : Int) := ⟨d % 4, by omega⟩
  have Hx := Aside0.mk (show x < 18 by omega)
  have Hy := Aside0.mk (show y < 18 by omega)
  have Hbm := Aside0.mk (show bm < 4 by omega)
  have Hdm := Aside0.mk (show dm < 4 by omega)
  rw [hx, hy]
  clear hx hy
  obtain ⟨px, hpx⟩ : ∃ p : Nat, p = 97 + x := ⟨_, rfl⟩
  obtain ⟨qx, hqx⟩ : ∃ p : Nat, p = 97 + x + bm := ⟨_, rfl⟩
  have hcv1 := b1_conv (w4.alloc (.cells #[.int .u8 (px : Int)] 5)) w4.heap.size px (blk_new w4 _) (by have := Hx.out; omega)
  have hcv2 := b1_conv ((w4.alloc (.cells #[.int .u8 (px : Int)] 5)).alloc (.cells #[.int .u8 (qx : Int)] 5)) (w4.heap.size + 1) qx (by have h_ := blk_new (w4.alloc (.cells #[.int .u8 (px : Int)] 5)) (.cells #[.int .u8 (qx : Int)] 5); rw [size_al] at h_; exact h_) (by have := Hx.out; have := Hbm.out; omega)
  have r1 : wrap64 (97 + (x : Int)) = (px : Int) := by rw [w64 (by have := Hx.out; omega)]; omega
  have r2 : wrap64 ((px : Int) + (bm : Int)) = (qx : Int) := by clear r1; rw [w64 (by have := Hx.out; have := Hbm.out; omega)]; omega
  have r3 : IntKind.u8.wrap (px : Int) = (px : Int) := u8w1 (by clear r1 r2; have := Hx.out; omega)
  have r4 : IntKind.u8.wrap (qx : Int) = (qx : Int) := u8w1 (by clear r1 r2 r3; have := Hx.out; have := Hbm.out; omega)
  have HTx := Aside0.mk (show (⟨7, 0, B1 px, B1 qx, 1⟩ : S46) = topT 7 x bm by unfold topT; rw [hpx, hqx])
  have HPx := Aside0.mk hpx
  clear hpx hqx
  go_upto_region 13 with (fail)
  have BU := Aside0.mk (show (((w4.alloc (.cells #[.int .u8 (px : Int)] 5)).alloc (.cells #[.int .u8 (qx : Int)] 5)).alloc (.cells #[.int .i64 7, .int .i64 0, .string (B1 px), .string (B1 qx), .int .i64 1] 46)).heap[w4.heap.size + 1 + 1]? = some (.cells #[.int .i64 7, .int .i64 0, .string (B1 px), .string (B1 qx), .int .i64 1] 46 (0, 0)) by
    have h_ := blk_new ((w4.alloc (.cells #[.int .u8 (px : Int)] 5)).alloc (.cells #[.int .u8 (qx : Int)] 5)) (.cells #[.int .i64 7, .int .i64 0, .string (B1 px), .string (B1 qx), .int .i64 1] 46)
    rw [size_al, size_al] at h_; exact h_)
  have hbl_ : Below w4.heap.size w4 (((w4.alloc (.cells #[.int .u8 (px : Int)] 5)).alloc (.cells #[.int .u8 (qx : Int)] 5)).alloc (.cells #[.int .i64 7, .int .i64 0, .string (B1 px), .string (B1 qx), .int .i64 1] 46)) := below_alloc (below_alloc (below_alloc (Below.refl _ _) _) _) _
  have n0_ := Aside0.mk (HS.out.below hbl_)
  have n1_ := Aside0.mk (below_step HB.out hbl_)
  clear HS HB hbl_ hcv1 hcv2 r1 r2 r3 r4
  have HS := n0_
  have HB := n1_
  clear n0_ n1_
  generalize ((w4.alloc (.cells #[.int .u8 (px : Int)] 5)).alloc (.cells #[.int .u8 (qx : Int)] 5)).alloc (.cells #[.int .i64 7, .int .i64 0, .string (B1 px), .string (B1 qx), .int .i64 1] 46) = w5 at HS HB BU  ⊢
  generalize w4.heap.size + 1 + 1 = gu at BU ⊢
  obtain ⟨py, hpy⟩ : ∃ p : Nat, p = 97 + y := ⟨_, rfl⟩
  obtain ⟨qy, hqy⟩ : ∃ p : Nat, p = 97 + y + dm := ⟨_, rfl⟩
  have hcv1 := b1_conv (w5.alloc (.cells #[.int .u8 (py : Int)] 5)) w5.heap.size py (blk_new w5 _) (by have := Hy.out; omega)
  have hcv2 := b1_conv ((w5.alloc (.cells #[.int .u8 (py : Int)] 5)).alloc (.cells #[.int .u8 (qy : Int)] 5)) (w5.heap.size + 1) qy (by have h_ := blk_new (w5.alloc (.cells #[.int .u8 (py : Int)] 5)) (.cells #[.int .u8 (qy : Int)] 5); rw [size_al] at h_; exact h_) (by have := Hy.out; have := Hdm.out; omega)
  have r1 : wrap64 (97 + (y : Int)) = (py : Int) := by rw [w64 (by have := Hy.out; omega)]; omega
  have r2 : wrap64 ((py : Int) + (dm : Int)) = (qy : Int) := by clear r1; rw [w64 (by have := Hy.out; have := Hdm.out; omega)]; omega
  have r3 : IntKind.u8.wrap (py : Int) = (py : Int) := u8w1 (by clear r1 r2; have := Hy.out; omega)
  have r4 : IntKind.u8.wrap (qy : Int) = (qy : Int) := u8w1 (by clear r1 r2 r3; have := Hy.out; have := Hdm.out; omega)
  have HTy := Aside0.mk (show (⟨8, 0, B1 py, B1 qy, 1⟩ : S46) = topT 8 y dm by unfold topT; rw [hpy, hqy])
  have HPy := Aside0.mk hpy
  clear hpy hqy
  go_upto_region 14 with (fail)
  have BV := Aside0.mk (show (((w5.alloc (.cells #[.int .u8 (py : Int)] 5)).alloc (.cells #[.int .u8 (qy : Int)] 5)).alloc (.cells #[.int .i64 8, .int .i64 0, .string (B1 py), .string (B1 qy), .int .i64 1] 46)).heap[w5.heap.size + 1 + 1]? = some (.cells #[.int .i64 8, .int .i64 0, .string (B1 py), .string (B1 qy), .int .i64 1] 46 (0, 0)) by
    have h_ := blk_new ((w5.alloc (.cells #[.int .u8 (py : Int)] 5)).alloc (.cells #[.int .u8 (qy : Int)] 5)) (.cells #[.int .i64 8, .int .i64 0, .string (B1 py), .string (B1 qy), .int .i64 1] 46)
    rw [size_al, size_al] at h_; exact h_)
  have hbl_ : Below w5.heap.size w5 (((w5.alloc (.cells #[.int .u8 (py : Int)] 5)).alloc (.cells #[.int .u8 (qy : Int)] 5)).alloc (.cells #[.int .i64 8, .int .i64 0, .string (B1 py), .string (B1 qy), .int .i64 1] 46)) := below_alloc (below_alloc (below_alloc (Below.refl _ _) _) _) _
  have n0_ := Aside0.mk (HS.out.below hbl_)
  have n1_ := Aside0.mk (below_step HB.out hbl_)
  have nBU_ := bb_ BU hbl_
  clear BU
  have BU := nBU_
  clear nBU_
  clear HS HB hbl_ hcv1 hcv2 r1 r2 r3 r4
  have HS := n0_
  have HB := n1_
  clear n0_ n1_
  generalize ((w5.alloc (.cells #[.int .u8 (py : Int)] 5)).alloc (.cells #[.int .u8 (qy : Int)] 5)).alloc (.cells #[.int .i64 8, .int .i64 0, .string (B1 py), .string (B1 qy), .int .i64 1] 46) = w6 at HS HB BV BU ⊢
  generalize w5.heap.size + 1 + 1 = gv at BV ⊢
  have HLEN := Aside0.mk (show sp1.l.length ≤ 1000000 by decide)
  have hu0 := bc0 BU
  go_upto_region 15 with (go_at_call 12; go_loud (with_reducible refine (PickX _ g sp1.l sp1.lg sp1.sq sp1.nx [] false HS.out HLEN.out (sp1_pick).1 (sp1_pick).2).mono ?_; rintro e w7 ⟨A_, c_, rfl, _, _, _, hb⟩; have n0_ := Aside0.mk (HS.out.below hb); have n1_ := Aside0.mk (below_step HB.out hb); have n2_ := bb_ BU hb; have n3_ := bb_ BV hb; clear HS HB BU BV hb; have HS := n0_; have HB := n1_; have BU := n2_; have BV := n3_; clear n0_ n1_ n2_ n3_))
  clear hu0 HLEN
  have hu0 := bc0 BU
  have hu1 := bc1 BU
  have hu2 := bc2 BU
  have hu3 := bc3 BU
  have hu4 := bc4 BU
  have HD1 := Aside0.mk (⟨sp2_e Hx.out Hbm.out, sp2_s Hx.out Hbm.out⟩ : doE sp1 [] [topT 7 x bm] 0 0 = 0 ∧ doS sp1 [] [topT 7 x bm] 0 0 = sp2 (topT 7 x bm))
  have HD2 := Aside0.mk (⟨sp3_e Hx.out Hy.out Hbm.out Hdm.out, sp3_s Hx.out Hy.out Hbm.out Hdm.out⟩ : doE (sp2 (topT 7 x bm)) [] [topT 8 y dm] 0 0 = 0 ∧ doS (sp2 (topT 7 x bm)) [] [topT 8 y dm] 0 0 = sp3 (topT 7 x bm) (topT 8 y dm))
  have HI2 := Aside0.mk (sp2_inv Hx.out Hbm.out)
  have HP3 := Aside0.mk (sp3_pick Hx.out Hy.out Hbm.out Hdm.out)
  have HCV := Aside0.mk (sp3_cover Hx.out Hy.out Hbm.out Hdm.out)
  obtain ⟨ut, hut⟩ : ∃ t, t = topT 7 x bm := ⟨_, rfl⟩
  obtain ⟨vt, hvt⟩ : ∃ t, t = topT 8 y dm := ⟨_, rfl⟩
  have HU0 := Aside0.mk (show ut.f1 = 0 ∧ ut.f0 = 7 by rw [hut]; exact ⟨rfl, rfl⟩)
  have HV0 := Aside0.mk (show vt.f1 = 0 ∧ vt.f0 = 8 by rw [hvt]; exact ⟨rfl, rfl⟩)
  rw [← hut] at HTx HD1 HD2 HI2 HP3 HCV
  rw [← hvt] at HTy HD2 HP3 HCV
  clear hut hvt
  have HLEN := Aside0.mk (show (sp2 ut).l.length ≤ 1000000 by show sixL.length + 1 ≤ 1000000; decide)
  go_upto_region 17 with (first | ((with_reducible refine gate_dst (N := 104) rfl ?_); (try (refine gate_guard (by rfl) ?_; dsimp only)); go_loud (refine Kd.R_lit k46 _ 46 ?hg (N := 104) ?hd (xs := [(⟨7, 0, B1 px, B1 qx, 1⟩ : S46)]) (inner := [.int .i64 7, .int .i64 0, .string (B1 px), .string (B1 qx), .int .i64 1]) (ok := fun _ => True) (okp := fun _ => True) ?hr ?hp (fun _ hk => hk) trivial (Below.refl _ _) (Nat.le_refl _) (by simp) ?_; (case hd => rfl); (case hg => rfl); (case hr => first | (go_simp; done) | (go_simp; rfl)); (case hp => exact (Reps.c5 (k46_mkM _ _ _ _) (Reps.none _ _))); intro v3 wl ho hb hg_ hnew_; rw [HTx.out] at ho; obtain ⟨A3, c3, e3_, _, _⟩ := Kd.R_reads ho; have e3 : v3 = .slice A3 1 c3 := e3_; clear e3_; subst e3; have HC := Aside0.mk (show Kd.R k46 46 wl _ (fun _ => True) (.slice A3 1 c3) [ut] from ho); have n0_ := Aside0.mk (HS.out.below hb); have n1_ := Aside0.mk (below_step HB.out hb); have n2_ := bb_ BU hb; have n3_ := bb_ BV hb; clear HS HB BU BV hb; have HS := n0_; have HB := n1_; have BU := n2_; have BV := n3_; clear n0_ n1_ n2_ n3_; clear ho hg_ hnew_)) | (go_at_call 10; go_loud (with_reducible refine (DoC wl g sp1 HS.out sp1_inv [ut] (.slice A3 1 c3) _ HC.out (by simp) 0 (sp2 ut) HD1.out.1 HD1.out.2).mono ?_; rintro e w8 ⟨rfl, hs, hi, hf⟩; have n1_ := Aside0.mk (Fr.to_below HB.out hf (fun k hk => by rw [hk]; exact HGE.out)); have nBV_ := Aside0.mk (fr_box BV.out HS.out (by decide) hf); clear BV; have BV := nBV_; clear nBV_; clear HS HB HC; have HS := Aside0.mk hs; have HB := n1_; clear n1_ hs hi hf)))
  clear hu0 hu1 hu2 hu3 hu4
  go_upto_region 18 with (go_at_call 12; go_loud (with_reducible refine (PickX _ g (sp2 ut).l (sp2 ut).lg (sp2 ut).sq (sp2 ut).nx [] false HS.out HLEN.out (sp2_pick ut HU0.out.1).1 (sp2_pick ut HU0.out.1).2).mono ?_; rintro e w9 ⟨A_, c_, rfl, _, _, _, hb⟩; have n0_ := Aside0.mk (HS.out.below hb); have n1_ := Aside0.mk (below_step HB.out hb); have n2_ := bb_ BV hb; clear HS HB BV hb; have HS := n0_; have HB := n1_; have BV := n2_; clear n0_ n1_ n2_))
  have hu0 := bc0 BV
  have hu1 := bc1 BV
  have hu2 := bc2 BV
  have hu3 := bc3 BV
  have hu4 := bc4 BV
  clear HLEN
  have HLEN := Aside0.mk (show (sp3 ut vt).l.length ≤ 1000000 by show sixL.length + 1 + 1 ≤ 1000000; decide)
  go_upto_region 20 with (first | ((with_reducible refine gate_dst (N := 118) rfl ?_); (try (refine gate_guard (by rfl) ?_; dsimp only)); go_loud (refine Kd.R_lit k46 _ 46 ?hg (N := 118) ?hd (xs := [(⟨8, 0, B1 py, B1 qy, 1⟩ : S46)]) (inner := [.int .i64 8, .int .i64 0, .string (B1 py), .string (B1 qy), .int .i64 1]) (ok := fun _ => True) (okp := fun _ => True) ?hr ?hp (fun _ hk => hk) trivial (Below.refl _ _) (Nat.le_refl _) (by simp) ?_; (case hd => rfl); (case hg => rfl); (case hr => first | (go_simp; done) | (go_simp; rfl)); (case hp => exact (Reps.c5 (k46_mkM _ _ _ _) (Reps.none _ _))); intro v3 wl ho hb hg_ hnew_; rw [HTy.out] at ho; obtain ⟨A3, c3, e3_, _, _⟩ := Kd.R_reads ho; have e3 : v3 = .slice A3 1 c3 := e3_; clear e3_; subst e3; have HC := Aside0.mk (show Kd.R k46 46 wl _ (fun _ => True) (.slice A3 1 c3) [vt] from ho); have n0_ := Aside0.mk (HS.out.below hb); have n1_ := Aside0.mk (below_step HB.out hb); have n2_ := bb_ BV hb; clear HS HB BV hb; have HS := n0_; have HB := n1_; have BV := n2_; clear n0_ n1_ n2_; clear ho hg_ hnew_)) | (go_at_call 10; go_loud (with_reducible refine (DoC wl g (sp2 ut) HS.out HI2.out [vt] (.slice A3 1 c3) _ HC.out (by simp) 0 (sp3 ut vt) HD2.out.1 HD2.out.2).mono ?_; rintro e wA ⟨rfl, hs, hi, hf⟩; have n1_ := Aside0.mk (Fr.to_below HB.out hf (fun k hk => by rw [hk]; exact HGE.out)); clear HS HB HC; have HS := Aside0.mk hs; have HB := n1_; clear n1_ hs hi hf)))
  clear hu0 hu1 hu2 hu3 hu4
  obtain ⟨pl, hpl⟩ : ∃ p, p = pickL (sp3 ut vt).l := ⟨_, rfl⟩
  have HPL := Aside0.mk hpl.symm
  obtain ⟨xb, hxb⟩ : ∃ p : Nat, p = x + bm := ⟨_, rfl⟩
  obtain ⟨yb, hyb⟩ : ∃ p : Nat, p = y + dm := ⟨_, rfl⟩
  obtain ⟨lo, hlo⟩ : ∃ p : Nat, p = mn y x := ⟨_, rfl⟩
  obtain ⟨hi, hhi⟩ : ∃ p : Nat, p = mxN yb xb := ⟨_, rfl⟩
  obtain ⟨n, hn⟩ : ∃ n, n = 2 + cntN (reachN lo hi) 6 := ⟨_, rfl⟩
  rw [← hpl, ← hxb, ← hyb, ← hlo, ← hhi, ← hn] at HP3
  have HN := Aside0.mk hn
  have HNN := Aside0.mk (show 2 ≤ n ∧ n ≤ 8 by rw [hn]; have := cnt_le (reachN lo hi) 6; omega)
  clear hpl hn
  go_upto_region 21 with (go_at_call 12; go_loud (with_reducible refine (PickN _ g (sp3 ut vt).l (sp3 ut vt).lg (sp3 ut vt).sq (sp3 ut vt).nx pl n HS.out HLEN.out HPL.out HP3.out.1 HP3.out.2.1).mono ?_; rintro e wB ⟨A9, c9, rfl, hpc, hb⟩; have HPC := Aside0.mk hpc; have n0_ := Aside0.mk (HS.out.below hb); have n1_ := Aside0.mk (below_step HB.out hb); clear HS HB hb hpc; have HS := n0_; have HB := n1_; clear n0_ n1_))
  clear HLEN
  have hm1 : Builtin.min2 (.int .i64 (x : Int)) (.int .i64 (y : Int)) = pure (.int .i64 (lo : Int)) := by
    rw [min2_int, hlo]
    unfold mn
    by_cases h : y < x
    · rw [if_pos (show (y : Int) < (x : Int) by omega), if_neg (show ¬ x < y by omega)]
    · rw [if_neg (show ¬ (y : Int) < (x : Int) by omega)]
      by_cases h2 : x < y
      · rw [if_pos h2]
      · rw [if_neg h2, show x = y by omega]
  have hm2 : Builtin.max2 (.int .i64 (xb : Int)) (.int .i64 (yb : Int)) = pure (.int .i64 (hi : Int)) := by
    rw [max2_int, hhi]
    unfold mxN
    by_cases h : xb < yb
    · rw [if_pos (show (xb : Int) < (yb : Int) by omega), if_neg (show ¬ yb < xb by omega)]
    · rw [if_neg (show ¬ (xb : Int) < (yb : Int) by omega)]
      by_cases h2 : yb < xb
      · rw [if_pos h2]
      · rw [if_neg h2, show xb = yb by omega]
  have r1 : wrap64 ((x : Int) + (bm : Int)) = (xb : Int) := by rw [w64 (by have := Hx.out; have := Hbm.out; omega)]; omega
  have r2 : wrap64 ((y : Int) + (dm : Int)) = (yb : Int) := by clear r1; rw [w64 (by have := Hy.out; have := Hdm.out; omega)]; omega
  have HYB := Aside0.mk hyb
  clear hxb hyb hlo hhi
  go_upto_region 22 with (fail)
  have HBM := Aside0.mk hbm
  have HDM := Aside0.mk hdm
  clear r1 r2 hm1 hm2 hbm hdm
  go_wp2
  go_loopg [24, 25] 6 (fun kq v24 v25 w' => ∃ (i u : Nat), v25 = .int .i64 (i : Int) ∧ v24 = .int .i64 (u : Int) ∧ Aside0 (kq + i = 6) ∧ Aside0 (u = 2 + cntN (reachN lo hi) i) ∧ Aside0 (w' = wB))
  case atStart => exact ⟨0, 2, rfl, rfl, ⟨by omega⟩, ⟨rfl⟩, ⟨rfl⟩⟩
  obtain ⟨i, u, rfl, rfl, HQ, HU, HW⟩ := hrel
  obtain ⟨hw_⟩ := HW
  subst wr
  by_cases hlt : i < 6
  · obtain ⟨k1, rfl⟩ : ∃ k1, gk = k1 + 1 := ⟨gk - 1, by have := HQ.out; omega⟩
    have hd0 : decide (i < 6) = true := decide_eq_true hlt
    have hd1 : decide ((i : Int) < 6) = true := decide_eq_true (by omega)
    have HUL := Aside0.mk (show u ≤ 8 by rw [HU.out]; have := cnt_le (reachN lo hi) i; omega)
    have HSU := Aside0.mk (cnt_succ (reachN lo hi) i)
    have r1 : wrap64 (3 * (i : Int)) = 3 * (i : Int) := w64 (by omega)
    have r2 : wrap64 (3 * (i : Int) + 1) = 3 * (i : Int) + 1 := by clear r1; exact w64 (by omega)
    cases a1 : decide (3 * (i : Int) ≤ (hi : Int)) with
    | false =>
      have HP_ := Aside0.mk (show (reachN lo hi) i = false by
        have h_ := of_decide_eq_false a1
        unfold reachN
        rw [decide_eq_false (show ¬ 3 * i ≤ hi by clear r1 r2; omega)]; rfl)
      go_wp2
      clear r1 r2
      go_roundg k1
      case measure => have := HQ.out; omega
      case rel => exact ⟨i + 1, u, by first | rfl | (simp; done) | (simp; unfold wrap64; omega), rfl, ⟨by have := HQ.out; omega⟩, ⟨by rw [HSU.out, HP_.out, HU.out]; rfl⟩, ⟨rfl⟩⟩
    | true =>
      cases a2 : decide ((lo : Int) ≤ 3 * (i : Int) + 1) with
      | false =>
        have HP_ := Aside0.mk (show (reachN lo hi) i = false by
          have h_ := of_decide_eq_false a2
          unfold reachN
          rw [decide_eq_false (show ¬ lo ≤ 3 * i + 1 by clear r1 r2; omega)]; simp)
        go_wp2
        clear r1 r2
        go_roundg k1
        case measure => have := HQ.out; omega
        case rel => exact ⟨i + 1, u, by first | rfl | (simp; done) | (simp; unfold wrap64; omega), rfl, ⟨by have := HQ.out; omega⟩, ⟨by rw [HSU.out, HP_.out, HU.out]; rfl⟩, ⟨rfl⟩⟩
      | true =>
        have HP_ := Aside0.mk (show (reachN lo hi) i = true by
          have h1_ := of_decide_eq_true a1
          have h2_ := of_decide_eq_true a2
          unfold reachN
          rw [decide_eq_true (show 3 * i ≤ hi by clear r1 r2; omega), decide_eq_true (show lo ≤ 3 * i + 1 by clear r1 r2; omega)]; rfl)
        go_wp2
        clear r1 r2
        go_roundg k1
        case measure => have := HQ.out; omega
        case rel => exact ⟨i + 1, u + 1, by first | rfl | (simp; done) | (simp; unfold wrap64; omega), by have := HUL.out; simp; unfold wrap64; omega, ⟨by have := HQ.out; omega⟩, ⟨by rw [HSU.out, HP_.out, HU.out]; simp; try omega⟩, ⟨rfl⟩⟩
  have hd0 : decide (i < 6) = false := decide_eq_false hlt
  have hd1 : decide ((i : Int) < 6) = false := decide_eq_false (by omega)
  have HWANT := Aside0.mk (show u = 2 + cntN (reachN lo hi) 6 by rw [HU.out, show i = 6 by have := HQ.out; omega])
  clear HU HQ
  have HUN := Aside0.mk (show u = n by rw [HWANT.out, HN.out])
  obtain ⟨hun⟩ := HUN
  subst hun
  have hcv1 := b1_conv (wB.alloc (.cells #[.int .u8 (px : Int)] 5)) wB.heap.size px (blk_new wB _) (by have := HPx.out; have := Hx.out; omega)
  have r1 : wrap64 (97 + (x : Int)) = (px : Int) := by have := HPx.out; rw [w64 (by have := Hx.out; omega)]; omega
  have r3 : IntKind.u8.wrap (px : Int) = (px : Int) := u8w1 (by clear r1; have := HPx.out; have := Hx.out; omega)
  go_upto_region 29 with (fail)
  have hbl_ : Below wB.heap.size wB (wB.alloc (.cells #[.int .u8 (px : Int)] 5)) := below_alloc (Below.refl _ _) _
  have n0_ := Aside0.mk (HS.out.below hbl_)
  have n1_ := Aside0.mk (below_step HB.out hbl_)
  have n2_ := Aside0.mk (Kd.C_below HPC.out hbl_)
  clear HS HB HPC hbl_ hcv1 r1 r3
  have HS := n0_
  have HB := n1_
  have HPC := n2_
  clear n0_ n1_ n2_
  generalize wB.alloc (.cells #[.int .u8 (px : Int)] 5) = wC at HS HB HPC ⊢
  clear hd0 hd1
  go_wp2
  go_loopg [27, 28] 6 (fun kq v27 v28 w' => ∃ (i uc : Nat), v28 = .int .i64 (i : Int) ∧ v27 = .int .i64 (uc : Int) ∧ Aside0 (kq + i = 6) ∧ Aside0 (uc = cntN (fun i => decide (3 * i ≤ x) && decide (x ≤ 3 * i + 1)) i) ∧ Aside0 (w' = wC))
  case atStart => exact ⟨0, 0, rfl, rfl, ⟨by omega⟩, ⟨rfl⟩, ⟨rfl⟩⟩
  obtain ⟨i, uc, rfl, rfl, HQ, HU, HW⟩ := hrel
  obtain ⟨hw_⟩ := HW
  subst wr
  by_cases hlt : i < 6
  · obtain ⟨k1, rfl⟩ : ∃ k1, gk = k1 + 1 := ⟨gk - 1, by have := HQ.out; omega⟩
    have hd0 : decide (i < 6) = true := decide_eq_true hlt
    have hd1 : decide ((i : Int) < 6) = true := decide_eq_true (by omega)
    have HUL := Aside0.mk (show uc ≤ 8 by rw [HU.out]; have := cnt_le (fun i => decide (3 * i ≤ x) && decide (x ≤ 3 * i + 1)) i; omega)
    have HSU := Aside0.mk (cnt_succ (fun i => decide (3 * i ≤ x) && decide (x ≤ 3 * i + 1)) i)
    have r1 : wrap64 (3 * (i : Int)) = 3 * (i : Int) := w64 (by omega)
    have r2 : wrap64 (3 * (i : Int) + 1) = 3 * (i : Int) + 1 := by clear r1; exact w64 (by omega)
    cases a1 : decide (3 * (i : Int) ≤ (x : Int)) with
    | false =>
      have HP_ := Aside0.mk (show (fun i => decide (3 * i ≤ x) && decide (x ≤ 3 * i + 1)) i = false by
        have h_ := of_decide_eq_false a1
        show (decide (3 * i ≤ x) && decide (x ≤ 3 * i + 1)) = _
        rw [decide_eq_false (show ¬ 3 * i ≤ x by clear r1 r2; omega)]; rfl)
      go_wp2
      clear r1 r2
      go_roundg k1
      case measure => have := HQ.out; omega
      case rel => exact ⟨i + 1, uc, by first | rfl | (simp; done) | (simp; unfold wrap64; omega), rfl, ⟨by have := HQ.out; omega⟩, ⟨by rw [HSU.out, HP_.out, HU.out]; rfl⟩, ⟨rfl⟩⟩
    | true =>
      cases a2 : decide ((x : Int) ≤ 3 * (i : Int) + 1) with
      | false =>
        have HP_ := Aside0.mk (show (fun i => decide (3 * i ≤ x) && decide (x ≤ 3 * i + 1)) i = false by
          have h_ := of_decide_eq_false a2
          show (decide (3 * i ≤ x) && decide (x ≤ 3 * i + 1)) = _
          rw [decide_eq_false (show ¬ x ≤ 3 * i + 1 by clear r1 r2; omega)]; simp)
        go_wp2
        clear r1 r2
        go_roundg k1
        case measure => have := HQ.out; omega
        case rel => exact ⟨i + 1, uc, by first | rfl | (simp; done) | (simp; unfold wrap64; omega), rfl, ⟨by have := HQ.out; omega⟩, ⟨by rw [HSU.out, HP_.out, HU.out]; rfl⟩, ⟨rfl⟩⟩
      | true =>
        have HP_ := Aside0.mk (show (fun i => decide (3 * i ≤ x) && decide (x ≤ 3 * i + 1)) i = true by
          have h1_ := of_decide_eq_true a1
          have h2_ := of_decide_eq_true a2
          show (decide (3 * i ≤ x) && decide (x ≤ 3 * i + 1)) = _
          rw [decide_eq_true (show 3 * i ≤ x by clear r1 r2; omega), decide_eq_true (show x ≤ 3 * i + 1 by clear r1 r2; omega)]; rfl)
        go_wp2
        clear r1 r2
        go_roundg k1
        case measure => have := HQ.out; omega
        case rel => exact ⟨i + 1, uc + 1, by first | rfl | (simp; done) | (simp; unfold wrap64; omega), by have := HUL.out; simp; unfold wrap64; omega, ⟨by have := HQ.out; omega⟩, ⟨by rw [HSU.out, HP_.out, HU.out]; simp; try omega⟩, ⟨rfl⟩⟩
  have hd0 : decide (i < 6) = false := decide_eq_false hlt
  have hd1 : decide ((i : Int) < 6) = false := decide_eq_false (by omega)
  have HCOV := Aside0.mk (show uc = cntN (fun i => decide (3 * i ≤ x) && decide (x ≤ 3 * i + 1)) 6 by rw [HU.out, show i = 6 by have := HQ.out; omega])
  clear HU HQ
  have HCL := Aside0.mk (show uc ≤ 6 by rw [HCOV.out]; exact cnt_le _ 6)
  have HLEN := Aside0.mk (show (sp3 ut vt).l.length ≤ 1000000 by show sixL.length + 1 + 1 ≤ 1000000; decide)
  obtain ⟨r_, hr_⟩ := HP3.out.2.2
  have HPR := Aside0.mk hr_
  obtain ⟨ad, e_, hx0, _, _, _, _⟩ := at_T46 HPC.out (0 : Int) (by omega) (by have := HNN.out; omega)
  obtain ⟨ad2, e2_, hx1, _, _, _, _⟩ := at_T46 HPC.out (1 : Int) (by omega) (by have := HNN.out; omega)
  subst e_
  injection e2_ with e3_
  subst e3_
  rw [show rd_T46 pl (0 : Int) = vt by rw [hr_]; rfl, HV0.out.2] at hx0
  rw [show rd_T46 pl (1 : Int) = ut by rw [hr_]; rfl, HU0.out.2] at hx1
  have hy0 : wC.cell? ad = some (.int .i64 8) := by simpa [Addr.add] using hx0
  have hy1 : wC.cell? ⟨ad.block, ad.off + 5, none⟩ = some (.int .i64 7) := hx1
  have p1 : (0 : Int) < (u : Int) := by have := HNN.out; omega
  have p2 : (1 : Int) < (u : Int) := by have := HNN.out; omega
  have p3 : 0 < u := by have := HNN.out; omega
  have p4 : 1 < u := by have := HNN.out; omega
  clear hx0 hx1 hr_
  have hdm := HDM.out
  cases a1 : decide ((y : Int) ≤ (x : Int)) with
  | false =>
    have a1n : decide (y ≤ x) = false := decide_eq_false (by have := of_decide_eq_false a1; omega)
    obtain ⟨n2, hn2⟩ : ∃ m : Nat, m = uc + 1 := ⟨_, rfl⟩
    have HC2 := Aside0.mk (show ((sp3 ut vt).l.filter (cvB (B1 px))).length = n2 by rw [HPx.out, HCV.out, hn2, HCOV.out]; have h_ := of_decide_eq_false a1; rw [if_neg (fun h => by omega)] )
    have q2 : wrap64 ((uc : Int) + 1) = (n2 : Int) := by rw [w64 (by have := HCL.out; omega)]; omega
    clear hn2
    go_wp2_with (go_at_call 15; go_loud (with_reducible refine (CoverX _ g (sp3 ut vt).l (sp3 ut vt).lg (sp3 ut vt).sq (sp3 ut vt).nx (B1 px) n2 HS.out HLEN.out HC2.out).mono ?_; rintro e wD ⟨A_, c_, rfl, hb⟩; have n1_ := Aside0.mk (below_step HB.out hb); clear HB hb; have HB := n1_; clear n1_))
    go_ret
    exact ⟨rfl, HB.out⟩
  | true =>
    have a1n : decide (y ≤ x) = true := decide_eq_true (by have := of_decide_eq_true a1; omega)
    have r1 : wrap64 ((y : Int) + (dm : Int)) = (yb : Int) := by have := HYB.out; rw [w64 (by have := Hy.out; have := Hdm.out; omega)]; omega
    cases a2 : decide ((x : Int) ≤ (yb : Int)) with
    | false =>
      have a2n : decide (x ≤ yb) = false := decide_eq_false (by have := of_decide_eq_false a2; clear r1; omega)
      obtain ⟨n2, hn2⟩ : ∃ m : Nat, m = uc + 1 := ⟨_, rfl⟩
      have HC2 := Aside0.mk (show ((sp3 ut vt).l.filter (cvB (B1 px))).length = n2 by rw [HPx.out, HCV.out, hn2, HCOV.out]; have h_ := of_decide_eq_false a2; have h2_ := HYB.out; clear r1; rw [if_neg (fun h => by omega)] )
      have q2 : wrap64 ((uc : Int) + 1) = (n2 : Int) := by clear r1; rw [w64 (by have := HCL.out; omega)]; omega
      clear hn2
      go_wp2_with (go_at_call 15; go_loud (with_reducible refine (CoverX _ g (sp3 ut vt).l (sp3 ut vt).lg (sp3 ut vt).sq (sp3 ut vt).nx (B1 px) n2 HS.out HLEN.out HC2.out).mono ?_; rintro e wD ⟨A_, c_, rfl, hb⟩; have n1_ := Aside0.mk (below_step HB.out hb); clear HB hb; have HB := n1_; clear n1_))
      go_ret
      exact ⟨rfl, HB.out⟩
    | true =>
      have a2n : decide (x ≤ yb) = true := decide_eq_true (by have := of_decide_eq_true a2; clear r1; omega)
      obtain ⟨n2, hn2⟩ : ∃ m : Nat, m = (uc + 1) + 1 := ⟨_, rfl⟩
      have HC2 := Aside0.mk (show ((sp3 ut vt).l.filter (cvB (B1 px))).length = n2 by rw [HPx.out, HCV.out, hn2, HCOV.out]; have h0_ := of_decide_eq_true a1; have h_ := of_decide_eq_true a2; have h2_ := HYB.out; clear r1; rw [if_pos (by omega)] )
      have q1 : wrap64 ((uc : Int) + 1) = ((uc + 1 : Nat) : Int) := by clear r1; rw [w64 (by have := HCL.out; omega)]; omega
      obtain ⟨u1, hu1⟩ : ∃ m : Nat, m = uc + 1 := ⟨_, rfl⟩
      rw [← hu1] at q1 hn2
      have q2 : wrap64 ((u1 : Int) + 1) = (n2 : Int) := by clear r1 q1; rw [w64 (by have := HCL.out; omega)]; omega
      have HU1 := Aside0.mk hu1
      clear hu1 hn2
      go_wp2_with (go_at_call 15; go_loud (with_reducible refine (CoverX _ g (sp3 ut vt).l (sp3 ut vt).lg (sp3 ut vt).sq (sp3 ut vt).nx (B1 px) n2 HS.out HLEN.out HC2.out).mono ?_; rintro e wD ⟨A_, c_, rfl, hb⟩; have n1_ := Aside0.mk (below_step HB.out hb); clear HB hb; have HB := n1_; clear n1_))
      go_ret
      exact ⟨rfl, HB.out⟩
theorem LSpreadI (w : World) (a b c d : Int) (ha : (Lit.int .u8 a).wf = true) (hb : (Lit.int .u8 b).wf = true) (hc : (Lit.int .u8 c).wf = true) (hd : (Lit.int .u8 d).wf = true) :
    Calls Try.prog 5 #[.int .u8 a, .int .u8 b, .int .u8 c, .int .u8 d] w fun e w' => e = .returned (.bool true) ∧ Below w.heap.size w w' := by
  have h1 := wf_u8 ha
  have h2 := wf_u8 hb
  have h3 := wf_u8 hc
  have h4 := wf_u8 hd
  obtain ⟨a, rfl⟩ := Int.eq_ofNat_of_zero_le h1.1
  obtain ⟨b, rfl⟩ := Int.eq_ofNat_of_zero_le h2.1
  obtain ⟨c, rfl⟩ := Int.eq_ofNat_of_zero_le h3.1
  obtain ⟨d, rfl⟩ := Int.eq_ofNat_of_zero_le h4.1
  exact LSpread w a b c d (by omega) (by omega) (by omega) (by omega)
end Go.Proofs.Ytfpnllajpnnfdaa.Q
