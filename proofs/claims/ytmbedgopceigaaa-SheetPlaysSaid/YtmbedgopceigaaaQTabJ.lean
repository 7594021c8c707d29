import Derived.Test.YtmbedgopceigaaaQTabI
import Derived.Test.YtmbedgopceigaaaQTabF
import Derived.Test.YtmbedgopceigaaaQTabL13
import Derived.Test.YtmbedgopceigaaaM4
import Derived.Test.YtmbedgopceigaaaM6
import Derived.Test.YtmbedgopceigaaaM5
namespace Go.Proofs.Ytmbedgopceigaaa.Q
open Go.RowKit Go.Lib Go.Proofs Go.Proofs.Ytmbedgopceigaaa.P Go.Proofs.YtmbedgopceigaaaW.PrintWords Go.Proofs.YtmbedgopceigaaaW.PrintLast Go.Proofs.YtmbedgopceigaaaW.PrintMore
set_option linter.unusedVariables false
set_option linter.unusedSimpArgs false
attribute [local go_sem high] string_leq string_geq string_gtr
/-! sheet.Read -/
theorem DoX (w : World) (g : Nat) (s : St) (hs : Sh w g s.l s.lg s.sq s.nx) (hinv : InvS s) (G : List Int) (AG : Option Addr) (cG : Nat) (C : List S32) (AC : Option Addr) (cC : Nat) (lg sq : Int)
    (hG : (Kd.int .i64).C w AG G.length G) (hcG : G.length ≤ cG) (hC : Kd.C k32 w AC C.length C) (hcC : C.length ≤ cC) (hlG : G.length ≤ 1000000) (hlC : C.length ≤ 1000000) (n : Int) (s2 : St) (hn : doE s G C lg sq = n) (h2 : doS s G C lg sq = s2) :
    Calls Try.prog 13 #[.pointer (some ⟨g, 0, none⟩), .agg #[.slice AG G.length cG, .slice AC C.length cC, .int .i64 lg, .int .i64 sq]] w fun e w' => e = .returned (.int .i64 n) ∧ Sh w' g s2.l s2.lg s2.sq s2.nx ∧ InvS s2 ∧ Fr w w' (fun k => k = g) := by
  refine (SDo w g s hs hinv G AG cG C AC cC lg sq hG hcG hC hcC hlG hlC).mono ?_
  rintro e w' ⟨rfl, h3, h4⟩
  have hi := doS_inv hinv G C lg sq
  rw [h2] at h3 hi
  exact ⟨by rw [hn], h3, hi, h4⟩
theorem DoC (w : World) (g : Nat) (s : St) (hs : Sh w g s.l s.lg s.sq s.nx) (hinv : InvS s) (C : List S32) (v : Value) (base : Nat) (hC : Kd.R k32 32 w base (fun _ => True) v C) (hlC : C.length ≤ 1000000) (n : Int) (s2 : St) (hn : doE s [] C 0 0 = n) (h2 : doS s [] C 0 0 = s2) :
    Calls Try.prog 13 #[.pointer (some ⟨g, 0, none⟩), .agg #[.slice none 0 0, v, .int .i64 0, .int .i64 0]] w fun e w' => e = .returned (.int .i64 n) ∧ Sh w' g s2.l s2.lg s2.sq s2.nx ∧ InvS s2 ∧ Fr w w' (fun k => k = g) := by
  obtain ⟨A, c, rfl, h5, h6⟩ := Kd.R_reads hC
  exact DoX w g s hs hinv [] none 0 C A c 0 0 (Kd.C_nil _ _) (Nat.le_refl _) h6 h5 (by decide) hlC n s2 hn h2
structure Ed where
  G : List Int
  C : List S32
  lg : Int
  sq : Int
/-- The edit that stands sealed at the front: how many bytes. -/
structure Front (s : ByteArray) (at_ : Nat) (inn : ByteArray) (n : Nat) (e : Ed) (ok : Bool) (again : ByteArray) (er : Int) : Prop where
  opn : ∃ k, seal_Open.f k (s.extract at_ s.size) = some (inn, (n : Int), 0)
  tak : ∃ k, sheet_take.f k inn = some (e.G, e.C, e.lg, e.sq, ok)
  byt : ∃ k, sheet_Bytes.f k e.G e.C e.lg e.sq = some (again, er)
  fit : at_ + n ≤ s.size
  few : e.G.length ≤ 1000000 ∧ e.C.length ≤ 1000000
/-- How the reading goes on: m rounds. -/
inductive Rd (s : ByteArray) : Nat → Nat → St → Nat → St → Prop
  | halt {at_ : Nat} {st : St} {inn : ByteArray} {n er : Int} (hle : at_ ≤ s.size) (h : ∃ k, seal_Open.f k (s.extract at_ s.size) = some (inn, n, er)) (hne : er ≠ 0) : Rd s 0 at_ st at_ st
  | bad {at_ : Nat} {st : St} {inn : ByteArray} {n : Nat} {e : Ed} {ok : Bool} {again : ByteArray} {er : Int} (hle : at_ ≤ s.size) (h : Front s at_ inn n e ok again er) (hb : ok = false ∨ er ≠ 0 ∨ again ≠ s.extract at_ (at_ + n)) : Rd s 0 at_ st at_ st
  | err {at_ : Nat} {st : St} {inn : ByteArray} {n : Nat} {e : Ed} {again : ByteArray} (hle : at_ ≤ s.size) (h : Front s at_ inn n e true again 0) (hb : again = s.extract at_ (at_ + n)) (hd : doE st e.G e.C e.lg e.sq ≠ 0) : Rd s 0 at_ st at_ st
  | next {m at_ b : Nat} {st st2 : St} {inn : ByteArray} {n : Nat} {e : Ed} {again : ByteArray} (hle : at_ ≤ s.size) (h : Front s at_ inn n e true again 0) (hb : again = s.extract at_ (at_ + n)) (hd : doE st e.G e.C e.lg e.sq = 0) (hr : Rd s m (at_ + n) (doS st e.G e.C e.lg e.sq) b st2) : Rd s (m + 1) at_ st b st2
theorem Rd.le {s : ByteArray} {m at_ b : Nat} {st st2 : St} (h : Rd s m at_ st b st2) : at_ ≤ s.size := by cases h <;> assumption
theorem ext_eq {a b : ByteArray} : (a.toList == b.toList) = decide (a = b) := by
  by_cases h : a = b
  · subst h; simp
  · rw [decide_eq_false h, beq_eq_false_iff_ne]
    intro e
    exact h (eq_of_data (by rw [← toL, ← toL, e]))
set_option maxHeartbeats 8000000 in
set_option maxRecDepth 100000 in
theorem SRead (w : World) (s : ByteArray) (hsz : s.size ≤ 9223372036854775807) (m b : Nat) (st2 : St) (hr : Rd s m 0 new0 b st2) :
    Calls Try.prog 18 #[.string s] w fun e w' => ∃ g : Nat, e = .returned (.tuple #[.pointer (some ⟨g, 0, none⟩), .int .i64 (b : Int), .int .i64 (if b = 0 then 10 else 0)]) ∧ Sh w' g st2.l st2.lg st2.sq st2.nx ∧ InvS st2 ∧ w.heap.size ≤ g ∧ Below w.heap.size w w' := by
  have HRD := Aside0.mk hr
  have HSZ := Aside0.mk hsz
  clear hr hsz
  go_enter Try.func18, Try.ntmps18
  go_wp2_with (first | go_step3 | (go_at_call 10; go_loud (with_reducible refine (SNew _).mono ?_; rintro e w3 ⟨g, rfl, hs, hge, hb⟩; have HS := Aside0.mk hs; have HGE := Aside0.mk hge; have HB := Aside0.mk hb; clear hs hge hb)))
  go_loopg [6] (m + 1) (fun kq v6 w' => ∃ (a m' : Nat) (st : St), v6 = .int .i64 (a : Int) ∧ Aside0 (kq = m' + 1) ∧ Aside0 (Rd s m' a st b st2) ∧ Aside0 (Sh w' g st.l st.lg st.sq st.nx) ∧ Aside0 (InvS st) ∧ Aside0 (Below w.heap.size w w'))
  case atStart => exact ⟨0, m, new0, rfl, ⟨rfl⟩, HRD, ⟨HS.out⟩, ⟨inv_new⟩, HB⟩
  clear HRD HS HB
  obtain ⟨a, m', st, rfl, HQ, HRD, HS, HI, HB⟩ := hrel
  have HLE := Aside0.mk HRD.out.le
  have p0 : 0 ≤ (a : Int) := by omega
  have p1 : (a : Int) ≤ (s.size : Int) := by have := HLE.out; omega
  have p2 : a ≤ s.size := HLE.out
  cases HRD.out with
  | @halt _ _ inn n er hle h hne =>
    obtain ⟨ko, ho_⟩ := h
    have HOP := Aside0.mk ho_
    have hn1 : (er != 0) = true := by rw [bne_iff_ne]; exact hne
    have hn2 : (er == 0) = false := by rw [beq_eq_false_iff_ne]; exact hne
    clear ho_ hne
    go_upto_region 8 with (first | (go_at_call 42; go_loud (with_reducible refine (seal_Open.calls ko (s.extract b s.size) inn n er _ (HOP.out)).mono ?_; rintro e_ w4 ⟨rfl, hb⟩; have n0_ := Aside0.mk (HS.out.below hb); have n1_ := Aside0.mk (below_step HB.out hb); clear HS HB hb; have HS := n0_; have HB := n1_; clear n0_ n1_)) | go_step3 | go_in)
    by_cases hb0 : b = 0
    · subst hb0
      go_wp2_with (first | go_step3 | go_in)
      ((try rw [Exit.noGoto_ret]); go_ret3)
      exact ⟨g, by first | rfl | (rw [if_pos rfl]; rfl), HS.out, HI.out, HGE.out, HB.out⟩
    have hz1 : ((b : Int) == 0) = false := by rw [beq_eq_false_iff_ne]; omega
    have hz2 : (b == 0) = false := by rw [beq_eq_false_iff_ne]; omega
    have HZ := Aside0.mk hb0
    have hz3 : decide (b = 0) = false := decide_eq_false hb0
    go_wp2_with (first | go_step3 | go_in)
    ((try rw [Exit.noGoto_ret]); go_ret3)
    exact ⟨g, by first | rfl | (rw [if_neg HZ.out]; rfl), HS.out, HI.out, HGE.out, HB.out⟩
  | @bad _ _ inn n e ok again er hle h hb =>
    have HF := Aside0.mk h
    have HBAD := Aside0.mk hb
    clear h hb
    obtain ⟨ko, ho_⟩ := HF.out.opn
    obtain ⟨kt, ht_⟩ := HF.out.tak
    obtain ⟨kb, hb_⟩ := HF.out.byt
    have HOP := Aside0.mk ho_
    have HTK := Aside0.mk ht_
    have HBY := Aside0.mk hb_
    have HFIT := Aside0.mk HF.out.fit
    clear ho_ ht_ hb_
    have hcut : wrap64 ((b : Int) + (n : Int)) = ((b + n : Nat) : Int) := by have := HFIT.out; have := HSZ.out; unfold wrap64; omega
    have HCUT := Aside0.mk hcut
    clear hcut
    go_upto_region 5 with (first | (go_at_call 42; go_loud (with_reducible refine (seal_Open.calls ko (s.extract b s.size) inn (n : Int) 0 _ (HOP.out)).mono ?_; rintro e_ w4 ⟨rfl, hb⟩; have n0_ := Aside0.mk (HS.out.below hb); have n1_ := Aside0.mk (below_step HB.out hb); clear HS HB hb; have HS := n0_; have HB := n1_; clear n0_ n1_)) | (go_at_call 43; go_loud (with_reducible refine (sheet_take.calls kt inn e.G e.C e.lg e.sq ok _ HTK.out).mono ?_; rintro e_ w5 ⟨v0, v1, rfl, h1, h2, hb⟩; obtain ⟨AG, cG, e1_, hcG, hG⟩ := Kd.R_reads h1; subst e1_; obtain ⟨AC, cC, e2_, hcC, hC⟩ := Kd.R_reads h2; subst e2_; have HG := Aside0.mk hG; have HCG := Aside0.mk hcG; have HC := Aside0.mk hC; have HCC := Aside0.mk hcC; clear h1 h2 hG hcG hC hcC; have n0_ := Aside0.mk (HS.out.below hb); have n1_ := Aside0.mk (below_step HB.out hb); clear HS HB hb; have HS := n0_; have HB := n1_; clear n0_ n1_)))
    have BE := Aside0.mk (blk_new w5 (.cells #[.slice AG e.G.length cG, .slice AC e.C.length cC, .int .i64 e.lg, .int .i64 e.sq] 36))
    have hbl_ := below_alloc (Below.refl w5.heap.size w5) (.cells #[.slice AG e.G.length cG, .slice AC e.C.length cC, .int .i64 e.lg, .int .i64 e.sq] 36)
    have n0_ := Aside0.mk (HS.out.below hbl_)
    have n1_ := Aside0.mk (below_step HB.out hbl_)
    have n2_ := Aside0.mk (Kd.C_below HG.out hbl_)
    have n3_ := Aside0.mk (Kd.C_below HC.out hbl_)
    clear HS HB HG HC hbl_
    have HS := n0_
    have HB := n1_
    have HG := n2_
    have HC := n3_
    clear n0_ n1_ n2_ n3_
    generalize w5.alloc (.cells #[.slice AG e.G.length cG, .slice AC e.C.length cC, .int .i64 e.lg, .int .i64 e.sq] 36) = w6 at HS HB HG HC BE ⊢
    generalize w5.heap.size = gx at BE ⊢
    have he0 := bc0 BE
    have he1 := bc1 BE
    have he2 := bc2 BE
    have he3 := bc3 BE
    go_upto_region 6 with (go_at_call 16; go_loud (with_reducible refine (sheet_Bytes.calls kb AG cG e.G AC cC e.C e.lg e.sq again er _ HG.out HCG.out HC.out HCC.out HBY.out).mono ?_; rintro e_ w7 ⟨rfl, hb⟩; have n0_ := Aside0.mk (HS.out.below hb); have n1_ := Aside0.mk (below_step HB.out hb); have n2_ := Aside0.mk (Kd.C_below HG.out hb); have n3_ := Aside0.mk (Kd.C_below HC.out hb); have n4_ := bb_ BE hb; clear HS HB hb HG HC BE; have HS := n0_; have HB := n1_; have HG := n2_; have HC := n3_; have BE := n4_; clear n0_ n1_ n2_ n3_ n4_; clear he0 he1 he2 he3))
    have he0 := bc0 BE
    have he1 := bc1 BE
    have he2 := bc2 BE
    have he3 := bc3 BE
    by_cases hok : ok = false
    · subst hok
      go_upto_region 8 with (first | go_step3 | go_in)
      by_cases hb0 : b = 0
      · subst hb0
        go_wp2_with (first | go_step3 | go_in)
        ((try rw [Exit.noGoto_ret]); go_ret3)
        exact ⟨g, by first | rfl | (rw [if_pos rfl]; rfl), HS.out, HI.out, HGE.out, HB.out⟩
      have hz1 : ((b : Int) == 0) = false := by rw [beq_eq_false_iff_ne]; omega
      have hz2 : (b == 0) = false := by rw [beq_eq_false_iff_ne]; omega
      have HZ := Aside0.mk hb0
      have hz3 : decide (b = 0) = false := decide_eq_false hb0
      go_wp2_with (first | go_step3 | go_in)
      ((try rw [Exit.noGoto_ret]); go_ret3)
      exact ⟨g, by first | rfl | (rw [if_neg HZ.out]; rfl), HS.out, HI.out, HGE.out, HB.out⟩
    have hok2 : ok = true := by cases ok with | true => rfl | false => exact absurd rfl hok
    subst hok2
    by_cases her : er ≠ 0
    · have hn1 : (er != 0) = true := by rw [bne_iff_ne]; exact her
      have hn2 : (er == 0) = false := by rw [beq_eq_false_iff_ne]; exact her
      clear her hok
      go_upto_region 8 with (first | go_step3 | go_in)
      by_cases hb0 : b = 0
      · subst hb0
        go_wp2_with (first | go_step3 | go_in)
        ((try rw [Exit.noGoto_ret]); go_ret3)
        exact ⟨g, by first | rfl | (rw [if_pos rfl]; rfl), HS.out, HI.out, HGE.out, HB.out⟩
      have hz1 : ((b : Int) == 0) = false := by rw [beq_eq_false_iff_ne]; omega
      have hz2 : (b == 0) = false := by rw [beq_eq_false_iff_ne]; omega
      have HZ := Aside0.mk hb0
      have hz3 : decide (b = 0) = false := decide_eq_false hb0
      go_wp2_with (first | go_step3 | go_in)
      ((try rw [Exit.noGoto_ret]); go_ret3)
      exact ⟨g, by first | rfl | (rw [if_neg HZ.out]; rfl), HS.out, HI.out, HGE.out, HB.out⟩
    have her2 : er = 0 := Decidable.not_not.1 her
    subst her2
    have HAG := Aside0.mk (show again ≠ s.extract b (b + n) by
      rcases HBAD.out with h | h | h
      · cases h
      · exact absurd rfl h
      · exact h)
    have ha1 : (again.toList == (s.extract b (b + n)).toList) = false := by rw [ext_eq]; exact decide_eq_false HAG.out
    have ha2 : (again.toList != (s.extract b (b + n)).toList) = true := by rw [bne, ha1]; rfl
    clear hok her
    obtain ⟨q, hq⟩ : ∃ q : Nat, q = b + n := ⟨_, rfl⟩
    have HQN := Aside0.mk hq
    rw [← hq] at ha1 ha2
    have hcut : wrap64 ((b : Int) + (n : Int)) = (q : Int) := by rw [HCUT.out, hq]
    have p3 : (b : Int) ≤ (q : Int) := by clear hcut; omega
    have p4 : (q : Int) ≤ (s.size : Int) := by clear hcut; have := HFIT.out; omega
    have p5 : b ≤ q := by clear hcut; omega
    have p6 : q ≤ s.size := by clear hcut; have := HFIT.out; omega
    have p7 : 0 ≤ (q : Int) := by clear hcut; omega
    clear hq
    go_upto_region 8 with (first | go_step3 | go_in)
    clear hcut p3 p4 p5 p6 p7
    by_cases hb0 : b = 0
    · subst hb0
      go_wp2_with (first | go_step3 | go_in)
      ((try rw [Exit.noGoto_ret]); go_ret3)
      exact ⟨g, by first | rfl | (rw [if_pos rfl]; rfl), HS.out, HI.out, HGE.out, HB.out⟩
    have hz1 : ((b : Int) == 0) = false := by rw [beq_eq_false_iff_ne]; omega
    have hz2 : (b == 0) = false := by rw [beq_eq_false_iff_ne]; omega
    have HZ := Aside0.mk hb0
    have hz3 : decide (b = 0) = false := decide_eq_false hb0
    go_wp2_with (first | go_step3 | go_in)
    ((try rw [Exit.noGoto_ret]); go_ret3)
    exact ⟨g, by first | rfl | (rw [if_neg HZ.out]; rfl), HS.out, HI.out, HGE.out, HB.out⟩
  | @err _ _ inn n e again hle h hb hd =>
    have HF := Aside0.mk h
    have HAG := Aside0.mk hb
    have HD := Aside0.mk hd
    have HFW := Aside0.mk h.few
    clear h hb hd
    obtain ⟨ko, ho_⟩ := HF.out.opn
    obtain ⟨kt, ht_⟩ := HF.out.tak
    obtain ⟨kb, hb_⟩ := HF.out.byt
    have HOP := Aside0.mk ho_
    have HTK := Aside0.mk ht_
    have HBY := Aside0.mk hb_
    have HFIT := Aside0.mk HF.out.fit
    clear ho_ ht_ hb_
    have hcut : wrap64 ((b : Int) + (n : Int)) = ((b + n : Nat) : Int) := by have := HFIT.out; have := HSZ.out; unfold wrap64; omega
    have HCUT := Aside0.mk hcut
    clear hcut
    go_upto_region 5 with (first | (go_at_call 42; go_loud (with_reducible refine (seal_Open.calls ko (s.extract b s.size) inn (n : Int) 0 _ (HOP.out)).mono ?_; rintro e_ w4 ⟨rfl, hb⟩; have n0_ := Aside0.mk (HS.out.below hb); have n1_ := Aside0.mk (below_step HB.out hb); clear HS HB hb; have HS := n0_; have HB := n1_; clear n0_ n1_)) | (go_at_call 43; go_loud (with_reducible refine (sheet_take.calls kt inn e.G e.C e.lg e.sq true _ HTK.out).mono ?_; rintro e_ w5 ⟨v0, v1, rfl, h1, h2, hb⟩; obtain ⟨AG, cG, e1_, hcG, hG⟩ := Kd.R_reads h1; subst e1_; obtain ⟨AC, cC, e2_, hcC, hC⟩ := Kd.R_reads h2; subst e2_; have HG := Aside0.mk hG; have HCG := Aside0.mk hcG; have HC := Aside0.mk hC; have HCC := Aside0.mk hcC; clear h1 h2 hG hcG hC hcC; have n0_ := Aside0.mk (HS.out.below hb); have n1_ := Aside0.mk (below_step HB.out hb); clear HS HB hb; have HS := n0_; have HB := n1_; clear n0_ n1_)))
    have BE := Aside0.mk (blk_new w5 (.cells #[.slice AG e.G.length cG, .slice AC e.C.length cC, .int .i64 e.lg, .int .i64 e.sq] 36))
    have hbl_ := below_alloc (Below.refl w5.heap.size w5) (.cells #[.slice AG e.G.length cG, .slice AC e.C.length cC, .int .i64 e.lg, .int .i64 e.sq] 36)
    have n0_ := Aside0.mk (HS.out.below hbl_)
    have n1_ := Aside0.mk (below_step HB.out hbl_)
    have n2_ := Aside0.mk (Kd.C_below HG.out hbl_)
    have n3_ := Aside0.mk (Kd.C_below HC.out hbl_)
    clear HS HB HG HC hbl_
    have HS := n0_
    have HB := n1_
    have HG := n2_
    have HC := n3_
    clear n0_ n1_ n2_ n3_
    generalize w5.alloc (.cells #[.slice AG e.G.length cG, .slice AC e.C.length cC, .int .i64 e.lg, .int .i64 e.sq] 36) = w6 at HS HB HG HC BE ⊢
    generalize w5.heap.size = gx at BE ⊢
    have he0 := bc0 BE
    have he1 := bc1 BE
    have he2 := bc2 BE
    have he3 := bc3 BE
    go_upto_region 6 with (go_at_call 16; go_loud (with_reducible refine (sheet_Bytes.calls kb AG cG e.G AC cC e.C e.lg e.sq again 0 _ HG.out HCG.out HC.out HCC.out HBY.out).mono ?_; rintro e_ w7 ⟨rfl, hb⟩; have n0_ := Aside0.mk (HS.out.below hb); have n1_ := Aside0.mk (below_step HB.out hb); have n2_ := Aside0.mk (Kd.C_below HG.out hb); have n3_ := Aside0.mk (Kd.C_below HC.out hb); have n4_ := bb_ BE hb; clear HS HB hb HG HC BE; have HS := n0_; have HB := n1_; have HG := n2_; have HC := n3_; have BE := n4_; clear n0_ n1_ n2_ n3_ n4_; clear he0 he1 he2 he3))
    have he0 := bc0 BE
    have he1 := bc1 BE
    have he2 := bc2 BE
    have he3 := bc3 BE
    have ha1 : (again.toList == (s.extract b (b + n)).toList) = true := by rw [ext_eq]; exact decide_eq_true HAG.out
    have ha2 : (again.toList != (s.extract b (b + n)).toList) = false := by rw [bne, ha1]; rfl
    have hd1 : (doE st2 e.G e.C e.lg e.sq != 0) = true := by rw [bne_iff_ne]; exact HD.out
    have hd2 : (doE st2 e.G e.C e.lg e.sq == 0) = false := by rw [beq_eq_false_iff_ne]; exact HD.out
    obtain ⟨q, hq⟩ : ∃ q : Nat, q = b + n := ⟨_, rfl⟩
    have HQN := Aside0.mk hq
    rw [← hq] at ha1 ha2
    have hcut : wrap64 ((b : Int) + (n : Int)) = (q : Int) := by rw [HCUT.out, hq]
    have p3 : (b : Int) ≤ (q : Int) := by clear hcut; omega
    have p4 : (q : Int) ≤ (s.size : Int) := by clear hcut; have := HFIT.out; omega
    have p5 : b ≤ q := by clear hcut; omega
    have p6 : q ≤ s.size := by clear hcut; have := HFIT.out; omega
    have p7 : 0 ≤ (q : Int) := by clear hcut; omega
    clear hq
    go_upto_region 8 with (first | (go_at_call 13; go_loud (with_reducible refine (DoX _ g st2 HS.out HI.out e.G AG cG e.C AC cC e.lg e.sq HG.out HCG.out HC.out HCC.out HFW.out.1 HFW.out.2 _ _ rfl rfl).mono ?_; rintro e_ w8 ⟨rfl, hs, hi, hf⟩; have n0_ := Aside0.mk (Fr.to_below HB.out hf (fun k hk => by rw [hk]; exact HGE.out)); clear HS HB hf he0 he1 he2 he3; have HS := Aside0.mk hs; have HB := n0_; have HI2 := Aside0.mk hi; clear hs hi n0_)) | go_step3 | go_in)
    have n0_ := Aside0.mk (show Sh w8 g st2.l st2.lg st2.sq st2.nx by have h_ := HS.out; rw [show doS st2 e.G e.C e.lg e.sq = st2 by unfold doS; rw [if_neg HD.out]] at h_; exact h_)
    clear HS hcut p3 p4 p5 p6 p7
    have HS := n0_
    clear n0_
    by_cases hb0 : b = 0
    · subst hb0
      go_wp2_with (first | go_step3 | go_in)
      ((try rw [Exit.noGoto_ret]); go_ret3)
      exact ⟨g, by first | rfl | (rw [if_pos rfl]; rfl), HS.out, HI.out, HGE.out, HB.out⟩
    have hz1 : ((b : Int) == 0) = false := by rw [beq_eq_false_iff_ne]; omega
    have hz2 : (b == 0) = false := by rw [beq_eq_false_iff_ne]; omega
    have HZ := Aside0.mk hb0
    have hz3 : decide (b = 0) = false := decide_eq_false hb0
    go_wp2_with (first | go_step3 | go_in)
    ((try rw [Exit.noGoto_ret]); go_ret3)
    exact ⟨g, by first | rfl | (rw [if_neg HZ.out]; rfl), HS.out, HI.out, HGE.out, HB.out⟩
  | @next m1 _ _ _ _ inn n e again hle h hb hd hr =>
    have HF := Aside0.mk h
    have HAG := Aside0.mk hb
    have HD := Aside0.mk hd
    have HNX := Aside0.mk hr
    have HFW := Aside0.mk h.few
    clear h hb hd hr
    obtain ⟨ko, ho_⟩ := HF.out.opn
    obtain ⟨kt, ht_⟩ := HF.out.tak
    obtain ⟨kb, hb_⟩ := HF.out.byt
    have HOP := Aside0.mk ho_
    have HTK := Aside0.mk ht_
    have HBY := Aside0.mk hb_
    have HFIT := Aside0.mk HF.out.fit
    clear ho_ ht_ hb_
    have hcut : wrap64 ((a : Int) + (n : Int)) = ((a + n : Nat) : Int) := by have := HFIT.out; have := HSZ.out; unfold wrap64; omega
    have HCUT := Aside0.mk hcut
    clear hcut
    go_upto_region 5 with (first | (go_at_call 42; go_loud (with_reducible refine (seal_Open.calls ko (s.extract a s.size) inn (n : Int) 0 _ (HOP.out)).mono ?_; rintro e_ w4 ⟨rfl, hb⟩; have n0_ := Aside0.mk (HS.out.below hb); have n1_ := Aside0.mk (below_step HB.out hb); clear HS HB hb; have HS := n0_; have HB := n1_; clear n0_ n1_)) | (go_at_call 43; go_loud (with_reducible refine (sheet_take.calls kt inn e.G e.C e.lg e.sq true _ HTK.out).mono ?_; rintro e_ w5 ⟨v0, v1, rfl, h1, h2, hb⟩; obtain ⟨AG, cG, e1_, hcG, hG⟩ := Kd.R_reads h1; subst e1_; obtain ⟨AC, cC, e2_, hcC, hC⟩ := Kd.R_reads h2; subst e2_; have HG := Aside0.mk hG; have HCG := Aside0.mk hcG; have HC := Aside0.mk hC; have HCC := Aside0.mk hcC; clear h1 h2 hG hcG hC hcC; have n0_ := Aside0.mk (HS.out.below hb); have n1_ := Aside0.mk (below_step HB.out hb); clear HS HB hb; have HS := n0_; have HB := n1_; clear n0_ n1_)))
    have BE := Aside0.mk (blk_new w5 (.cells #[.slice AG e.G.length cG, .slice AC e.C.length cC, .int .i64 e.lg, .int .i64 e.sq] 36))
    have hbl_ := below_alloc (Below.refl w5.heap.size w5) (.cells #[.slice AG e.G.length cG, .slice AC e.C.length cC, .int .i64 e.lg, .int .i64 e.sq] 36)
    have n0_ := Aside0.mk (HS.out.below hbl_)
    have n1_ := Aside0.mk (below_step HB.out hbl_)
    have n2_ := Aside0.mk (Kd.C_below HG.out hbl_)
    have n3_ := Aside0.mk (Kd.C_below HC.out hbl_)
    clear HS HB HG HC hbl_
    have HS := n0_
    have HB := n1_
    have HG := n2_
    have HC := n3_
    clear n0_ n1_ n2_ n3_
    generalize w5.alloc (.cells #[.slice AG e.G.length cG, .slice AC e.C.length cC, .int .i64 e.lg, .int .i64 e.sq] 36) = w6 at HS HB HG HC BE ⊢
    generalize w5.heap.size = gx at BE ⊢
    have he0 := bc0 BE
    have he1 := bc1 BE
    have he2 := bc2 BE
    have he3 := bc3 BE
    go_upto_region 6 with (go_at_call 16; go_loud (with_reducible refine (sheet_Bytes.calls kb AG cG e.G AC cC e.C e.lg e.sq again 0 _ HG.out HCG.out HC.out HCC.out HBY.out).mono ?_; rintro e_ w7 ⟨rfl, hb⟩; have n0_ := Aside0.mk (HS.out.below hb); have n1_ := Aside0.mk (below_step HB.out hb); have n2_ := Aside0.mk (Kd.C_below HG.out hb); have n3_ := Aside0.mk (Kd.C_below HC.out hb); have n4_ := bb_ BE hb; clear HS HB hb HG HC BE; have HS := n0_; have HB := n1_; have HG := n2_; have HC := n3_; have BE := n4_; clear n0_ n1_ n2_ n3_ n4_; clear he0 he1 he2 he3))
    have he0 := bc0 BE
    have he1 := bc1 BE
    have he2 := bc2 BE
    have he3 := bc3 BE
    have ha1 : (again.toList == (s.extract a (a + n)).toList) = true := by rw [ext_eq]; exact decide_eq_true HAG.out
    have ha2 : (again.toList != (s.extract a (a + n)).toList) = false := by rw [bne, ha1]; rfl
    have hd1 : (doE st e.G e.C e.lg e.sq != 0) = false := by rw [bne, beq_iff_eq.2 HD.out]; rfl
    have hd2 : (doE st e.G e.C e.lg e.sq == 0) = true := by rw [beq_iff_eq]; exact HD.out
    obtain ⟨q, hq⟩ : ∃ q : Nat, q = a + n := ⟨_, rfl⟩
    have HQN := Aside0.mk hq
    rw [← hq] at ha1 ha2
    have hcut : wrap64 ((a : Int) + (n : Int)) = (q : Int) := by rw [HCUT.out, hq]
    have p3 : (a : Int) ≤ (q : Int) := by clear hcut; omega
    have p4 : (q : Int) ≤ (s.size : Int) := by clear hcut; have := HFIT.out; omega
    have p5 : a ≤ q := by clear hcut; omega
    have p6 : q ≤ s.size := by clear hcut; have := HFIT.out; omega
    have p7 : 0 ≤ (q : Int) := by clear hcut; omega
    clear hq
    go_wp2_with (first | (go_at_call 13; go_loud (with_reducible refine (DoX _ g st HS.out HI.out e.G AG cG e.C AC cC e.lg e.sq HG.out HCG.out HC.out HCC.out HFW.out.1 HFW.out.2 _ _ rfl rfl).mono ?_; rintro e_ w8 ⟨rfl, hs, hi, hf⟩; have n0_ := Aside0.mk (Fr.to_below HB.out hf (fun k hk => by rw [hk]; exact HGE.out)); clear HS HB hf he0 he1 he2 he3; have HS := Aside0.mk hs; have HB := n0_; have HI2 := Aside0.mk hi; clear hs hi n0_)) | go_step3 | go_in)
    (try (rw [Exit.noGoto_normal]; go_wp2_with go_step3))
    go_roundg (m1 + 1)
    case measure => have := HQ.out; omega
    case rel => exact ⟨q, m1, _, by rw [hcut], ⟨rfl⟩, ⟨by rw [HQN.out]; exact HNX.out⟩, HS, HI2, HB⟩
end Go.Proofs.Ytmbedgopceigaaa.Q
