import Derived.Test.YtdkdnfgpgedglaaQHeapIns
namespace Go.Proofs.Ytdkdnfgpgedglaa.Q
open Go.RowKit Go.Lib Go.Proofs.Ytdkdnfgpgedglaa.P Go.Proofs.YtdkdnfgpgedglaaW.PrintWords Go.Proofs.YtdkdnfgpgedglaaW.PrintLast Go.Proofs.YtdkdnfgpgedglaaW.PrintMore
set_option linter.unusedVariables false
set_option linter.unusedSimpArgs false
attribute [local go_sem high] string_leq string_geq string_gtr
def kb : S29 := ⟨⟨#[98]⟩, 1, false, ⟨#[120, 121]⟩⟩
def ka : S29 := ⟨⟨#[97]⟩, 2, false, ⟨#[]⟩⟩
def kz : S29 := ⟨⟨#[97]⟩, 2, false, ⟨#[122]⟩⟩
def kc : S29 := ⟨⟨#[99]⟩, 1, false, ⟨#[]⟩⟩
theorem put1 : putB [] kb = true ∧ putE [] kb = [kb] := ⟨rfl, rfl⟩
theorem put2 : putB [kb] ka = true ∧ putE [kb] ka = [ka, kb] := ⟨rfl, rfl⟩
theorem put3 : putB [ka, kb] kz = false ∧ putE [ka, kb] kz = [ka, kb] := ⟨rfl, rfl⟩
theorem put4 : putB [ka, kb] kc = true ∧ putE [ka, kb] kc = [ka, kb, kc] := ⟨rfl, rfl⟩
theorem P1 (w0 w : World) (g : Nat) (F : Nat → Prop) (h : HpA w0 w g [] F) : Calls Try.prog 12 #[.pointer (some ⟨g, 0, none⟩), .agg #[.string ⟨#[98]⟩, .int .i64 1, .bool false, .string ⟨#[120, 121]⟩]] w fun r w' => ∃ F' : Nat → Prop, r = .returned (.bool true) ∧ HpA w0 w' g [kb] F' := by
  have := HPutA w0 w g [] F kb h (by decide)
  rw [put1.1, put1.2] at this
  exact this.mono (fun r w' ⟨F', a, b, _⟩ => ⟨F', a, b⟩)
theorem P2 (w0 w : World) (g : Nat) (F : Nat → Prop) (h : HpA w0 w g [kb] F) : Calls Try.prog 12 #[.pointer (some ⟨g, 0, none⟩), .agg #[.string ⟨#[97]⟩, .int .i64 2, .bool false, .string ⟨#[]⟩]] w fun r w' => ∃ F' : Nat → Prop, r = .returned (.bool true) ∧ HpA w0 w' g [ka, kb] F' := by
  have := HPutA w0 w g [kb] F ka h (by decide)
  rw [put2.1, put2.2] at this
  exact this.mono (fun r w' ⟨F', a, b, _⟩ => ⟨F', a, b⟩)
theorem P3 (w0 w : World) (g : Nat) (F : Nat → Prop) (h : HpA w0 w g [ka, kb] F) : Calls Try.prog 12 #[.pointer (some ⟨g, 0, none⟩), .agg #[.string ⟨#[97]⟩, .int .i64 2, .bool false, .string ⟨#[122]⟩]] w fun r w' => ∃ F' : Nat → Prop, r = .returned (.bool false) ∧ HpA w0 w' g [ka, kb] F' := by
  have := HPutA w0 w g [ka, kb] F kz h (by decide)
  rw [put3.1, put3.2] at this
  exact this.mono (fun r w' ⟨F', a, b, _⟩ => ⟨F', a, b⟩)
theorem P4 (w0 w : World) (g : Nat) (F : Nat → Prop) (g' : Nat) (F' : Nat → Prop) (h : HpA2 w0 w g [ka, kb] F g' [ka, kb] F') : Calls Try.prog 12 #[.pointer (some ⟨g', 0, none⟩), .agg #[.string ⟨#[99]⟩, .int .i64 1, .bool false, .string ⟨#[]⟩]] w fun r w' => ∃ G : Nat → Prop, r = .returned (.bool true) ∧ HpA2 w0 w' g [ka, kb] F g' [ka, kb, kc] G := by
  have := HPutA2 w0 w g' [ka, kb] F' g [ka, kb] F kc h.swap (by decide)
  rw [put4.1, put4.2] at this
  exact this.mono (fun r w' ⟨F', a, b, _⟩ => ⟨F', a, b.swap⟩)
theorem G1 (w0 w : World) (g : Nat) (F : Nat → Prop) (h : HpA w0 w g [ka, kb] F) : Calls Try.prog 14 #[.pointer (some ⟨g, 0, none⟩), .string ⟨#[98]⟩, .int .i64 5] w fun e w' => e = .returned (.tuple #[.agg #[.string ⟨#[98]⟩, .int .i64 1, .bool false, .string ⟨#[120, 121]⟩], .bool true]) ∧ Below w.heap.size w w' :=
  HGetG w g [ka, kb] _ ⟨#[98]⟩ 5 h.rd h.good (by decide)
theorem G2 (w0 w : World) (g : Nat) (F : Nat → Prop) (h : HpA w0 w g [ka, kb] F) : Calls Try.prog 14 #[.pointer (some ⟨g, 0, none⟩), .string ⟨#[98]⟩, .int .i64 0] w fun e w' => e = .returned (.tuple #[.agg #[.string ⟨#[]⟩, .int .i64 0, .bool false, .string ⟨#[]⟩], .bool false]) ∧ Below w.heap.size w w' :=
  HGetG w g [ka, kb] _ ⟨#[98]⟩ 0 h.rd h.good (by decide)
theorem R1 (w0 w : World) (g : Nat) (F : Nat → Prop) (h : HpA w0 w g [ka, kb] F) : Calls Try.prog 18 #[.pointer (some ⟨g, 0, none⟩), .string ⟨#[98]⟩, .string ⟨#[]⟩] w fun e w' => ∃ (A : Option Addr) (c : Nat), e = .returned (.slice A 1 c) ∧ Below w.heap.size w w' :=
  (HRangeG w g [ka, kb] _ ⟨#[98]⟩ ⟨#[]⟩ h.rd h.good (by decide)).mono (fun e w' ⟨v, a, b, c⟩ => by obtain ⟨A, cc, rfl⟩ := Kd.R_slice b; exact ⟨A, cc, a, c⟩)
theorem A1 (w0 w : World) (g : Nat) (F : Nat → Prop) (h : HpA w0 w g [ka, kb] F) : Calls Try.prog 17 #[.pointer (some ⟨g, 0, none⟩)] w fun e w' => ∃ (A : Addr) (c : Nat), e = .returned (.slice (some A) 2 c) ∧ Below w.heap.size w w' ∧ w'.cell? A = some (.string ⟨#[97]⟩) :=
  (HAll w g [ka, kb] _ h.rd (by decide)).mono (fun e w' ⟨v, a, b, c⟩ => by
    obtain ⟨A, cc, rfl, _, hC⟩ := Kd.R_reads b
    obtain ⟨ad, e_, hx0, hx1, hx2, hx3⟩ := at_T29 hC 0 (by decide) (by decide)
    subst e_
    exact ⟨ad, cc, a, c, hx0⟩)
theorem L1 (w0 w : World) (g : Nat) (l : List S29) (F : Nat → Prop) (h : HpA w0 w g l F) : Calls Try.prog 20 #[.pointer (some ⟨g, 0, none⟩)] w fun e w' => e = .returned (.int .i64 (l.length : Int)) ∧ Below w.heap.size w w' := HLen w g l _ h.rd
theorem B1 (w0 w : World) (g : Nat) (l : List S29) (F : Nat → Prop) (h : HpA w0 w g l F) : Calls Try.prog 21 #[.pointer (some ⟨g, 0, none⟩)] w fun e w' => e = .returned (.int .i64 (sumE l)) ∧ Below w.heap.size w w' := HBytes w g l _ h.rd
set_option maxHeartbeats 4000000 in
set_option maxRecDepth 100000 in
theorem HKnown (w : World) : Calls Try.prog 8 #[] w fun e w' => e = .returned (.bool true) ∧ Below w.heap.size w w' := by
  have HB := Aside0.mk (Below.refl w.heap.size w)
  go_enter Try.func8, Try.ntmps8
  go_upto_region 9 with (first
    | (go_at_call 10; refine (HNewA w _ HB.out).mono ?_; rintro e w1 ⟨g, F, rfl, hh, hn, hb⟩; have HH := Aside0.mk hh; clear HB hh hn hb)
    | (go_at_call 12; refine (P1 w _ g _ HH.out).mono ?_; rintro e w2 ⟨F2, rfl, hh⟩; have H2 := Aside0.mk hh; clear HH hh)
    | (go_at_call 12; refine (P2 w _ g _ H2.out).mono ?_; rintro e w3 ⟨F3, rfl, hh⟩; have H3 := Aside0.mk hh; clear H2 hh)
    | (go_at_call 12; refine (P3 w _ g _ H3.out).mono ?_; rintro e w4 ⟨F4, rfl, hh⟩; have H4 := Aside0.mk hh; clear H3 hh)
    | (go_at_call 11; refine (HCopyA w _ g _ _ H4.out (by decide)).mono ?_; rintro e w5 ⟨d, F5, rfl, hh, hn, hb⟩; have H5 := Aside0.mk (HpA2.mk_new H4.out hb hh hn); clear H4 hh hn hb)
    | (go_at_call 12; refine (P4 w _ g _ d _ H5.out).mono ?_; rintro e w6 ⟨G, rfl, hh⟩; have H6 := Aside0.mk hh; clear H5 hh)
    )
  go_upto_region 10 with (go_at_call 14; refine (G1 w _ g _ H6.out.one).mono ?_; rintro e w7 ⟨rfl, hb⟩; have H7 := Aside0.mk (H6.out.below hb); clear H6 hb)
  have H8 := Aside0.mk (H7.out.below (below_alloc (Below.refl _ w7) (.cells #[.string ⟨#[98]⟩, .int .i64 1, .bool false, .string ⟨#[120, 121]⟩] 29)))
  have BX := Aside0.mk (blk_new w7 (.cells #[.string ⟨#[98]⟩, .int .i64 1, .bool false, .string ⟨#[120, 121]⟩] 29))
  generalize w7.alloc (.cells #[.string ⟨#[98]⟩, .int .i64 1, .bool false, .string ⟨#[120, 121]⟩] 29) = w8 at *
  generalize w7.heap.size = gx at BX ⊢
  clear H7
  go_upto_region 11 with (go_at_call 14; refine (G2 w _ g _ H8.out.one).mono ?_; rintro e w9 ⟨rfl, hb⟩; have n0_ := Aside0.mk (H8.out.below hb); have n1_ := bb_ BX hb; clear H8 BX hb; have H8 := n0_; have BX := n1_; clear n0_ n1_)
  have H9 := Aside0.mk (H8.out.below (below_alloc (Below.refl _ w9) (.cells #[.string ⟨#[]⟩, .int .i64 0, .bool false, .string ⟨#[]⟩] 29)))
  have BY := Aside0.mk (blk_below BX.out (below_alloc (Below.refl _ w9) (.cells #[.string ⟨#[]⟩, .int .i64 0, .bool false, .string ⟨#[]⟩] 29)))
  generalize w9.alloc (.cells #[.string ⟨#[]⟩, .int .i64 0, .bool false, .string ⟨#[]⟩] 29) = w10 at *
  generalize w9.heap.size = gy
  clear H8 BX
  have hx3 := bc3 BY
  go_wp2_with (first
    | (go_at_call 20; refine (L1 w _ g _ _ H9.out.one).mono ?_; rintro e w11 ⟨rfl, hb⟩; have n0_ := Aside0.mk (H9.out.below hb); have n1_ := bb_ BY hb; clear H9 BY hb hx3; have H9 := n0_; have BY := n1_; clear n0_ n1_; have hx3 := bc3 BY)
    | (go_at_call 20; refine (L1 w _ d _ _ H9.out.two).mono ?_; rintro e w12 ⟨rfl, hb⟩; have n0_ := Aside0.mk (H9.out.below hb); have n1_ := bb_ BY hb; clear H9 BY hb hx3; have H9 := n0_; have BY := n1_; clear n0_ n1_; have hx3 := bc3 BY)
    | (go_at_call 21; refine (B1 w _ g _ _ H9.out.one).mono ?_; rintro e w13 ⟨rfl, hb⟩; have n0_ := Aside0.mk (H9.out.below hb); have n1_ := bb_ BY hb; clear H9 BY hb hx3; have H9 := n0_; have BY := n1_; clear n0_ n1_; have hx3 := bc3 BY)
    | (go_at_call 17; refine (A1 w _ g _ H9.out.one).mono ?_; rintro e w14 ⟨A, c, rfl, hb, ha⟩; have n0_ := Aside0.mk (H9.out.below hb); have n1_ := bb_ BY hb; clear H9 BY hb hx3; have H9 := n0_; have BY := n1_; clear n0_ n1_; have hx3 := bc3 BY)
    | (go_at_call 18; refine (R1 w _ g _ H9.out.one).mono ?_; rintro e w15 ⟨A, c, rfl, hb⟩; have n0_ := Aside0.mk (H9.out.below hb); have n1_ := bb_ BY hb; clear H9 BY hb hx3; have H9 := n0_; have BY := n1_; clear n0_ n1_; have hx3 := bc3 BY))
  go_ret
  exact ⟨rfl, H9.out.one.low⟩
end Go.Proofs.Ytdkdnfgpgedglaa.Q
