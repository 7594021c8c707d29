import Derived.Test.YtdkdnfgpgedglaaQHeapRefP
import Derived.Test.YtdkdnfgpgedglaaPx4
namespace Go.Proofs.Ytdkdnfgpgedglaa.P
end Go.Proofs.Ytdkdnfgpgedglaa.P
namespace Go.Proofs.Ytdkdnfgpgedglaa.Q
end Go.Proofs.Ytdkdnfgpgedglaa.Q
namespace Go.Proofs.Ytdkdnfgpgedglaa.Q
open Go.RowKit Go.Proofs.Ytdkdnfgpgedglaa.P Go.Proofs.YtdkdnfgpgedglaaW.PrintWords Go.Proofs.YtdkdnfgpgedglaaW.PrintLast Go.Proofs.YtdkdnfgpgedglaaW.PrintMore
set_option linter.unusedVariables false
set_option linter.unusedSimpArgs false
/-! A heap and a row of the reference's, apart -/
structure Pl (w0 w : World) (g : Nat) (L : List S29) (F : Nat → Prop) (v : Value) (M : List S29) (R : Nat → Prop) : Prop where
  hp : HpA w0 w g L F
  row : Kd.R k29 29 w w0.heap.size R v M
  own : ∀ k, R k → k < w.heap.size
  dis : ∀ k, F k → ¬ R k
theorem Pl.below {w0 w w' : World} {g : Nat} {L M : List S29} {F R : Nat → Prop} {v : Value} (h : Pl w0 w g L F v M R) (hb : Below w.heap.size w w') : Pl w0 w' g L F v M R :=
  ⟨h.hp.below hb, Kd.R_below h.row hb, fun k hk => Nat.lt_of_lt_of_le (h.own k hk) hb.size, h.dis⟩
theorem Pl.nil {w0 w : World} {g : Nat} {L : List S29} {F : Nat → Prop} (h : HpA w0 w g L F) : Pl w0 w g L F (.slice none 0 0) [] (fun _ => False) :=
  ⟨h, Kd.R_nil _ _ _ _ _, fun _ hk => hk.elim, fun _ _ hk => hk⟩
theorem Pl.rd {w0 w : World} {g : Nat} {L M : List S29} {F R : Nat → Prop} {v : Value} (h : Pl w0 w g L F v M R) : ∃ A c, v = .slice A M.length c ∧ RdE w A c M := by
  obtain ⟨A, c, e, h1, h2⟩ := Kd.R_reads h.row
  exact ⟨A, c, e, h2, h1⟩
/-- The row where a heap has been written. -/
theorem row_apart {w0 w w' : World} {v : Value} {M : List S29} {R G : Nat → Prop} (h : Kd.R k29 29 w w0.heap.size R v M) (ho : ∀ k, R k → k < w.heap.size) (hf : Go.Proofs.Ytdkdnfgpgedglaa.P.Fr w w' G) (hd : ∀ k, R k → ¬ G k) : Kd.R k29 29 w' w0.heap.size R v M :=
  Kd.R_move h (fun k hk => hf.block k (ho k hk) (hd k hk))
theorem PlCopy (w0 w : World) (g : Nat) (L : List S29) (F : Nat → Prop) (v : Value) (M : List S29) (R : Nat → Prop) (h : Pl w0 w g L F v M R) (hl : L.length ≤ 1000000) :
    Calls Try.prog 11 #[.pointer (some ⟨g, 0, none⟩)] w fun e w' => ∃ (g' : Nat) (F' : Nat → Prop), e = .returned (.pointer (some ⟨g', 0, none⟩)) ∧ HpA w0 w' g' L F' ∧ (∀ k, F' k → ¬ F k) ∧ Pl w0 w' g L F v M R ∧ (∀ k, F' k → ¬ R k) := by
  refine (HCopyA w0 w g L F h.hp hl).mono ?_
  rintro e w' ⟨g', F', rfl, a, b, c⟩
  exact ⟨g', F', rfl, a, fun k h1 h2 => by have := (h.hp.own k h2).2; have := b k h1; omega, h.below c, fun k h1 h2 => by have := h.own k h2; have := b k h1; omega⟩
/-- The old one is written and forgotten. -/
theorem PlOther (w0 w : World) (g : Nat) (L : List S29) (F : Nat → Prop) (v : Value) (M : List S29) (R : Nat → Prop) (g' : Nat) (F' : Nat → Prop) (e : S29) (h : Pl w0 w g L F v M R) (h' : HpA w0 w g' L F') (hd : ∀ k, F' k → ¬ F k) (hr : ∀ k, F' k → ¬ R k) (hl : L.length ≤ 1000000) :
    Calls Try.prog 12 #[.pointer (some ⟨g, 0, none⟩), .agg #[.string e.f0, .int .i64 e.f1, .bool e.f2, .string e.f3]] w fun r w' => ∃ b : Bool, r = .returned (.bool b) ∧ Pl w0 w' g' L F' v M R := by
  refine (HPutA w0 w g L F e h.hp hl).mono ?_
  rintro r w' ⟨G, rfl, a, b, c⟩
  exact ⟨_, rfl, h'.apart c hd h.hp.own, row_apart h.row h.own c (fun k h1 h2 => h.dis k h2 h1), fun k hk => Nat.lt_of_lt_of_le (h.own k hk) c.size, hr⟩
theorem PlPut (w0 w : World) (g : Nat) (L : List S29) (F : Nat → Prop) (v : Value) (M : List S29) (R : Nat → Prop) (e : S29) (h : Pl w0 w g L F v M R) (hl : L.length ≤ 1000000) :
    Calls Try.prog 12 #[.pointer (some ⟨g, 0, none⟩), .agg #[.string e.f0, .int .i64 e.f1, .bool e.f2, .string e.f3]] w fun r w' => ∃ F' : Nat → Prop, r = .returned (.bool (putB L e)) ∧ Pl w0 w' g (putE L e) F' v M R := by
  refine (HPutA w0 w g L F e h.hp hl).mono ?_
  rintro r w' ⟨G, rfl, a, b, c⟩
  refine ⟨G, rfl, a, row_apart h.row h.own c (fun k h1 h2 => h.dis k h2 h1), fun k hk => Nat.lt_of_lt_of_le (h.own k hk) c.size, fun k h1 h2 => ?_⟩
  rcases b k h1 with h3 | h3
  · exact h.dis k h3 h2
  · have := h.own k h2; omega
/-- The reference's Put. -/
theorem PlRef (w0 w : World) (g : Nat) (L : List S29) (F : Nat → Prop) (v : Value) (M : List S29) (R : Nat → Prop) (e : S29) (h : Pl w0 w g L F v M R) (hM : PW M) (hl : M.length ≤ 1000000) :
    Calls Try.prog 13 #[v, .agg #[.string e.f0, .int .i64 e.f1, .bool e.f2, .string e.f3]] w fun r w' => ∃ (v' : Value) (R' : Nat → Prop), r = .returned (.tuple #[v', .bool (putB M e)]) ∧ Pl w0 w' g L F v' (putE M e) R' := by
  obtain ⟨K, hK⟩ := rput_ev M e hl hM
  refine (ravelinref6_Put.calls K R v M e.f0 e.f1 e.f2 e.f3 _ _ w0 w h.hp.low h.row (hK K (Nat.le_refl _))).mono ?_
  rintro r w' ⟨v', rfl, a, b, c⟩
  refine ⟨v', fun k => (R k ∨ w.heap.size ≤ k) ∧ w0.heap.size ≤ k ∧ k < w'.heap.size, rfl, ⟨h.hp.hp.move (fun k hk => c.2 k (h.hp.own k hk).2 (h.dis k hk)), fun k hk => ⟨(h.hp.own k hk).1, Nat.lt_of_lt_of_le (h.hp.own k hk).2 c.1⟩, b, h.hp.good⟩, Kd.R_mono (Kd.R_bound a) (fun k hk => ⟨hk.1, hk.2.1, hk.2.2.1⟩), fun k hk => hk.2.2, fun k h1 h2 => ?_⟩
  rcases h2.1 with h3 | h3
  · exact h.dis k h1 h3
  · have := (h.hp.own k h1).2; omega
theorem HGetA (w0 w : World) (g : Nat) (l : List S29) (F : Nat → Prop) (key : ByteArray) (seq : Int) (x : NE) (h : HpA w0 w g l F) (hl : l.length ≤ 1000000) (hx : getE l key.data.toList seq = x) :
    Calls Try.prog 14 #[.pointer (some ⟨g, 0, none⟩), .string key, .int .i64 seq] w fun e w' => e = .returned (.tuple #[.agg #[.string x.1, .int .i64 x.2.1, .bool x.2.2.1, .string x.2.2.2.1], .bool x.2.2.2.2]) ∧ Below w.heap.size w w' := by
  subst hx; exact HGetG w g l _ key seq h.rd h.good hl
theorem HRangeX (w0 w : World) (g : Nat) (P : List S29) (F : Nat → Prop) (a tx : ByteArray) (La : List S29) (h : HpA w0 w g P F) (hl : P.length ≤ 1000000) (hLa : La = rangeE P a.data.toList tx.data.toList) : Calls Try.prog 18 #[.pointer (some ⟨g, 0, none⟩), .string a, .string tx] w fun e w' => ∃ (A : Option Addr) (c : Nat), e = .returned (.slice A La.length c) ∧ RdE w' A c La ∧ Below w.heap.size w w' := by
  subst hLa; exact HRangeC w0 w g P F a tx h hl
end Go.Proofs.Ytdkdnfgpgedglaa.Q
