-- Printed by a changed copy of the kit's printer (wip/tools/ext.py); labels and more
import Derived.Test.YtkmbgihfdfgmgaaProg
import Derived.Below
import Derived.Deep.Draws
import Derived.Deep.AppendLies
import Derived.Maps.AppendAt
import Derived.OwnWalk
import Derived.Laws.BytesArg
import Derived.Laws.MakeOwn
import Derived.Laws.OwnMore
import Derived.Deep.OwnRows
import Derived.Tactics
import Derived.Lib.ConvBytes
import Derived.Laws.Slices
import Derived.WalkKit
import Derived.KernelRfl
import Derived.RowKit3
import Derived.Deep.LoopGhost
import Derived.Deep.QuietTactic
import Derived.BigQuiet
import Derived.WideLaws
import Derived.Deep.DeepCutAuto
import Derived.Deep.CutBlock
import Derived.Deep.RegionHeld3
import Derived.Laws.Rows
import Derived.Lib.AppendStr
import Derived.ArgAppend
import Derived.Laws.IdiomCopy
import Derived.OrdersHeld
import Derived.Laws.BitsLemmas
import Derived.RowKit
import Derived.Test.YtkmbgihfdfgmgaaQStr
import Derived.Lib.LazyBuf
import Derived.LoopN
import Derived.Test.YtkmbgihfdfgmgaaWWords
import Derived.Test.YtkmbgihfdfgmgaaQShort
namespace Go.Proofs.Ytkmbgihfdfgmgaa.P
open Go.RowKit Go.Proofs.YtkmbgihfdfgmgaaW.PrintWords Go.Proofs.YtkmbgihfdfgmgaaW.PrintLast Go.Proofs.YtkmbgihfdfgmgaaW.PrintMore
attribute [local go_sem] max2_int min2_int max_two min_two max_three min_three max_four min_four   -- for this text's walks alone
attribute [local go_sem high] string_leq string_geq string_gtr
set_option linter.unusedVariables false
set_option linter.unusedSimpArgs false



def errW : Option Int → Value
  | none => .nilIface
  | some c => .iface 0 (.int .i64 c)
theorem errW_none : errW none = .nilIface := rfl
theorem errW_some (c : Int) : errW (some c) = .iface 0 (.int .i64 c) := rfl

theorem info5 : (Try.prog.info? 5).map (fun i => (i.zero, i.size, i.bytes)) = some (some (.int .u8 0), 1, 1) := by kernel_rfl
theorem info39 : (Try.prog.info? 39).map (fun i => (i.zero, i.size, i.bytes)) = some (some (.agg #[(.string ⟨#[]⟩), (.bool false), (.string ⟨#[]⟩)]), 3, 40) := by kernel_rfl
-- the values' own types
/-! #### struct type 39 -/
structure S39 where
  f0 : ByteArray
  f1 : Bool
  f2 : ByteArray
def z39 : S39 := ⟨(⟨#[]⟩ : ByteArray), false, (⟨#[]⟩ : ByteArray)⟩
def k39 : Kd S39 := Kd.iso (Kd.pair Kd.string (Kd.pair Kd.bool Kd.string)) (fun x : S39 => (x.f0, x.f1, x.f2))
theorem k39_open {w : World} {x : S39} {cs : List Value} (h : k39.K w x cs) : cs = [.string x.f0, .bool x.f1, .string x.f2] := by
  obtain ⟨_, _, rfl, rfl, ⟨_, _, rfl, rfl, rfl⟩⟩ := h
  exact rfl
theorem k39_openM {w : World} {base : Nat} {ok : Nat → Prop} {x : S39} {cs : List Value} (h : k39.M w base ok x cs) : cs = [.string x.f0, .bool x.f1, .string x.f2] := by
  obtain ⟨_, _, rfl, rfl, ⟨_, _, rfl, rfl, rfl⟩⟩ := h
  exact rfl
theorem k39_mk (w : World) (x : S39)  : k39.K w x [.string x.f0, .bool x.f1, .string x.f2] := ⟨[.string x.f0], [.bool x.f1, .string x.f2], rfl, rfl, ⟨[.bool x.f1], [.string x.f2], rfl, rfl, rfl⟩⟩
theorem k39_mkM (w : World) (base : Nat) (ok : Nat → Prop) (x : S39)  : k39.M w base ok x [.string x.f0, .bool x.f1, .string x.f2] := ⟨[.string x.f0], [.bool x.f1, .string x.f2], rfl, rfl, ⟨[.bool x.f1], [.string x.f2], rfl, rfl, rfl⟩⟩
def rd_T39 (xs : List S39) (i : Int) : S39 := xs.getD i.toNat z39
theorem at_T39 {w : World} {A : Option Addr} {n : Nat} {xs : List S39} (h : Kd.C k39 w A n xs) (i : Int) (h0 : 0 ≤ i) (h1 : i < n) : ∃ ad , A = some ad ∧ w.cell? (ad.add (i.toNat * 3)) = some (.string (rd_T39 xs i).f0) ∧ w.cell? ⟨(ad.add (i.toNat * 3)).block, (ad.add (i.toNat * 3)).off + 1, none⟩ = some (.bool (rd_T39 xs i).f1) ∧ w.cell? ⟨(ad.add (i.toNat * 3)).block, (ad.add (i.toNat * 3)).off + 2, none⟩ = some (.string (rd_T39 xs i).f2) := by
  obtain ⟨ad, c, e, _, hK, hc0⟩ := Kd.C_get h z39 i h0 h1
  have hc : ∀ j u, c[j]? = some u → w.cell? (ad.add (i.toNat * 3 + j)) = some u := hc0
  obtain rfl := k39_open hK
  exact ⟨ad, e, hc 0 _ rfl, by rw [← add_field _ _ 1 (by omega)]; exact hc 1 _ rfl, by rw [← add_field _ _ 2 (by omega)]; exact hc 2 _ rfl⟩

def rd_L4 (xs : List (List S39)) (i : Int) : (List S39) := xs.getD i.toNat ([] : List S39)
theorem at_L4 {w : World} {A : Option Addr} {n : Nat} {xs : List (List S39)} (h : Kd.C (Kd.slice 39 k39) w A n xs) (i : Int) (h0 : 0 ≤ i) (h1 : i < n) : ∃ ad A0 c0, A = some ad ∧ w.cell? (ad.add i.toNat) = some (.slice A0 (rd_L4 xs i).length c0) ∧ (rd_L4 xs i).length ≤ c0 ∧ k39.C w A0 (rd_L4 xs i).length (rd_L4 xs i) := by
  obtain ⟨ad, c, e, _, hK, hc0⟩ := Kd.C_get h ([] : List S39) i h0 h1
  have hc : ∀ j u, c[j]? = some u → w.cell? (ad.add (i.toNat * 1 + j)) = some u := hc0
  obtain ⟨A0, c0, rfl, l0, g0⟩ := hK
  exact ⟨ad, A0, c0, e, by have hq := hc 0 _ rfl; rwa [Nat.mul_one, Nat.add_zero] at hq, l0, g0⟩

end Go.Proofs.Ytkmbgihfdfgmgaa.P

namespace Go.Proofs.Ytkmbgihfdfgmgaa.P
open Go.RowKit Go.Proofs.YtkmbgihfdfgmgaaW.PrintWords Go.Proofs.YtkmbgihfdfgmgaaW.PrintLast Go.Proofs.YtkmbgihfdfgmgaaW.PrintMore
attribute [local go_sem] max2_int min2_int max_two min_two max_three min_three max_four min_four   -- for this text's walks alone
attribute [local go_sem high] string_leq string_geq string_gtr
set_option linter.unusedVariables false
set_option linter.unusedSimpArgs false

theorem eqA39 (d : Nat) (w : World) (x0 y0 : ByteArray) (x1 y1 : Bool) (x2 y2 : ByteArray) :
    (Op.equalIn (d + 2) 39 (.agg #[.string x0, .bool x1, .string x2]) (.agg #[.string y0, .bool y1, .string y2])).run Try.prog w = .ok (x0.toList == y0.toList && (x1 == y1 && (x2.toList == y2.toList))) w := by
  refine eqA_of Try.underlying39 (by kernel_rfl) ?_
  refine eqf_cons (by rfl) (by go_simp; rfl) (by go_simp; rfl) (by go_simp) ?_
  refine eqf_cons (by rfl) (by go_simp; rfl) (by go_simp; rfl) (by go_simp) ?_
  exact eqf_last (by rfl) (by go_simp; rfl) (by go_simp; rfl) (by go_simp)
end Go.Proofs.Ytkmbgihfdfgmgaa.P

namespace Go.Proofs.Ytkmbgihfdfgmgaa.P
open Go.RowKit Go.Proofs.YtkmbgihfdfgmgaaW.PrintWords Go.Proofs.YtkmbgihfdfgmgaaW.PrintLast Go.Proofs.YtkmbgihfdfgmgaaW.PrintMore
attribute [local go_sem] max2_int min2_int max_two min_two max_three min_three max_four min_four   -- for this text's walks alone
attribute [local go_sem high] string_leq string_geq string_gtr
set_option linter.unusedVariables false
set_option linter.unusedSimpArgs false

/-! ### item_between: function 31 -/
def item_between.f (a0 : Int) (a1 : Int) (a2 : Int) : Option (Bool) := if a0 ≥ a1 then (some (decide (a0 ≤ a2))) else (some false)
set_option maxHeartbeats 8000000 in
set_option maxRecDepth 100000 in
theorem item_between.calls (a0 : Int) (a1 : Int) (a2 : Int) (r : Bool) (w : World) (h : item_between.f a0 a1 a2 = some r) :
    Calls Try.prog 31 #[.int .i64 a0, .int .i64 a1, .int .i64 a2] w fun e w' => e = .returned (.bool r) ∧ Drawn0 w w' := by
  have H : (if a0 ≥ a1 then (some (decide (a0 ≤ a2))) else (some false)) = some r := h
  clear h
  by_cases c4 : a0 ≥ a1
  · rw [if_pos c4] at H
    have c4b0 : decide (a1 ≤ a0) = true := decide_eq_true c4
    clear c4
    obtain rfl := Option.some.inj H
    go_enter Try.func31, Try.ntmps31
    go_wp2
    go_ret
    exact ⟨by first | rfl | (simp; done) | (simp [*]; done), by repeat (first | exact Drawn0.refl _ | apply Drawn0.step)⟩
  rw [if_neg c4] at H
  have c4b0 : decide (a1 ≤ a0) = false := decide_eq_false c4
  clear c4
  obtain rfl := Option.some.inj H
  go_enter Try.func31, Try.ntmps31
  go_wp2
  go_ret
  exact ⟨by first | rfl | (simp; done) | (simp [*]; done), by repeat (first | exact Drawn0.refl _ | apply Drawn0.step)⟩

/-! ### entry_IsWrite: function 46 -/
def entry_IsWrite.f (a0_0 : ByteArray) (a0_1 : Bool) (a0_2 : ByteArray) : Option (Bool) := if (a0_0.size : Int) ≥ 1 then (if (a0_0.size : Int) ≤ 13 then (if (a0_2.size : Int) ≤ 24 then (if a0_1 = true then (some (a0_2.toList == ([] : List UInt8))) else (some true)) else (some false)) else (some false)) else (some false)
set_option maxHeartbeats 8000000 in
set_option maxRecDepth 100000 in
theorem entry_IsWrite.calls (a0_0 : ByteArray) (a0_1 : Bool) (a0_2 : ByteArray) (r : Bool) (w : World) (h : entry_IsWrite.f a0_0 a0_1 a0_2 = some r) :
    Calls Try.prog 46 #[.agg #[.string a0_0, .bool a0_1, .string a0_2]] w fun e w' => e = .returned (.bool r) ∧ Below w.heap.size w w' := by
  have hu39 := Try.underlying39
  have HB := Aside0.mk (Below.refl w.heap.size w)
  have H : (if (a0_0.size : Int) ≥ 1 then (if (a0_0.size : Int) ≤ 13 then (if (a0_2.size : Int) ≤ 24 then (if a0_1 = true then (some (a0_2.toList == ([] : List UInt8))) else (some true)) else (some false)) else (some false)) else (some false)) = some r := h
  clear h
  by_cases c2 : (a0_0.size : Int) ≥ 1
  rotate_left
  · rw [if_neg c2] at H
    have c2b0 : decide (1 ≤ (a0_0.size : Int)) = false := decide_eq_false c2
    have c2b1 : decide (1 ≤ a0_0.size) = false := decide_eq_false (by omega)
    clear c2
    obtain rfl := Option.some.inj H
    go_enter Try.func46, Try.ntmps46
    go_wp2_with (first | ((with_reducible refine gate_dst (N := 1) rfl ?_); (try (refine gate_guard (by rfl) ?_; dsimp only)); refine box_event ?hg (N := 1) ?hd (cs := #[.string a0_0, .bool a0_1, .string a0_2]) (t := 39) ?hr ?_; (case hd => rfl); (case hg => rfl); (case hr => first | (go_simp; done) | (go_simp; rfl)); intro gb101 hg w14 hbox hb; have n0_ := bs_ HB hb; have n1_ := Aside0.mk (hbox); have n2_ := gz_ HB hg; have n3_ := gz_ HB hg; clear HB; have HB := n0_; have BK101 := n1_; have GW101 := n2_; have GE101 := n3_; clear n0_ n1_ n2_ n3_; clear hb hbox hg; have hcz15_0 := bc0 BK101; have hcz15_1 := bc1 BK101; have hcz15_2 := bc2 BK101; have hfz15_0 := bf_ BK101 0; have hfz15_1 := bf_ BK101 1; have hfz15_2 := bf_ BK101 2))
    go_ret
    exact ⟨by first | rfl | (simp [*, errW_none, errW_some] <;> rfl), gwl_ [gb101] HB ⟨GE101, ⟨⟩⟩⟩
  rw [if_pos c2] at H
  have c2b0 : decide (1 ≤ (a0_0.size : Int)) = true := decide_eq_true c2
  have c2b1 : decide (1 ≤ a0_0.size) = true := decide_eq_true (by omega)
  clear c2
  by_cases c3 : (a0_0.size : Int) ≤ 13
  rotate_left
  · rw [if_neg c3] at H
    have c3b0 : decide ((a0_0.size : Int) ≤ 13) = false := decide_eq_false c3
    have c3b1 : decide (a0_0.size ≤ 13) = false := decide_eq_false (by omega)
    clear c3
    obtain rfl := Option.some.inj H
    go_enter Try.func46, Try.ntmps46
    go_wp2_with (first | ((with_reducible refine gate_dst (N := 1) rfl ?_); (try (refine gate_guard (by rfl) ?_; dsimp only)); refine box_event ?hg (N := 1) ?hd (cs := #[.string a0_0, .bool a0_1, .string a0_2]) (t := 39) ?hr ?_; (case hd => rfl); (case hg => rfl); (case hr => first | (go_simp; done) | (go_simp; rfl)); intro gb101 hg w12 hbox hb; have n0_ := bs_ HB hb; have n1_ := Aside0.mk (hbox); have n2_ := gz_ HB hg; have n3_ := gz_ HB hg; clear HB; have HB := n0_; have BK101 := n1_; have GW101 := n2_; have GE101 := n3_; clear n0_ n1_ n2_ n3_; clear hb hbox hg; have hcz13_0 := bc0 BK101; have hcz13_1 := bc1 BK101; have hcz13_2 := bc2 BK101; have hfz13_0 := bf_ BK101 0; have hfz13_1 := bf_ BK101 1; have hfz13_2 := bf_ BK101 2))
    go_ret
    exact ⟨by first | rfl | (simp [*, errW_none, errW_some] <;> rfl), gwl_ [gb101] HB ⟨GE101, ⟨⟩⟩⟩
  rw [if_pos c3] at H
  have c3b0 : decide ((a0_0.size : Int) ≤ 13) = true := decide_eq_true c3
  have c3b1 : decide (a0_0.size ≤ 13) = true := decide_eq_true (by omega)
  clear c3
  by_cases c4 : (a0_2.size : Int) ≤ 24
  rotate_left
  · rw [if_neg c4] at H
    have c4b0 : decide ((a0_2.size : Int) ≤ 24) = false := decide_eq_false c4
    have c4b1 : decide (a0_2.size ≤ 24) = false := decide_eq_false (by omega)
    clear c4
    obtain rfl := Option.some.inj H
    go_enter Try.func46, Try.ntmps46
    go_wp2_with (first | ((with_reducible refine gate_dst (N := 1) rfl ?_); (try (refine gate_guard (by rfl) ?_; dsimp only)); refine box_event ?hg (N := 1) ?hd (cs := #[.string a0_0, .bool a0_1, .string a0_2]) (t := 39) ?hr ?_; (case hd => rfl); (case hg => rfl); (case hr => first | (go_simp; done) | (go_simp; rfl)); intro gb101 hg w10 hbox hb; have n0_ := bs_ HB hb; have n1_ := Aside0.mk (hbox); have n2_ := gz_ HB hg; have n3_ := gz_ HB hg; clear HB; have HB := n0_; have BK101 := n1_; have GW101 := n2_; have GE101 := n3_; clear n0_ n1_ n2_ n3_; clear hb hbox hg; have hcz11_0 := bc0 BK101; have hcz11_1 := bc1 BK101; have hcz11_2 := bc2 BK101; have hfz11_0 := bf_ BK101 0; have hfz11_1 := bf_ BK101 1; have hfz11_2 := bf_ BK101 2))
    go_ret
    exact ⟨by first | rfl | (simp [*, errW_none, errW_some] <;> rfl), gwl_ [gb101] HB ⟨GE101, ⟨⟩⟩⟩
  rw [if_pos c4] at H
  have c4b0 : decide ((a0_2.size : Int) ≤ 24) = true := decide_eq_true c4
  have c4b1 : decide (a0_2.size ≤ 24) = true := decide_eq_true (by omega)
  clear c4
  by_cases c5 : a0_1 = true
  · subst c5
    have H1 : (some (a0_2.toList == ([] : List UInt8))) = some r := by rw [if_pos rfl] at H; exact H
    clear H
    have H := H1
    clear H1
    obtain rfl := Option.some.inj H
    go_enter Try.func46, Try.ntmps46
    go_wp2_with (first | ((with_reducible refine gate_dst (N := 1) rfl ?_); (try (refine gate_guard (by rfl) ?_; dsimp only)); refine box_event ?hg (N := 1) ?hd (cs := #[.string a0_0, .bool true, .string a0_2]) (t := 39) ?hr ?_; (case hd => rfl); (case hg => rfl); (case hr => first | (go_simp; done) | (go_simp; rfl)); intro gb101 hg w6 hbox hb; have n0_ := bs_ HB hb; have n1_ := Aside0.mk (hbox); have n2_ := gz_ HB hg; have n3_ := gz_ HB hg; clear HB; have HB := n0_; have BK101 := n1_; have GW101 := n2_; have GE101 := n3_; clear n0_ n1_ n2_ n3_; clear hb hbox hg; have hcz7_0 := bc0 BK101; have hcz7_1 := bc1 BK101; have hcz7_2 := bc2 BK101; have hfz7_0 := bf_ BK101 0; have hfz7_1 := bf_ BK101 1; have hfz7_2 := bf_ BK101 2))
    go_ret
    exact ⟨by first | rfl | (simp [*, errW_none, errW_some] <;> rfl), gwl_ [gb101] HB ⟨GE101, ⟨⟩⟩⟩
  replace c5 := Bool.eq_false_iff.mpr c5
  subst c5
  have H1 : (some true) = some r := by rw [if_neg (show ¬ (false = true) by decide)] at H; exact H
  clear H
  have H := H1
  clear H1
  obtain rfl := Option.some.inj H
  go_enter Try.func46, Try.ntmps46
  go_wp2_with (first | ((with_reducible refine gate_dst (N := 1) rfl ?_); (try (refine gate_guard (by rfl) ?_; dsimp only)); refine box_event ?hg (N := 1) ?hd (cs := #[.string a0_0, .bool false, .string a0_2]) (t := 39) ?hr ?_; (case hd => rfl); (case hg => rfl); (case hr => first | (go_simp; done) | (go_simp; rfl)); intro gb101 hg w8 hbox hb; have n0_ := bs_ HB hb; have n1_ := Aside0.mk (hbox); have n2_ := gz_ HB hg; have n3_ := gz_ HB hg; clear HB; have HB := n0_; have BK101 := n1_; have GW101 := n2_; have GE101 := n3_; clear n0_ n1_ n2_ n3_; clear hb hbox hg; have hcz9_0 := bc0 BK101; have hcz9_1 := bc1 BK101; have hcz9_2 := bc2 BK101; have hfz9_0 := bf_ BK101 0; have hfz9_1 := bf_ BK101 1; have hfz9_2 := bf_ BK101 2))
  go_ret
  exact ⟨by first | rfl | (simp [*, errW_none, errW_some] <;> rfl), gwl_ [gb101] HB ⟨GE101, ⟨⟩⟩⟩

/-! ### batch_Is: function 32 -/
def batch_Is.l0 : Nat → List (S39) → ByteArray → List (S39) → Int → Int → Option (Bool)
  | 0, _, _, _, _, _ => none
  | k + 1, x0, x3, x6, x7, x8 => if x8 < x7 then (if 0 ≤ x8 then (if x8 < (x6.length : Int) then ((entry_IsWrite.f ((rd_T39 x6 x8).f0) ((rd_T39 x6 x8).f1) ((rd_T39 x6 x8).f2)).bind fun t104 => (if t104 = true then (if ((Op.bytesLess x3.toList (((rd_T39 x6 x8).f0).toList)) = true) then (batch_Is.l0 k x0 ((rd_T39 x6 x8).f0) x6 x7 (wrap64 (x8 + 1))) else (some false)) else (some false))) else (none)) else (none)) else (some (decide ((x0.length : Int) ≤ 8)))
def batch_Is.f (k : Nat) (l0 : List (S39)) : Option (Bool) := batch_Is.l0 k l0 (⟨#[]⟩ : ByteArray) l0 (l0.length : Int) 0
theorem batch_Is.mono_l : ∀ k, (∀ y0 y1 y2 y3 y4, LeO (batch_Is.l0 k y0 y1 y2 y3 y4) (batch_Is.l0 (k + 1) y0 y1 y2 y3 y4))
  | 0 => fun _ _ _ _ _ r h => by simp [batch_Is.l0] at h
  | k + 1 => by
    have ih0 := batch_Is.mono_l k
    · intro y0 y1 y2 y3 y4
      unfold batch_Is.l0
      repeat' first
      | (with_reducible exact ih0 _ _ _ _ _)
      | (with_reducible exact LeO.refl _)
      | (with_reducible exact LeO.none _)
      | (with_reducible refine LeO.ite ?_ ?_)
      | (with_reducible refine LeO.bind ?_ (fun _ => ?_))
      | exact ih0 _ _ _ _ _
      | exact LeO.none _
      | refine LeO.ite ?_ ?_
      | refine LeO.bind ?_ (fun _ => ?_)
theorem batch_Is.mono : ∀ a0 k, LeO (batch_Is.f k a0) (batch_Is.f (k + 1) a0) := by
  intro a0 k
  have ih0 := batch_Is.mono_l k
  unfold batch_Is.f
  repeat' first
      | (with_reducible exact ih0 _ _ _ _ _)
      | (with_reducible exact LeO.refl _)
      | (with_reducible exact LeO.none _)
      | (with_reducible refine LeO.ite ?_ ?_)
      | (with_reducible refine LeO.bind ?_ (fun _ => ?_))
      | exact ih0 _ _ _ _ _
      | exact LeO.none _
      | refine LeO.ite ?_ ?_
      | refine LeO.bind ?_ (fun _ => ?_)
set_option maxHeartbeats 8000000 in
set_option maxRecDepth 100000 in
theorem batch_Is.calls (k : Nat) (A0 : Option Addr) (c0 : Nat) (l0 : List (S39)) (r : Bool) (w : World) (hr0 : Kd.C k39 w A0 l0.length l0) (hc0 : l0.length ≤ c0) (h : batch_Is.f k l0 = some r) :
    Calls Try.prog 32 #[.slice A0 l0.length c0] w fun e w' => e = .returned (.bool r) ∧ Below w.heap.size w w' := by
  have hu39 := Try.underlying39
  have HR0 := Aside0.mk hr0
  have HC0 := Aside0.mk hc0
  clear hr0 hc0
  have HB := Aside0.mk (Below.refl w.heap.size w)
  have H : (batch_Is.l0 k l0 (⟨#[]⟩ : ByteArray) l0 (l0.length : Int) 0) = some r := h
  clear h
  have H' := Aside0.mk H
  clear H
  go_enter Try.func32, Try.ntmps32
  go_wp2
  go_loopg [3, 8] k (fun kq v3 v8 w' => ∃ (x3_1 : ByteArray) (x8_1 : Int), v3 = .string x3_1 ∧ v8 = .int .i64 x8_1 ∧ Aside0 (batch_Is.l0 kq l0 x3_1 l0 (l0.length : Int) x8_1 = some r) ∧ Aside0 (kq ≤ k) ∧ Aside0 (Below w.heap.size w w'))
  case atStart => exact ⟨((⟨#[]⟩ : ByteArray)), (0), (by first | rfl | (simp; done) | (simp [*]; done)), (by first | rfl | (simp; done) | (simp [*]; done)), H', ⟨Nat.le_refl _⟩, ⟨gw_ HB⟩⟩
  clear H'
  obtain ⟨x3_1, x8_1, rfl, rfl, HA, HK1, HB⟩ := hrel
  cases gk with
  | zero => exact absurd HA.out (by simp [batch_Is.l0])
  | succ k1 => ?_
  have H := HA.out
  clear HA
  simp only [batch_Is.l0] at H
  by_cases c2 : x8_1 < (l0.length : Int)
  rotate_left
  · rw [if_neg c2] at H
    have c2b0 : decide (x8_1 < (l0.length : Int)) = false := decide_eq_false c2
    clear c2
    obtain rfl := Option.some.inj H
    go_wp2
    go_ret
    exact ⟨by first | rfl | (simp [*, errW_none, errW_some] <;> rfl), gw_ HB⟩
  rw [if_pos c2] at H
  have c2b0 : decide (x8_1 < (l0.length : Int)) = true := decide_eq_true c2
  clear c2
  by_cases c3 : 0 ≤ x8_1
  rotate_left
  · rw [if_neg c3] at H
    exact absurd H (by simp)
  rw [if_pos c3] at H
  have c3b0 : decide (0 ≤ x8_1) = true := decide_eq_true c3
  clear c3
  by_cases c4 : x8_1 < (l0.length : Int)
  rotate_left
  · rw [if_neg c4] at H
    exact absurd H (by simp)
  rw [if_pos c4] at H
  have c4b0 : decide (x8_1 < (l0.length : Int)) = true := decide_eq_true c4
  clear c4
  replace H := Option.bind_eq_some_iff.mp H
  obtain ⟨t104, A50, H⟩ := H
  try dsimp only at H
  have A5 := Aside0.mk A50
  clear A50
  by_cases c6 : t104 = true
  rotate_left
  · replace c6 := Bool.eq_false_iff.mpr c6
    subst c6
    have H1 : (some false) = some r := by rw [if_neg (show ¬ (false = true) by decide)] at H; exact H
    clear H
    have H := H1
    clear H1
    obtain rfl := Option.some.inj H
    have p102 : 0 ≤ (x8_1 : Int) := of_decide_eq_true (by assumption)
    have q102 : x8_1 < (l0.length : Int) := of_decide_eq_true (by assumption)
    obtain ⟨ad102, e102, hx102_0, hx102_1, hx102_2⟩ := at_T39 HR0.out x8_1 p102 q102
    cases e102
    replace hx102_0 := hc_ HB hx102_0
    replace hx102_1 := hc_ HB hx102_1
    replace hx102_2 := hc_ HB hx102_2
    replace p102 := eq_true p102
    replace q102 := eq_true q102
    go_wp2_with (first | ((with_reducible refine gate_dst (N := 5) rfl ?_); refine box_event ?hg (N := 5) ?hd (cs := #[.string (⟨#[]⟩ : ByteArray), .bool false, .string (⟨#[]⟩ : ByteArray)]) (t := 39) ?hr ?_; (case hd => rfl); (case hg => rfl); (case hr => first | (go_simp; done) | (go_simp; rfl)); intro gb103 hg w16 hbox hb; have n0_ := bs_ HB hb; have n1_ := Aside0.mk (hbox); have n2_ := gz_ HB hg; have n3_ := gz_ HB hg; clear HB; have HB := n0_; have BK103 := n1_; have GW103 := n2_; have GE103 := n3_; clear n0_ n1_ n2_ n3_; clear hb hbox hg; have hcz17_0 := bc0 BK103; have hcz17_1 := bc1 BK103; have hcz17_2 := bc2 BK103; have hfz17_0 := bf_ BK103 0; have hfz17_1 := bf_ BK103 1; have hfz17_2 := bf_ BK103 2) | ((with_reducible refine gate_callee (f := 46) rfl ?_); refine goesL_ (some 13) rfl rfl Try.func46 (by kernel_rfl) rfl #[.agg #[.string ((rd_T39 l0 x8_1).f0), .bool ((rd_T39 l0 x8_1).f1), .string ((rd_T39 l0 x8_1).f2)]] rfl (by (try simp only [maps_]); first | done | rfl) ?_; (with_reducible refine (entry_IsWrite.calls ((rd_T39 l0 x8_1).f0) ((rd_T39 l0 x8_1).f1) ((rd_T39 l0 x8_1).f2) false _ A5.out).mono ?_); rintro e w18 ⟨rfl, hb⟩; refine ⟨_, rfl, ?_⟩; have n0_ := Aside0.mk (blk_below (g := gb103) (o := .cells #[.string ((rd_T39 l0 x8_1).f0), .bool ((rd_T39 l0 x8_1).f1), .string ((rd_T39 l0 x8_1).f2)] 39 (0, 0)) (by (with_reducible repeat (first | refine blk_drewN ?_ _ | refine blk_drew ?_ | refine blk_alloc ?_ _)); refine blk_put (cs := #[.string ((rd_T39 l0 x8_1).f0), .bool ((rd_T39 l0 x8_1).f1), .string (⟨#[]⟩ : ByteArray)]) ?_ 2 _ rfl; refine blk_put (cs := #[.string ((rd_T39 l0 x8_1).f0), .bool false, .string (⟨#[]⟩ : ByteArray)]) ?_ 1 _ rfl; refine blk_put (cs := #[.string (⟨#[]⟩ : ByteArray), .bool false, .string (⟨#[]⟩ : ByteArray)]) ?_ 0 _ rfl; exact gb_ BK103) hb); have n1_ := bl_ [gb103] HB ⟨GE103, ⟨⟩⟩ hb; clear BK103; clear HB; have BK103 := n0_; have HB := n1_; clear n0_ n1_; (try clear hb); (try clear hb2); (try clear hk); (try clear hi)))
    go_ret
    exact ⟨by first | rfl | (simp [*, errW_none, errW_some] <;> rfl), gwl_ [gb103] HB ⟨GE103, ⟨⟩⟩⟩
  subst c6
  have H1 : (if ((Op.bytesLess x3_1.toList (((rd_T39 l0 x8_1).f0).toList)) = true) then (batch_Is.l0 k1 l0 ((rd_T39 l0 x8_1).f0) l0 (l0.length : Int) (wrap64 (x8_1 + 1))) else (some false)) = some r := by rw [if_pos rfl] at H; exact H
  clear H
  have H := H1
  clear H1
  by_cases c7 : ((Op.bytesLess x3_1.toList (((rd_T39 l0 x8_1).f0).toList)) = true)
  rotate_left
  · rw [if_neg c7] at H
    have c7b0 : (Op.bytesLess x3_1.toList (((rd_T39 l0 x8_1).f0).toList)) = false := by simpa using c7
    clear c7
    obtain rfl := Option.some.inj H
    have p102 : 0 ≤ (x8_1 : Int) := of_decide_eq_true (by assumption)
    have q102 : x8_1 < (l0.length : Int) := of_decide_eq_true (by assumption)
    obtain ⟨ad102, e102, hx102_0, hx102_1, hx102_2⟩ := at_T39 HR0.out x8_1 p102 q102
    cases e102
    replace hx102_0 := hc_ HB hx102_0
    replace hx102_1 := hc_ HB hx102_1
    replace hx102_2 := hc_ HB hx102_2
    replace p102 := eq_true p102
    replace q102 := eq_true q102
    go_wp2_with (first | ((with_reducible refine gate_dst (N := 5) rfl ?_); refine box_event ?hg (N := 5) ?hd (cs := #[.string (⟨#[]⟩ : ByteArray), .bool false, .string (⟨#[]⟩ : ByteArray)]) (t := 39) ?hr ?_; (case hd => rfl); (case hg => rfl); (case hr => first | (go_simp; done) | (go_simp; rfl)); intro gb103 hg w12 hbox hb; have n0_ := bs_ HB hb; have n1_ := Aside0.mk (hbox); have n2_ := gz_ HB hg; have n3_ := gz_ HB hg; clear HB; have HB := n0_; have BK103 := n1_; have GW103 := n2_; have GE103 := n3_; clear n0_ n1_ n2_ n3_; clear hb hbox hg; have hcz13_0 := bc0 BK103; have hcz13_1 := bc1 BK103; have hcz13_2 := bc2 BK103; have hfz13_0 := bf_ BK103 0; have hfz13_1 := bf_ BK103 1; have hfz13_2 := bf_ BK103 2) | ((with_reducible refine gate_callee (f := 46) rfl ?_); refine goesL_ (some 13) rfl rfl Try.func46 (by kernel_rfl) rfl #[.agg #[.string ((rd_T39 l0 x8_1).f0), .bool ((rd_T39 l0 x8_1).f1), .string ((rd_T39 l0 x8_1).f2)]] rfl (by (try simp only [maps_]); first | done | rfl) ?_; (with_reducible refine (entry_IsWrite.calls ((rd_T39 l0 x8_1).f0) ((rd_T39 l0 x8_1).f1) ((rd_T39 l0 x8_1).f2) true _ A5.out).mono ?_); rintro e w14 ⟨rfl, hb⟩; refine ⟨_, rfl, ?_⟩; have n0_ := Aside0.mk (blk_below (g := gb103) (o := .cells #[.string ((rd_T39 l0 x8_1).f0), .bool ((rd_T39 l0 x8_1).f1), .string ((rd_T39 l0 x8_1).f2)] 39 (0, 0)) (by (with_reducible repeat (first | refine blk_drewN ?_ _ | refine blk_drew ?_ | refine blk_alloc ?_ _)); refine blk_put (cs := #[.string ((rd_T39 l0 x8_1).f0), .bool ((rd_T39 l0 x8_1).f1), .string (⟨#[]⟩ : ByteArray)]) ?_ 2 _ rfl; refine blk_put (cs := #[.string ((rd_T39 l0 x8_1).f0), .bool false, .string (⟨#[]⟩ : ByteArray)]) ?_ 1 _ rfl; refine blk_put (cs := #[.string (⟨#[]⟩ : ByteArray), .bool false, .string (⟨#[]⟩ : ByteArray)]) ?_ 0 _ rfl; exact gb_ BK103) hb); have n1_ := bl_ [gb103] HB ⟨GE103, ⟨⟩⟩ hb; clear BK103; clear HB; have BK103 := n0_; have HB := n1_; clear n0_ n1_; (try clear hb); (try clear hb2); (try clear hk); (try clear hi); have hcz15_0 := bc0 BK103; have hcz15_1 := bc1 BK103; have hcz15_2 := bc2 BK103; have hfz15_0 := bf_ BK103 0; have hfz15_1 := bf_ BK103 1; have hfz15_2 := bf_ BK103 2))
    go_ret
    exact ⟨by first | rfl | (simp [*, errW_none, errW_some] <;> rfl), gwl_ [gb103] HB ⟨GE103, ⟨⟩⟩⟩
  rw [if_pos c7] at H
  have c7b0 : (Op.bytesLess x3_1.toList (((rd_T39 l0 x8_1).f0).toList)) = true := c7
  clear c7
  have H' := Aside0.mk H
  clear H
  have p102 : 0 ≤ (x8_1 : Int) := of_decide_eq_true (by assumption)
  have q102 : x8_1 < (l0.length : Int) := of_decide_eq_true (by assumption)
  obtain ⟨ad102, e102, hx102_0, hx102_1, hx102_2⟩ := at_T39 HR0.out x8_1 p102 q102
  cases e102
  replace hx102_0 := hc_ HB hx102_0
  replace hx102_1 := hc_ HB hx102_1
  replace hx102_2 := hc_ HB hx102_2
  replace p102 := eq_true p102
  replace q102 := eq_true q102
  go_wp2_with (first | ((with_reducible refine gate_dst (N := 5) rfl ?_); refine box_event ?hg (N := 5) ?hd (cs := #[.string (⟨#[]⟩ : ByteArray), .bool false, .string (⟨#[]⟩ : ByteArray)]) (t := 39) ?hr ?_; (case hd => rfl); (case hg => rfl); (case hr => first | (go_simp; done) | (go_simp; rfl)); intro gb103 hg w8 hbox hb; have n0_ := bs_ HB hb; have n1_ := Aside0.mk (hbox); have n2_ := gz_ HB hg; have n3_ := gz_ HB hg; clear HB; have HB := n0_; have BK103 := n1_; have GW103 := n2_; have GE103 := n3_; clear n0_ n1_ n2_ n3_; clear hb hbox hg; have hcz9_0 := bc0 BK103; have hcz9_1 := bc1 BK103; have hcz9_2 := bc2 BK103; have hfz9_0 := bf_ BK103 0; have hfz9_1 := bf_ BK103 1; have hfz9_2 := bf_ BK103 2) | ((with_reducible refine gate_callee (f := 46) rfl ?_); refine goesL_ (some 13) rfl rfl Try.func46 (by kernel_rfl) rfl #[.agg #[.string ((rd_T39 l0 x8_1).f0), .bool ((rd_T39 l0 x8_1).f1), .string ((rd_T39 l0 x8_1).f2)]] rfl (by (try simp only [maps_]); first | done | rfl) ?_; (with_reducible refine (entry_IsWrite.calls ((rd_T39 l0 x8_1).f0) ((rd_T39 l0 x8_1).f1) ((rd_T39 l0 x8_1).f2) true _ A5.out).mono ?_); rintro e w10 ⟨rfl, hb⟩; refine ⟨_, rfl, ?_⟩; have n0_ := Aside0.mk (blk_below (g := gb103) (o := .cells #[.string ((rd_T39 l0 x8_1).f0), .bool ((rd_T39 l0 x8_1).f1), .string ((rd_T39 l0 x8_1).f2)] 39 (0, 0)) (by (with_reducible repeat (first | refine blk_drewN ?_ _ | refine blk_drew ?_ | refine blk_alloc ?_ _)); refine blk_put (cs := #[.string ((rd_T39 l0 x8_1).f0), .bool ((rd_T39 l0 x8_1).f1), .string (⟨#[]⟩ : ByteArray)]) ?_ 2 _ rfl; refine blk_put (cs := #[.string ((rd_T39 l0 x8_1).f0), .bool false, .string (⟨#[]⟩ : ByteArray)]) ?_ 1 _ rfl; refine blk_put (cs := #[.string (⟨#[]⟩ : ByteArray), .bool false, .string (⟨#[]⟩ : ByteArray)]) ?_ 0 _ rfl; exact gb_ BK103) hb); have n1_ := bl_ [gb103] HB ⟨GE103, ⟨⟩⟩ hb; clear BK103; clear HB; have BK103 := n0_; have HB := n1_; clear n0_ n1_; (try clear hb); (try clear hb2); (try clear hk); (try clear hi); have hcz11_0 := bc0 BK103; have hcz11_1 := bc1 BK103; have hcz11_2 := bc2 BK103; have hfz11_0 := bf_ BK103 0; have hfz11_1 := bf_ BK103 1; have hfz11_2 := bf_ BK103 2))
  go_roundg k1
  case measure => have := HK1.out; omega
  case rel => exact ⟨((rd_T39 l0 x8_1).f0), (wrap64 (x8_1 + 1)), (by first | rfl | (simp; done) | (simp [*]; done)), (by first | rfl | (simp; done) | (simp [*]; done)), H', ⟨by have := HK1.out; omega⟩, ⟨gwl_ [gb103] HB ⟨GE103, ⟨⟩⟩⟩⟩

/-! ### item_Is: function 15 -/
mutual
def item_Is.j0 : Nat → Bool → Int → Int → Int → Bool → List (S39) → Option (Bool)
  | 0, _, _, _, _, _, _ => none
  | k + 1, x20, x106000, x106001, x106002, x106003, x106004 => if x20 = true then (some false) else (if x106003 = true then (item_Is.j1 k true x106000 x106001 x106002 x106003 x106004) else (item_Is.j1 k ((x106004.length : Int) == 0) x106000 x106001 x106002 x106003 x106004))
def item_Is.j1 : Nat → Bool → Int → Int → Int → Bool → List (S39) → Option (Bool)
  | 0, _, _, _, _, _, _ => none
  | k + 1, x28, x106000, x106001, x106002, x106003, x106004 => if x28 = true then (if x106003 = true then (some ((x106004.length : Int) == 0)) else (some false)) else (item_Is.l0 k x106004 (x106004.length : Int) 0 x106000 x106001 x106002 x106003 x106004)
def item_Is.l0 : Nat → List (S39) → Int → Int → Int → Int → Int → Bool → List (S39) → Option (Bool)
  | 0, _, _, _, _, _, _, _, _ => none
  | k + 1, x38, x39, x40, x106000, x106001, x106002, x106003, x106004 => if x40 < x39 then (if 0 ≤ x40 then (if x40 < (x38.length : Int) then (if (((rd_T39 x38 x40).f0).size : Int) ≤ 12 then (item_Is.l0 k x38 x39 (wrap64 (x40 + 1)) x106000 x106001 x106002 x106003 x106004) else (some false)) else (none)) else (none)) else ((batch_Is.f k x106004).bind fun t111 => (some t111))
end
def item_Is.f (k : Nat) (a0_0 : Int) (a0_1 : Int) (a0_2 : Int) (a0_3 : Bool) (l0_4 : List (S39)) : Option (Bool) := (item_between.f a0_0 0 5).bind fun t106 => (if t106 = true then ((item_between.f a0_1 1 1000000).bind fun t107 => (if t107 = true then ((item_between.f a0_2 0 1000000).bind fun t108 => (item_Is.j0 k (!t108) a0_0 a0_1 a0_2 a0_3 l0_4)) else (item_Is.j0 k true a0_0 a0_1 a0_2 a0_3 l0_4))) else (item_Is.j0 k true a0_0 a0_1 a0_2 a0_3 l0_4))
theorem item_Is.mono_l : ∀ k, (∀ y0 y1 y2 y3 y4 y5, LeO (item_Is.j0 k y0 y1 y2 y3 y4 y5) (item_Is.j0 (k + 1) y0 y1 y2 y3 y4 y5)) ∧ (∀ y0 y1 y2 y3 y4 y5, LeO (item_Is.j1 k y0 y1 y2 y3 y4 y5) (item_Is.j1 (k + 1) y0 y1 y2 y3 y4 y5)) ∧ (∀ y0 y1 y2 y3 y4 y5 y6 y7, LeO (item_Is.l0 k y0 y1 y2 y3 y4 y5 y6 y7) (item_Is.l0 (k + 1) y0 y1 y2 y3 y4 y5 y6 y7))
  | 0 => ⟨fun _ _ _ _ _ _ r h => by simp [item_Is.j0] at h, fun _ _ _ _ _ _ r h => by simp [item_Is.j1] at h, fun _ _ _ _ _ _ _ _ r h => by simp [item_Is.l0] at h⟩
  | k + 1 => by
    obtain ⟨ih0, ih1, ih2⟩ := item_Is.mono_l k
    refine ⟨?_, ?_, ?_⟩
    all_goals
      intros
      first | unfold item_Is.j0 | unfold item_Is.j1 | unfold item_Is.l0
      repeat' first
      | (with_reducible exact ih0 _ _ _ _ _ _)
      | (with_reducible exact ih1 _ _ _ _ _ _)
      | (with_reducible exact ih2 _ _ _ _ _ _ _ _)
      | (with_reducible exact batch_Is.mono _ _)
      | (with_reducible exact LeO.refl _)
      | (with_reducible exact LeO.none _)
      | (with_reducible refine LeO.ite ?_ ?_)
      | (with_reducible refine LeO.bind ?_ (fun _ => ?_))
      | exact ih0 _ _ _ _ _ _
      | exact ih1 _ _ _ _ _ _
      | exact ih2 _ _ _ _ _ _ _ _
      | exact batch_Is.mono _ _
      | exact LeO.none _
      | refine LeO.ite ?_ ?_
      | refine LeO.bind ?_ (fun _ => ?_)
theorem item_Is.mono : ∀ a0 a1 a2 a3 a4 k, LeO (item_Is.f k a0 a1 a2 a3 a4) (item_Is.f (k + 1) a0 a1 a2 a3 a4) := by
  intro a0 a1 a2 a3 a4 k
  obtain ⟨ih0, ih1, ih2⟩ := item_Is.mono_l k
  unfold item_Is.f
  repeat' first
      | (with_reducible exact ih0 _ _ _ _ _ _)
      | (with_reducible exact ih1 _ _ _ _ _ _)
      | (with_reducible exact ih2 _ _ _ _ _ _ _ _)
      | (with_reducible exact batch_Is.mono _ _)
      | (with_reducible exact LeO.refl _)
      | (with_reducible exact LeO.none _)
      | (with_reducible refine LeO.ite ?_ ?_)
      | (with_reducible refine LeO.bind ?_ (fun _ => ?_))
      | exact ih0 _ _ _ _ _ _
      | exact ih1 _ _ _ _ _ _
      | exact ih2 _ _ _ _ _ _ _ _
      | exact batch_Is.mono _ _
      | exact LeO.none _
      | refine LeO.ite ?_ ?_
      | refine LeO.bind ?_ (fun _ => ?_)
set_option maxHeartbeats 8000000 in
set_option maxRecDepth 100000 in
theorem item_Is.calls (k : Nat) (a0_0 : Int) (a0_1 : Int) (a0_2 : Int) (a0_3 : Bool) (A0_4 : Option Addr) (c0_4 : Nat) (l0_4 : List (S39)) (r : Bool) (w : World) (hr0_4 : Kd.C k39 w A0_4 l0_4.length l0_4) (hc0_4 : l0_4.length ≤ c0_4) (h : item_Is.f k a0_0 a0_1 a0_2 a0_3 l0_4 = some r) :
    Calls Try.prog 15 #[.agg #[.int .i64 a0_0, .int .i64 a0_1, .int .i64 a0_2, .bool a0_3, .slice A0_4 l0_4.length c0_4]] w fun e w' => e = .returned (.bool r) ∧ Below w.heap.size w w' := by
  have hu24 := Try.underlying24
  have hu39 := Try.underlying39
  have HR0_4 := Aside0.mk hr0_4
  have HC0_4 := Aside0.mk hc0_4
  clear hr0_4 hc0_4
  have HB := Aside0.mk (Below.refl w.heap.size w)
  have H : ((item_between.f a0_0 0 5).bind fun t106 => (if t106 = true then ((item_between.f a0_1 1 1000000).bind fun t107 => (if t107 = true then ((item_between.f a0_2 0 1000000).bind fun t108 => (item_Is.j0 k (!t108) a0_0 a0_1 a0_2 a0_3 l0_4)) else (item_Is.j0 k true a0_0 a0_1 a0_2 a0_3 l0_4))) else (item_Is.j0 k true a0_0 a0_1 a0_2 a0_3 l0_4))) = some r := h
  clear h
  have HC2 := Aside0.mk H
  clear H
  go_enter Try.func15, Try.ntmps15
  go_upto_region 1 with (first | go_step3 | ((with_reducible refine gate_dst (N := 1) rfl ?_); (try (refine gate_guard (by rfl) ?_; dsimp only)); refine box_event ?hg (N := 1) ?hd (cs := #[.int .i64 a0_0, .int .i64 a0_1, .int .i64 a0_2, .bool a0_3, .slice A0_4 l0_4.length c0_4]) (t := 24) ?hr ?_; (case hd => rfl); (case hg => rfl); (case hr => first | (go_simp; done) | (go_simp; rfl)); intro gb105 hg w3 hbox hb; have n0_ := bs_ HB hb; have n1_ := Aside0.mk (hbox); have n2_ := gz_ HB hg; have n3_ := gz_ HB hg; clear HB; have HB := n0_; have BK105 := n1_; have GW105 := n2_; have GE105 := n3_; clear n0_ n1_ n2_ n3_; clear hb hbox hg))
  (try simp only [Act.put, lists_])
  go_cut [20] (fun v20 wc => ∃ (kq : Nat) (x20_1 : Bool), v20 = .bool x20_1 ∧ Aside0 (item_Is.j0 kq x20_1 a0_0 a0_1 a0_2 a0_3 l0_4 = some r) ∧ Aside0 (kq ≤ k) ∧ Aside0 (wc.heap[gb105]? = some (.cells #[.int .i64 a0_0, .int .i64 a0_1, .int .i64 a0_2, .bool a0_3, (.slice A0_4 l0_4.length c0_4)] 24 (0, 0))) ∧ Aside0 (Below w.heap.size w wc))
  case first =>
    have H := HC2.out
    clear HC2
    replace H := Option.bind_eq_some_iff.mp H
    obtain ⟨t106, A40, H⟩ := H
    try dsimp only at H
    have A4 := Aside0.mk A40
    clear A40
    by_cases c5 : t106 = true
    rotate_left
    · replace c5 := Bool.eq_false_iff.mpr c5
      subst c5
      have H1 : (item_Is.j0 k true a0_0 a0_1 a0_2 a0_3 l0_4) = some r := by rw [if_neg (show ¬ (false = true) by decide)] at H; exact H
      clear H
      have H := H1
      clear H1
      have H' := Aside0.mk H
      clear H
      have hcz11_0 := bc0 BK105
      have hcz11_1 := bc1 BK105
      have hcz11_2 := bc2 BK105
      have hcz11_3 := bc3 BK105
      have hcz11_4 := bc4 BK105
      have hfz11_0 := bf_ BK105 0
      have hfz11_1 := bf_ BK105 1
      have hfz11_2 := bf_ BK105 2
      have hfz11_3 := bf_ BK105 3
      have hfz11_4 := bf_ BK105 4
      go_wp2_with (first | go_step3 | ((with_reducible refine gate_callee (f := 31) rfl ?_); refine goesL_ (some 7) rfl rfl Try.func31 (by kernel_rfl) rfl #[.int .i64 a0_0, .int .i64 0, .int .i64 5] rfl (by (try simp only [maps_]); first | done | rfl) ?_; (with_reducible refine (item_between.calls a0_0 0 5 false _ A4.out).mono ?_); rintro e w' ⟨rfl, ⟨nd, rfl⟩⟩; refine ⟨_, rfl, ?_⟩))
      go_meet
      case rel => exact ⟨_, (true), (by first | rfl | (simp; done) | (simp [*]; done)), H', ⟨by first | omega | exact Nat.le_refl _⟩, ⟨gb_ BK105⟩, ⟨gwl_ [gb105] HB ⟨GE105, ⟨⟩⟩⟩⟩
    subst c5
    have H1 : ((item_between.f a0_1 1 1000000).bind fun t107 => (if t107 = true then ((item_between.f a0_2 0 1000000).bind fun t108 => (item_Is.j0 k (!t108) a0_0 a0_1 a0_2 a0_3 l0_4)) else (item_Is.j0 k true a0_0 a0_1 a0_2 a0_3 l0_4))) = some r := by rw [if_pos rfl] at H; exact H
    clear H
    have H := H1
    clear H1
    replace H := Option.bind_eq_some_iff.mp H
    obtain ⟨t107, A60, H⟩ := H
    try dsimp only at H
    have A6 := Aside0.mk A60
    clear A60
    by_cases c7 : t107 = true
    rotate_left
    · replace c7 := Bool.eq_false_iff.mpr c7
      subst c7
      have H1 : (item_Is.j0 k true a0_0 a0_1 a0_2 a0_3 l0_4) = some r := by rw [if_neg (show ¬ (false = true) by decide)] at H; exact H
      clear H
      have H := H1
      clear H1
      have H' := Aside0.mk H
      clear H
      have hcz10_0 := bc0 BK105
      have hcz10_1 := bc1 BK105
      have hcz10_2 := bc2 BK105
      have hcz10_3 := bc3 BK105
      have hcz10_4 := bc4 BK105
      have hfz10_0 := bf_ BK105 0
      have hfz10_1 := bf_ BK105 1
      have hfz10_2 := bf_ BK105 2
      have hfz10_3 := bf_ BK105 3
      have hfz10_4 := bf_ BK105 4
      go_wp2_with (first | go_step3 | ((with_reducible refine gate_callee (f := 31) rfl ?_); refine goesL_ (some 7) rfl rfl Try.func31 (by kernel_rfl) rfl #[.int .i64 a0_0, .int .i64 0, .int .i64 5] rfl (by (try simp only [maps_]); first | done | rfl) ?_; (with_reducible refine (item_between.calls a0_0 0 5 true _ A4.out).mono ?_); rintro e w' ⟨rfl, ⟨nd, rfl⟩⟩; refine ⟨_, rfl, ?_⟩) | (go_at_call 31; (with_reducible refine (item_between.calls a0_1 1 1000000 false _ A6.out).mono ?_); rintro e w' ⟨rfl, ⟨nd, rfl⟩⟩))
      go_meet
      case rel => exact ⟨_, (true), (by first | rfl | (simp; done) | (simp [*]; done)), H', ⟨by first | omega | exact Nat.le_refl _⟩, ⟨gb_ BK105⟩, ⟨gwl_ [gb105] HB ⟨GE105, ⟨⟩⟩⟩⟩
    subst c7
    have H1 : ((item_between.f a0_2 0 1000000).bind fun t108 => (item_Is.j0 k (!t108) a0_0 a0_1 a0_2 a0_3 l0_4)) = some r := by rw [if_pos rfl] at H; exact H
    clear H
    have H := H1
    clear H1
    replace H := Option.bind_eq_some_iff.mp H
    obtain ⟨t108, A80, H⟩ := H
    try dsimp only at H
    have A8 := Aside0.mk A80
    clear A80
    have H' := Aside0.mk H
    clear H
    have hcz9_0 := bc0 BK105
    have hcz9_1 := bc1 BK105
    have hcz9_2 := bc2 BK105
    have hcz9_3 := bc3 BK105
    have hcz9_4 := bc4 BK105
    have hfz9_0 := bf_ BK105 0
    have hfz9_1 := bf_ BK105 1
    have hfz9_2 := bf_ BK105 2
    have hfz9_3 := bf_ BK105 3
    have hfz9_4 := bf_ BK105 4
    go_wp2_with (first | go_step3 | ((with_reducible refine gate_callee (f := 31) rfl ?_); refine goesL_ (some 7) rfl rfl Try.func31 (by kernel_rfl) rfl #[.int .i64 a0_0, .int .i64 0, .int .i64 5] rfl (by (try simp only [maps_]); first | done | rfl) ?_; (with_reducible refine (item_between.calls a0_0 0 5 true _ A4.out).mono ?_); rintro e w' ⟨rfl, ⟨nd, rfl⟩⟩; refine ⟨_, rfl, ?_⟩) | (go_at_call 31; (with_reducible refine (item_between.calls a0_1 1 1000000 true _ A6.out).mono ?_); rintro e w' ⟨rfl, ⟨nd, rfl⟩⟩) | (go_at_call 31; (with_reducible refine (item_between.calls a0_2 0 1000000 t108 _ A8.out).mono ?_); rintro e w' ⟨rfl, ⟨nd, rfl⟩⟩))
    go_meet
    case rel => exact ⟨_, (!t108), (by first | rfl | (simp; done) | (simp [*]; done)), H', ⟨by first | omega | exact Nat.le_refl _⟩, ⟨gb_ BK105⟩, ⟨gwl_ [gb105] HB ⟨GE105, ⟨⟩⟩⟩⟩
  clear HC2
  try clear c1
  try clear p2
  try clear c3
  try clear p3
  try clear c5
  try clear c7
  try clear hcz10_0
  try clear hcz10_1
  try clear hcz10_2
  try clear hcz10_3
  try clear hcz10_4
  try clear hcz11_0
  try clear hcz11_1
  try clear hcz11_2
  try clear hcz11_3
  try clear hcz11_4
  try clear hcz9_0
  try clear hcz9_1
  try clear hcz9_2
  try clear hcz9_3
  try clear hcz9_4
  try clear hfz10_0
  try clear hfz10_1
  try clear hfz10_2
  try clear hfz10_3
  try clear hfz10_4
  try clear hfz11_0
  try clear hfz11_1
  try clear hfz11_2
  try clear hfz11_3
  try clear hfz11_4
  try clear hfz9_0
  try clear hfz9_1
  try clear hfz9_2
  try clear hfz9_3
  try clear hfz9_4
  obtain ⟨kq, x20_1, rfl, HA, HJ1, BK105, HB⟩ := hcut
  cases kq with
  | zero => exact absurd HA.out (by simp [item_Is.j0])
  | succ kj1 => ?_
  have H := HA.out
  clear HA
  simp only [item_Is.j0] at H
  by_cases c12 : x20_1 = true
  · subst c12
    have H1 : (some false) = some r := by rw [if_pos rfl] at H; exact H
    clear H
    have H := H1
    clear H1
    obtain rfl := Option.some.inj H
    go_wp2_with (first | go_step3 | go_in)
    ((try rw [Exit.noGoto_ret]); go_ret)
    exact ⟨by first | rfl | (simp [*, errW_none, errW_some] <;> rfl), gwl_ [gb105] HB ⟨GE105, ⟨⟩⟩⟩
  replace c12 := Bool.eq_false_iff.mpr c12
  subst c12
  have H1 : (if a0_3 = true then (item_Is.j1 kj1 true a0_0 a0_1 a0_2 a0_3 l0_4) else (item_Is.j1 kj1 ((l0_4.length : Int) == 0) a0_0 a0_1 a0_2 a0_3 l0_4)) = some r := by rw [if_neg (show ¬ (false = true) by decide)] at H; exact H
  clear H
  have H := H1
  clear H1
  have HC13 := Aside0.mk H
  clear H
  go_upto_region 3 with go_step3
  go_cut [28] (fun v28 wc => ∃ (kq : Nat) (x28_12 : Bool), v28 = .bool x28_12 ∧ Aside0 (item_Is.j1 kq x28_12 a0_0 a0_1 a0_2 a0_3 l0_4 = some r) ∧ Aside0 (kq ≤ kj1) ∧ Aside0 (wc.heap[gb105]? = some (.cells #[.int .i64 a0_0, .int .i64 a0_1, .int .i64 a0_2, .bool a0_3, (.slice A0_4 l0_4.length c0_4)] 24 (0, 0))) ∧ Aside0 (Below w.heap.size w wc))
  case first =>
    have H := HC13.out
    clear HC13
    by_cases c14 : a0_3 = true
    · subst c14
      have H1 : (item_Is.j1 kj1 true a0_0 a0_1 a0_2 true l0_4) = some r := by rw [if_pos rfl] at H; exact H
      clear H
      have H := H1
      clear H1
      have H' := Aside0.mk H
      clear H
      have hcz15_0 := bc0 BK105
      have hcz15_1 := bc1 BK105
      have hcz15_2 := bc2 BK105
      have hcz15_3 := bc3 BK105
      have hcz15_4 := bc4 BK105
      have hfz15_0 := bf_ BK105 0
      have hfz15_1 := bf_ BK105 1
      have hfz15_2 := bf_ BK105 2
      have hfz15_3 := bf_ BK105 3
      have hfz15_4 := bf_ BK105 4
      go_wp2_with (first | go_step3 | go_in)
      go_meet
      case rel => exact ⟨_, (true), (by first | rfl | (simp; done) | (simp [*]; done)), H', ⟨by have := HJ1.out; first | omega | exact Nat.le_refl _⟩, ⟨gb_ BK105⟩, ⟨gwl_ [gb105] HB ⟨GE105, ⟨⟩⟩⟩⟩
    replace c14 := Bool.eq_false_iff.mpr c14
    subst c14
    have H1 : (item_Is.j1 kj1 ((l0_4.length : Int) == 0) a0_0 a0_1 a0_2 false l0_4) = some r := by rw [if_neg (show ¬ (false = true) by decide)] at H; exact H
    clear H
    have H := H1
    clear H1
    have H' := Aside0.mk H
    clear H
    have hcz16_0 := bc0 BK105
    have hcz16_1 := bc1 BK105
    have hcz16_2 := bc2 BK105
    have hcz16_3 := bc3 BK105
    have hcz16_4 := bc4 BK105
    have hfz16_0 := bf_ BK105 0
    have hfz16_1 := bf_ BK105 1
    have hfz16_2 := bf_ BK105 2
    have hfz16_3 := bf_ BK105 3
    have hfz16_4 := bf_ BK105 4
    go_wp2_with (first | go_step3 | go_in)
    go_meet
    case rel => exact ⟨_, (((l0_4.length : Int) == 0)), (by first | rfl | (simp; done) | (simp [*]; done)), H', ⟨by have := HJ1.out; first | omega | exact Nat.le_refl _⟩, ⟨gb_ BK105⟩, ⟨gwl_ [gb105] HB ⟨GE105, ⟨⟩⟩⟩⟩
  clear HC13
  try clear c1
  try clear p2
  try clear c3
  try clear p3
  try clear c5
  try clear c7
  try clear c12
  try clear c14
  try clear c15
  try clear hcz10_0
  try clear hcz10_1
  try clear hcz10_2
  try clear hcz10_3
  try clear hcz10_4
  try clear hcz11_0
  try clear hcz11_1
  try clear hcz11_2
  try clear hcz11_3
  try clear hcz11_4
  try clear hcz15_0
  try clear hcz15_1
  try clear hcz15_2
  try clear hcz15_3
  try clear hcz15_4
  try clear hcz16_0
  try clear hcz16_1
  try clear hcz16_2
  try clear hcz16_3
  try clear hcz16_4
  try clear hcz9_0
  try clear hcz9_1
  try clear hcz9_2
  try clear hcz9_3
  try clear hcz9_4
  try clear hfz10_0
  try clear hfz10_1
  try clear hfz10_2
  try clear hfz10_3
  try clear hfz10_4
  try clear hfz11_0
  try clear hfz11_1
  try clear hfz11_2
  try clear hfz11_3
  try clear hfz11_4
  try clear hfz15_0
  try clear hfz15_1
  try clear hfz15_2
  try clear hfz15_3
  try clear hfz15_4
  try clear hfz16_0
  try clear hfz16_1
  try clear hfz16_2
  try clear hfz16_3
  try clear hfz16_4
  try clear hfz9_0
  try clear hfz9_1
  try clear hfz9_2
  try clear hfz9_3
  try clear hfz9_4
  try clear p2
  try clear p3
  obtain ⟨kq, x28_12, rfl, HA, HJ12, BK105, HB⟩ := hcut
  cases kq with
  | zero => exact absurd HA.out (by simp [item_Is.j1])
  | succ kj12 => ?_
  have H := HA.out
  clear HA
  simp only [item_Is.j1] at H
  by_cases c17 : x28_12 = true
  · subst c17
    have H1 : (if a0_3 = true then (some ((l0_4.length : Int) == 0)) else (some false)) = some r := by rw [if_pos rfl] at H; exact H
    clear H
    have H := H1
    clear H1
    by_cases c18 : a0_3 = true
    · subst c18
      have H1 : (some ((l0_4.length : Int) == 0)) = some r := by rw [if_pos rfl] at H; exact H
      clear H
      have H := H1
      clear H1
      obtain rfl := Option.some.inj H
      have hcz19_0 := bc0 BK105
      have hcz19_1 := bc1 BK105
      have hcz19_2 := bc2 BK105
      have hcz19_3 := bc3 BK105
      have hcz19_4 := bc4 BK105
      have hfz19_0 := bf_ BK105 0
      have hfz19_1 := bf_ BK105 1
      have hfz19_2 := bf_ BK105 2
      have hfz19_3 := bf_ BK105 3
      have hfz19_4 := bf_ BK105 4
      go_wp2_with (first | go_step3 | go_in)
      ((try rw [Exit.noGoto_ret]); go_ret)
      exact ⟨by first | rfl | (simp [*, errW_none, errW_some] <;> rfl), gwl_ [gb105] HB ⟨GE105, ⟨⟩⟩⟩
    replace c18 := Bool.eq_false_iff.mpr c18
    subst c18
    have H1 : (some false) = some r := by rw [if_neg (show ¬ (false = true) by decide)] at H; exact H
    clear H
    have H := H1
    clear H1
    obtain rfl := Option.some.inj H
    have hcz20_0 := bc0 BK105
    have hcz20_1 := bc1 BK105
    have hcz20_2 := bc2 BK105
    have hcz20_3 := bc3 BK105
    have hcz20_4 := bc4 BK105
    have hfz20_0 := bf_ BK105 0
    have hfz20_1 := bf_ BK105 1
    have hfz20_2 := bf_ BK105 2
    have hfz20_3 := bf_ BK105 3
    have hfz20_4 := bf_ BK105 4
    go_wp2_with (first | go_step3 | go_in)
    ((try rw [Exit.noGoto_ret]); go_ret)
    exact ⟨by first | rfl | (simp [*, errW_none, errW_some] <;> rfl), gwl_ [gb105] HB ⟨GE105, ⟨⟩⟩⟩
  replace c17 := Bool.eq_false_iff.mpr c17
  subst c17
  have H1 : (item_Is.l0 kj12 l0_4 (l0_4.length : Int) 0 a0_0 a0_1 a0_2 a0_3 l0_4) = some r := by rw [if_neg (show ¬ (false = true) by decide)] at H; exact H
  clear H
  have H := H1
  clear H1
  have H' := Aside0.mk H
  clear H
  have hcz21_0 := bc0 BK105
  have hcz21_1 := bc1 BK105
  have hcz21_2 := bc2 BK105
  have hcz21_3 := bc3 BK105
  have hcz21_4 := bc4 BK105
  have hfz21_0 := bf_ BK105 0
  have hfz21_1 := bf_ BK105 1
  have hfz21_2 := bf_ BK105 2
  have hfz21_3 := bf_ BK105 3
  have hfz21_4 := bf_ BK105 4
  go_wp2_with (first | go_step3 | go_in)
  go_loopg [40] kj12 (fun kq v40 w' => ∃ (x40_3 : Int), v40 = .int .i64 x40_3 ∧ Aside0 (item_Is.l0 kq l0_4 (l0_4.length : Int) x40_3 a0_0 a0_1 a0_2 a0_3 l0_4 = some r) ∧ Aside0 (kq ≤ kj12) ∧ Aside0 (w'.heap[gb105]? = some (.cells #[.int .i64 a0_0, .int .i64 a0_1, .int .i64 a0_2, .bool a0_3, (.slice A0_4 l0_4.length c0_4)] 24 (0, 0))) ∧ Aside0 (Below w.heap.size w w'))
  case atStart => exact ⟨(0), (by first | rfl | (simp; done) | (simp [*]; done)), H', ⟨Nat.le_refl _⟩, ⟨gb_ BK105⟩, ⟨gwl_ [gb105] HB ⟨GE105, ⟨⟩⟩⟩⟩
  clear H'
  try clear c1
  try clear p2
  try clear c3
  try clear p3
  try clear c5
  try clear c7
  try clear c12
  try clear c14
  try clear c15
  try clear c17
  try clear c18
  try clear hcz10_0
  try clear hcz10_1
  try clear hcz10_2
  try clear hcz10_3
  try clear hcz10_4
  try clear hcz11_0
  try clear hcz11_1
  try clear hcz11_2
  try clear hcz11_3
  try clear hcz11_4
  try clear hcz15_0
  try clear hcz15_1
  try clear hcz15_2
  try clear hcz15_3
  try clear hcz15_4
  try clear hcz16_0
  try clear hcz16_1
  try clear hcz16_2
  try clear hcz16_3
  try clear hcz16_4
  try clear hcz19_0
  try clear hcz19_1
  try clear hcz19_2
  try clear hcz19_3
  try clear hcz19_4
  try clear hcz20_0
  try clear hcz20_1
  try clear hcz20_2
  try clear hcz20_3
  try clear hcz20_4
  try clear hcz21_0
  try clear hcz21_1
  try clear hcz21_2
  try clear hcz21_3
  try clear hcz21_4
  try clear hcz9_0
  try clear hcz9_1
  try clear hcz9_2
  try clear hcz9_3
  try clear hcz9_4
  try clear hfz10_0
  try clear hfz10_1
  try clear hfz10_2
  try clear hfz10_3
  try clear hfz10_4
  try clear hfz11_0
  try clear hfz11_1
  try clear hfz11_2
  try clear hfz11_3
  try clear hfz11_4
  try clear hfz15_0
  try clear hfz15_1
  try clear hfz15_2
  try clear hfz15_3
  try clear hfz15_4
  try clear hfz16_0
  try clear hfz16_1
  try clear hfz16_2
  try clear hfz16_3
  try clear hfz16_4
  try clear hfz19_0
  try clear hfz19_1
  try clear hfz19_2
  try clear hfz19_3
  try clear hfz19_4
  try clear hfz20_0
  try clear hfz20_1
  try clear hfz20_2
  try clear hfz20_3
  try clear hfz20_4
  try clear hfz21_0
  try clear hfz21_1
  try clear hfz21_2
  try clear hfz21_3
  try clear hfz21_4
  try clear hfz9_0
  try clear hfz9_1
  try clear hfz9_2
  try clear hfz9_3
  try clear hfz9_4
  try clear p2
  try clear p3
  obtain ⟨x40_3, rfl, HA, HK3, BK105, HB⟩ := hrel
  cases gk with
  | zero => exact absurd HA.out (by simp [item_Is.l0])
  | succ k3 => ?_
  have H := HA.out
  clear HA
  simp only [item_Is.l0] at H
  by_cases c22 : x40_3 < (l0_4.length : Int)
  rotate_left
  · rw [if_neg c22] at H
    have c22b0 : decide (x40_3 < (l0_4.length : Int)) = false := decide_eq_false c22
    clear c22
    replace H := Option.bind_eq_some_iff.mp H
    obtain ⟨t111, A320, H⟩ := H
    try dsimp only at H
    have A32 := Aside0.mk A320
    clear A320
    obtain rfl := Option.some.inj H
    have hcz33_0 := bc0 BK105
    have hcz33_1 := bc1 BK105
    have hcz33_2 := bc2 BK105
    have hcz33_3 := bc3 BK105
    have hcz33_4 := bc4 BK105
    have hfz33_0 := bf_ BK105 0
    have hfz33_1 := bf_ BK105 1
    have hfz33_2 := bf_ BK105 2
    have hfz33_3 := bf_ BK105 3
    have hfz33_4 := bf_ BK105 4
    go_wp2_with (first | go_step3 | ((with_reducible refine gate_callee (f := 32) rfl ?_); refine goesL_ (some 51) rfl rfl Try.func32 (by kernel_rfl) rfl #[.slice A0_4 l0_4.length c0_4] rfl (by (try simp only [maps_]); first | done | rfl) ?_; (with_reducible refine (batch_Is.calls k3 _ _ l0_4 t111 _ ?side1 ?side2 A32.out).mono ?_); (case side1 => exact cb_ HR0_4 HB); (case side2 => exact HC0_4.out); rintro e w34 ⟨rfl, hb⟩; refine ⟨_, rfl, ?_⟩; have n0_ := bb_ BK105 hb; have n1_ := bl_ [gb105] HB ⟨GE105, ⟨⟩⟩ hb; clear BK105; clear HB; have BK105 := n0_; have HB := n1_; clear n0_ n1_; (try clear hb); (try clear hb2); (try clear hk); (try clear hi)))
    ((try rw [Exit.noGoto_ret]); go_ret)
    exact ⟨by first | rfl | (simp [*, errW_none, errW_some] <;> rfl), gwl_ [gb105] HB ⟨GE105, ⟨⟩⟩⟩
  rw [if_pos c22] at H
  have c22b0 : decide (x40_3 < (l0_4.length : Int)) = true := decide_eq_true c22
  clear c22
  by_cases c23 : 0 ≤ x40_3
  rotate_left
  · rw [if_neg c23] at H
    exact absurd H (by simp)
  rw [if_pos c23] at H
  have c23b0 : decide (0 ≤ x40_3) = true := decide_eq_true c23
  clear c23
  by_cases c24 : x40_3 < (l0_4.length : Int)
  rotate_left
  · rw [if_neg c24] at H
    exact absurd H (by simp)
  rw [if_pos c24] at H
  have c24b0 : decide (x40_3 < (l0_4.length : Int)) = true := decide_eq_true c24
  clear c24
  by_cases c25 : (((rd_T39 l0_4 x40_3).f0).size : Int) ≤ 12
  rotate_left
  · rw [if_neg c25] at H
    have c25b0 : decide ((((rd_T39 l0_4 x40_3).f0).size : Int) ≤ 12) = false := decide_eq_false c25
    have c25b1 : decide (((rd_T39 l0_4 x40_3).f0).size ≤ 12) = false := decide_eq_false (by omega)
    clear c25
    obtain rfl := Option.some.inj H
    have p109 : 0 ≤ (x40_3 : Int) := of_decide_eq_true (by assumption)
    have q109 : x40_3 < (l0_4.length : Int) := of_decide_eq_true (by assumption)
    obtain ⟨ad109, e109, hx109_0, hx109_1, hx109_2⟩ := at_T39 HR0_4.out x40_3 p109 q109
    cases e109
    replace hx109_0 := hc_ HB hx109_0
    replace hx109_1 := hc_ HB hx109_1
    replace hx109_2 := hc_ HB hx109_2
    replace p109 := eq_true p109
    replace q109 := eq_true q109
    go_wp2_with (first | go_step3 | ((with_reducible refine gate_dst (N := 4) rfl ?_); (try (refine gate_guard (by rfl) ?_; dsimp only)); refine box_event ?hg (N := 4) ?hd (cs := #[.string (⟨#[]⟩ : ByteArray), .bool false, .string (⟨#[]⟩ : ByteArray)]) (t := 39) ?hr ?_; (case hd => rfl); (case hg => rfl); (case hr => first | (go_simp; done) | (go_simp; rfl)); intro gb110 hg w29 hbox hb; have n0_ := bb_ BK105 hb; have n1_ := bl_ [gb105] HB ⟨GE105, ⟨⟩⟩ hb; have n2_ := Aside0.mk (hbox); have n3_ := gl_ [gb105] HB ⟨GE105, ⟨⟩⟩ hg; have n4_ := gl_ [gb105] HB ⟨GE105, ⟨⟩⟩ hg; have n5_ := gn_ BK105 hg; have n6_ := Aside0.mk ((by rw [hg]; exact Nat.ne_of_gt (blk_lt (g := gb105) (o := .cells #[.int .i64 a0_0, .int .i64 a0_1, .int .i64 a0_2, .bool a0_3, .slice (some ad109) l0_4.length c0_4] 24 (0, 0)) (gb_ BK105)) : gb110 ≠ gb105)); clear BK105; clear HB; have BK105 := n0_; have HB := n1_; have BK110 := n2_; have GW110 := n3_; have GE110 := n4_; have NB105_110 := n5_; have NB110_105 := n6_; clear n0_ n1_ n2_ n3_ n4_ n5_ n6_; clear hb hbox hg; have hnb30 := NB110_105.out; have hnc30 := NB105_110.out; have hcz31_0 := bc0 BK110; have hcz31_1 := bc1 BK110; have hcz31_2 := bc2 BK110; have hfz31_0 := bf_ BK110 0; have hfz31_1 := bf_ BK110 1; have hfz31_2 := bf_ BK110 2))
    ((try rw [Exit.noGoto_ret]); go_ret)
    exact ⟨by first | rfl | (simp [*, errW_none, errW_some] <;> rfl), gwl_ [gb105, gb110] HB ⟨GE105, GE110, ⟨⟩⟩⟩
  rw [if_pos c25] at H
  have c25b0 : decide ((((rd_T39 l0_4 x40_3).f0).size : Int) ≤ 12) = true := decide_eq_true c25
  have c25b1 : decide (((rd_T39 l0_4 x40_3).f0).size ≤ 12) = true := decide_eq_true (by omega)
  clear c25
  have H' := Aside0.mk H
  clear H
  have p109 : 0 ≤ (x40_3 : Int) := of_decide_eq_true (by assumption)
  have q109 : x40_3 < (l0_4.length : Int) := of_decide_eq_true (by assumption)
  obtain ⟨ad109, e109, hx109_0, hx109_1, hx109_2⟩ := at_T39 HR0_4.out x40_3 p109 q109
  cases e109
  replace hx109_0 := hc_ HB hx109_0
  replace hx109_1 := hc_ HB hx109_1
  replace hx109_2 := hc_ HB hx109_2
  replace p109 := eq_true p109
  replace q109 := eq_true q109
  go_wp2_with (first | go_step3 | ((with_reducible refine gate_dst (N := 4) rfl ?_); (try (refine gate_guard (by rfl) ?_; dsimp only)); refine box_event ?hg (N := 4) ?hd (cs := #[.string (⟨#[]⟩ : ByteArray), .bool false, .string (⟨#[]⟩ : ByteArray)]) (t := 39) ?hr ?_; (case hd => rfl); (case hg => rfl); (case hr => first | (go_simp; done) | (go_simp; rfl)); intro gb110 hg w26 hbox hb; have n0_ := bb_ BK105 hb; have n1_ := bl_ [gb105] HB ⟨GE105, ⟨⟩⟩ hb; have n2_ := Aside0.mk (hbox); have n3_ := gl_ [gb105] HB ⟨GE105, ⟨⟩⟩ hg; have n4_ := gl_ [gb105] HB ⟨GE105, ⟨⟩⟩ hg; have n5_ := gn_ BK105 hg; have n6_ := Aside0.mk ((by rw [hg]; exact Nat.ne_of_gt (blk_lt (g := gb105) (o := .cells #[.int .i64 a0_0, .int .i64 a0_1, .int .i64 a0_2, .bool a0_3, .slice (some ad109) l0_4.length c0_4] 24 (0, 0)) (gb_ BK105)) : gb110 ≠ gb105)); clear BK105; clear HB; have BK105 := n0_; have HB := n1_; have BK110 := n2_; have GW110 := n3_; have GE110 := n4_; have NB105_110 := n5_; have NB110_105 := n6_; clear n0_ n1_ n2_ n3_ n4_ n5_ n6_; clear hb hbox hg; have hnb27 := NB110_105.out; have hnc27 := NB105_110.out; have hcz28_0 := bc0 BK110; have hcz28_1 := bc1 BK110; have hcz28_2 := bc2 BK110; have hfz28_0 := bf_ BK110 0; have hfz28_1 := bf_ BK110 1; have hfz28_2 := bf_ BK110 2))
  go_roundg k3
  case measure => have := HJ1.out; have := HJ12.out; have := HK3.out; omega
  case rel => exact ⟨(wrap64 (x40_3 + 1)), (by first | rfl | (simp; done) | (simp [*]; done)), H', ⟨by have := HJ1.out; have := HJ12.out; have := HK3.out; omega⟩, ⟨by (with_reducible repeat (first | refine blk_drewN ?_ _ | refine blk_drew ?_ | refine blk_alloc ?_ _)); refine blk_far ?_ NB105_110.out _; refine blk_far ?_ NB105_110.out _; refine blk_far ?_ NB105_110.out _; exact gb_ BK105⟩, ⟨gwl_ [gb105, gb110] HB ⟨GE105, GE110, ⟨⟩⟩⟩⟩

end Go.Proofs.Ytkmbgihfdfgmgaa.P
