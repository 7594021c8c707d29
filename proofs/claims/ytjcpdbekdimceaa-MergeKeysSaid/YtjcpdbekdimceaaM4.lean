-- Printed by a changed copy of the kit's printer (wip/tools/ext.py); labels and more
import Derived.Test.YtjcpdbekdimceaaM0
import Derived.Test.YtjcpdbekdimceaaM3
namespace Go.Proofs.Ytjcpdbekdimceaa.P
open Go.RowKit Go.Proofs.YtjcpdbekdimceaaW.PrintWords Go.Proofs.YtjcpdbekdimceaaW.PrintLast Go.Proofs.YtjcpdbekdimceaaW.PrintMore
attribute [local go_sem] max2_int min2_int max_two min_two max_three min_three max_four min_four   -- for this text's walks alone
attribute [local go_sem high] string_leq string_geq string_gtr
set_option linter.unusedVariables false
set_option linter.unusedSimpArgs false

/-! ### api_Entry_28: function 28 -/
-- by hand
def api_Entry_28.f (k : Nat) (l0 : List (S39)) : Option (Bool) := (api_Entry_36.f k l0).bind fun t => some (decide (t ≥ 0))
theorem api_Entry_28.mono : ∀ a0 k, LeO (api_Entry_28.f k a0) (api_Entry_28.f (k + 1) a0) := fun a0 k => LeO.bind (api_Entry_36.mono a0 k) (fun _ => LeO.refl _)
set_option maxHeartbeats 8000000 in
set_option maxRecDepth 100000 in
theorem api_Entry_28.calls (k : Nat) (A0 : Option Addr) (c0 : Nat) (l0 : List (S39)) (r : Bool) (w : World) (hr0 : Kd.C k39 w A0 l0.length l0) (hc0 : l0.length ≤ c0) (h : api_Entry_28.f k l0 = some r) :
    Calls Try.prog 28 #[.slice A0 l0.length c0, .func (.func 29) #[] #[]] w fun e w' => e = .returned (.bool r) ∧ Below w.heap.size w w' := by
  have HR0 := Aside0.mk hr0
  have HC0 := Aside0.mk hc0
  obtain ⟨t, A0', H⟩ := Option.bind_eq_some_iff.mp h
  obtain rfl := Option.some.inj H
  have A1 := Aside0.mk A0'
  clear hr0 hc0 h H A0'
  go_enter Try.func28, Try.ntmps28
  go_wp2_with (go_at_call 36; refine (api_Entry_36.calls k _ _ l0 t _ HR0.out HC0.out A1.out).mono ?_; rintro e w' ⟨rfl, hB⟩; have HB := Aside0.mk hB; clear hB)
  go_ret
  exact ⟨rfl, HB.out⟩

end Go.Proofs.Ytjcpdbekdimceaa.P
