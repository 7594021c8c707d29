import Derived.Test.YtmbedgopceigaaaQTabE
namespace Go.Proofs.Ytmbedgopceigaaa.Q
open Go.RowKit Go.Lib Go.Proofs Go.Proofs.Ytmbedgopceigaaa.P Go.Proofs.YtmbedgopceigaaaW.PrintWords Go.Proofs.YtmbedgopceigaaaW.PrintLast Go.Proofs.YtmbedgopceigaaaW.PrintMore
set_option linter.unusedVariables false
set_option linter.unusedSimpArgs false
attribute [local go_sem] max_two min_two
attribute [local go_sem high] string_leq string_geq string_gtr
/-! The tables of a tier -/
theorem take_filter {α : Type} (p : α → Bool) (l : List α) (i : Nat) (h : i < l.length) : (l.take (i + 1)).filter p = (l.take i).filter p ++ (if p l[i] = true then [l[i]] else []) := by
  rw [List.take_succ_eq_append_getElem h, List.filter_append]
  congr 1
  cases hb : p l[i] <;> simp [hb]
theorem len_filter {α : Type} (p : α → Bool) (l : List α) (i : Nat) : ((l.take i).filter p).length ≤ l.length := by
  have h1 := List.length_filter_le p (l.take i)
  rw [List.length_take] at h1
  omega
def tierL (l : List S32) (k : Int) : List S32 := l.filter (fun z => z.f1 == k)
theorem STierL (w : World) (g : Nat) (l : List S32) (lg sq nx tier : Int) (h : Sh w g l lg sq nx) (hl : l.length ≤ 1000000) : Calls Try.prog 24 #[.pointer (some ⟨g, 0, none⟩), .int .i64 tier] w fun e w' => ∃ v : Value, e = .returned v ∧ Kd.R k32 32 w' w.heap.size (fun _ => True) v (tierL l tier) ∧ Below w.heap.size w w' := STier w g l lg sq nx tier h hl
theorem tier_len (l : List S32) (k : Int) : (tierL l k).length ≤ l.length := List.length_filter_le _ _
end Go.Proofs.Ytmbedgopceigaaa.Q
