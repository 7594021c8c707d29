import Derived.Test.YtdkdnfgpgedglaaQHeapP
import Derived.Test.YtdkdnfgpgedglaaQHeapEntry
import Derived.Test.YtdkdnfgpgedglaaPx2
namespace Go.Proofs.Ytdkdnfgpgedglaa.P
end Go.Proofs.Ytdkdnfgpgedglaa.P
namespace Go.Proofs.Ytdkdnfgpgedglaa.Q
end Go.Proofs.Ytdkdnfgpgedglaa.Q
namespace Go.Proofs.Ytdkdnfgpgedglaa.Q
open Go.RowKit Go.Proofs.Ytdkdnfgpgedglaa.P Go.Proofs.YtdkdnfgpgedglaaW.PrintWords Go.Proofs.YtdkdnfgpgedglaaW.PrintLast Go.Proofs.YtdkdnfgpgedglaaW.PrintMore
set_option linter.unusedVariables false
set_option linter.unusedSimpArgs false
open Go.Proofs.Ytdkdnfgpgedglaa.P
def okE (e : S29) : Bool := isF (ky e) e.f1 e.f2 (vl e)
def ixE (l : List S29) (e : S29) : Nat := placeE l (ky e) e.f1
def thereE (l : List S29) (e : S29) : Bool := decide (ixE l e < l.length) && (ky (l.getD (ixE l e) z29) == ky e && (l.getD (ixE l e) z29).f1 == e.f1)
def putB (l : List S29) (e : S29) : Bool := okE e && !thereE l e
def putE (l : List S29) (e : S29) : List S29 := if putB l e = true then insL l (ixE l e) e else l
def szE (e : S29) : Int := (e.f0.size : Int) + (e.f3.size : Int)
def sumE (l : List S29) : Int := (l.map szE).sum
theorem HpF_below {w w' : World} {g : Nat} {l : List S29} {n : Int} {F : Nat → Prop} (h : HpF w g l n F) (hb : Below w.heap.size w w') : HpF w' g l n F := by
  obtain ⟨u, h1, h2, h3⟩ := h
  exact ⟨u, blk_below h1 hb, h2, Kd.R_below h3 hb⟩
theorem hrd (l : List S29) (i : Nat) : rd_T29 l (i : Int) = l.getD i z29 := by unfold rd_T29; rw [Int.toNat_natCast]
set_option linter.unusedSimpArgs false in
theorem HPut (w : World) (g : Nat) (l : List S29) (n : Int) (F : Nat → Prop) (e : S29) (h : HpF w g l n F) (hs : sortedB l = true) (hl : l.length ≤ 1000000) (hn : 0 ≤ n ∧ n ≤ 1000000000) :
    Calls Try.prog 12 #[.pointer (some ⟨g, 0, none⟩), .agg #[.string e.f0, .int .i64 e.f1, .bool e.f2, .string e.f3]] w fun r w' => ∃ F' : Nat → Prop, r = .returned (.bool (putB l e)) ∧ HpF w' g (putE l e) (if putB l e = true then n + szE e else n) F' ∧ (∀ k, F' k → F k ∨ w.heap.size ≤ k ∧ k < w'.heap.size) ∧ Fr w w' F := by
  obtain ⟨K, hK⟩ := first_ev l (by omega) hs e.f0 e.f1
  have hF : entry_First.f K l e.f0 e.f1 = some ((ixE l e : Nat) : Int) := hK K (Nat.le_refl _)
  have hI : entry_Is.f e.f0 e.f1 e.f2 e.f3 = some (okE e) := is_ev e.f0 e.f1 e.f2 e.f3
  have hle : ixE l e ≤ l.length := place_le l _ _
  have no : putB l e = false → ∀ (r : Ending) (w' : World), r = .returned (.bool false) ∧ Below w.heap.size w w' → ∃ F' : Nat → Prop, r = .returned (.bool (putB l e)) ∧ HpF w' g (putE l e) (if putB l e = true then n + szE e else n) F' ∧ (∀ k, F' k → F k ∨ w.heap.size ≤ k ∧ k < w'.heap.size) ∧ Fr w w' F := fun hp r w' hh =>
    ⟨F, by rw [hp]; exact hh.1, by simp only [putE, hp, Bool.false_eq_true, if_false]; exact HpF_below h hh.2, fun k hk => .inl hk, Fr.below hh.2⟩
  have yes : putB l e = true → ∀ (r : Ending) (w' : World), (∃ F' : Nat → Prop, r = .returned (.bool true) ∧ HpF w' g (insL l (ixE l e) e) (n + ((e.f0.size : Int) + (e.f3.size : Int))) F' ∧ (∀ k, F' k → F k ∨ w.heap.size ≤ k ∧ k < w'.heap.size) ∧ Fr w w' F) → ∃ F' : Nat → Prop, r = .returned (.bool (putB l e)) ∧ HpF w' g (putE l e) (if putB l e = true then n + szE e else n) F' ∧ (∀ k, F' k → F k ∨ w.heap.size ≤ k ∧ k < w'.heap.size) ∧ Fr w w' F := fun hp r w' hh => by
    obtain ⟨F', h1, h2, h3, h4⟩ := hh
    exact ⟨F', by rw [hp]; exact h1, by simp only [putE, hp, if_true, szE]; exact h2, h3, h4⟩
  cases hok : okE e with
  | false => exact (HPut_none K w g l n F e _ _ h hF hI hok).mono (no (by simp [putB, hok]))
  | true =>
    have hsz : e.f0.size ≤ 100 ∧ e.f3.size ≤ 100 := by
      have h0 := isF_iff.1 hok
      have a0 : (ky e).length = e.f0.size := rfl
      have a1 : (vl e).length = e.f3.size := rfl
      omega
    rcases Nat.lt_or_ge (ixE l e) l.length with hi | hi
    · by_cases hk : ky (l.getD (ixE l e) z29) = ky e
      · have hk' : (rd_T29 l ((ixE l e : Nat) : Int)).f0.toList = e.f0.toList := by rw [hrd, toL, toL]; exact hk
        by_cases hq : (l.getD (ixE l e) z29).f1 = e.f1
        · exact (HPut_there K w g l n F e _ _ h hF hI hok hi hk' (by rw [hrd]; exact hq)).mono (no (by simp only [putB, thereE, hk, hq, decide_eq_true hi, beq_self_eq_true, Bool.and_self, Bool.not_true, Bool.and_false]))
        · exact (HPut_seq K w g l n F e _ _ h hF hI hok hi hk' (by rw [hrd]; exact hq) hl hn hsz).mono (yes (by simp only [putB, thereE, hok, beq_eq_false_iff_ne.2 hq, Bool.and_false, Bool.not_false, Bool.and_self]))
      · exact (HPut_key K w g l n F e _ _ h hF hI hok hi (by rw [hrd, toL, toL]; exact hk) hl hn hsz).mono (yes (by simp only [putB, thereE, hok, beq_eq_false_iff_ne.2 hk, Bool.false_and, Bool.and_false, Bool.not_false, Bool.and_self]))
    · exact (HPut_end K w g l n F e _ _ h hF hI hok (by omega) hl hn hsz).mono (yes (by simp [putB, thereE, hok, Nat.not_lt.2 hi]))
end Go.Proofs.Ytdkdnfgpgedglaa.Q
