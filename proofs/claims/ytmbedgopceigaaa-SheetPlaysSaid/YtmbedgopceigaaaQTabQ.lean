import Derived.Test.YtmbedgopceigaaaQTabS
namespace Go.Proofs.Ytmbedgopceigaaa.Q
open Go.RowKit Go.Lib Go.Proofs Go.Proofs.Ytmbedgopceigaaa.P Go.Proofs.YtmbedgopceigaaaW.PrintWords Go.Proofs.YtmbedgopceigaaaW.PrintLast Go.Proofs.YtmbedgopceigaaaW.PrintMore
set_option linter.unusedVariables false
set_option linter.unusedSimpArgs false
/-! What sheet.Do does, in lists -/
structure St where
  l : List S32
  lg : Int
  sq : Int
  nx : Int
def leT (a b : S32) : Bool := !(ltT b a)
def srt (l : List S32) : List S32 := l.mergeSort leT
theorem ltT_asymm {x y : S32} (h : ltT x y = true) : ltT y x = false := by
  cases hb : ltT y x with
  | false => rfl
  | true => have := ltT_trans h hb; rw [ltT_irrefl] at this; cases this
theorem srt_perm (l : List S32) : (srt l).Perm l := List.mergeSort_perm l leT
theorem srt_sorted (l : List S32) : (srt l).Pairwise (fun a b => ltT b a = false) := by
  have h := List.pairwise_mergeSort (le := leT) (fun a b c h1 h2 => by
      unfold leT at *
      simp only [Bool.not_eq_true'] at *
      exact ltT_ntrans h2 h1) (fun a b => by
      unfold leT
      cases hb : ltT b a with
      | false => rfl
      | true => rw [ltT_asymm hb]; rfl) l
  refine h.imp (fun hab => ?_)
  unfold leT at hab
  simpa using hab
/-- Of any two that are unlike one is first. -/
def TotT (l : List S32) : Prop := ∀ a ∈ l, ∀ b ∈ l, ltT a b = false → ltT b a = false → a = b
theorem srt_uniq {xs ys : List S32} (ht : TotT xs) (hp : ys.Perm xs) (hs : ys.Pairwise (fun a b => ltT b a = false)) : ys = srt xs := by
  refine List.Perm.eq_of_pairwise (le := fun a b => ltT b a = false) ?_ hs (srt_sorted xs) (hp.trans (srt_perm xs).symm)
  intro a b ha hb h1 h2
  exact ht a (hp.mem_iff.1 ha) b ((srt_perm xs).mem_iff.1 hb) h2 h1
/-- The row behind an edit, not yet in order. -/
def rowS (l : List S32) (G : List Int) (C : List S32) : List S32 := l.filter (fun z => !(G.any (fun y => z.f0 == y))) ++ C
def earlyB (C : List S32) (nx : Int) : Bool := match C with | [] => false | c :: _ => decide (c.f0 < nx)
def lateB (s : St) (C : List S32) (lg sq : Int) : Bool := earlyB C s.nx || (decide (0 < lg) && decide (lg < s.lg)) || (decide (0 < sq) && decide (sq < s.sq))
def hereB (l : List S32) (G : List Int) : Bool := G.all (fun id => l.any (fun z => z.f0 == id))
def doE (s : St) (G : List Int) (C : List S32) (lg sq : Int) : Int :=
  if formedB G C lg sq = false then 10
  else if hereB s.l G = false then 18
  else if lateB s C lg sq = true ∨ apartB (rowS s.l G C) = false then 16
  else if 40 < (rowS s.l G C).length then 25
  else 0
def maxI (a b : Int) : Int := if a < b then b else a
def nxS (nx : Int) (C : List S32) : Int := match C.getLast? with | none => nx | some c => c.f0 + 1
def doN (s : St) (G : List Int) (C : List S32) (lg sq : Int) : St := ⟨srt (rowS s.l G C), maxI s.lg lg, maxI s.sq sq, nxS s.nx C⟩
def doS (s : St) (G : List Int) (C : List S32) (lg sq : Int) : St := if doE s G C lg sq = 0 then doN s G C lg sq else s
/-- What holds of a sheet. -/
structure InvS (s : St) : Prop where
  is : ∀ t ∈ s.l, isT t = true ∧ t.f0 < s.nx
  ids : s.l.Pairwise (fun a b => a.f0 ≠ b.f0)
  apart : s.l.Pairwise (fun b a => meetT a b = false)
  sorted : s.l.Pairwise (fun a b => ltT b a = false)
  len : s.l.length ≤ 40
  lg : 1 ≤ s.lg ∧ s.lg ≤ 1000000
  sq : 0 ≤ s.sq ∧ s.sq ≤ 1000000
  nx : 1 ≤ s.nx ∧ s.nx ≤ 1000001
theorem isT_iff {t : S32} : isT t = true ↔ (1 ≤ t.f0 ∧ t.f0 ≤ 1000000) ∧ (t.f1 = 0 ∨ t.f1 = 1) ∧ keyB t.f2 = true ∧ keyB t.f3 = true ∧ Op.bytesLess t.f3.data.toList t.f2.data.toList = false ∧ 1 ≤ t.f4 := by
  unfold isT
  simp only [Bool.and_eq_true, Bool.or_eq_true, decide_eq_true_eq, Bool.not_eq_true']
  constructor
  · rintro ⟨⟨⟨⟨⟨⟨h0, h1⟩, h2⟩, h3⟩, h4⟩, h5⟩, h6⟩
    exact ⟨⟨h0, h1⟩, h2, h3, h4, h5, h6⟩
  · rintro ⟨⟨h0, h1⟩, h2, h3, h4, h5, h6⟩
    exact ⟨⟨⟨⟨⟨⟨h0, h1⟩, h2⟩, h3⟩, h4⟩, h5⟩, h6⟩
theorem ris_iff : ∀ {a : Int} {C : List S32}, ris a C = true → (∀ t ∈ C, isT t = true ∧ a < t.f0) ∧ C.Pairwise (fun a b => a.f0 < b.f0)
  | _, [], _ => ⟨fun t h => (List.not_mem_nil h).elim, List.Pairwise.nil⟩
  | a, t :: r, h => by
    rw [ris, Bool.and_eq_true, Bool.and_eq_true, decide_eq_true_eq] at h
    obtain ⟨⟨h1, h2⟩, h3⟩ := h
    have ih := ris_iff h3
    refine ⟨fun x hx => ?_, List.pairwise_cons.2 ⟨fun x hx => (ih.1 x hx).2, ih.2⟩⟩
    rcases List.mem_cons.1 hx with rfl | hx
    · exact ⟨h1, h2⟩
    · have := ih.1 x hx
      exact ⟨this.1, by omega⟩
theorem pw_mem {α : Type} {R : α → α → Prop} : ∀ {l : List α}, l.Pairwise R → ∀ {a b : α}, a ∈ l → b ∈ l → a = b ∨ R a b ∨ R b a
  | [], _, _, _, ha, _ => (List.not_mem_nil ha).elim
  | x :: l, h, a, b, ha, hb => by
    have h := List.pairwise_cons.1 h
    rcases List.mem_cons.1 ha with e1 | h1
    · rcases List.mem_cons.1 hb with e2 | h2
      · exact .inl (e1.trans e2.symm)
      · exact .inr (.inl (e1 ▸ h.1 b h2))
    · rcases List.mem_cons.1 hb with e2 | h2
      · exact .inr (.inr (e2 ▸ h.1 a h1))
      · exact pw_mem h.2 h1 h2
/-- What makes a row total. -/
theorem tot_of {l : List S32} (hi : ∀ t ∈ l, isT t = true) (hd : l.Pairwise (fun a b => a.f0 ≠ b.f0)) (ha : l.Pairwise (fun b a => meetT a b = false)) : TotT l := by
  intro a ha1 b hb1 h1 h2
  unfold ltT at h1 h2
  by_cases e : a.f1 = b.f1
  · rw [if_pos e] at h1
    rw [if_pos e.symm] at h2
    by_cases e0 : a.f1 = 0
    · rw [if_pos e0] at h1
      rw [if_pos (e ▸ e0)] at h2
      have h1 := of_decide_eq_false h1
      have h2 := of_decide_eq_false h2
      rcases pw_mem hd ha1 hb1 with h | h | h
      · exact h
      · omega
      · omega
    · have e1 : ¬ b.f1 = 0 := fun h => e0 (e.trans h)
      rw [if_neg e0] at h1
      rw [if_neg e1] at h2
      have hab : a.f2.data.toList = b.f2.data.toList := by
        rcases not_lt h1 with h | h
        · exact h
        · rw [h2] at h; cases h
      have ia := (isT_iff.1 (hi a ha1)).2.2.2.2.1
      have ib := (isT_iff.1 (hi b hb1)).2.2.2.2.1
      have m1 : meetT a b = true := by unfold meetT; rw [decide_eq_false e0, decide_eq_false e1, hab, ib, ← hab, ia]; rfl
      have m2 : meetT b a = true := by unfold meetT; rw [decide_eq_false e0, decide_eq_false e1, hab, ib, ← hab, ia]; rfl
      rcases pw_mem ha ha1 hb1 with h | h | h
      · exact h
      · rw [m2] at h; cases h
      · rw [m1] at h; cases h
  · rw [if_neg e] at h1
    rw [if_neg (fun h => e h.symm)] at h2
    have h1 := of_decide_eq_false h1
    have h2 := of_decide_eq_false h2
    omega
/-- The row of an edit that is formed and not early. -/
theorem rowS_inv {s : St} (h : InvS s) {G : List Int} {C : List S32} {lg sq : Int} (hf : formedB G C lg sq = true) (he : earlyB C s.nx = false) : (∀ t ∈ rowS s.l G C, isT t = true) ∧ (rowS s.l G C).Pairwise (fun a b => a.f0 ≠ b.f0) := by
  unfold formedB at hf
  rw [Bool.and_eq_true] at hf
  obtain ⟨hr, hp⟩ := ris_iff hf.1
  have hge : ∀ c ∈ C, s.nx ≤ c.f0 := by
    cases C with
    | nil => intro c hc; exact (List.not_mem_nil hc).elim
    | cons d r =>
      have h0 : s.nx ≤ d.f0 := by have := of_decide_eq_false he; omega
      intro c hc
      rcases List.mem_cons.1 hc with rfl | hc
      · exact h0
      · have := (List.pairwise_cons.1 hp).1 c hc
        omega
  refine ⟨fun t ht => ?_, ?_⟩
  · rcases List.mem_append.1 ht with ht | ht
    · exact (h.is t (List.mem_filter.1 ht).1).1
    · exact (hr t ht).1
  · unfold rowS
    rw [List.pairwise_append]
    refine ⟨h.ids.filter _, hp.imp (fun h => by omega), fun a ha b hb => ?_⟩
    have h1 := (h.is a (List.mem_filter.1 ha).1).2
    have h2 := hge b hb
    omega
theorem doE_late {s : St} {G : List Int} {C : List S32} {lg sq : Int} (h : doE s G C lg sq = 0) : formedB G C lg sq = true ∧ hereB s.l G = true ∧ lateB s C lg sq = false ∧ apartB (rowS s.l G C) = true ∧ (rowS s.l G C).length ≤ 40 := by
  unfold doE at h
  split at h
  · cases h
  · split at h
    · cases h
    · split at h
      · cases h
      · split at h
        · cases h
        · rename_i h1 h2 h3 h4
          refine ⟨by simpa using h1, by simpa using h2, ?_, ?_, by omega⟩
          · cases hb : lateB s C lg sq with
            | false => rfl
            | true => exact absurd (.inl hb) h3
          · cases hb : apartB (rowS s.l G C) with
            | true => rfl
            | false => exact absurd (.inr hb) h3
theorem late_early {s : St} {C : List S32} {lg sq : Int} (h : lateB s C lg sq = false) : earlyB C s.nx = false := by
  unfold lateB at h
  rw [Bool.or_eq_false_iff, Bool.or_eq_false_iff] at h
  exact h.1.1
theorem formed_bet {G : List Int} {C : List S32} {lg sq : Int} (hf : formedB G C lg sq = true) : (0 ≤ lg ∧ lg ≤ 1000000) ∧ (0 ≤ sq ∧ sq ≤ 1000000) ∧ G.length ≤ 40 ∧ C.length ≤ 40 := by
  unfold formedB betB at hf
  simp only [Bool.and_eq_true, decide_eq_true_eq] at hf
  obtain ⟨_, ⟨⟨h1, h2⟩, h3, h4⟩, h5, h6⟩ := hf
  exact ⟨⟨h3, h4⟩, ⟨h5, h6⟩, h1, h2⟩
theorem doS_inv {s : St} (h : InvS s) (G : List Int) (C : List S32) (lg sq : Int) : InvS (doS s G C lg sq) := by
  unfold doS
  by_cases h0 : doE s G C lg sq = 0
  · rw [if_pos h0]
    obtain ⟨hf, hh, hl, ha, hn⟩ := doE_late h0
    have he := late_early hl
    obtain ⟨hi, hd⟩ := rowS_inv h hf he
    have hb := formed_bet hf
    have hfr := hf
    unfold formedB at hfr
    rw [Bool.and_eq_true] at hfr
    obtain ⟨hr, hp⟩ := ris_iff hfr.1
    have hnx : s.nx ≤ nxS s.nx C ∧ (∀ c ∈ C, c.f0 < nxS s.nx C) ∧ 1 ≤ nxS s.nx C ∧ nxS s.nx C ≤ 1000001 := by
      unfold nxS
      rcases List.eq_nil_or_concat C with rfl | ⟨C', c, rfl⟩
      · exact ⟨Int.le_refl _, fun c hc => (List.not_mem_nil hc).elim, h.nx.1, h.nx.2⟩
      · rw [List.concat_eq_append] at *
        rw [List.getLast?_concat]
        simp only
        have hc := (isT_iff.1 (hr c (by simp)).1).1
        rw [List.pairwise_append] at hp
        have hlast : ∀ x ∈ C' ++ [c], x.f0 ≤ c.f0 := by
          intro x hx
          rcases List.mem_append.1 hx with hx | hx
          · have := hp.2.2 x hx c (by simp); omega
          · rw [List.mem_singleton.1 hx]; exact Int.le_refl _
        have hfirst : s.nx ≤ c.f0 := by
          cases C' with
          | nil => have := of_decide_eq_false he; omega
          | cons d r =>
            have h1 := of_decide_eq_false he
            have := hlast d (by simp)
            omega
        exact ⟨by omega, fun x hx => by have := hlast x hx; omega, by omega, by omega⟩
    have ht := tot_of hi hd (apart_iff.1 ha)
    have hsp := srt_perm (rowS s.l G C)
    refine ⟨fun t ht1 => ?_, ?_, ?_, srt_sorted _, by show (srt _).length ≤ 40; rw [hsp.length_eq]; exact hn, ?_, ?_, hnx.2.2⟩
    · have hm := hsp.mem_iff.1 ht1
      refine ⟨hi t hm, ?_⟩
      rcases List.mem_append.1 hm with hm | hm
      · have := (h.is t (List.mem_filter.1 hm).1).2
        show t.f0 < nxS s.nx C
        have h2 := hnx.1
        omega
      · exact hnx.2.1 t hm
    · exact hsp.symm.pairwise hd (fun h => h.symm)
    · refine hsp.symm.pairwise (apart_iff.1 ha) (fun {a b} h => ?_)
      rw [← h]
      unfold meetT
      cases decide (a.f1 = 0) <;> cases decide (b.f1 = 0) <;> cases Op.bytesLess a.f3.data.toList b.f2.data.toList <;> cases Op.bytesLess b.f3.data.toList a.f2.data.toList <;> rfl
    · show 1 ≤ maxI s.lg lg ∧ maxI s.lg lg ≤ 1000000
      have h1 := h.lg
      unfold maxI
      split <;> omega
    · show 0 ≤ maxI s.sq sq ∧ maxI s.sq sq ≤ 1000000
      have h1 := h.sq
      unfold maxI
      split <;> omega
  · rw [if_neg h0]; exact h
theorem inv_new : InvS ⟨[], 1, 0, 1⟩ := ⟨fun t h => (List.not_mem_nil h).elim, List.Pairwise.nil, List.Pairwise.nil, List.Pairwise.nil, by decide, by decide, by decide, by decide⟩
end Go.Proofs.Ytmbedgopceigaaa.Q
