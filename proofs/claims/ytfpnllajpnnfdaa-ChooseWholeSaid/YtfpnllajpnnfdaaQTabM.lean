import Derived.Test.YtfpnllajpnnfdaaQTabL
namespace Go.Proofs.Ytfpnllajpnnfdaa.Q
open Go.RowKit Go.Lib Go.Proofs Go.Proofs.Ytfpnllajpnnfdaa.P Go.Proofs.YtfpnllajpnnfdaaW.PrintWords Go.Proofs.YtfpnllajpnnfdaaW.PrintLast Go.Proofs.YtfpnllajpnnfdaaW.PrintMore
set_option linter.unusedVariables false
set_option linter.unusedSimpArgs false
/-! With what is picked gone no table that is left meets it -/
theorem keyB_ne {s : ByteArray} (h : keyB s = true) : s.data.toList ≠ [] := by
  unfold keyB at h
  rw [Bool.and_eq_true, Bool.not_eq_true'] at h
  exact of_decide_eq_false h.1
def emp : ByteArray := ⟨#[]⟩
def stepLo (lo : ByteArray) (t : S46) : ByteArray := if t.f1 = 0 then (if lo.data.toList = [] ∨ Op.bytesLess t.f2.data.toList lo.data.toList = true then t.f2 else lo) else lo
def stepHi (hi : ByteArray) (t : S46) : ByteArray := if t.f1 = 0 then maxS hi t.f3 else hi
def loW (p : List S46) : ByteArray := p.foldl stepLo emp
def hiW (p : List S46) : ByteArray := p.foldl stepHi emp
theorem lo_other : ∀ {p : List S46} (x : ByteArray), (∀ t ∈ p, t.f1 ≠ 0) → p.foldl stepLo x = x
  | [], x, _ => rfl
  | t :: r, x, h => by
    rw [List.foldl_cons, show stepLo x t = x by unfold stepLo; rw [if_neg (h t (by simp))]]
    exact lo_other x (fun t ht => h t (by simp [ht]))
theorem hi_other : ∀ {p : List S46} (x : ByteArray), (∀ t ∈ p, t.f1 ≠ 0) → p.foldl stepHi x = x
  | [], x, _ => rfl
  | t :: r, x, h => by
    rw [List.foldl_cons, show stepHi x t = x by unfold stepHi; rw [if_neg (h t (by simp))]]
    exact hi_other x (fun t ht => h t (by simp [ht]))
theorem lo_tier : ∀ {p : List S46} (x : ByteArray), x.data.toList ≠ [] → (∀ t ∈ p, t.f1 = 0 ∧ t.f2.data.toList ≠ []) → p.foldl stepLo x = loL x p
  | [], x, _, _ => rfl
  | t :: r, x, hx, h => by
    have ht := h t (by simp)
    have e : stepLo x t = minS x t.f2 := by
      unfold stepLo minS
      rw [if_pos ht.1]
      cases hb : Op.bytesLess t.f2.data.toList x.data.toList with
      | true => rw [if_pos (.inr rfl), if_pos rfl]
      | false => rw [if_neg (fun h => h.elim hx (by simp)), if_neg (by simp)]
    have hn : (minS x t.f2).data.toList ≠ [] := by
      unfold minS; split
      · exact ht.2
      · exact hx
    rw [List.foldl_cons, e, lo_tier _ hn (fun t ht => h t (by simp [ht]))]
    rfl
theorem hi_tier : ∀ {p : List S46} (x : ByteArray), (∀ t ∈ p, t.f1 = 0) → p.foldl stepHi x = hiL x p
  | [], x, _ => rfl
  | t :: r, x, h => by
    rw [List.foldl_cons, show stepHi x t = maxS x t.f3 by unfold stepHi; rw [if_pos (h t (by simp))], hi_tier _ (fun t ht => h t (by simp [ht]))]
    rfl
theorem tier_mem {l : List S46} {k : Int} {t : S46} : t ∈ tierL l k ↔ t ∈ l ∧ t.f1 = k := by
  unfold tierL
  rw [List.mem_filter, beq_iff_eq]
theorem two_tiers : ∀ l : List S46, (tierL l 0).length + (tierL l 1).length ≤ l.length
  | [] => by decide
  | t :: r => by
    have ih := two_tiers r
    unfold tierL at ih ⊢
    by_cases h0 : t.f1 = 0
    · rw [List.filter_cons_of_pos (by simpa using h0), List.filter_cons_of_neg (by rw [h0]; decide)]
      simp only [List.length_cons]; omega
    · rw [List.filter_cons_of_neg (by simpa using h0)]
      by_cases h1 : t.f1 = 1
      · rw [List.filter_cons_of_pos (by simpa using h1)]
        simp only [List.length_cons]; omega
      · rw [List.filter_cons_of_neg (by simpa using h1)]
        simp only [List.length_cons]; omega
theorem pick_some {l : List S46} (h : pickB l = true) : 2 ≤ (tierL l 0).length ∧ pickL l = tierL l 0 ++ (tierL l 1).filter (reB (loP l) (hiP l)) := by
  unfold pickB at h
  rw [Bool.not_eq_true'] at h
  have h2 := of_decide_eq_false h
  exact ⟨by omega, by unfold pickL; rw [if_neg h2]⟩
theorem pick_none {l : List S46} (h : pickB l = false) : (tierL l 0).length < 2 ∧ pickL l = [] := by
  unfold pickB at h
  rw [Bool.not_eq_false'] at h
  have h2 := of_decide_eq_true h
  exact ⟨h2, by unfold pickL; rw [if_pos h2]⟩
theorem pick_sub {l : List S46} {t : S46} (h : t ∈ pickL l) : t ∈ l := by
  cases hb : pickB l with
  | false => rw [(pick_none hb).2] at h; exact (List.not_mem_nil h).elim
  | true =>
    rw [(pick_some hb).2] at h
    rcases List.mem_append.1 h with h | h
    · exact (tier_mem.1 h).1
    · exact (tier_mem.1 (List.mem_filter.1 h).1).1
theorem pick_len (l : List S46) : (pickL l).length ≤ l.length := by
  cases hb : pickB l with
  | false => rw [(pick_none hb).2]; exact Nat.zero_le _
  | true =>
    rw [(pick_some hb).2, List.length_append]
    have h1 := List.length_filter_le (reB (loP l) (hiP l)) (tierL l 1)
    have h2 := two_tiers l
    omega
theorem pick_bounds {s : St} (hi : InvS s) (h : pickB s.l = true) : loW (pickL s.l) = loP s.l ∧ hiW (pickL s.l) = hiP s.l := by
  obtain ⟨h2, hp⟩ := pick_some h
  have hm : ∀ t ∈ tierL s.l 0, t.f1 = 0 ∧ t.f2.data.toList ≠ [] ∧ t.f3.data.toList ≠ [] := fun t ht => by
    obtain ⟨h3, h4⟩ := tier_mem.1 ht
    have h5 := isT_iff.1 (hi.is t h3).1
    exact ⟨h4, keyB_ne h5.2.2.1, keyB_ne h5.2.2.2.1⟩
  have ho : ∀ t ∈ (tierL s.l 1).filter (reB (loP s.l) (hiP s.l)), t.f1 ≠ 0 := fun t ht => by
    have := (tier_mem.1 (List.mem_filter.1 ht).1).2
    omega
  rw [hp]
  unfold loW hiW
  rw [List.foldl_append, List.foldl_append, lo_other _ ho, hi_other _ ho]
  unfold loP hiP
  match hl : tierL s.l 0, h2 with
  | t :: r, _ =>
    rw [hl] at hm
    have ht := hm t (by simp)
    have hr : ∀ x ∈ r, x.f1 = 0 ∧ x.f2.data.toList ≠ [] := fun x hx => ⟨(hm x (by simp [hx])).1, (hm x (by simp [hx])).2.1⟩
    have e0 : rd_T46 (t :: r) 0 = t := rfl
    have e1 : stepLo emp t = t.f2 := by unfold stepLo; rw [if_pos ht.1, if_pos (.inl rfl)]
    have e2 : stepHi emp t = t.f3 := by
      unfold stepHi; rw [if_pos ht.1]
      unfold maxS
      rw [if_pos]
      cases hq : t.f3.data.toList with
      | nil => exact absurd hq ht.2.2
      | cons a b => rfl
    rw [e0]
    unfold loL hiL
    rw [List.foldl_cons, List.foldl_cons, List.foldl_cons, List.foldl_cons, e1, e2]
    have e3 : minS t.f2 t.f2 = t.f2 := by unfold minS; split <;> rfl
    have e4 : maxS t.f3 t.f3 = t.f3 := by unfold maxS; split <;> rfl
    rw [e3, e4]
    exact ⟨lo_tier _ ht.2.1 hr, hi_tier _ (fun x hx => (hr x hx).1)⟩
def idsP (p : List S46) : List Int := p.map (fun t => t.f0)
theorem ids_any {p : List S46} {t : S46} (h : t ∈ p) : (idsP p).any (fun y => t.f0 == y) = true := by
  rw [List.any_eq_true]
  exact ⟨t.f0, List.mem_map.2 ⟨t, h, rfl⟩, beq_self_eq_true _⟩
theorem whole_do {s : St} (hi : InvS s) (h : pickB s.l = true) : doE s (idsP (pickL s.l)) [] 0 0 = 0 := by
  have hlen : (idsP (pickL s.l)).length ≤ 40 := by
    unfold idsP
    rw [List.length_map]
    exact Nat.le_trans (pick_len _) hi.len
  have hf : formedB (idsP (pickL s.l)) [] 0 0 = true := by
    unfold formedB
    rw [decide_eq_true hlen]
    rfl
  have hh : hereB s.l (idsP (pickL s.l)) = true := by
    unfold hereB
    rw [List.all_eq_true]
    intro x hx
    obtain ⟨t, ht, rfl⟩ := List.mem_map.1 hx
    rw [List.any_eq_true]
    exact ⟨t, pick_sub ht, beq_self_eq_true _⟩
  have ha : apartB (rowS s.l (idsP (pickL s.l)) []) = true := by
    rw [apart_iff]
    unfold rowS
    rw [List.append_nil]
    exact hi.apart.filter _
  have hn : ¬ 40 < (rowS s.l (idsP (pickL s.l)) []).length := by
    unfold rowS
    rw [List.append_nil]
    have h1 := List.length_filter_le (fun z : S46 => !((idsP (pickL s.l)).any (fun y => z.f0 == y))) s.l
    have := hi.len
    omega
  have hl : lateB s [] 0 0 = false := rfl
  unfold doE
  rw [if_neg (by rw [hf]; decide), if_neg (by rw [hh]; decide), if_neg (by rw [hl, ha]; simp), if_neg hn]
theorem whole_left {s : St} (hi : InvS s) (h : pickB s.l = true) {t : S46} (ht : t ∈ (doS s (idsP (pickL s.l)) [] 0 0).l) : t ∈ s.l ∧ t ∉ pickL s.l := by
  unfold doS at ht
  rw [if_pos (whole_do hi h)] at ht
  have h1 := (srt_perm _).mem_iff.1 ht
  unfold rowS at h1
  rw [List.append_nil] at h1
  obtain ⟨h2, h3⟩ := List.mem_filter.1 h1
  refine ⟨h2, fun hp => ?_⟩
  rw [ids_any hp] at h3
  cases h3
theorem whole_tier {s : St} (hi : InvS s) (h : pickB s.l = true) : tierL (doS s (idsP (pickL s.l)) [] 0 0).l 0 = [] := by
  rw [List.eq_nil_iff_forall_not_mem]
  intro t ht
  obtain ⟨h1, h2⟩ := tier_mem.1 ht
  obtain ⟨h3, h4⟩ := whole_left hi h h1
  apply h4
  rw [(pick_some h).2]
  exact List.mem_append_left _ (tier_mem.2 ⟨h3, h2⟩)
theorem whole_apart {s : St} (hi : InvS s) (h : pickB s.l = true) {t : S46} (ht : t ∈ (doS s (idsP (pickL s.l)) [] 0 0).l) : reB (loW (pickL s.l)) (hiW (pickL s.l)) t = false := by
  obtain ⟨h3, h4⟩ := whole_left hi h ht
  rw [(pick_bounds hi h).1, (pick_bounds hi h).2]
  cases hr : reB (loP s.l) (hiP s.l) t with
  | false => rfl
  | true =>
    exfalso
    apply h4
    rw [(pick_some h).2]
    rcases (isT_iff.1 (hi.is t h3).1).2.1 with h5 | h5
    · exact List.mem_append_left _ (tier_mem.2 ⟨h3, h5⟩)
    · exact List.mem_append_right _ (List.mem_filter.2 ⟨tier_mem.2 ⟨h3, h5⟩, hr⟩)
end Go.Proofs.Ytfpnllajpnnfdaa.Q
