import Derived.Test.YtmbedgopceigaaaQTabMt
namespace Go.Proofs.Ytmbedgopceigaaa.Q
open Go.RowKit Go.Lib Go.Proofs Go.Proofs.Ytmbedgopceigaaa.P Go.Proofs.YtmbedgopceigaaaW.PrintWords Go.Proofs.YtmbedgopceigaaaW.PrintLast Go.Proofs.YtmbedgopceigaaaW.PrintMore
set_option linter.unusedVariables false
set_option linter.unusedSimpArgs false
/-! As many tables as may be -/
def yT (i : Nat) : S32 := ⟨(i : Int), 0, ⟨#[97]⟩, ⟨#[122]⟩, (i : Int)⟩
/-- The tables i, i - 1 .. 1. -/
def yL : Nat → List S32
  | 0 => []
  | i + 1 => yT (i + 1) :: yL i
def yS (i : Nat) : St := ⟨yL i, 1, 0, ((i + 1 : Nat) : Int)⟩
theorem yL_len : ∀ i, (yL i).length = i
  | 0 => rfl
  | i + 1 => by rw [yL, List.length_cons, yL_len i]
theorem yL_mem : ∀ {i : Nat} {t : S32}, t ∈ yL i → ∃ j, 1 ≤ j ∧ j ≤ i ∧ t = yT j
  | 0, t, h => (List.not_mem_nil h).elim
  | i + 1, t, h => by
    rcases List.mem_cons.1 h with rfl | h
    · exact ⟨i + 1, by omega, by omega, rfl⟩
    · obtain ⟨j, h1, h2, rfl⟩ := yL_mem h
      exact ⟨j, h1, by omega, rfl⟩
theorem yL_in : ∀ {i j : Nat}, 1 ≤ j → j ≤ i → yT j ∈ yL i
  | 0, j, h1, h2 => by omega
  | i + 1, j, h1, h2 => by
    by_cases h : j = i + 1
    · rw [h]; exact List.mem_cons_self
    · exact List.mem_cons_of_mem _ (yL_in h1 (by omega))
theorem yL_last (i : Nat) (h : 0 < i) : ∀ hi : i - 1 < (yL i).length, (yL i)[i - 1] = yT 1 := by
  have key : ∀ i, 0 < i → (yL i)[i - 1]? = some (yT 1) := by
    intro i
    induction i with
    | zero => intro h; omega
    | succ n ih =>
      intro _
      by_cases hn : n = 0
      · subst hn; rfl
      · rw [yL, show n + 1 - 1 = (n - 1) + 1 by omega, List.getElem?_cons_succ]
        exact ih (by omega)
  intro hi
  have := key i h
  rw [List.getElem?_eq_getElem hi] at this
  exact Option.some.inj this
theorem yT_is {i : Nat} (h1 : 1 ≤ i) (h2 : i ≤ 1000000) : isT (yT i) = true := by
  rw [isT_iff]
  exact ⟨⟨by show (1 : Int) ≤ (i : Int); omega, by show (i : Int) ≤ 1000000; omega⟩, .inl rfl, (by decide +kernel : keyB ⟨#[97]⟩ = true), (by decide +kernel : keyB ⟨#[122]⟩ = true), (by decide +kernel : Op.bytesLess (⟨#[122]⟩ : ByteArray).data.toList (⟨#[97]⟩ : ByteArray).data.toList = false), by show (1 : Int) ≤ (i : Int); omega⟩
theorem yS_inv : ∀ i, i ≤ 40 → InvS (yS i)
  | i, h => {
    is := fun t ht => by
      obtain ⟨j, h1, h2, rfl⟩ := yL_mem ht
      exact ⟨yT_is h1 (by omega), by show (j : Int) < ((i + 1 : Nat) : Int); omega⟩
    ids := by
      have key : ∀ i, (yL i).Pairwise (fun a b => a.f0 ≠ b.f0) := by
        intro i
        induction i with
        | zero => exact List.Pairwise.nil
        | succ n ih =>
          refine List.pairwise_cons.2 ⟨fun b hb => ?_, ih⟩
          obtain ⟨j, h1, h2, rfl⟩ := yL_mem hb
          show ((n + 1 : Nat) : Int) ≠ (j : Int)
          omega
      exact key i
    apart := by
      refine List.Pairwise.imp_of_mem (R := fun _ _ => True) (fun {a b} ha hb _ => ?_) (List.pairwise_of_forall (fun _ _ => trivial))
      obtain ⟨j, h1, h2, rfl⟩ := yL_mem hb
      rfl
    sorted := by
      have key : ∀ i, (yL i).Pairwise (fun a b => ltT b a = false) := by
        intro i
        induction i with
        | zero => exact List.Pairwise.nil
        | succ n ih =>
          refine List.pairwise_cons.2 ⟨fun b hb => ?_, ih⟩
          obtain ⟨j, h1, h2, rfl⟩ := yL_mem hb
          show decide (((n + 1 : Nat) : Int) < (j : Int)) = false
          exact decide_eq_false (by omega)
      exact key i
    len := by rw [show (yS i).l = yL i from rfl, yL_len]; exact h
    lg := by show (1 : Int) ≤ 1 ∧ (1 : Int) ≤ 1000000; decide
    sq := by show (0 : Int) ≤ 0 ∧ (0 : Int) ≤ 1000000; decide
    nx := by show (1 : Int) ≤ ((i + 1 : Nat) : Int) ∧ ((i + 1 : Nat) : Int) ≤ 1000001; omega }
theorem yS_zero : yS 0 = new0 := rfl
theorem yE {i : Nat} (h : i < 40) : doE (yS i) [] [yT (i + 1)] 0 0 = 0 := do1_ok (yS_inv i (by omega)) (yT_is (by omega) (by omega)) (by show ((i + 1 : Nat) : Int) ≤ ((i + 1 : Nat) : Int); omega) (by unfold hereB; rfl) (by decide) (fun b hb => rfl) (by rw [keep_nil, show (yS i).l = yL i from rfl, yL_len]; exact h)
theorem yD {i : Nat} (h : i < 40) : doS (yS i) [] [yT (i + 1)] 0 0 = yS (i + 1) := by
  have hE := yE h
  unfold doS
  rw [if_pos hE]
  unfold doN
  have e : srt (rowS (yS i).l [] [yT (i + 1)]) = yL (i + 1) := by
    obtain ⟨hf, _, hla, ha, _⟩ := doE_late hE
    obtain ⟨hi, hd⟩ := rowS_inv (yS_inv i (by omega)) hf (late_early hla)
    refine (srt_uniq (tot_of hi hd (apart_iff.1 ha)) ?_ (yS_inv (i + 1) (by omega)).sorted).symm
    have hk := keep_nil (yL i)
    unfold keepR at hk
    unfold rowS
    rw [show (yS i).l = yL i from rfl, hk]
    exact (List.perm_append_singleton (yT (i + 1)) (yL i)).symm
  rw [e]; rfl
theorem yE41 : doE (yS 40) [] [yT 41] 0 0 = 25 := by
  unfold doE
  have ha : apartB (rowS (yS 40).l [] [yT 41]) = true := (one_apart (yS_inv 40 (Nat.le_refl _))).2 (fun b hb => rfl)
  have hk := keep_nil (yL 40)
  unfold keepR at hk
  rw [if_neg (by rw [one_formed (yT_is (by omega) (by omega)) (by decide)]; decide), if_neg (by unfold hereB; rw [List.all_nil]; decide), if_neg (by rw [one_late (by decide), ha]; decide), if_pos]
  unfold rowS
  rw [show (yS 40).l = yL 40 from rfl, hk, List.length_append, yL_len]; decide
/-- Another edit with its number and state by letters: behind i rounds of at most 41. -/
def yM (i : Nat) : Nat := if i ≤ 40 then i else 40
def yEr (i : Nat) : Int := if i < 40 then 0 else 25
theorem y_round {i : Nat} (h : i ≤ 40) : doE (yS (yM i)) [] [yT (i + 1)] 0 0 = yEr i ∧ doS (yS (yM i)) [] [yT (i + 1)] 0 0 = yS (yM (i + 1)) := by
  unfold yM yEr
  rw [if_pos h]
  by_cases h2 : i < 40
  · rw [if_pos h2, if_pos (show i + 1 ≤ 40 by omega)]
    exact ⟨yE h2, yD h2⟩
  · obtain rfl : i = 40 := by omega
    rw [if_neg h2, if_neg (by omega)]
    exact ⟨yE41, by unfold doS; rw [if_neg (by rw [yE41]; decide)]⟩
def zT (m : Nat) : S32 := ⟨((m + 1 : Nat) : Int), 0, ⟨#[113]⟩, ⟨#[113]⟩, 1⟩
theorem zT_is {m : Nat} (h : m ≤ 40) : isT (zT m) = true := by
  rw [isT_iff]
  exact ⟨⟨by show (1 : Int) ≤ ((m + 1 : Nat) : Int); omega, by show ((m + 1 : Nat) : Int) ≤ 1000000; omega⟩, .inl rfl, (by decide +kernel : keyB ⟨#[113]⟩ = true), (by decide +kernel : keyB ⟨#[113]⟩ = true), (by decide +kernel : Op.bytesLess (⟨#[113]⟩ : ByteArray).data.toList (⟨#[113]⟩ : ByteArray).data.toList = false), Int.le_refl _⟩
theorem keep_one {l : List S32} (hd : l.Pairwise (fun a b => a.f0 ≠ b.f0)) {g : Int} {t : S32} (ht : t ∈ l) (hg : t.f0 = g) : (keepR l [g]).length + 1 = l.length := by
  induction l with
  | nil => exact (List.not_mem_nil ht).elim
  | cons a r ih =>
    have hc := List.pairwise_cons.1 hd
    unfold keepR at ih ⊢
    rcases List.mem_cons.1 ht with rfl | ht
    · rw [List.filter_cons, if_neg (by simp [hg]), List.length_cons]
      congr 1
      rw [List.filter_eq_self.2 (fun b hb => by
        have := hc.1 b hb
        rw [List.any_cons, List.any_nil, Bool.or_false, beq_eq_false_iff_ne.2 (fun e => this (by rw [hg, e]))]; rfl)]
    · have h1 := hc.1 t ht
      rw [List.filter_cons, if_pos (by
        rw [List.any_cons, List.any_nil, Bool.or_false, beq_eq_false_iff_ne.2 (fun e => h1 (by rw [hg, e]))]; rfl), List.length_cons, List.length_cons, ih hc.2 ht]
theorem z_here {m g : Nat} (h1 : 1 ≤ g) (h2 : g ≤ m) : hereB (yS m).l [(g : Int)] = true := by
  unfold hereB
  rw [List.all_cons, List.all_nil, Bool.and_true, List.any_eq_true]
  exact ⟨yT g, yL_in h1 h2, by show ((g : Int) == (g : Int)) = true; simp⟩
theorem z_keep {m g : Nat} (h1 : 1 ≤ g) (h2 : g ≤ m) (h : m ≤ 40) : (keepR (yS m).l [(g : Int)]).length + 1 = m := by
  have hk := keep_one (g := (g : Int)) (yS_inv m h).ids (yL_in h1 h2) rfl
  rw [hk, show (yS m).l = yL m from rfl, yL_len]
theorem z_e {m g : Nat} (h1 : 1 ≤ g) (h2 : g ≤ m) (h : m ≤ 40) : doE (yS m) [(g : Int)] [zT m] 0 0 = 0 := do1_ok (yS_inv m h) (zT_is h) (by show ((m + 1 : Nat) : Int) ≤ ((m + 1 : Nat) : Int); omega) (z_here h1 h2) (by simp) (fun b hb => rfl) (by have := z_keep h1 h2 h; omega)
def zS (m g : Nat) : St := doS (yS m) [(g : Int)] [zT m] 0 0
theorem zS_inv {m : Nat} (g : Nat) (h : m ≤ 40) : InvS (zS m g) := doS_inv (yS_inv m h) _ _ _ _
theorem zS_perm {m g : Nat} (h1 : 1 ≤ g) (h2 : g ≤ m) (h : m ≤ 40) : (zS m g).l.Perm (keepR (yS m).l [(g : Int)] ++ [zT m]) := (do1_perm (z_e h1 h2 h)).1
theorem zS_len {m g : Nat} (h1 : 1 ≤ g) (h2 : g ≤ m) (h : m ≤ 40) : (zS m g).l.length = m := by
  rw [(zS_perm h1 h2 h).length_eq, List.length_append, List.length_singleton]; exact z_keep h1 h2 h
/-- The table that came is the first. -/
theorem zS_first {m g : Nat} (h1 : 1 ≤ g) (h2 : g ≤ m) (h : m ≤ 40) : ∃ r, (zS m g).l = zT m :: r := by
  have hl := zS_len h1 h2 h
  cases hq : (zS m g).l with
  | nil => rw [hq] at hl; simp only [List.length_nil] at hl; omega
  | cons a r =>
    have hp := zS_perm h1 h2 h
    have hs := (zS_inv g h).sorted
    rw [hq] at hp hs
    have hm : zT m ∈ a :: r := hp.mem_iff.2 (by simp)
    rcases List.mem_cons.1 hm with e | hm
    · exact ⟨r, by rw [← e]⟩
    · exfalso
      have h3 := (List.pairwise_cons.1 hs).1 _ hm
      have ha : a ∈ keepR (yS m).l [(g : Int)] ++ [zT m] := hp.mem_iff.1 (by simp)
      have hi := (zS_inv g h).ids
      rw [hq] at hi
      have hne := (List.pairwise_cons.1 hi).1 _ hm
      rcases List.mem_append.1 ha with ha | ha
      · unfold keepR at ha
        obtain ⟨j, j1, j2, rfl⟩ := yL_mem (List.mem_filter.1 ha).1
        have h4 : ltT (zT m) (yT j) = true := by
          show decide ((j : Int) < ((m + 1 : Nat) : Int)) = true
          exact decide_eq_true (by omega)
        rw [h4] at h3; cases h3
      · rw [List.mem_singleton.1 ha] at hne
        exact hne rfl
theorem z_gone {m g : Nat} (h1 : 1 ≤ g) (h2 : g ≤ m) (h : m ≤ 40) : doE (zS m g) [(g : Int)] [] 0 0 = 18 := by
  unfold doE
  have hf : formedB [(g : Int)] [] 0 0 = true := by unfold formedB; simp only [ris, Bool.true_and]; rfl
  have hh : hereB (zS m g).l [(g : Int)] = false := by
    unfold hereB
    rw [List.all_cons, List.all_nil, Bool.and_true, List.any_eq_false]
    intro t ht
    rcases List.mem_append.1 ((zS_perm h1 h2 h).mem_iff.1 ht) with ht | ht
    · unfold keepR at ht
      have := (List.mem_filter.1 ht).2
      rw [List.any_cons, List.any_nil, Bool.or_false, Bool.not_eq_true'] at this
      rw [this]; decide
    · rw [List.mem_singleton.1 ht]
      show ¬ (((m + 1 : Nat) : Int) == (g : Int)) = true
      rw [beq_iff_eq]; omega
  rw [if_neg (by rw [hf]; decide), if_pos hh]
theorem z_same {m g : Nat} (h1 : 1 ≤ g) (h2 : g ≤ m) (h : m ≤ 40) : doS (zS m g) [(g : Int)] [] 0 0 = zS m g := by unfold doS; rw [if_neg (by rw [z_gone h1 h2 h]; decide)]
end Go.Proofs.Ytmbedgopceigaaa.Q
