/- The statement's part that speaks of no program: of a key's many numbers those are kept that somebody sees, and the newest; deleted ones at the bottom go. -/
import Derived.Test.YtjcpdbekdimceaaQKnown11
import Derived.Test.YtjcpdbekdimceaaQMergePack
import Derived.Test.YtjcpdbekdimceaaPx17
namespace Go.Proofs.Ytjcpdbekdimceaa.P
end Go.Proofs.Ytjcpdbekdimceaa.P
namespace Go.Proofs.Ytjcpdbekdimceaa.Q
end Go.Proofs.Ytjcpdbekdimceaa.Q
namespace Go.Proofs.Ytjcpdbekdimceaa.Pure
open Go.RowKit Go.Proofs.Ytjcpdbekdimceaa.P Go.Proofs.YtjcpdbekdimceaaW.PrintWords Go.Proofs.YtjcpdbekdimceaaW.PrintLast Go.Proofs.YtjcpdbekdimceaaW.PrintMore Go.Proofs.Ytjcpdbekdimceaa.Q
set_option linter.unusedVariables false
set_option linter.unusedSimpArgs false
theorem wraps32 (n : Int) (h₀ : 0 ≤ n) (h₁ : n < 2 ^ 32) : IntKind.u32.wrap n = n := by rw [IntKind.wrap_u32]; omega
def db (d : Int) (s : Nat) : Int := Go.bits .and .u32 (shr .u32 d (IntKind.u64.wrap (s : Int))) 1
theorem db_01 (d : Int) (hd : 0 ≤ d ∧ d < 4294967296) (s : Nat) : db d s = 0 ∨ db d s = 1 := by
  obtain ⟨a, rfl⟩ : ∃ a : Nat, d = (a : Int) := ⟨d.toNat, by omega⟩
  obtain ⟨m, hm⟩ : ∃ m : Nat, shr .u32 (a : Int) (IntKind.u64.wrap (s : Int)) = ((a / 2 ^ m : Nat) : Int) := ⟨min (IntKind.u64.wrap (s : Int)).toNat 32, by unfold shr; rw [show IntKind.u32.bits = 32 from rfl]; simp⟩
  have h2 : a / 2 ^ m < 2 ^ 32 := Nat.lt_of_le_of_lt (Nat.div_le_self _ _) (by omega)
  have h3 := (bits_nat .u32 32 (by decide) wraps32 (a / 2 ^ m) 1 h2 (by decide)).1
  unfold db
  rw [hm, show (1 : Int) = ((1 : Nat) : Int) from rfl, h3, Nat.and_one_is_mod]
  omega
def eD (d : Int) (s : Nat) : S39 := ⟨(⟨#[107]⟩ : ByteArray), (s : Int), (db d s == 1), (⟨#[]⟩ : ByteArray)⟩
def desc (d : Int) : Nat → List S39
  | 0 => []
  | n + 1 => eD d (n + 1) :: desc d n
theorem desc_length (d : Int) : ∀ n, (desc d n).length = n
  | 0 => rfl
  | n + 1 => by rw [desc, List.length_cons, desc_length d n]
theorem desc_mem (d : Int) : ∀ n {x : S39}, x ∈ desc d n → ∃ s, 1 ≤ s ∧ s ≤ n ∧ x = eD d s
  | 0, _, h => by cases h
  | n + 1, x, h => by
    rw [desc] at h
    rcases List.mem_cons.1 h with rfl | h
    · exact ⟨n + 1, by omega, Nat.le_refl _, rfl⟩
    · obtain ⟨s, h1, h2, h3⟩ := desc_mem d n h
      exact ⟨s, h1, by omega, h3⟩
theorem desc_sorted (d : Int) : ∀ n, sortedB (desc d n) = true
  | 0 => rfl
  | 1 => rfl
  | n + 2 => by
    have ih := desc_sorted d (n + 1)
    rw [desc] at ih
    rw [desc, desc, sortedB, ih, Bool.and_true]
    unfold lessE
    exact lessF_iff.2 (.inr ⟨rfl, by simp only [eD]; omega⟩)
theorem desc_any (d : Int) (n : Nat) (hn : n ≤ 20) : (desc d n).all isE = true := by
  refine List.all_eq_true.2 (fun x hx => ?_)
  obtain ⟨s, h1, h2, rfl⟩ := desc_mem d n hx
  refine isF_iff.2 ⟨by simp only [eD]; omega, by simp only [eD]; omega, ?_⟩
  exact ⟨show 1 ≤ 1 from Nat.le_refl _, show 1 ≤ 13 by decide, show 0 ≤ 24 by decide, fun _ => rfl⟩
/-! Those that are wanted -/
def G (d : Int) (V : List Bool) : Nat → List S39
  | 0 => []
  | n + 1 => (if V.getD (n + 1) false = true then [eD d (n + 1)] else []) ++ G d V n
theorem G_congr (d : Int) {V W : List Bool} : ∀ n, (∀ s, 1 ≤ s → s ≤ n → V.getD s false = W.getD s false) → G d V n = G d W n
  | 0, _ => rfl
  | n + 1, h => by rw [G, G, h (n + 1) (by omega) (Nat.le_refl _), G_congr d n (fun s h1 h2 => h s h1 (by omega))]
theorem G_none (d : Int) {V : List Bool} : ∀ n, (∀ s, 1 ≤ s → s ≤ n → V.getD s false = false) → G d V n = []
  | 0, _ => rfl
  | n + 1, h => by rw [G, h (n + 1) (by omega) (Nat.le_refl _), G_none d n (fun s h1 h2 => h s h1 (by omega))]; rfl
theorem setF (W : List Bool) (n i : Nat) : (W.set n false).getD i false = (W.getD i false && !(n == i)) := by
  rw [List.getD_eq_getElem?_getD, List.getElem?_set, List.getD_eq_getElem?_getD]
  by_cases h1 : n = i
  · subst h1
    rw [if_pos rfl, beq_self_eq_true]
    split <;> simp
  · rw [if_neg h1, beq_eq_false_iff_ne.2 h1]; simp
theorem strip_one (e : S39) {X Y : List S39} (b : Bool) (h : stripT X = stripT Y) : stripT ((if b = true then [e] else []) ++ X) = stripT ((if b = true then [e] else []) ++ Y) := by
  cases b with
  | false => exact h
  | true => simp only [if_true, List.singleton_append, stripT, h]
theorem strip_away (d : Int) (V : List Bool) (i : Nat) (h1 : 1 ≤ i) (hV : ∀ s, 1 ≤ s → s < i → V.getD s false = false) (hi : V.getD i false = true) (hd : (eD d i).f2 = true) : ∀ n, stripT (G d V (i + n)) = stripT (G d (V.set i false) (i + n))
  | 0 => by
    obtain ⟨i, rfl⟩ : ∃ j, i = j + 1 := ⟨i - 1, by omega⟩
    rw [Nat.add_zero, G, G, hi, setF, hi, beq_self_eq_true, G_none d i (fun s a b => hV s a (by omega)), G_none d i (fun s a b => by rw [setF, hV s a (by omega)]; rfl)]
    simp [stripT, hd]
  | n + 1 => by
    have ih := strip_away d V i h1 hV hi hd n
    rw [← Nat.add_assoc, G, G, setF, beq_eq_false_iff_ne.2 (show i ≠ i + n + 1 by omega)]
    simp only [Bool.not_false, Bool.and_true]
    exact strip_one _ _ ih
theorem strip_keep (d : Int) (V : List Bool) (i : Nat) (h1 : 1 ≤ i) (hV : ∀ s, 1 ≤ s → s < i → V.getD s false = false) (hi : V.getD i false = true) (hd : (eD d i).f2 = false) : ∀ n, stripT (G d V (i + n)) = G d V (i + n) ∧ G d V (i + n) ≠ []
  | 0 => by
    obtain ⟨i, rfl⟩ : ∃ j, i = j + 1 := ⟨i - 1, by omega⟩
    rw [Nat.add_zero, G, hi, G_none d i (fun s a b => hV s a (by omega))]
    simp [stripT, hd]
  | n + 1 => by
    obtain ⟨ih, hne⟩ := strip_keep d V i h1 hV hi hd n
    rw [← Nat.add_assoc, G]
    by_cases h : V.getD (i + n + 1) false = true
    · rw [if_pos h]
      refine ⟨?_, by simp⟩
      rw [List.singleton_append, stripT, ih]
      cases hq : G d V (i + n) with
      | nil => exact absurd hq hne
      | cons x u => rfl
    · rw [if_neg h]; exact ⟨ih, hne⟩
theorem want_desc (d : Int) (hs : List Int) (V : List Bool) : ∀ n, (∀ s : Nat, 1 ≤ s → s ≤ n → V.getD s false = hs.any (fun h => decide ((s : Int) ≤ h) && decide (h < (s : Int) + 1))) → wantL (some (eD d (n + 1))) (desc d n) hs = G d V n
  | 0, _ => rfl
  | n + 1, h => by
    have ih := want_desc d hs V n (fun s h1 h2 => h s h1 (by omega))
    rw [desc, wantL, G, ih]
    have hw : wantP (some (eD d (n + 1 + 1))) (eD d (n + 1)) hs = V.getD (n + 1) false := by
      rw [h (n + 1) (by omega) (Nat.le_refl _)]
      unfold wantP
      simp only [show (ky (eD d (n + 1 + 1)) == ky (eD d (n + 1))) = true from beq_iff_eq.2 rfl, Bool.not_true, Bool.false_or]
      simp only [eD]
      congr 1
    rw [hw]
theorem strip_eq (l : List S39) (κ : List UInt8) (h : ∀ x ∈ l, ky x = κ) : stripR l = stripT l := by
  have := strip_app κ [] (fun x hx => by cases hx) l h
  rw [List.append_nil, show stripR [] = [] from rfl, List.append_nil] at this
  exact this
theorem pack_desc (d : Int) (k : Nat) (h1 : 1 ≤ k) (h20 : k ≤ 20) (hs : List Int) (V : List Bool) (hk : V.getD k false = true) (hV : ∀ s : Nat, 1 ≤ s → s < k → V.getD s false = hs.any (fun h => decide ((s : Int) ≤ h) && decide (h < (s : Int) + 1))) (b : Bool) :
    packS (desc d k) hs b = if b = true then stripT (G d V k) else G d V k := by
  obtain ⟨n, rfl⟩ : ∃ n, k = n + 1 := ⟨k - 1, by omega⟩
  have hw : wantL none (desc d (n + 1)) hs = G d V (n + 1) := by
    rw [desc, wantL, G, hk, want_desc d hs V n (fun s h2 h3 => hV s h2 (by omega))]
    rfl
  unfold packS packL
  rw [if_pos ⟨desc_sorted d _, desc_any d _ h20⟩, hw, strip_eq _ (ky (eD d 1)) (fun x hx => ?_)]
  have hx2 : x ∈ desc d (n + 1) := want_mem _ none hs (by rw [hw]; exact hx)
  obtain ⟨s, _, _, rfl⟩ := desc_mem d _ hx2
  rfl
/-! The law -/
theorem held_l3 (d : Int) (k : Nat) (hk : k ≤ 20) (V : List Bool) (hV : V.length = k + 1) : ∀ (i : Nat), i ≤ k → ∀ (done : List S39), done.length + i ≤ 100 → Ev (fun K => ravelinlaw11_MergeHeld.l3 K V (done ++ G d V i) (done.length : Int) (i : Int)) true
  | 0, _, done, _ => by
    refine Ev.step (fun k => ravelinlaw11_MergeHeld.l3.eq_2 ..) (evF (by omega) (evEq (evSome _) ?_))
    rw [G, List.append_nil]; simp
  | i + 1, hi, done, hdn => by
    have e1 : wrap64 (((i + 1 : Nat) : Int) - 1) = (i : Int) := by rw [w64 (by omega)]; omega
    have hr : rdOf false V ((i + 1 : Nat) : Int) = V.getD (i + 1) false := by unfold rdOf; rw [Int.toNat_natCast]
    refine Ev.step (fun k => ravelinlaw11_MergeHeld.l3.eq_2 ..) (evT (by omega) (evT (by omega) (evT (by omega) ?_)))
    rw [hr, e1, G]
    by_cases h : V.getD (i + 1) false = true
    · rw [if_pos h]
      have ih := held_l3 d k hk V hV i (by omega) (done ++ [eD d (i + 1)])
      have hlen : ((done ++ ([eD d (i + 1)] ++ G d V i)).length : Int) = ((done.length + 1 + (G d V i).length : Nat) : Int) := by simp only [List.length_append, List.length_singleton]; omega
      have hx : rd_T39 (done ++ ([eD d (i + 1)] ++ G d V i)) (done.length : Int) = eD d (i + 1) := by
        rw [iE, List.getD_eq_getElem?_getD, List.getElem?_append_right (Nat.le_refl _), Nat.sub_self]; rfl
      refine evT h (evF (by omega) (evT (by omega) (evT (by omega) ?_)))
      rw [hx, wS (by omega)]
      refine evT rfl ?_
      rw [← List.append_assoc]
      rw [List.length_append, List.length_singleton] at ih
      exact ih (by omega)
    · rw [if_neg h]
      exact evF h (by rw [List.nil_append]; exact held_l3 d k hk V hV i (by omega) done (by omega))
theorem held_j4 (d : Int) (k : Nat) (hk : k ≤ 20) (V : List Bool) (hV : V.length = k + 1) (hs : List Int) (hh : hs.length ≤ 10) (b : Bool) (hp : packS (desc d k) hs b = G d V k) : Ev (fun K => ravelinlaw11_MergeHeld.j4 K b (k : Int) (desc d k) V hs) true := by
  have h1 := pack_ev (desc d k) hs b (by rw [desc_length]; omega) (by omega)
  rw [hp] at h1
  have h2 := held_l3 d k hk V hV k (Nat.le_refl _) [] (by simp; omega)
  exact Ev.step (fun k => ravelinlaw11_MergeHeld.j4.eq_2 ..) (evBind h1 h2)
theorem held_l2f (d : Int) (k : Nat) (hk : k ≤ 20) (V : List Bool) (hV : V.length = k + 1) (hs : List Int) (hh : hs.length ≤ 10) (i : Int) (hp : packS (desc d k) hs false = G d V k) : Ev (fun K => ravelinlaw11_MergeHeld.l2 K d false (k : Int) (desc d k) V hs i) true := by
  have h : Ev (fun K => ravelinlaw11_MergeHeld.j3 K d false (k : Int) (desc d k) V hs i false) true := Ev.step (fun k => ravelinlaw11_MergeHeld.j3.eq_2 ..) (evF (by simp) (held_j4 d k hk V hV hs hh false hp))
  by_cases hi : i ≤ (k : Int)
  · exact Ev.step (fun k => ravelinlaw11_MergeHeld.l2.eq_2 ..) (evT hi h)
  · exact Ev.step (fun k => ravelinlaw11_MergeHeld.l2.eq_2 ..) (evF hi h)
theorem held_l2t (d : Int) (hd : 0 ≤ d ∧ d < 4294967296) (k : Nat) (hk : k ≤ 20) (hs : List Int) (hh : hs.length ≤ 10) (n : Nat) : ∀ (i : Nat) (V : List Bool), k + 1 - i = n → 1 ≤ i → V.length = k + 1 → (∀ s, 1 ≤ s → s < i → V.getD s false = false) → packS (desc d k) hs true = stripT (G d V k) →
    Ev (fun K => ravelinlaw11_MergeHeld.l2 K d true (k : Int) (desc d k) V hs (i : Int)) true := by
  induction n with
  | zero =>
    intro i V h1 h2 hV hz hp
    rw [G_none d k (fun s a b => hz s a (by omega))] at hp
    have hp2 : packS (desc d k) hs true = G d V k := by rw [hp, G_none d k (fun s a b => hz s a (by omega))]; rfl
    exact Ev.step (fun k => ravelinlaw11_MergeHeld.l2.eq_2 ..) (evF (by omega) (Ev.step (fun k => ravelinlaw11_MergeHeld.j3.eq_2 ..) (evF (by simp) (held_j4 d k hk V hV hs hh true hp2))))
  | succ n ih =>
    intro i V h1 h2 hV hz hp
    have hr : rdOf false V (i : Int) = V.getD i false := by unfold rdOf; rw [Int.toNat_natCast]
    obtain ⟨m, rfl⟩ : ∃ m, k = i + m := ⟨k - i, by omega⟩
    refine Ev.step (fun k => ravelinlaw11_MergeHeld.l2.eq_2 ..) (evT (by omega) (Ev.step (fun k => ravelinlaw11_MergeHeld.j3.eq_2 ..) (evT rfl (evT (by omega) (evT (by omega) ?_)))))
    rw [hr, wS (by omega)]
    by_cases h : V.getD i false = true
    · refine evT h (evT (by rw [u64w (by omega)]; omega) ?_)
      by_cases h0 : db d i = 0
      · refine evT h0 (held_j4 d _ hk V hV hs hh true ?_)
        rw [hp, (strip_keep d V i h2 hz h (by simp only [eD]; rw [h0]; rfl) m).1]
      · have h3 : db d i = 1 := by rcases db_01 d hd i with h4 | h4; exact absurd h4 h0; exact h4
        refine evF h0 (ih (i + 1) _ (by omega) (by omega) (by rw [List.length_set]; exact hV) (fun s a b => ?_) ?_)
        · rw [Int.toNat_natCast, setF]
          by_cases hsi : s = i
          · subst hsi; simp
          · rw [hz s a (by omega)]; rfl
        · rw [Int.toNat_natCast, hp, strip_away d V i h2 hz h (by simp only [eD]; rw [h3]; rfl) m]
    · refine evF h (ih (i + 1) V (by omega) (by omega) hV (fun s a b => ?_) hp)
      by_cases hsi : s = i
      · subst hsi; simpa using h
      · exact hz s a (by omega)
def hN (z : List Int) (j : Nat) : Nat := (z.getD j 0).toNat % 25
theorem held_l1 (z : List Int) (hz : z.length ≤ 10) (hzb : ∀ x ∈ z, 0 ≤ x ∧ x ≤ 255) (d : Int) (hd : 0 ≤ d ∧ d < 4294967296) (b : Bool) (k : Nat) (h1k : 1 ≤ k) (hk : k ≤ 20) (n : Nat) : ∀ (j : Nat) (V : List Bool) (hs : List Int), z.length - j = n → j ≤ z.length → V.length = k + 1 → hs.length = j → (∀ s : Nat, s ≤ k → V.getD s false = (decide (s = k) || hs.any (fun h => decide (mn h (k : Int) = (s : Int))))) →
    Ev (fun K => ravelinlaw11_MergeHeld.l1 K z d b (k : Int) (desc d k) V hs (j : Int)) true := by
  induction n with
  | zero =>
    intro j V hs h1 h2 hV hl hW
    refine Ev.step (fun k => ravelinlaw11_MergeHeld.l1.eq_2 ..) (evF (by omega) (evT (by omega) ?_))
    have hk2 : (V.set (0 : Int).toNat false).getD k false = true := by
      rw [show (0 : Int).toNat = 0 from rfl, setF, hW k (Nat.le_refl _), beq_eq_false_iff_ne.2 (show 0 ≠ k by omega)]; simp
    have hW2 : ∀ s : Nat, 1 ≤ s → s < k → (V.set (0 : Int).toNat false).getD s false = hs.any (fun h => decide ((s : Int) ≤ h) && decide (h < (s : Int) + 1)) := by
      intro s a c
      rw [show (0 : Int).toNat = 0 from rfl, setF, hW s (by omega), beq_eq_false_iff_ne.2 (show 0 ≠ s by omega), decide_eq_false (show ¬ s = k by omega)]
      simp only [Bool.false_or, Bool.not_false, Bool.and_true]
      congr 1
      funext h
      rw [Bool.eq_iff_iff]
      simp only [decide_eq_true_eq, Bool.and_eq_true]
      unfold mn
      split <;> omega
    have hp := pack_desc d k h1k hk hs _ hk2 hW2 b
    have hV2 : (V.set (0 : Int).toNat false).length = k + 1 := by rw [List.length_set]; exact hV
    cases b with
    | false => exact held_l2f d k hk _ hV2 hs (by omega) 1 hp
    | true => exact held_l2t d hd k hk hs (by omega) _ 1 _ rfl (Nat.le_refl _) hV2 (fun s a c => by omega) hp
  | succ n ih =>
    intro j V hs h1 h2 hV hl hW
    have hj : j < z.length := by omega
    have hm : z.getD j 0 ∈ z := by rw [List.getD_eq_getElem?_getD, List.getElem?_eq_getElem hj]; exact List.getElem_mem hj
    have hb := hzb _ hm
    have hr : rd z (j : Int) = z.getD j 0 := by unfold rd; rw [Int.toNat_natCast]
    have hN : wrap64 (Int.tmod (rd z (j : Int)) 25) = ((hN z j : Nat) : Int) := by
      rw [hr]
      have e : Int.tmod (z.getD j 0) 25 = ((hN z j : Nat) : Int) := by
        unfold hN
        rw [Int.tmod_eq_emod_of_nonneg hb.1]
        omega
      rw [e, w64 (by unfold Pure.hN; omega)]
    have hlt : Pure.hN z j < 25 := by unfold Pure.hN; omega
    refine Ev.step (fun k => ravelinlaw11_MergeHeld.l1.eq_2 ..) (evT (by omega) (evT (by omega) (evT (by omega) ?_)))
    rw [hN, wS (by omega)]
    have hmn : mn ((Pure.hN z j : Nat) : Int) (k : Int) = ((min (Pure.hN z j) k : Nat) : Int) := by unfold mn; split <;> omega
    rw [hmn]
    refine evT (by omega) (evT (by omega) ?_)
    rw [Int.toNat_natCast]
    refine ih (j + 1) _ _ (by omega) (by omega) (by rw [List.length_set]; exact hV) (by rw [List.length_append, List.length_singleton]; omega) (fun s hsk => ?_)
    rw [setD _ _ _ (by omega), hW s hsk, List.any_append, Bool.or_assoc]
    congr 2
    simp only [List.any_cons, List.any_nil, Bool.or_false]
    rw [hmn, Bool.eq_iff_iff]
    simp only [decide_eq_true_eq, beq_iff_eq]
    omega
theorem held_l0 (z : List Int) (hz : z.length ≤ 10) (hzb : ∀ x ∈ z, 0 ≤ x ∧ x ≤ 255) (d : Int) (hd : 0 ≤ d ∧ d < 4294967296) (b : Bool) (k : Nat) (h1k : 1 ≤ k) (hk : k ≤ 20) : ∀ (i : Nat), i ≤ k → ∀ acc : List S39, acc.length + i ≤ 100 → acc ++ desc d i = desc d k →
    Ev (fun K => ravelinlaw11_MergeHeld.l0 K z d b (k : Int) acc (List.replicate (k + 1) false) (i : Int)) true
  | 0, _, acc, _, he => by
    rw [desc, List.append_nil] at he
    rw [he]
    refine Ev.step (fun k => ravelinlaw11_MergeHeld.l0.eq_2 ..) (evF (by omega) (evT (by omega) (evT (by rw [List.length_replicate]; omega) ?_)))
    rw [Int.toNat_natCast]
    refine held_l1 z hz hzb d hd b k h1k hk _ 0 _ [] rfl (Nat.zero_le _) (by simp) rfl (fun s hs => ?_)
    rw [setD _ _ _ (by simp)]
    have : (List.replicate (k + 1) false).getD s false = false := by
      rw [List.getD_eq_getElem?_getD, List.getElem?_replicate]; split <;> rfl
    rw [this, Bool.false_or, List.any_nil, Bool.or_false, Bool.eq_iff_iff]
    simp only [decide_eq_true_eq, beq_iff_eq]
    omega
  | i + 1, hi, acc, ha, he => by
    have e1 : wrap64 (((i + 1 : Nat) : Int) - 1) = (i : Int) := by rw [w64 (by omega)]; omega
    refine Ev.step (fun k => ravelinlaw11_MergeHeld.l0.eq_2 ..) (evT (by omega) (evT (by rw [u64w (by omega)]; omega) (evT (by omega) ?_)))
    rw [e1]
    refine held_l0 z hz hzb d hd b k h1k hk i (by omega) (acc ++ [eD d (i + 1)]) (by rw [List.length_append, List.length_singleton]; omega) ?_
    rw [List.append_assoc, ← he]; rfl
theorem MergeHeld : ravelinlaw11_MergeHeld.Pure := by
  intro a z d b ha _ hz hzb hd
  have ha' := wf_u8 ha
  have hd' : 0 ≤ d ∧ d < 4294967296 := by
    simp only [Lit.wf, IntKind.min, IntKind.max, IntKind.signed, IntKind.bits, Bool.and_eq_true, decide_eq_true_eq] at hd
    have : (2 : Int) ^ 32 = 4294967296 := by decide
    simp at hd
    omega
  refine Ev.rounds (Ev.congr (fun k => ravelinlaw11_MergeHeld.f.eq_1 ..) (evBind known11 (evT rfl ?_)))
  by_cases h : (z.length : Int) > 10
  · exact evT h (evSome _)
  · refine evF h ?_
    obtain ⟨k, hk1, hk2, hk⟩ : ∃ k : Nat, 1 ≤ k ∧ k ≤ 20 ∧ wrap64 (wrap64 (Int.tmod a 20) + 1) = (k : Int) := by
      refine ⟨a.toNat % 20 + 1, by omega, by omega, ?_⟩
      rw [Int.tmod_eq_emod_of_nonneg ha'.1, w64 (n := a % 20) (by omega), w64 (by omega)]
      omega
    rw [hk, wS (by omega)]
    refine evT (by omega) (evT (by omega) ?_)
    rw [Int.toNat_natCast]
    exact held_l0 z (by omega) (fun x hx => wf_u8 (hzb x hx)) d hd' b k hk1 hk2 k (Nat.le_refl _) [] (by simp; omega) rfl
end Go.Proofs.Ytjcpdbekdimceaa.Pure
