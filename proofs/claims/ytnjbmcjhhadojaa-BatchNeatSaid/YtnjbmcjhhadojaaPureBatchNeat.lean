/- Proved: the law BatchNeat is true of every row of bytes. -/
import Derived.Test.YtnjbmcjhhadojaaQKnown12
import Derived.Test.YtnjbmcjhhadojaaQBatchWith
import Derived.Test.YtnjbmcjhhadojaaPx8
namespace Go.Proofs.Ytnjbmcjhhadojaa.P
end Go.Proofs.Ytnjbmcjhhadojaa.P
namespace Go.Proofs.Ytnjbmcjhhadojaa.Q
end Go.Proofs.Ytnjbmcjhhadojaa.Q
namespace Go.Proofs.Ytnjbmcjhhadojaa.Pure
open Go.RowKit Go.Proofs.Ytnjbmcjhhadojaa.P Go.Proofs.YtnjbmcjhhadojaaW.PrintWords Go.Proofs.YtnjbmcjhhadojaaW.PrintLast Go.Proofs.YtnjbmcjhhadojaaW.PrintMore Go.Proofs.Ytnjbmcjhhadojaa.Q
set_option linter.unusedVariables false
set_option linter.unusedSimpArgs false
def keyC (c : Nat) : List UInt8 := [UInt8.ofNat (97 + c)]
theorem key_lt : ∀ c d : Fin 8, Op.bytesLess (keyC c.val) (keyC d.val) = decide (c.val < d.val) := by decide +kernel
theorem key_lt' {c d : Nat} (hc : c < 8) (hd : d < 8) : Op.bytesLess (keyC c) (keyC d) = decide (c < d) := key_lt ⟨c, hc⟩ ⟨d, hd⟩
theorem key_ne {c d : Nat} (hc : c < 8) (hd : d < 8) (h : c < d ∨ d < c) : keyC c ≠ keyC d := by
  intro e
  rcases h with h | h
  · have := key_lt' hc hd
    rw [e, lt_irrefl, decide_eq_true h] at this
    cases this
  · have := key_lt' hd hc
    rw [e, lt_irrefl, decide_eq_true h] at this
    cases this
def pick (f : Nat → Option S49) : Nat → Nat → List S49
  | _, 0 => []
  | c, k + 1 => match f c with
    | none => pick f (c + 1) k
    | some x => x :: pick f (c + 1) k
def updF (f : Nat → Option S49) (d : Nat) (w : S49) : Nat → Option S49 := fun c => if c = d then some w else f c
theorem pick_none {f : Nat → Option S49} {c : Nat} (k : Nat) (h : f c = none) : pick f c (k + 1) = pick f (c + 1) k := by rw [pick, h]
theorem pick_some {f : Nat → Option S49} {c : Nat} {x : S49} (k : Nat) (h : f c = some x) : pick f c (k + 1) = x :: pick f (c + 1) k := by rw [pick, h]
def keyed (f : Nat → Option S49) : Prop := ∀ c x, c < 8 → f c = some x → wk x = keyC c ∧ isWr x = true
theorem pick_mem {f : Nat → Option S49} : ∀ (k c : Nat), c + k ≤ 8 → keyed f → ∀ x ∈ pick f c k, ∃ e, c ≤ e ∧ e < 8 ∧ wk x = keyC e
  | 0, c, _, _, x, hx => by cases hx
  | k + 1, c, h, hf, x, hx => by
    cases hc : f c with
    | none =>
      rw [pick_none k hc] at hx
      obtain ⟨e, h1, h2, h3⟩ := pick_mem k (c + 1) (by omega) hf x hx
      exact ⟨e, by omega, h2, h3⟩
    | some y =>
      rw [pick_some k hc] at hx
      rcases List.mem_cons.1 hx with rfl | hx
      · exact ⟨c, Nat.le_refl _, by omega, (hf c x (by omega) hc).1⟩
      · obtain ⟨e, h1, h2, h3⟩ := pick_mem k (c + 1) (by omega) hf x hx
        exact ⟨e, by omega, h2, h3⟩
theorem keep_pick {f : Nat → Option S49} (hf : keyed f) {c k d : Nat} (h : c + k ≤ 8) (hd : d < c) {w : S49} (hw : wk w = keyC d) : keepW w (pick f c k) = pick f c k := by
  unfold keepW
  rw [List.filter_eq_self]
  intro x hx
  obtain ⟨e, h1, h2, h3⟩ := pick_mem k c h hf x hx
  rw [h3, hw, beq_false_of_ne (key_ne h2 (by omega) (.inr (by omega)))]
  rfl
theorem with_gt {f : Nat → Option S49} (hf : keyed f) {c k d : Nat} (h : c + k ≤ 8) (hd : d < c) {w : S49} (hw : wk w = keyC d) : withW w (pick f c k) = w :: pick f c k := by
  have hk := keep_pick hf h hd hw
  have hm := pick_mem k c h hf
  cases hl : pick f c k with
  | nil => rfl
  | cons x t =>
    rw [hl] at hk hm
    obtain ⟨e, h1, h2, h3⟩ := hm x List.mem_cons_self
    rw [withW, h3, hw, key_lt' h2 (by omega), decide_eq_false (by omega), if_neg (by simp), hk]
theorem pick_upd (f : Nat → Option S49) (d : Nat) (w : S49) : ∀ (k c : Nat), d < c → pick (updF f d w) c k = pick f c k
  | 0, _, _ => rfl
  | k + 1, c, h => by
    have e : updF f d w c = f c := if_neg (by omega)
    cases hc : f c with
    | none => rw [pick_none k hc, pick_none k (e.trans hc), pick_upd f d w k (c + 1) (by omega)]
    | some x => rw [pick_some k hc, pick_some k (e.trans hc), pick_upd f d w k (c + 1) (by omega)]
theorem with_pick {f : Nat → Option S49} (hf : keyed f) {d : Nat} (hd : d < 8) {w : S49} (hw : wk w = keyC d) : ∀ (k c : Nat), c + k ≤ 8 → c ≤ d → d < c + k → withW w (pick f c k) = pick (updF f d w) c k
  | 0, c, _, h1, h2 => by omega
  | k + 1, c, h, h1, h2 => by
    by_cases hcd : c = d
    · subst hcd
      have e : updF f c w c = some w := if_pos rfl
      rw [pick_some k e, pick_upd f c w k (c + 1) (by omega)]
      cases hc : f c with
      | none => rw [pick_none k hc, with_gt hf (by omega) (by omega) hw]
      | some x =>
        have hx := (hf c x hd hc).1
        rw [pick_some k hc, withW, hx, hw, lt_irrefl, if_neg (by simp)]
        have e2 : keepW w (x :: pick f (c + 1) k) = keepW w (pick f (c + 1) k) := by simp [keepW, hx, hw]
        rw [e2, keep_pick hf (by omega) (by omega) hw]
    · have e : updF f d w c = f c := if_neg hcd
      cases hc : f c with
      | none => rw [pick_none k hc, pick_none k (e.trans hc), with_pick hf hd hw k (c + 1) (by omega) (by omega) (by omega)]
      | some x =>
        have hx := (hf c x (by omega) hc).1
        rw [pick_some k hc, pick_some k (e.trans hc), withW, hx, hw, key_lt' (by omega) hd, decide_eq_true (by omega), if_pos rfl, with_pick hf hd hw k (c + 1) (by omega) (by omega) (by omega)]
theorem pick_rise {f : Nat → Option S49} (hf : keyed f) : ∀ (k c : Nat) (a : List UInt8), c + k ≤ 8 → (∀ e, c ≤ e → e < 8 → Op.bytesLess a (keyC e) = true) → riseB a (pick f c k) = true
  | 0, _, _, _, _ => rfl
  | k + 1, c, a, h, ha => by
    cases hc : f c with
    | none =>
      rw [pick_none k hc]
      exact pick_rise hf k (c + 1) a (by omega) (fun e h1 h2 => ha e (by omega) h2)
    | some x =>
      obtain ⟨h1, h2⟩ := hf c x (by omega) hc
      rw [pick_some k hc, riseB, h1, h2, ha c (Nat.le_refl _) (by omega), Bool.true_and, Bool.true_and]
      exact pick_rise hf k (c + 1) (keyC c) (by omega) (fun e h3 h4 => by rw [key_lt' (by omega) h4, decide_eq_true (by omega)])
theorem pick_len (f : Nat → Option S49) : ∀ k c : Nat, (pick f c k).length ≤ k
  | 0, _ => Nat.le_refl _
  | k + 1, c => by
    have := pick_len f k (c + 1)
    cases hc : f c with
    | none => rw [pick_none k hc]; omega
    | some x => rw [pick_some k hc, List.length_cons]; omega
/-- What the law knows: the writes so far, the last place of each key, what is kept. -/
structure Inv (rows : List S49) (last : List Int) (f : Nat → Option S49) : Prop where
  keys : keyed f
  neat : neatW rows = pick f 0 8
  eight : last.length = 8
  tells : ∀ c, c < 8 → (last.getD c 0 = 0 ∧ f c = none) ∨ ∃ L : Nat, 1 ≤ L ∧ L ≤ rows.length ∧ last.getD c 0 = (L : Int) ∧ f c = some (rows.getD (L - 1) z49)
theorem inv_step {rows : List S49} {last : List Int} {f : Nat → Option S49} (h : Inv rows last f) {d : Nat} (hd : d < 8) {w : S49} (hw : wk w = keyC d) (hw2 : isWr w = true) :
    Inv (rows ++ [w]) (last.set d ((rows.length + 1 : Nat) : Int)) (updF f d w) where
  keys := by
    intro c x hc hx
    unfold updF at hx
    split at hx
    · rename_i e
      obtain rfl := Option.some.inj hx
      rw [e]
      exact ⟨hw, hw2⟩
    · exact h.keys c x hc hx
  neat := by rw [← neatW_snoc, h.neat, with_pick h.keys hd hw 8 0 (by omega) (by omega) (by omega)]
  eight := by rw [List.length_set]; exact h.eight
  tells := by
    intro c hc
    have h8 := h.eight
    by_cases e : c = d
    · right
      refine ⟨rows.length + 1, by omega, by simp, ?_, ?_⟩
      · subst e
        simp [List.getD_eq_getElem?_getD, h8, hc]
      · unfold updF
        rw [if_pos e]
        simp [List.getD_eq_getElem?_getD]
    · have e2 : (last.set d ((rows.length + 1 : Nat) : Int)).getD c 0 = last.getD c 0 := by
        simp [List.getD_eq_getElem?_getD, List.getElem?_set, Ne.symm e]
      have e3 : updF f d w c = f c := if_neg e
      rw [e2, e3]
      rcases h.tells c hc with h1 | ⟨L, h1, h2, h3, h4⟩
      · exact .inl h1
      · refine .inr ⟨L, h1, by rw [List.length_append]; omega, h3, ?_⟩
        rw [h4]
        simp only [List.getD_eq_getElem?_getD]
        rw [List.getElem?_append_left (by omega)]
theorem neat_l1e (rows : List S49) (last : List Int) (f : Nat → Option S49) (h : Inv rows last f) (hr : rows.length ≤ 30) (d : Nat) : ∀ c at_ : Nat, c ≤ 8 → 8 - c = d → at_ ≤ (neatW rows).length → (neatW rows).drop at_ = pick f c d →
    Ev (fun k => ravelinlaw12_BatchNeat.l1 k rows last (neatW rows) (at_ : Int) (c : Int)) true := by
  have hm := pick_len f 8 0
  rw [← h.neat] at hm
  have hB : isB (neatW rows) = true := by
    unfold isB
    rw [Bool.and_eq_true, decide_eq_true_eq]
    refine ⟨?_, hm⟩
    rw [h.neat]
    exact pick_rise h.keys 8 0 [] (by omega) (fun e _ _ => rfl)
  generalize hM : neatW rows = m at *
  induction d with
  | zero =>
    intro c at_ hc hd ha hdr
    have hl := congrArg List.length hdr
    rw [List.length_drop, pick, List.length_nil] at hl
    refine Ev.step (fun k => ravelinlaw12_BatchNeat.l1.eq_2 ..) (evF (by omega) (evT (by omega) (evBind (bis_ev m (by omega)) ?_)))
    rw [hB]
    exact evSome _
  | succ d ih =>
    intro c at_ hc hd ha hdr
    have h8 := h.eight
    have erd : rd last (c : Int) = last.getD c 0 := by unfold rd; rw [Int.toNat_natCast]
    refine Ev.step (fun k => ravelinlaw12_BatchNeat.l1.eq_2 ..) (evT (by omega) (evT (by omega) (evT (by omega) ?_)))
    rw [erd, w64 (n := (c : Int) + 1) (by omega), show (c : Int) + 1 = ((c + 1 : Nat) : Int) by omega]
    rcases h.tells c (by omega) with ⟨h1, h2⟩ | ⟨L, h1, h2, h3, h4⟩
    · rw [pick_none d h2] at hdr
      exact evT h1 (ih (c + 1) at_ (by omega) (by omega) ha hdr)
    · rw [pick_some d h4] at hdr
      have hl := congrArg List.length hdr
      rw [List.length_drop, List.length_cons] at hl
      have hlt : at_ < m.length := by omega
      rw [getD_cons hlt] at hdr
      injection hdr with g1 g2
      rw [h3, w64 (n := (at_ : Int) + 1) (by omega), show (at_ : Int) + 1 = ((at_ + 1 : Nat) : Int) by omega, w64 (n := (L : Int) - 1) (by omega), show (L : Int) - 1 = ((L - 1 : Nat) : Int) by omega, rd_at, rd_at, g1]
      refine evF (by omega) (evF (by omega) (evT (by omega) (evT (by omega) (evT (by omega) (evT (by omega) (evF (by simp) ?_))))))
      exact ih (c + 1) (at_ + 1) (by omega) (by omega) (by omega) g2
theorem neat_l0e (ks : List Int) (hk : ks.length ≤ 30) (hw : ∀ x ∈ ks, 0 ≤ x ∧ x ≤ 255) (d : Nat) : ∀ (i : Nat) (rows : List S49) (last : List Int) (f : Nat → Option S49), Inv rows last f → rows.length = i → i ≤ ks.length → ks.length - i = d →
    Ev (fun k => ravelinlaw12_BatchNeat.l0 k ks rows last (i : Int)) true := by
  induction d with
  | zero =>
    intro i rows last f h hr hi hd
    refine Ev.step (fun k => ravelinlaw12_BatchNeat.l0.eq_2 ..) (evF (by omega) (evBind (neat_ev rows (by omega)) ?_))
    exact neat_l1e rows last f h (by omega) 8 0 0 (by omega) rfl (by omega) (by rw [List.drop_zero]; exact h.neat)
  | succ d ih =>
    intro i rows last f h hr hi hd
    have hi2 : i < ks.length := by omega
    have hmem : rd ks (i : Int) ∈ ks := by
      unfold rd
      rw [Int.toNat_natCast, List.getD_eq_getElem?_getD, List.getElem?_eq_getElem hi2]
      exact List.getElem_mem hi2
    have hx := hw _ hmem
    obtain ⟨x, hxe⟩ : ∃ x : Nat, rd ks (i : Int) = (x : Int) := ⟨(rd ks (i : Int)).toNat, by omega⟩
    have h8 := h.eight
    have hm : x % 8 < 8 := Nat.mod_lt _ (by omega)
    have e1 : wrap64 (Int.tmod (x : Int) 8) = ((x % 8 : Nat) : Int) := by
      rw [Int.tmod_eq_emod_of_nonneg (by omega), w64 (by omega)]; omega
    refine Ev.step (fun k => ravelinlaw12_BatchNeat.l0.eq_2 ..) (evT (by omega) (evT (by omega) ?_))
    rw [hxe, e1]
    generalize x % 8 = c at *
    clear e1
    have e2 : strOfNums (([(wrap64 (97 + (c : Int))) % 256] : List Int)) = S (keyC c) := by
      rw [← strOf']
      congr 1
      simp only [nm, keyC, List.map_cons, List.map_nil]
      rw [w64 (by omega), show (97 : Int) + (c : Int) = ((97 + c : Nat) : Int) by omega, byte_mod]
    have e3 : strOfNums (([(wrap64 (65 + (i : Int))) % 256] : List Int)) = S [UInt8.ofNat (65 + i)] := by
      rw [← strOf']
      congr 1
      simp only [nm, List.map_cons, List.map_nil]
      rw [w64 (by omega), show (65 : Int) + (i : Int) = ((65 + i : Nat) : Int) by omega, byte_mod]
    rw [e2, e3, w64 (by omega), show (i : Int) + 1 = ((i + 1 : Nat) : Int) by omega, Int.toNat_natCast]
    refine evT (by omega) (evT (by omega) (evT (by omega) ?_))
    have step := inv_step h hm (w := (⟨S (keyC c), false, S [UInt8.ofNat (65 + i)]⟩ : S49)) rfl (by
      show isW (keyC c) false [UInt8.ofNat (65 + i)] = true
      simp [isW, keyC])
    rw [hr] at step
    exact ih (i + 1) _ _ _ step (by rw [List.length_append]; simp only [List.length_cons, List.length_nil]; omega) (by omega) (by omega)
theorem BatchNeat : ravelinlaw12_BatchNeat.Pure := by
  intro ks _ _ hw
  refine Ev.rounds (Ev.congr (fun k => ravelinlaw12_BatchNeat.f.eq_1 ..) (evBind known12 (evT rfl ?_)))
  by_cases h : (ks.length : Int) > 30
  · exact evT h (evSome _)
  · refine evF h (neat_l0e ks (by omega) (fun x hx => wf_u8 (hw x hx)) _ 0 [] (List.replicate 8 0) (fun _ => none) ⟨fun c x _ h => (by cases h), rfl, rfl, ?_⟩ rfl (by omega) rfl)
    intro c hc
    left
    refine ⟨?_, rfl⟩
    rcases c with _ | _ | _ | _ | _ | _ | _ | _ | c
    all_goals first | rfl | omega
end Go.Proofs.Ytnjbmcjhhadojaa.Pure
