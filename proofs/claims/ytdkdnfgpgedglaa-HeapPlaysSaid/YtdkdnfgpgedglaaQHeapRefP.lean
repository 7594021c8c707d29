import Derived.Test.YtdkdnfgpgedglaaQHeapRng
import Derived.Test.YtdkdnfgpgedglaaQHeapRefE
import Derived.Test.YtdkdnfgpgedglaaQHeapRefS
import Derived.Test.YtdkdnfgpgedglaaPx4
import Derived.Test.YtdkdnfgpgedglaaPx5
import Derived.Test.YtdkdnfgpgedglaaPx6
namespace Go.Proofs.Ytdkdnfgpgedglaa.P
end Go.Proofs.Ytdkdnfgpgedglaa.P
namespace Go.Proofs.Ytdkdnfgpgedglaa.Q
end Go.Proofs.Ytdkdnfgpgedglaa.Q
namespace Go.Proofs.Ytdkdnfgpgedglaa.Q
open Go.RowKit Go.Proofs.Ytdkdnfgpgedglaa.P Go.Proofs.YtdkdnfgpgedglaaW.PrintWords Go.Proofs.YtdkdnfgpgedglaaW.PrintLast Go.Proofs.YtdkdnfgpgedglaaW.PrintMore
set_option linter.unusedVariables false
set_option linter.unusedSimpArgs false

/-! The reference's Put, Newest, Range -/
theorem rput_done (L : List S29) (e : S29) (hl : L.length ≤ 1000000) (n : Nat) : ∀ (i : Nat) (acc : List S29), L.length - i = n → i ≤ L.length → acc.length ≤ i + 1 → (∀ y ∈ L.drop i, ¬ (ky y = ky e ∧ y.f1 = e.f1)) →
    Ev (fun k => ravelinref6_Put.l0 k L acc true (i : Int) e.f0 e.f1 e.f2 e.f3) (acc ++ L.drop i, true) := by
  induction n with
  | zero =>
    intro i acc h1 h2 h3 h4
    refine Ev.step (fun k => ravelinref6_Put.l0.eq_2 ..) (evF (by omega) (evT rfl (evEq (evSome _) ?_)))
    rw [List.drop_eq_nil_of_le (by omega), List.append_nil]
  | succ n ih =>
    intro i acc h1 h2 h3 h4
    have hd := drop_cons L z29 i (by omega)
    have hne := h4 _ (by rw [hd]; exact List.mem_cons_self)
    have go : Ev (fun k => ravelinref6_Put.j1 k L acc true (i : Int) false e.f0 e.f1 e.f2 e.f3) (acc ++ L.drop i, true) := by
      refine Ev.step (fun k => ravelinref6_Put.j1.eq_2 ..) (evF (by simp) (evT rfl (evT (by omega) (evT (by omega) (evT (by omega) ?_)))))
      rw [w64 (by omega), show (i : Int) + 1 = ((i + 1 : Nat) : Int) by omega, hrd]
      refine evEq (ih (i + 1) (acc ++ [L.getD i z29]) (by omega) (by omega) (by rw [List.length_append, List.length_singleton]; omega) (fun y hy => h4 y (by rw [hd]; exact List.mem_cons_of_mem _ hy))) ?_
      rw [hd, List.append_assoc]; rfl
    refine Ev.step (fun k => ravelinref6_Put.l0.eq_2 ..) (evT (by omega) (evT (by omega) ?_))
    rw [hrd, toL, toL]
    by_cases h : ky (L.getD i z29) = ky e
    · refine evT h ?_
      have h5 : ((L.getD i z29).f1 == e.f1) = false := beq_eq_false_iff_ne.2 (fun h6 => hne ⟨h, h6⟩)
      rw [h5]; exact go
    · exact evF h go
theorem rput_l0 (L : List S29) (e : S29) (hl : L.length ≤ 1000000) (hp : L.Pairwise (fun a b => lessE a b = true)) (n : Nat) : ∀ (i : Nat), L.length - i = n → i ≤ L.length →
    Ev (fun k => ravelinref6_Put.l0 k L (L.take i) false (i : Int) e.f0 e.f1 e.f2 e.f3) (L.take i ++ ins (L.drop i) e, (lookE (L.drop i) (ky e) e.f1).isNone) := by
  induction n with
  | zero =>
    intro i h1 h2
    refine Ev.step (fun k => ravelinref6_Put.l0.eq_2 ..) (evF (by omega) (evF (by simp) (evT (by rw [List.length_take]; omega) (evEq (evSome _) ?_))))
    rw [List.drop_eq_nil_of_le (by omega)]; rfl
  | succ n ih =>
    intro i h1 h2
    have hd := drop_cons L z29 i (by omega)
    have hpd : (L.drop i).Pairwise (fun a b => lessE a b = true) := hp.drop
    rw [hd] at hpd
    have hpc := List.pairwise_cons.1 hpd
    have htl : (L.take i).length = i := by rw [List.length_take]; omega
    have go : ¬ (ky (L.getD i z29) = ky e ∧ (L.getD i z29).f1 = e.f1) → Ev (fun k => ravelinref6_Put.j1 k L (L.take i) false (i : Int) false e.f0 e.f1 e.f2 e.f3) (L.take i ++ ins (L.drop i) e, (lookE (L.drop i) (ky e) e.f1).isNone) := by
      intro hne
      refine Ev.step (fun k => ravelinref6_Put.j1.eq_2 ..) (evF (by simp) (evF (by simp) (evT (by omega) (evT (by omega) (evConst (rless_ev _ _ _ _ _ _ _ _) ?_)))))
      rw [w64 (by omega), show (i : Int) + 1 = ((i + 1 : Nat) : Int) by omega, hrd]
      have hlk : lookE (L.drop i) (ky e) e.f1 = lookE (L.drop (i + 1)) (ky e) e.f1 := by rw [hd, look_cons, if_neg (fun hh => hne (hit_iff.1 hh))]
      rw [hlk, hd, ins]
      by_cases hlt : lessE e (L.getD i z29) = true
      · refine evT hlt (evT (by omega) (evConst rfl (evT (by rw [List.length_append, List.length_singleton]; omega) ?_)))
        rw [if_pos hlt]
        refine evEq (rput_done L e hl _ (i + 1) _ rfl (by omega) ?_ ?_) ?_
        · simp only [List.length_append, List.length_singleton]; omega
        · intro y hy hh
          exact less_ne (lessF_trans hlt (hpc.1 y hy)) ⟨hh.1.symm, hh.2.symm⟩
        · rw [List.append_assoc, List.append_assoc, behind_none (x := e) (fun y hy => lessF_trans hlt (hpc.1 y hy)) ⟨rfl, rfl⟩]; rfl
      · refine evF hlt (evT (by omega) ?_)
        rw [if_neg hlt, if_neg hne]
        refine evEq (Ev.congr (fun k => ?_) (ih (i + 1) (by omega) (by omega))) ?_
        · rw [List.take_add_one, List.getElem?_eq_getElem (by omega)]
          have : L.getD i z29 = L[i] := by rw [List.getD_eq_getElem?_getD, List.getElem?_eq_getElem (by omega)]; rfl
          rw [this]; rfl
        · rw [List.take_add_one, List.getElem?_eq_getElem (by omega), List.append_assoc]
          have : L.getD i z29 = L[i] := by rw [List.getD_eq_getElem?_getD, List.getElem?_eq_getElem (by omega)]; rfl
          rw [this]; rfl
    refine Ev.step (fun k => ravelinref6_Put.l0.eq_2 ..) (evT (by omega) (evT (by omega) ?_))
    rw [hrd, toL, toL]
    by_cases h : ky (L.getD i z29) = ky e
    · refine evT h ?_
      by_cases h6 : (L.getD i z29).f1 = e.f1
      · have h5 : ((L.getD i z29).f1 == e.f1) = true := beq_iff_eq.2 h6
        rw [h5]
        refine Ev.step (fun k => ravelinref6_Put.j1.eq_2 ..) (evT rfl (evEq (evSome _) ?_))
        have hnl : ¬ lessE e (L.getD i z29) = true := fun h7 => less_ne h7 ⟨h.symm, h6.symm⟩
        rw [hd, ins, if_neg hnl, if_pos ⟨h, h6⟩, look_cons, if_pos (hit_iff.2 ⟨h, h6⟩), ← hd, List.take_append_drop]; rfl
      · have h5 : ((L.getD i z29).f1 == e.f1) = false := beq_eq_false_iff_ne.2 h6
        rw [h5]; exact go (fun hh => h6 hh.2)
    · exact evF h (go (fun hh => h hh.1))
theorem rput_ev (L : List S29) (e : S29) (hl : L.length ≤ 1000000) (hp : PW L) : Ev (fun k => ravelinref6_Put.f k L e.f0 e.f1 e.f2 e.f3) (putE L e, putB L e) := by
  refine Ev.congr (fun k => ravelinref6_Put.f.eq_1 ..) (evConst (ris_ev _ _ _ _) ?_)
  by_cases ho : okE e = true
  · refine evT ho (evEq (rput_l0 L e hl hp _ 0 rfl (Nat.zero_le _)) ?_)
    rw [putE_eq hp, putB_eq hp, if_pos ho, ho]
    rfl
  · refine evF ho (evEq (evSome _) ?_)
    rw [putE_eq hp, putB_eq hp, if_neg ho, Bool.eq_false_iff.2 ho]
    rfl
theorem lessF_no {x y : List UInt8} {s t : Int} (h : lessF x s y t = true) : ¬ (x = y ∧ s ≤ t) := by
  rw [lessF_iff] at h
  rintro ⟨rfl, h2⟩
  rcases h with h | ⟨_, h⟩
  · rw [lt_irrefl] at h; cases h
  · omega
theorem lessF_le {x y : List UInt8} {s t : Int} (h : lessF x s y t = false) (e : x = y) : s ≤ t := by
  rcases Int.lt_or_le t s with h1 | h1
  · have : lessF x s y t = true := lessF_iff.2 (.inr ⟨e, h1⟩)
    rw [this] at h; cases h
  · exact h1
theorem behind_no {l : List S29} (hs : sortedB l = true) {key : List UInt8} {seq : Int} {i : Nat} (h : placeE l key seq < i) (hi : i < l.length) (hk : ky (l.getD (placeE l key seq) z29) ≠ key) : ky (l.getD i z29) ≠ key := by
  intro he
  have h1 := place_ge hs (Nat.le_refl (placeE l key seq)) (show placeE l key seq < l.length by omega)
  have h2 := sorted_lt hs h hi
  unfold lessE at h2
  rw [he, lessF_iff] at h2
  rcases h2 with h2 | ⟨h2, _⟩
  · have : lessF (ky (l.getD (placeE l key seq) z29)) (l.getD (placeE l key seq) z29).f1 key seq = true := lessF_iff.2 (.inl h2)
    rw [this] at h1; cases h1
  · exact hk h2
theorem rnewest_l0 (l : List S29) (hl : l.length ≤ 1000000000) (hs : sortedB l = true) (key : ByteArray) (seq : Int) (n : Nat) : ∀ i : Nat, l.length - i = n → (placeE l key.data.toList seq < i → ky (l.getD (placeE l key.data.toList seq) z29) ≠ key.data.toList) →
    Ev (fun k => ravelinref6_Newest.l0 k l key seq (i : Int)) (newestE l key.data.toList seq) := by
  induction n with
  | zero =>
    intro i hi hb
    have hp := place_le l key.data.toList seq
    refine Ev.step (fun k => ravelinref6_Newest.l0.eq_2 ..) (evF (by omega) ?_)
    refine Ev.step (fun k => ravelinref6_Newest.j1.eq_2 ..) (evF (by simp) (evEq (evSome _) ?_))
    unfold newestE
    rw [if_pos hs, if_neg]
    · rfl
    · rintro ⟨h1, h2⟩; exact hb (by omega) h2
  | succ n ih =>
    intro i hi hb
    refine Ev.step (fun k => ravelinref6_Newest.l0.eq_2 ..) (evT (by omega) (evBind (rsorted_ev l (by omega)) ?_))
    refine Ev.step (fun k => ravelinref6_Newest.j1.eq_2 ..) (evT hs (evT (by omega) (evT (by omega) ?_)))
    have e : rd_T29 l (i : Int) = l.getD i z29 := by unfold rd_T29; rw [Int.toNat_natCast]
    rw [e, toL, toL, w64 (by omega), show (i : Int) + 1 = ((i + 1 : Nat) : Int) by omega]
    rcases Nat.lt_trichotomy i (placeE l key.data.toList seq) with h1 | h1 | h1
    · have h2 := lessF_no (place_lt h1)
      have next := ih (i + 1) (by omega) (fun h => by omega)
      by_cases h3 : ky (l.getD i z29) = key.data.toList
      · exact evT h3 (evF (fun h4 => h2 ⟨h3, h4⟩) next)
      · exact evF h3 next
    · subst h1
      have h2 := place_ge hs (Nat.le_refl _) (show placeE l key.data.toList seq < l.length by omega)
      by_cases h3 : ky (l.getD (placeE l key.data.toList seq) z29) = key.data.toList
      · refine evT h3 (evT (lessF_le h2 h3) (evEq (evSome _) ?_))
        unfold newestE
        rw [if_pos hs, if_pos ⟨by omega, h3⟩]; rfl
      · exact evF h3 (ih _ (by omega) (fun _ => h3))
    · exact evF (behind_no hs h1 (by omega) (hb h1)) (ih (i + 1) (by omega) (fun _ => hb h1))
theorem rnewest_ev (l : List S29) (hl : l.length ≤ 1000000) (hp : PW l) (key : ByteArray) (seq : Int) : Ev (fun k => ravelinref6_Newest.f k l key seq) (getE l key.data.toList seq) := by
  refine Ev.congr (fun k => ravelinref6_Newest.f.eq_1 ..) (evEq (rnewest_l0 l (by omega) (pw_sorted hp) key seq _ 0 rfl (fun h => by omega)) ?_)
  unfold newestE getE
  rw [if_pos (pw_sorted hp)]
theorem rrange_l0 (l : List S29) (a tx : ByteArray) (hl : l.length ≤ 1000000) (n : Nat) : ∀ (i : Nat) (acc : List S29), l.length - i = n → acc.length ≤ i →
    Ev (fun k => ravelinref6_Range.l0 k l a tx acc (i : Int)) (acc ++ (l.drop i).filter (fun e => !(ltK a.data.toList e) && inK tx.data.toList e)) := by
  induction n with
  | zero =>
    intro i acc h1 h2
    refine Ev.step (fun k => ravelinref6_Range.l0.eq_2 ..) (evF (by omega) (evEq (evSome _) ?_))
    rw [List.drop_eq_nil_of_le (by omega), List.filter_nil, List.append_nil]
  | succ n ih =>
    intro i acc h1 h2
    refine Ev.step (fun k => ravelinref6_Range.l0.eq_2 ..) (evT (by omega) (evT (by omega) ?_))
    rw [hrd, toL, toL, toL, w64 (by omega), show (i : Int) + 1 = ((i + 1 : Nat) : Int) by omega, drop_cons l z29 i (by omega), List.filter_cons]
    have skip := ih (i + 1) acc (by omega) (by omega)
    have take := ih (i + 1) (acc ++ [l.getD i z29]) (by omega) (by rw [List.length_append, List.length_singleton]; omega)
    rw [List.append_assoc] at take
    cases ha : ltK a.data.toList (l.getD i z29) with
    | true =>
      refine evT ha (evEq skip ?_)
      rw [if_neg (by simp)]
    | false =>
      refine evF (fun hh => by have h3 := ha.symm.trans hh; cases h3) ?_
      cases htx : tx.data.toList with
      | nil =>
        refine evT rfl (evT (by omega) (evEq take ?_))
        rw [if_pos (by simp [inK]), htx]; rfl
      | cons c tt =>
        refine evF (by simp) ?_
        cases hb : Op.bytesLess (ky (l.getD i z29)) (c :: tt) with
        | true =>
          refine evT hb (evT (by omega) (evEq take ?_))
          rw [if_pos (by show (!false && (false || Op.bytesLess (ky (l.getD i z29)) (c :: tt))) = true; rw [hb]; rfl), htx]; rfl
        | false =>
          refine evF (fun hh => by have h3 := hb.symm.trans hh; cases h3) (evEq skip ?_)
          rw [if_neg (by show ¬ (!false && (false || Op.bytesLess (ky (l.getD i z29)) (c :: tt))) = true; rw [hb]; simp), htx]
theorem rrange_ev (l : List S29) (a tx : ByteArray) (hl : l.length ≤ 1000000) (hg : Good l) : Ev (fun k => ravelinref6_Range.f k l a tx) (rangeE l a.data.toList tx.data.toList) := by
  refine Ev.congr (fun k => ravelinref6_Range.f.eq_1 ..) (evEq (rrange_l0 l a tx hl _ 0 [] rfl (Nat.zero_le _)) ?_)
  rw [range_filter _ _ hg]; rfl
end Go.Proofs.Ytdkdnfgpgedglaa.Q
