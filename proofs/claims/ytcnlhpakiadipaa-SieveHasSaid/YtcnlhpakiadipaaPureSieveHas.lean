/- Proved: the law SieveHas is true of every keys, every byte. -/
import Derived.Test.YtcnlhpakiadipaaQKnown7
import Derived.Test.YtcnlhpakiadipaaPx4
namespace Go.Proofs.Ytcnlhpakiadipaa.P
end Go.Proofs.Ytcnlhpakiadipaa.P
namespace Go.Proofs.Ytcnlhpakiadipaa.Q
end Go.Proofs.Ytcnlhpakiadipaa.Q
namespace Go.Proofs.Ytcnlhpakiadipaa.Pure
open Go.RowKit Go.Proofs.Ytcnlhpakiadipaa.P Go.Proofs.YtcnlhpakiadipaaW.PrintWords Go.Proofs.YtcnlhpakiadipaaW.PrintLast Go.Proofs.YtcnlhpakiadipaaW.PrintMore Go.Proofs.Ytcnlhpakiadipaa.Q
set_option linter.unusedVariables false
set_option linter.unusedSimpArgs false
theorem has_l2 (x0 x7 : List ByteArray) (m : List UInt8) (hm : m.length ≤ 1000000000000) (i : Nat) (hi : i < m.length) {r : Bool}
    (E : Ev (fun k => ravelinlaw7_SieveHas.l1 k x0 (S m) x7 ((cnt m (8 * (i + 1)) : Nat) : Int) ((i + 1 : Nat) : Int)) r) (d : Nat) : ∀ j : Nat, j ≤ 8 → 8 - j = d →
    Ev (fun k => ravelinlaw7_SieveHas.l2 k x0 (S m) x7 ((cnt m (8 * i + j) : Nat) : Int) (i : Int) (j : Int)) r := by
  induction d with
  | zero =>
    intro j hj hd
    obtain rfl : j = 8 := by omega
    refine Ev.step (fun k => ravelinlaw7_SieveHas.l2.eq_2 ..) (evF (by omega) ?_)
    rw [w64 (by omega), show 8 * i + 8 = 8 * (i + 1) by omega]
    exact E
  | succ d ih =>
    intro j hj hd
    have := ih (j + 1) (by omega) (by omega)
    refine Ev.step (fun k => ravelinlaw7_SieveHas.l2.eq_2 ..) (evT (by omega) (evT (by omega) (evT (by rw [S_size]; omega) (evT (by rw [u64w (by omega)]; omega) ?_))))
    rw [cnt_step m i j (by omega) (by omega), w64 (n := (j : Int) + 1) (by omega)]
    exact this
theorem has_l1 (x0 x7 : List ByteArray) (m : List UInt8) (hx : x0.length ≤ 60) (hm : m.length = max 8 x0.length) (h1 : countS m ≤ 4 * x0.length) (h2 : 0 < countS m) (M : Ev (fun k => sieve_Make.f k x7) (S m)) (d : Nat) : ∀ i : Nat, i ≤ m.length → m.length - i = d →
    Ev (fun k => ravelinlaw7_SieveHas.l1 k x0 (S m) x7 ((cnt m (8 * i) : Nat) : Int) (i : Int)) true := by
  induction d with
  | zero =>
    intro i hi hd
    obtain rfl : i = m.length := by omega
    have e : cnt m (8 * m.length) = countS m := rfl
    rw [e]
    refine Ev.step (fun k => ravelinlaw7_SieveHas.l1.eq_2 ..) (evF (by rw [S_size]; omega) (evBind M (evT rfl (evT ?_ (evT ?_ (evEq (evSome _) ?_))))))
    · rw [S_size, hm]; unfold mx; split <;> omega
    · rw [w64 (by omega)]; omega
    · exact decide_eq_true (by omega)
  | succ d ih =>
    intro i hi hd
    refine Ev.step (fun k => ravelinlaw7_SieveHas.l1.eq_2 ..) (evT (by rw [S_size]; omega) ?_)
    exact has_l2 x0 x7 m (by omega) i (by omega) (ih (i + 1) (by omega) (by omega)) _ 0 (by omega) rfl
theorem has_l0 (L : List (List UInt8)) (x7 : List ByteArray) (hx : L.length ≤ 60) (hne : L ≠ []) (hk : ∀ k ∈ L, k.length ≤ 140737488351232) (M : Ev (fun k => sieve_Make.f k x7) (S (makeS L))) (d : Nat) : ∀ i : Nat, i ≤ L.length → L.length - i = d →
    Ev (fun k => ravelinlaw7_SieveHas.l0 k (L.map S) (S (makeS L)) x7 (i : Int)) true := by
  induction d with
  | zero =>
    intro i hi hd
    refine Ev.step (fun k => ravelinlaw7_SieveHas.l0.eq_2 ..) (evF (by rw [List.length_map]; omega) ?_)
    exact has_l1 (L.map S) x7 (makeS L) (by rw [List.length_map]; exact hx) (by rw [List.length_map, makeS_len]) (by rw [List.length_map]; exact count_makeS L) (count_pos hne) M _ 0 (by omega) rfl
  | succ d ih =>
    intro i hi hd
    have hi2 : i < L.length := by omega
    have e : L.getD i [] = L[i] := by simp [List.getD_eq_getElem?_getD, hi2]
    have hmem : L.getD i [] ∈ L := by rw [e]; exact List.getElem_mem hi2
    refine Ev.step (fun k => ravelinlaw7_SieveHas.l0.eq_2 ..) (evT (by rw [List.length_map]; omega) (evT (by omega) ?_))
    rw [rdOf_S L i hi2]
    refine evBind (may_ev _ _ (by rw [makeS_len]; omega) (hk _ hmem)) ?_
    rw [may_make hmem, w64 (by omega)]
    exact evT rfl (ih (i + 1) (by omega) (by omega))
theorem SieveHas : ravelinlaw7_SieveHas.Pure := by
  intro l a hl _ ha
  obtain ⟨h0, h255⟩ := wf_u8 ha
  obtain ⟨v, rfl⟩ : ∃ v : Nat, a = (v : Int) := ⟨a.toNat, by omega⟩
  refine Ev.rounds (Ev.congr (fun k => ravelinlaw7_SieveHas.f.eq_1 ..) (evBind known7 (evT rfl ?_)))
  have yes : Ev (fun k => ravelinlaw7_SieveHas.j0 k l (v : Int) true) true := Ev.step (fun k => ravelinlaw7_SieveHas.j0.eq_2 ..) (evT rfl (evSome _))
  obtain ⟨c, hc, hc2⟩ := few7_ev l hl
  refine evBind hc ?_
  cases c with
  | false => exact evF (by simp) yes
  | true =>
    obtain ⟨hlen, hkeys⟩ := hc2 rfl
    refine evT rfl ?_
    obtain ⟨L, rfl⟩ := map_S_of l
    rw [List.length_map] at hlen
    have hk : ∀ k ∈ L, k.length ≤ 140737488351232 := by
      intro k hk
      have := hkeys (S k) (List.mem_map.2 ⟨k, hk, rfl⟩)
      rw [S_size] at this
      omega
    cases hL : L with
    | nil => subst hL; exact yes
    | cons x t =>
      rw [← hL]
      have hne : L ≠ [] := by rw [hL]; simp
      have hp : 0 < L.length := List.length_pos_iff.2 hne
      rw [show (((L.map S).length : Int) == 0) = false by rw [List.length_map]; exact beq_false_of_ne (by omega)]
      refine Ev.step (fun k => ravelinlaw7_SieveHas.j0.eq_2 ..) (evF (by simp) (evBind (make_ev L (by omega) hk) ?_))
      have er : Int.tmod (wrap64 (v : Int)) ((L.map S).length : Int) = ((v % L.length : Nat) : Int) := by
        rw [List.length_map, w64 (by omega), Int.tmod_eq_emod_of_nonneg (by omega), Int.natCast_emod]
      have hr : v % L.length < L.length := Nat.mod_lt _ hp
      rw [er]
      generalize v % L.length = r at *
      rw [Int.toNat_natCast]
      have hd : ((L.map S).drop r).length = L.length - r := by rw [List.length_drop, List.length_map]
      have ht : ((L.map S).take r).length = r := by rw [List.length_take, List.length_map]; omega
      refine evF (by rw [List.length_map]; omega) (evT (by omega) (evT (by rw [List.length_map]; omega) (evT (by rw [hd, List.length_nil]; omega) (evConst rfl ?_))))
      rw [List.nil_append]
      refine evT (by rw [hd, ht]; omega) ?_
      have em : (L.map S).drop r ++ (L.map S).take r = (L.drop r ++ L.take r).map S := by rw [List.map_append, List.map_drop, List.map_take]
      rw [em]
      have hlen2 : (L.drop r ++ L.take r).length = L.length := by rw [List.length_append, List.length_drop, List.length_take]; omega
      have hmem : ∀ k, k ∈ (L.drop r ++ L.take r) ↔ k ∈ L := by
        intro k
        rw [List.mem_append]
        conv => rhs; rw [← List.take_append_drop r L, List.mem_append]
        exact Or.comm
      have M := make_ev (L.drop r ++ L.take r) (by omega) (fun k h => hk k ((hmem k).1 h))
      rw [make_perm hlen2 hmem] at M
      exact has_l0 L _ hlen hne hk M _ 0 (by omega) rfl
end Go.Proofs.Ytcnlhpakiadipaa.Pure
