/- Proved: the law SieveFew is true of every two bytes. -/
import Derived.Test.YtcnlhpakiadipaaQKnown7
import Derived.Test.YtcnlhpakiadipaaPx5
namespace Go.Proofs.Ytcnlhpakiadipaa.P
end Go.Proofs.Ytcnlhpakiadipaa.P
namespace Go.Proofs.Ytcnlhpakiadipaa.Q
end Go.Proofs.Ytcnlhpakiadipaa.Q
namespace Go.Proofs.Ytcnlhpakiadipaa.Pure
open Go.RowKit Go.Proofs.Ytcnlhpakiadipaa.P Go.Proofs.YtcnlhpakiadipaaW.PrintWords Go.Proofs.YtcnlhpakiadipaaW.PrintLast Go.Proofs.YtcnlhpakiadipaaW.PrintMore Go.Proofs.Ytcnlhpakiadipaa.Q
set_option linter.unusedVariables false
set_option linter.unusedSimpArgs false
theorem few_l3 (n : Nat) (m : List UInt8) (hm : m.length ≤ 1000000000000) (i : Nat) (hi : i < m.length) {r : Bool}
    (E : Ev (fun k => ravelinlaw7_SieveFew.l2 k (n : Int) (S m) ((cnt m (8 * (i + 1)) : Nat) : Int) ((i + 1 : Nat) : Int)) r) (d : Nat) : ∀ j : Nat, j ≤ 8 → 8 - j = d →
    Ev (fun k => ravelinlaw7_SieveFew.l3 k (n : Int) (S m) ((cnt m (8 * i + j) : Nat) : Int) (i : Int) (j : Int)) r := by
  induction d with
  | zero =>
    intro j hj hd
    obtain rfl : j = 8 := by omega
    refine Ev.step (fun k => ravelinlaw7_SieveFew.l3.eq_2 ..) (evF (by omega) ?_)
    rw [w64 (by omega), show 8 * i + 8 = 8 * (i + 1) by omega]
    exact E
  | succ d ih =>
    intro j hj hd
    have := ih (j + 1) (by omega) (by omega)
    refine Ev.step (fun k => ravelinlaw7_SieveFew.l3.eq_2 ..) (evT (by omega) (evT (by omega) (evT (by rw [S_size]; omega) (evT (by rw [u64w (by omega)]; omega) ?_))))
    rw [cnt_step m i j (by omega) (by omega), w64 (n := (j : Int) + 1) (by omega)]
    exact this
theorem few_l2 (n : Nat) (m : List UInt8) (hx : n ≤ 60) (hm : m.length = n) (h1 : countS m ≤ 4 * n) (d : Nat) : ∀ i : Nat, i ≤ m.length → m.length - i = d →
    Ev (fun k => ravelinlaw7_SieveFew.l2 k (n : Int) (S m) ((cnt m (8 * i) : Nat) : Int) (i : Int)) true := by
  induction d with
  | zero =>
    intro i hi hd
    obtain rfl : i = m.length := by omega
    have e : cnt m (8 * m.length) = countS m := rfl
    rw [e]
    refine Ev.step (fun k => ravelinlaw7_SieveFew.l2.eq_2 ..) (evF (by rw [S_size]; omega) (evT (by rw [S_size]; omega) (evEq (evSome _) ?_)))
    rw [w64 (by omega)]
    exact decide_eq_true (by omega)
  | succ d ih =>
    intro i hi hd
    refine Ev.step (fun k => ravelinlaw7_SieveFew.l2.eq_2 ..) (evT (by rw [S_size]; omega) ?_)
    exact few_l3 n m (by omega) i (by omega) (ih (i + 1) (by omega) (by omega)) _ 0 (by omega) rfl
theorem two_bytes (a b : Nat) (ha : a < 256) : strOfNums [(a : Int), (b : Int) % 256] = S [UInt8.ofNat a, UInt8.ofNat b] := by
  rw [← strOf']
  congr 1
  simp only [nm, List.map_cons, List.map_nil]
  rw [byte_mod, UInt8.toNat_ofNat_of_lt' ha]
theorem two_bytes' (a b : Nat) (ha : a < 256) : strOfNums [(b : Int) % 256, (a : Int)] = S [UInt8.ofNat b, UInt8.ofNat a] := by
  rw [← strOf']
  congr 1
  simp only [nm, List.map_cons, List.map_nil]
  rw [byte_mod, UInt8.toNat_ofNat_of_lt' ha]
theorem few_l1 (v n : Nat) (hv : v < 256) (m : List UInt8) (hx : n ≤ 60) (hm : m.length = n) (h1 : countS m ≤ 4 * n) (d : Nat) : ∀ i : Nat, i ≤ 200 → 200 - i = d →
    Ev (fun k => ravelinlaw7_SieveFew.l1 k (v : Int) (n : Int) (S m) (i : Int)) true := by
  induction d with
  | zero =>
    intro i hi hd
    exact Ev.step (fun k => ravelinlaw7_SieveFew.l1.eq_2 ..) (evF (by omega) (few_l2 n m hx hm h1 _ 0 (by omega) rfl))
  | succ d ih =>
    intro i hi hd
    refine Ev.step (fun k => ravelinlaw7_SieveFew.l1.eq_2 ..) (evT (by omega) (evConst rfl ?_))
    have e : (⟨#[111, 116, 104, 101, 114, 45]⟩ : ByteArray) ++ strOfNums [(i : Int) % 256, (v : Int)] = S [111, 116, 104, 101, 114, 45, UInt8.ofNat i, UInt8.ofNat v] := by
      rw [two_bytes' v i hv]
      exact S_append [111, 116, 104, 101, 114, 45] [UInt8.ofNat i, UInt8.ofNat v]
    rw [e, two_bytes' v i hv, S_size]
    refine evT (by simp) (evBind (may_ev m _ (by omega) (by simp)) (evBind (rmay_ev m _ (by omega) (by simp)) (evF (by simp) ?_)))
    rw [w64 (by omega)]
    exact ih (i + 1) (by omega) (by omega)
def keysN (v i : Nat) : List (List UInt8) := (List.range i).map fun j => [107, 101, 121, 45, UInt8.ofNat v, UInt8.ofNat j]
theorem keysN_len (v i : Nat) : (keysN v i).length = i := by simp [keysN]
theorem few_l0 (v n : Nat) (hv : v < 256) (h8 : 8 ≤ n) (hx : n ≤ 60) (d : Nat) : ∀ i : Nat, i ≤ n → n - i = d →
    Ev (fun k => ravelinlaw7_SieveFew.l0 k (v : Int) ((keysN v i).map S) (n : Int) (i : Int)) true := by
  induction d with
  | zero =>
    intro i hi hd
    obtain rfl : i = n := by omega
    refine Ev.step (fun k => ravelinlaw7_SieveFew.l0.eq_2 ..) (evF (by omega) (evBind (make_ev (keysN v i) (by rw [keysN_len]; omega) ?_) ?_))
    · intro k hk
      obtain ⟨j, _, rfl⟩ := List.mem_map.1 hk
      simp
    · have hc := count_makeS (keysN v i)
      rw [keysN_len] at hc
      exact few_l1 v i hv (makeS (keysN v i)) hx (by rw [makeS_len, keysN_len]; omega) hc _ 0 (by omega) rfl
  | succ d ih =>
    intro i hi hd
    have := ih (i + 1) (by omega) (by omega)
    refine Ev.step (fun k => ravelinlaw7_SieveFew.l0.eq_2 ..) (evT (by omega) (evConst rfl ?_))
    have e : (⟨#[107, 101, 121, 45]⟩ : ByteArray) ++ strOfNums [(v : Int), (i : Int) % 256] = S [107, 101, 121, 45, UInt8.ofNat v, UInt8.ofNat i] := by
      rw [two_bytes v i hv]
      exact S_append [107, 101, 121, 45] [UInt8.ofNat v, UInt8.ofNat i]
    have e2 : (keysN v i).map S ++ [S [107, 101, 121, 45, UInt8.ofNat v, UInt8.ofNat i]] = (keysN v (i + 1)).map S := by
      simp [keysN, List.range_succ]
    rw [e, two_bytes v i hv, S_size, e2, List.length_map, keysN_len, w64 (by omega)]
    exact evT (by simp) (evT (by omega) this)
theorem SieveFew : ravelinlaw7_SieveFew.Pure := by
  intro a b ha hb
  obtain ⟨h0, h255⟩ := wf_u8 ha
  obtain ⟨g0, g255⟩ := wf_u8 hb
  obtain ⟨u, rfl⟩ : ∃ v : Nat, a = (v : Int) := ⟨a.toNat, by omega⟩
  obtain ⟨v, rfl⟩ : ∃ v : Nat, b = (v : Int) := ⟨b.toNat, by omega⟩
  refine Ev.rounds (Ev.congr (fun k => ravelinlaw7_SieveFew.f.eq_1 ..) (evBind known7 (evT rfl ?_)))
  have e : wrap64 (wrap64 (Int.tmod (u : Int) 40) + 8) = ((u % 40 + 8 : Nat) : Int) := by
    rw [Int.tmod_eq_emod_of_nonneg (by omega), w64 (n := (u : Int) % 40) (by omega), w64 (by omega)]; omega
  rw [e]
  exact few_l0 v (u % 40 + 8) (by omega) (by omega) (by omega) _ 0 (by omega) rfl
end Go.Proofs.Ytcnlhpakiadipaa.Pure
