import Derived.Test.YtcnlhpakiadipaaQSieveSpec
import Derived.Test.YtcnlhpakiadipaaM1
import Derived.Test.YtcnlhpakiadipaaM2
namespace Go.Proofs.Ytcnlhpakiadipaa.P
end Go.Proofs.Ytcnlhpakiadipaa.P
namespace Go.Proofs.Ytcnlhpakiadipaa.Q
end Go.Proofs.Ytcnlhpakiadipaa.Q
namespace Go.Proofs.Ytcnlhpakiadipaa.Q
open Go.RowKit Go.Proofs.Ytcnlhpakiadipaa.P Go.Proofs.YtcnlhpakiadipaaW.PrintWords Go.Proofs.YtcnlhpakiadipaaW.PrintLast Go.Proofs.YtcnlhpakiadipaaW.PrintMore
set_option linter.unusedVariables false
set_option linter.unusedSimpArgs false
theorem hstepA (a : Nat) (c : UInt8) (h : a < 4294967296) : ((((a : Int) * 33) % 4294967296) + (((c.toNat : Nat) : Int) % 4294967296)) % 4294967296 = ((((a * 33) % 4294967296 + c.toNat) % 4294967296 : Nat) : Int) := by
  have := c.toNat_lt
  omega
theorem hstepB (b : Nat) (c : UInt8) : Go.bits .xor .u32 (((b : Int) * 31) % 4294967296) (((c.toNat : Nat) : Int) % 4294967296) = ((((b * 31) % 4294967296) ^^^ c.toNat : Nat) : Int) := by
  have hc := c.toNat_lt
  have e1 : ((b : Int) * 31) % 4294967296 = (((b * 31) % 4294967296 : Nat) : Int) := by omega
  have e2 : ((c.toNat : Nat) : Int) % 4294967296 = ((c.toNat : Nat) : Int) := by omega
  rw [e1, e2]
  exact xor32 _ _ (Nat.mod_lt _ (by omega)) (byte_lt32 c)
theorem hA_take (l : List UInt8) (i : Nat) (h : i < l.length) : hA (l.take (i + 1)) = ((hA (l.take i) * 33) % 4294967296 + (l.getD i 0).toNat) % 4294967296 := by
  rw [List.take_succ_eq_append_getElem h, hA, List.foldl_append]
  simp [hA, List.getD_eq_getElem?_getD, List.getElem?_eq_getElem h]
theorem hX_take (l : List UInt8) (i : Nat) (h : i < l.length) : hX (l.take (i + 1)) = ((hX (l.take i) * 31) % 4294967296) ^^^ (l.getD i 0).toNat := by
  rw [List.take_succ_eq_append_getElem h, hX, List.foldl_append]
  simp [hX, List.getD_eq_getElem?_getD, List.getElem?_eq_getElem h]
theorem hB_fin (l : List UInt8) : Go.bits .or .u32 ((hX l : Nat) : Int) 1 = ((hB l : Nat) : Int) := or32 (hX l) 1 (hX_lt l) (by decide)
theorem hash_l0 (l : List UInt8) (hz : l.length ≤ 140737488351232) (d : Nat) : ∀ i : Nat, i ≤ l.length → l.length - i = d →
    Ev (fun k => sieve_Hash.l0 k (S l) ((hA (l.take i) : Nat) : Int) ((hX (l.take i) : Nat) : Int) (l.length : Int) (i : Int)) (((hA l : Nat) : Int), ((hB l : Nat) : Int)) := by
  induction d with
  | zero =>
    intro i hi hd
    obtain rfl : i = l.length := by omega
    refine Ev.step (fun k => sieve_Hash.l0.eq_2 ..) (evF (by omega) (evEq (evSome _) ?_))
    rw [List.take_length, hB_fin]
  | succ d ih =>
    intro i hi hd
    refine Ev.step (fun k => sieve_Hash.l0.eq_2 ..) (evT (by omega) (evT (by omega) (evT (by rw [S_size]; omega) ?_)))
    rw [bt_S, Int.toNat_natCast, hstepA _ _ (hA_lt _), hstepB, ← hA_take l i (by omega), ← hX_take l i (by omega), w64 (by omega), show (i : Int) + 1 = ((i + 1 : Nat) : Int) by omega]
    exact ih (i + 1) (by omega) (by omega)
theorem hash_ev (l : List UInt8) (hz : l.length ≤ 140737488351232) : Ev (fun k => sieve_Hash.f k (S l)) (((hA l : Nat) : Int), ((hB l : Nat) : Int)) := by
  refine Ev.congr (fun k => sieve_Hash.f.eq_1 ..) ?_
  rw [S_size]
  exact hash_l0 l hz _ 0 (by omega) rfl
theorem rhash_l0 (l : List UInt8) (hz : l.length ≤ 140737488351232) (d : Nat) : ∀ i : Nat, i ≤ l.length → l.length - i = d →
    Ev (fun k => ravelinref6_Hash.l0 k (S l) ((hA (l.take i) : Nat) : Int) ((hX (l.take i) : Nat) : Int) (i : Int)) (((hA l : Nat) : Int), ((hB l : Nat) : Int)) := by
  induction d with
  | zero =>
    intro i hi hd
    obtain rfl : i = l.length := by omega
    refine Ev.step (fun k => ravelinref6_Hash.l0.eq_2 ..) (evF (by rw [S_size]; omega) (evEq (evSome _) ?_))
    rw [List.take_length, hB_fin]
  | succ d ih =>
    intro i hi hd
    refine Ev.step (fun k => ravelinref6_Hash.l0.eq_2 ..) (evT (by rw [S_size]; omega) (evT (by omega) ?_))
    rw [bt_S, Int.toNat_natCast, hstepA _ _ (hA_lt _), hstepB, ← hA_take l i (by omega), ← hX_take l i (by omega), w64 (by omega), show (i : Int) + 1 = ((i + 1 : Nat) : Int) by omega]
    exact ih (i + 1) (by omega) (by omega)
theorem rhash_ev (l : List UInt8) (hz : l.length ≤ 140737488351232) : Ev (fun k => ravelinref6_Hash.f k (S l)) (((hA l : Nat) : Int), ((hB l : Nat) : Int)) := by
  refine Ev.congr (fun k => ravelinref6_Hash.f.eq_1 ..) ?_
  exact rhash_l0 l hz _ 0 (by omega) rfl
theorem places_ev (l : List UInt8) (hz : l.length ≤ 140737488351232) (n : Nat) (h0 : 0 < n) (h1 : n ≤ 4611686018427387904) :
    Ev (fun k => sieve_places.f k (S l) (n : Int)) (((pos l n 0 : Nat) : Int), ((pos l n 1 : Nat) : Int), ((pos l n 2 : Nat) : Int), ((pos l n 3 : Nat) : Int)) := by
  have ha := hA_lt l
  have hb := hB_lt l
  refine Ev.congr (fun k => sieve_places.f.eq_1 ..) (evBind (hash_ev l hz) (evT ?_ (evEq (evSome _) ?_)))
  · simp only; omega
  · simp only [pos, Prod.mk.injEq]
    refine ⟨?_, ?_, ?_, ?_⟩
    all_goals
      rw [Int.natCast_emod]
      first | (congr 1; omega) | congr 1
/-- What the code asks of a place. -/
theorem place_of (p n : Nat) (h : p < 8 * n) (hn : n ≤ 140737488351232) : IntKind.u64.wrap (Int.tdiv (p : Int) 8) = ((p / 8 : Nat) : Int) ∧ Int.tmod (p : Int) 8 = ((p % 8 : Nat) : Int) := by
  constructor
  · rw [Int.tdiv_eq_ediv_of_nonneg (by omega), u64w (by omega)]; omega
  · rw [Int.tmod_eq_emod_of_nonneg (by omega)]; omega
theorem set_nm (m : List UInt8) (p : Nat) (h : p < 8 * m.length) :
    (nm m).set (((p / 8 : Nat) : Int)).toNat (Go.bits .or .u8 (rd (nm m) ((p / 8 : Nat) : Int)) (shl .u8 1 ((p % 8 : Nat) : Int))) = nm (setP m p) := by
  have hl := or_lt8 (m.getD (p / 8) 0) (p % 8) (by omega)
  rw [rd_nm, Int.toNat_natCast, shl1 _ (by omega), or8 _ _ (m.getD (p / 8) 0).toNat_lt (Nat.pow_lt_pow_right (by omega) (by omega))]
  unfold nm setP
  rw [List.map_set, UInt8.toNat_ofNat_of_lt' hl]
theorem bit_of (m : List UInt8) (p : Nat) : Go.bits .and .u8 (shr .u8 (bt (S m) ((p / 8 : Nat) : Int)) ((p % 8 : Nat) : Int)) 1 = if bit m p = true then 1 else 0 := by
  rw [bt_S, Int.toNat_natCast, one_bit _ _ (m.getD (p / 8) 0).toNat_lt (by omega)]
  rfl
/-! May -/
theorem may_ev (m key : List UInt8) (hm : m.length ≤ 1000000000000) (hk : key.length ≤ 140737488351232) : Ev (fun k => sieve_May.f k (S m) (S key)) (mayS m key) := by
  refine Ev.congr (fun k => sieve_May.f.eq_1 ..) ?_
  rw [S_toList, S_size]
  by_cases h0 : m = []
  · subst h0
    exact evT rfl (evSome _)
  · have hp : 0 < m.length := List.length_pos_iff.2 h0
    refine evF h0 ?_
    rw [w64 (by omega), show (8 * (m.length : Int)) = ((8 * m.length : Nat) : Int) by omega]
    refine evBind (places_ev key hk _ (by omega) (by omega)) ?_
    have b0 := pos_lt key (8 * m.length) 0 (by omega)
    have b1 := pos_lt key (8 * m.length) 1 (by omega)
    have b2 := pos_lt key (8 * m.length) 2 (by omega)
    have b3 := pos_lt key (8 * m.length) 3 (by omega)
    have he : m.isEmpty = false := by cases m with
      | nil => exact absurd rfl h0
      | cons => rfl
    unfold mayS
    rw [he, Bool.false_or]
    generalize pos key (8 * m.length) 0 = p0 at *
    generalize pos key (8 * m.length) 1 = p1 at *
    generalize pos key (8 * m.length) 2 = p2 at *
    generalize pos key (8 * m.length) 3 = p3 at *
    simp only
    obtain ⟨a0, c0⟩ := place_of p0 m.length b0 (by omega)
    obtain ⟨a1, c1⟩ := place_of p1 m.length b1 (by omega)
    obtain ⟨a2, c2⟩ := place_of p2 m.length b2 (by omega)
    obtain ⟨a3, c3⟩ := place_of p3 m.length b3 (by omega)
    rw [a0, a1, a2, a3, c0, c1, c2, c3, bit_of, bit_of, bit_of, bit_of]
    refine evT (by omega) (evT (by omega) (evT (by omega) ?_))
    cases bit m p0 with
    | false => exact evF (by simp) (evSome _)
    | true =>
      refine evT (by simp) (evT (by omega) (evT (by omega) (evT (by omega) ?_)))
      cases bit m p1 with
      | false => exact evF (by simp) (evSome _)
      | true =>
        refine evT (by simp) (evT (by omega) (evT (by omega) (evT (by omega) ?_)))
        cases bit m p2 with
        | false => exact evF (by simp) (evSome _)
        | true =>
          refine evT (by simp) (evT (by omega) (evT (by omega) (evT (by omega) ?_)))
          cases bit m p3 with
          | false => exact evF (by simp) (evSome _)
          | true => exact evT (by simp) (evSome _)
/-- A place of the reference's. -/
theorem rplace (key : List UInt8) (n j : Nat) (hj : j < 4) (h0 : 0 < n) (h1 : n ≤ 1000000000000) :
    Int.tmod (IntKind.u64.wrap ((IntKind.u64.wrap (((hA key : Nat) : Int))) + (IntKind.u64.wrap ((j : Int) * (IntKind.u64.wrap (((hB key : Nat) : Int))))))) (IntKind.u64.wrap (wrap64 (8 * (n : Int)))) = ((pos key (8 * n) j : Nat) : Int) ∧ ¬ IntKind.u64.wrap (wrap64 (8 * (n : Int))) = 0 := by
  have ha := hA_lt key
  have hb := hB_lt key
  have hjb : j * hB key ≤ 3 * hB key := Nat.mul_le_mul_right _ (by omega)
  have e : (j : Int) * ((hB key : Nat) : Int) = ((j * hB key : Nat) : Int) := by rw [Int.natCast_mul]
  rw [w64 (by omega), u64w (n := 8 * (n : Int)) (by omega), u64w (n := ((hB key : Nat) : Int)) (by omega), u64w (n := ((hA key : Nat) : Int)) (by omega), e, u64w (n := ((j * hB key : Nat) : Int)) (by omega), u64w (by omega)]
  refine ⟨?_, by omega⟩
  rw [Int.tmod_eq_emod_of_nonneg (by omega), pos, Int.natCast_emod, Int.natCast_add, Int.natCast_mul 8 n]
  rfl
theorem rmay_l0 (m key : List UInt8) (hm : m.length ≤ 1000000000000) (h0 : 0 < m.length) (d : Nat) : ∀ j : Nat, j ≤ 4 → 4 - j = d →
    Ev (fun k => ravelinref6_May.l0 k (S m) ((hA key : Nat) : Int) ((hB key : Nat) : Int) (j : Int)) ((List.range' j (4 - j)).all fun j => bit m (pos key (8 * m.length) j)) := by
  induction d with
  | zero =>
    intro j hj hd
    obtain rfl : j = 4 := by omega
    exact Ev.step (fun k => ravelinref6_May.l0.eq_2 ..) (evF (by omega) (Ev.step (fun k => ravelinref6_May.j1.eq_2 ..) (evF (by simp) (evSome _))))
  | succ d ih =>
    intro j hj hd
    have hr : List.range' j (4 - j) = j :: List.range' (j + 1) (4 - (j + 1)) := by
      rw [show 4 - j = (4 - (j + 1)) + 1 by omega, List.range'_succ]
    rw [hr, List.all_cons]
    obtain ⟨e1, e2⟩ := rplace key m.length j (by omega) h0 hm
    have hp := pos_lt key (8 * m.length) j (by omega)
    refine Ev.step (fun k => ravelinref6_May.l0.eq_2 ..) (evT (by omega) ?_)
    rw [S_size, decide_eq_true (by omega)]
    refine Ev.step (fun k => ravelinref6_May.j1.eq_2 ..) (evT rfl ?_)
    rw [S_size]
    refine evF e2 ?_
    rw [e1]
    generalize pos key (8 * m.length) j = p at *
    obtain ⟨a0, c0⟩ := place_of p m.length hp (by omega)
    rw [a0, c0, bit_of]
    refine evT (by omega) (evT (by omega) (evT (by omega) ?_))
    cases hb : bit m p with
    | false => exact evT (by simp) (evSome _)
    | true =>
      refine evF (by simp) ?_
      rw [u64w (n := (j : Int) + 1) (by omega), show (j : Int) + 1 = ((j + 1 : Nat) : Int) by omega, Bool.true_and]
      exact ih (j + 1) (by omega) (by omega)
theorem rmay_ev (m key : List UInt8) (hm : m.length ≤ 1000000000000) (hk : key.length ≤ 140737488351232) : Ev (fun k => ravelinref6_May.f k (S m) (S key)) (mayS m key) := by
  refine Ev.congr (fun k => ravelinref6_May.f.eq_1 ..) (evBind (rhash_ev key hk) ?_)
  by_cases h0 : m = []
  · subst h0
    refine Ev.step (fun k => ravelinref6_May.l0.eq_2 ..) (evT (by omega) ?_)
    exact Ev.step (fun k => ravelinref6_May.j1.eq_2 ..) (evF (by decide) (evSome _))
  · have hp : 0 < m.length := List.length_pos_iff.2 h0
    refine evEq (rmay_l0 m key hm hp _ 0 (by omega) rfl) ?_
    have he : m.isEmpty = false := by cases m with
      | nil => exact absurd rfl h0
      | cons => rfl
    unfold mayS
    rw [he]
    simp [List.range']
/-! Make -/
theorem rdOf_S (l : List (List UInt8)) (i : Nat) (h : i < l.length) : rdOf ByteArray.empty (l.map S) (i : Int) = S (l.getD i []) := by
  unfold rdOf
  simp [List.getD_eq_getElem?_getD, h]
theorem fill_take (m : List UInt8) (l : List (List UInt8)) (i : Nat) (h : i < l.length) : fillS m (l.take (i + 1)) = put4 (8 * m.length) (fillS m (l.take i)) (l.getD i []) := by
  rw [List.take_succ_eq_append_getElem h, fillS, List.foldl_append]
  have hl := fillS_len (l.take i) m
  unfold fillS at hl ⊢
  simp only [List.foldl_cons, List.foldl_nil]
  rw [hl]
  simp [List.getD_eq_getElem?_getD, List.getElem?_eq_getElem h]
theorem make_l0 (l : List (List UInt8)) (hl : l.length ≤ 1000000000) (hk : ∀ k ∈ l, k.length ≤ 140737488351232) (m : List UInt8) (h0 : 0 < m.length) (hm : m.length ≤ 1000000000000) (d : Nat) : ∀ i : Nat, i ≤ l.length → l.length - i = d →
    Ev (fun k => sieve_Make.l0 k ((8 * m.length : Nat) : Int) (nm (fillS m (l.take i))) (l.map S) (l.length : Int) (i : Int)) (S (fillS m l)) := by
  induction d with
  | zero =>
    intro i hi hd
    obtain rfl : i = l.length := by omega
    refine Ev.step (fun k => sieve_Make.l0.eq_2 ..) (evF (by omega) (evEq (evSome _) ?_))
    rw [List.take_length, strOf']
  | succ d ih =>
    intro i hi hd
    refine Ev.step (fun k => sieve_Make.l0.eq_2 ..) (evT (by omega) (evT (by omega) (evT (by rw [List.length_map]; omega) ?_)))
    rw [rdOf_S l i (by omega)]
    have hf := fillS_len (l.take i) m
    have hi2 : i < l.length := by omega
    have hkey : (l.getD i []).length ≤ 140737488351232 := by
      rw [List.getD_eq_getElem?_getD, List.getElem?_eq_getElem hi2]
      exact hk _ (List.getElem_mem hi2)
    refine evBind (places_ev _ hkey _ (by omega) (by omega)) ?_
    have hnext := fill_take m l i hi2
    generalize fillS m (l.take i) = x at *
    generalize l.getD i [] = key at *
    have b0 := pos_lt key (8 * m.length) 0 (by omega)
    have b1 := pos_lt key (8 * m.length) 1 (by omega)
    have b2 := pos_lt key (8 * m.length) 2 (by omega)
    have b3 := pos_lt key (8 * m.length) 3 (by omega)
    unfold put4 at hnext
    generalize pos key (8 * m.length) 0 = p0 at *
    generalize pos key (8 * m.length) 1 = p1 at *
    generalize pos key (8 * m.length) 2 = p2 at *
    generalize pos key (8 * m.length) 3 = p3 at *
    simp only
    obtain ⟨a0, c0⟩ := place_of p0 m.length b0 (by omega)
    obtain ⟨a1, c1⟩ := place_of p1 m.length b1 (by omega)
    obtain ⟨a2, c2⟩ := place_of p2 m.length b2 (by omega)
    obtain ⟨a3, c3⟩ := place_of p3 m.length b3 (by omega)
    rw [a0, a1, a2, a3, c0, c1, c2, c3]
    rw [nm_length, hf]
    refine evT (by omega) (evT (by omega) (evT (by omega) (evConst rfl ?_)))
    rw [set_nm x p0 (by omega)]
    refine evT (by omega) (evT (by omega) (evT (by omega) (evConst rfl ?_)))
    rw [set_nm _ p1 (by rw [setP_len]; omega)]
    refine evT (by omega) (evT (by omega) (evT (by omega) (evConst rfl ?_)))
    rw [set_nm _ p2 (by rw [setP_len, setP_len]; omega)]
    refine evT (by omega) (evT (by omega) (evT (by omega) ?_))
    rw [set_nm _ p3 (by rw [setP_len, setP_len, setP_len]; omega), ← hnext, w64 (by omega), show (i : Int) + 1 = ((i + 1 : Nat) : Int) by omega]
    exact ih (i + 1) (by omega) (by omega)
theorem rep_nm (n : Nat) : (List.replicate n (0 : Int)) = nm (List.replicate n 0) := by simp [nm]
theorem make_ev (l : List (List UInt8)) (hl : l.length ≤ 1000000000) (hk : ∀ k ∈ l, k.length ≤ 140737488351232) : Ev (fun k => sieve_Make.f k (l.map S)) (S (makeS l)) := by
  refine Ev.congr (fun k => sieve_Make.f.eq_1 ..) ?_
  rw [List.length_map]
  have e : mx (wrap64 (8 * (l.length : Int))) 64 = ((8 * (max 8 l.length) : Nat) : Int) := by
    rw [w64 (by omega)]; unfold mx; split <;> omega
  have e2 : wrap64 (Int.tdiv ((8 * (max 8 l.length) : Nat) : Int) 8) = ((max 8 l.length : Nat) : Int) := by
    rw [Int.tdiv_eq_ediv_of_nonneg (by omega), w64 (by omega)]; omega
  rw [e, e2, Int.toNat_natCast, rep_nm]
  refine evT (by omega) (evT (by omega) ?_)
  have := make_l0 l hl hk (List.replicate (max 8 l.length) 0) (by rw [List.length_replicate]; omega) (by rw [List.length_replicate]; omega) _ 0 (by omega) rfl
  rw [List.length_replicate] at this
  exact this
/-- So far: keys ahead of this one, and places ahead of this one. -/
def putN (n : Nat) (m key : List UInt8) : Nat → List UInt8
  | 0 => m
  | j + 1 => setP (putN n m key j) (pos key n j)
theorem putN_len (n : Nat) (m key : List UInt8) : ∀ j, (putN n m key j).length = m.length
  | 0 => rfl
  | j + 1 => by rw [putN, setP_len, putN_len n m key j]
theorem rsieve_l1 (l : List (List UInt8)) (hl : l.length ≤ 1000000000) (m key : List UInt8) (h0 : 0 < m.length) (hm : m.length ≤ 1000000000000) (i : Nat) {r : ByteArray}
    (E : Ev (fun k => ravelinref6_Sieve.l0 k (l.map S) (nm (put4 (8 * m.length) m key)) (wrap64 ((i : Int) + 1))) r) (d : Nat) : ∀ j : Nat, j ≤ 4 → 4 - j = d →
    Ev (fun k => ravelinref6_Sieve.l1 k (l.map S) (nm (putN (8 * m.length) m key j)) (i : Int) ((hA key : Nat) : Int) ((hB key : Nat) : Int) (j : Int)) r := by
  induction d with
  | zero =>
    intro j hj hd
    obtain rfl : j = 4 := by omega
    exact Ev.step (fun k => ravelinref6_Sieve.l1.eq_2 ..) (evF (by omega) E)
  | succ d ih =>
    intro j hj hd
    have hn := putN_len (8 * m.length) m key j
    obtain ⟨e1, e2⟩ := rplace key m.length j (by omega) h0 hm
    have hp := pos_lt key (8 * m.length) j (by omega)
    refine Ev.step (fun k => ravelinref6_Sieve.l1.eq_2 ..) (evT (by omega) ?_)
    rw [nm_length, hn]
    refine evF e2 ?_
    rw [e1]
    have hstep : putN (8 * m.length) m key (j + 1) = setP (putN (8 * m.length) m key j) (pos key (8 * m.length) j) := rfl
    have hi := ih (j + 1) (by omega) (by omega)
    rw [hstep] at hi
    generalize pos key (8 * m.length) j = p at *
    generalize putN (8 * m.length) m key j = x at *
    obtain ⟨a0, c0⟩ := place_of p m.length hp (by omega)
    rw [a0, c0]
    refine evT (by omega) (evT (by omega) (evT (by omega) ?_))
    rw [set_nm x p (by omega), u64w (n := (j : Int) + 1) (by omega), show (j : Int) + 1 = ((j + 1 : Nat) : Int) by omega]
    exact hi
theorem rsieve_l0 (l : List (List UInt8)) (hl : l.length ≤ 1000000000) (hk : ∀ k ∈ l, k.length ≤ 140737488351232) (m : List UInt8) (h0 : 0 < m.length) (hm : m.length ≤ 1000000000000) (d : Nat) : ∀ i : Nat, i ≤ l.length → l.length - i = d →
    Ev (fun k => ravelinref6_Sieve.l0 k (l.map S) (nm (fillS m (l.take i))) (i : Int)) (S (fillS m l)) := by
  induction d with
  | zero =>
    intro i hi hd
    obtain rfl : i = l.length := by omega
    refine Ev.step (fun k => ravelinref6_Sieve.l0.eq_2 ..) (evF (by rw [List.length_map]; omega) (evEq (evSome _) ?_))
    rw [List.take_length, strOf']
  | succ d ih =>
    intro i hi hd
    refine Ev.step (fun k => ravelinref6_Sieve.l0.eq_2 ..) (evT (by rw [List.length_map]; omega) (evT (by omega) ?_))
    rw [rdOf_S l i (by omega)]
    have hf := fillS_len (l.take i) m
    have hi2 : i < l.length := by omega
    have hkey : (l.getD i []).length ≤ 140737488351232 := by
      rw [List.getD_eq_getElem?_getD, List.getElem?_eq_getElem hi2]
      exact hk _ (List.getElem_mem hi2)
    refine evBind (rhash_ev _ hkey) ?_
    have hnext := fill_take m l i hi2
    have hgo := ih (i + 1) (by omega) (by omega)
    rw [hnext, ← hf] at hgo
    refine rsieve_l1 l hl (fillS m (l.take i)) (l.getD i []) (by omega) (by omega) i ?_ _ 0 (by omega) rfl
    rw [w64 (by omega), show (i : Int) + 1 = ((i + 1 : Nat) : Int) by omega]
    exact hgo
theorem rsieve_ev (l : List (List UInt8)) (hl : l.length ≤ 1000000000) (hk : ∀ k ∈ l, k.length ≤ 140737488351232) : Ev (fun k => ravelinref6_Sieve.f k (l.map S)) (S (makeS l)) := by
  refine Ev.congr (fun k => ravelinref6_Sieve.f.eq_1 ..) ?_
  rw [List.length_map]
  have e : mx 8 (l.length : Int) = ((max 8 l.length : Nat) : Int) := by unfold mx; split <;> omega
  rw [e, Int.toNat_natCast, rep_nm]
  exact evT (by omega) (evT (by omega) (rsieve_l0 l hl hk (List.replicate (max 8 l.length) 0) (by rw [List.length_replicate]; omega) (by rw [List.length_replicate]; omega) _ 0 (by omega) rfl))
end Go.Proofs.Ytcnlhpakiadipaa.Q
