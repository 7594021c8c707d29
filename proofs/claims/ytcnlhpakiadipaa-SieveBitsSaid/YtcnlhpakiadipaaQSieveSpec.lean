import Derived.Test.YtcnlhpakiadipaaQBase
import Derived.Laws.BitsLemmas
namespace Go.Proofs.Ytcnlhpakiadipaa.P
end Go.Proofs.Ytcnlhpakiadipaa.P
namespace Go.Proofs.Ytcnlhpakiadipaa.Q
end Go.Proofs.Ytcnlhpakiadipaa.Q
namespace Go.Proofs.Ytcnlhpakiadipaa.Q
open Go.RowKit Go.Proofs.Ytcnlhpakiadipaa.P Go.Proofs.YtcnlhpakiadipaaW.PrintWords Go.Proofs.YtcnlhpakiadipaaW.PrintLast Go.Proofs.YtcnlhpakiadipaaW.PrintMore
set_option linter.unusedVariables false
set_option linter.unusedSimpArgs false

/-! A key's two numbers -/
def hA (l : List UInt8) : Nat := l.foldl (fun a c => ((a * 33) % 4294967296 + c.toNat) % 4294967296) 5381
def hX (l : List UInt8) : Nat := l.foldl (fun b c => ((b * 31) % 4294967296) ^^^ c.toNat) 52711
def hB (l : List UInt8) : Nat := hX l ||| 1
theorem hA_lt (l : List UInt8) : hA l < 4294967296 := by
  rcases List.eq_nil_or_concat l with rfl | ⟨t, b, rfl⟩
  · decide
  · simp only [hA, List.concat_eq_append, List.foldl_append, List.foldl_cons, List.foldl_nil]
    exact Nat.mod_lt _ (by omega)
theorem byte_lt32 (c : UInt8) : c.toNat < 2 ^ 32 := by have := c.toNat_lt; omega
theorem hX_lt (l : List UInt8) : hX l < 2 ^ 32 := by
  rcases List.eq_nil_or_concat l with rfl | ⟨t, b, rfl⟩
  · decide
  · simp only [hX, List.concat_eq_append, List.foldl_append, List.foldl_cons, List.foldl_nil]
    exact Nat.xor_lt_two_pow (Nat.mod_lt _ (by omega)) (byte_lt32 b)
theorem hB_lt (l : List UInt8) : hB l < 4294967296 := Nat.or_lt_two_pow (n := 32) (hX_lt l) (by decide)
/-! Bits -/
theorem wraps_u32 (n : Int) (h₀ : 0 ≤ n) (h₁ : n < 2 ^ 32) : IntKind.u32.wrap n = n := by rw [IntKind.wrap_u32]; omega
theorem xor32 (a b : Nat) (ha : a < 2 ^ 32) (hb : b < 2 ^ 32) : Go.bits .xor .u32 (a : Int) (b : Int) = ((a ^^^ b : Nat) : Int) := by
  have h3 : a ^^^ b < 2 ^ 32 := Nat.xor_lt_two_pow ha hb
  have ha' : a % 2 ^ IntKind.u32.bits = a := Nat.mod_eq_of_lt ha
  have hb' : b % 2 ^ IntKind.u32.bits = b := Nat.mod_eq_of_lt hb
  simp only [Go.bits, BitVec.ofInt_natCast, BitVec.toNat_xor, BitVec.toNat_ofNat, ha', hb']
  exact wraps_u32 _ (Int.natCast_nonneg _) (by exact_mod_cast h3)
theorem or32 (a b : Nat) (ha : a < 2 ^ 32) (hb : b < 2 ^ 32) : Go.bits .or .u32 (a : Int) (b : Int) = ((a ||| b : Nat) : Int) :=
  (bits_nat .u32 32 (by decide) wraps_u32 a b ha hb).2
theorem or8 (a b : Nat) (ha : a < 2 ^ 8) (hb : b < 2 ^ 8) : Go.bits .or .u8 (a : Int) (b : Int) = ((a ||| b : Nat) : Int) :=
  (bits_nat .u8 8 (by decide) wraps_u8 a b ha hb).2
theorem and8 (a b : Nat) (ha : a < 2 ^ 8) (hb : b < 2 ^ 8) : Go.bits .and .u8 (a : Int) (b : Int) = ((a &&& b : Nat) : Int) :=
  (bits_nat .u8 8 (by decide) wraps_u8 a b ha hb).1
theorem shl1 (n : Nat) (h : n < 8) : shl .u8 1 (n : Int) = ((2 ^ n : Nat) : Int) := by
  have h2 : (2 : Nat) ^ n < 2 ^ 8 := Nat.pow_lt_pow_right (by omega) h
  unfold shl
  rw [Int.toNat_natCast, show IntKind.u8.bits = 8 from rfl, Nat.min_eq_left (by omega), IntKind.wrap_u8, Int.one_mul]
  have : ((2 : Int) ^ n) = ((2 ^ n : Nat) : Int) := by simp
  rw [this]
  exact Int.emod_eq_of_lt (Int.natCast_nonneg _) (Int.ofNat_lt.2 h2)
theorem shr8 (a n : Nat) (h : n < 8) : shr .u8 (a : Int) (n : Int) = ((a / 2 ^ n : Nat) : Int) := by
  unfold shr
  rw [Int.toNat_natCast, show IntKind.u8.bits = 8 from rfl, Nat.min_eq_left (by omega)]
  simp
theorem one_bit (a n : Nat) (ha : a < 2 ^ 8) (h : n < 8) : Go.bits .and .u8 (shr .u8 (a : Int) (n : Int)) 1 = if a.testBit n = true then 1 else 0 := by
  have h2 : a / 2 ^ n < 2 ^ 8 := Nat.lt_of_le_of_lt (Nat.div_le_self _ _) ha
  rw [shr8 a n h]
  have := and8 (a / 2 ^ n) 1 h2 (by decide)
  rw [show (1 : Int) = ((1 : Nat) : Int) from rfl, this, Nat.and_one_is_mod, Nat.testBit_eq_decide_div_mod_eq]
  have h3 : a / 2 ^ n % 2 = 0 ∨ a / 2 ^ n % 2 = 1 := by omega
  rcases h3 with h3 | h3 <;> simp [h3]
/-- Bit p of bytes. -/
def bit (m : List UInt8) (p : Nat) : Bool := ((m.getD (p / 8) 0).toNat).testBit (p % 8)
def setP (m : List UInt8) (p : Nat) : List UInt8 := m.set (p / 8) (UInt8.ofNat ((m.getD (p / 8) 0).toNat ||| 2 ^ (p % 8)))
theorem or_lt8 (a : UInt8) (n : Nat) (h : n < 8) : a.toNat ||| 2 ^ n < 2 ^ 8 := Nat.or_lt_two_pow a.toNat_lt (Nat.pow_lt_pow_right (by omega) h)
theorem setP_len (m : List UInt8) (p : Nat) : (setP m p).length = m.length := by simp [setP]
theorem bit_setP (m : List UInt8) (p q : Nat) (hp : p < 8 * m.length) : bit (setP m p) q = (decide (q = p) || bit m q) := by
  have hi : p / 8 < m.length := by omega
  unfold bit setP
  by_cases h : q / 8 = p / 8
  · have e : (m.set (p / 8) (UInt8.ofNat ((m.getD (p / 8) 0).toNat ||| 2 ^ (p % 8)))).getD (q / 8) 0 = UInt8.ofNat ((m.getD (p / 8) 0).toNat ||| 2 ^ (p % 8)) := by
      rw [h]; simp [List.getD_eq_getElem?_getD, hi]
    have hl := or_lt8 (m.getD (p / 8) 0) (p % 8) (by omega)
    rw [e, UInt8.toNat_ofNat_of_lt' hl, Nat.testBit_or, Nat.testBit_two_pow, h, Bool.or_comm]
    congr 1
    rw [decide_eq_decide]
    omega
  · have e : (m.set (p / 8) (UInt8.ofNat ((m.getD (p / 8) 0).toNat ||| 2 ^ (p % 8)))).getD (q / 8) 0 = m.getD (q / 8) 0 := by
      simp [List.getD_eq_getElem?_getD, List.getElem?_set_ne (Ne.symm h)]
    rw [e, decide_eq_false (fun hq => h (by rw [hq])), Bool.false_or]
theorem byte_ext {a b : UInt8} (h : ∀ j, j < 8 → a.toNat.testBit j = b.toNat.testBit j) : a = b := by
  apply UInt8.toNat_inj.1
  apply Nat.eq_of_testBit_eq
  intro i
  rcases Nat.lt_or_ge i 8 with h1 | h1
  · exact h i h1
  · have e : (2 : Nat) ^ 8 ≤ 2 ^ i := Nat.pow_le_pow_right (by omega) h1
    rw [Nat.testBit_lt_two_pow (Nat.lt_of_lt_of_le a.toNat_lt e), Nat.testBit_lt_two_pow (Nat.lt_of_lt_of_le b.toNat_lt e)]
theorem bits_ext {a b : List UInt8} (hl : a.length = b.length) (h : ∀ q, q < 8 * a.length → bit a q = bit b q) : a = b := by
  apply List.ext_getElem hl
  intro i h1 h2
  apply byte_ext
  intro j hj
  have := h (8 * i + j) (by omega)
  unfold bit at this
  rw [show (8 * i + j) / 8 = i by omega, show (8 * i + j) % 8 = j by omega] at this
  simpa [List.getD_eq_getElem?_getD, h1, h2] using this
/-! Places, sieves -/
def pos (key : List UInt8) (n j : Nat) : Nat := (hA key + j * hB key) % n
def put4 (n : Nat) (m : List UInt8) (key : List UInt8) : List UInt8 := setP (setP (setP (setP m (pos key n 0)) (pos key n 1)) (pos key n 2)) (pos key n 3)
theorem pos_lt (key : List UInt8) (n j : Nat) (h : 0 < n) : pos key n j < n := Nat.mod_lt _ h
theorem put4_len (n : Nat) (m : List UInt8) (key : List UInt8) : (put4 n m key).length = m.length := by simp [put4, setP_len]
def isPos (n : Nat) (key : List UInt8) (q : Nat) : Bool := decide (q = pos key n 0) || decide (q = pos key n 1) || decide (q = pos key n 2) || decide (q = pos key n 3)
theorem bit_put4 (m : List UInt8) (key : List UInt8) (q : Nat) (h : 0 < m.length) : bit (put4 (8 * m.length) m key) q = (isPos (8 * m.length) key q || bit m q) := by
  have p0 := pos_lt key (8 * m.length) 0 (by omega)
  have p1 := pos_lt key (8 * m.length) 1 (by omega)
  have p2 := pos_lt key (8 * m.length) 2 (by omega)
  have p3 := pos_lt key (8 * m.length) 3 (by omega)
  unfold put4 isPos
  rw [bit_setP _ _ _ (by simp only [setP_len]; exact p3), bit_setP _ _ _ (by simp only [setP_len]; exact p2), bit_setP _ _ _ (by simp only [setP_len]; exact p1), bit_setP _ _ _ p0]
  cases decide (q = pos key (8 * m.length) 0) <;> cases decide (q = pos key (8 * m.length) 1) <;> cases decide (q = pos key (8 * m.length) 2) <;> cases decide (q = pos key (8 * m.length) 3) <;> cases bit m q <;> rfl
def fillS (m : List UInt8) (l : List (List UInt8)) : List UInt8 := l.foldl (fun m key => put4 (8 * m.length) m key) m
def makeS (l : List (List UInt8)) : List UInt8 := fillS (List.replicate (max 8 l.length) 0) l
theorem fillS_len (l : List (List UInt8)) : ∀ m : List UInt8, (fillS m l).length = m.length := by
  induction l with
  | nil => intro m; rfl
  | cons k l ih => intro m; show (fillS (put4 (8 * m.length) m k) l).length = _; rw [ih, put4_len]
theorem makeS_len (l : List (List UInt8)) : (makeS l).length = max 8 l.length := by rw [makeS, fillS_len, List.length_replicate]
theorem bit_fillS (l : List (List UInt8)) (q : Nat) : ∀ m : List UInt8, 0 < m.length → bit (fillS m l) q = (l.any (fun k => isPos (8 * m.length) k q) || bit m q) := by
  induction l with
  | nil => intro m _; simp [fillS]
  | cons k l ih =>
    intro m h
    show bit (fillS (put4 (8 * m.length) m k) l) q = _
    rw [ih _ (by rw [put4_len]; exact h), put4_len, bit_put4 m k q h, List.any_cons]
    cases isPos (8 * m.length) k q <;> cases l.any (fun k => isPos (8 * m.length) k q) <;> simp
theorem bit_zero (n q : Nat) : bit (List.replicate n 0) q = false := by
  unfold bit
  have : (List.replicate n (0 : UInt8)).getD (q / 8) 0 = 0 := by
    rw [List.getD_eq_getElem?_getD, List.getElem?_replicate]
    split <;> rfl
  rw [this]
  simp
theorem bit_makeS (l : List (List UInt8)) (q : Nat) : bit (makeS l) q = l.any (fun k => isPos (8 * (max 8 l.length)) k q) := by
  rw [makeS, bit_fillS l q _ (by rw [List.length_replicate]; omega), bit_zero, Bool.or_false, List.length_replicate]
def mayS (m key : List UInt8) : Bool := m.isEmpty || (bit m (pos key (8 * m.length) 0) && (bit m (pos key (8 * m.length) 1) && (bit m (pos key (8 * m.length) 2) && bit m (pos key (8 * m.length) 3))))
theorem may_make {l : List (List UInt8)} {key : List UInt8} (h : key ∈ l) : mayS (makeS l) key = true := by
  unfold mayS
  rw [makeS_len, bit_makeS, bit_makeS, bit_makeS, bit_makeS]
  have a : ∀ q, isPos (8 * max 8 l.length) key q = true → l.any (fun k => isPos (8 * max 8 l.length) k q) = true := fun q hq => List.any_eq_true.2 ⟨key, h, hq⟩
  rw [a _ (by simp [isPos]), a _ (by simp [isPos]), a _ (by simp [isPos]), a _ (by simp [isPos])]
  simp
/-! How many bits -/
def countS (m : List UInt8) : Nat := (List.range (8 * m.length)).countP (bit m)
theorem countP_or {α : Type} (p f : α → Bool) (L : List α) : L.countP (fun q => p q || f q) ≤ L.countP p + L.countP f := by
  induction L with
  | nil => simp
  | cons x L ih =>
    simp only [List.countP_cons]
    cases p x <;> cases f x <;> simp <;> omega
theorem countP_one (n p : Nat) : (List.range n).countP (fun q => decide (q = p)) ≤ 1 := by
  induction n with
  | zero => simp
  | succ n ih =>
    rw [List.range_succ, List.countP_append, List.countP_cons, List.countP_nil]
    by_cases h : n = p
    · subst h
      have : (List.range n).countP (fun q => decide (q = n)) = 0 := by
        rw [List.countP_eq_zero]
        intro a ha
        have := List.mem_range.1 ha
        simp; omega
      rw [this]; simp
    · simp [h]; exact ih
theorem count_setP (m : List UInt8) (p : Nat) (hp : p < 8 * m.length) : countS (setP m p) ≤ countS m + 1 := by
  unfold countS
  rw [setP_len]
  have e : (List.range (8 * m.length)).countP (bit (setP m p)) = (List.range (8 * m.length)).countP (fun q => decide (q = p) || bit m q) := by
    congr 1
    funext q
    exact bit_setP m p q hp
  rw [e]
  have h1 := countP_or (fun q => decide (q = p)) (bit m) (List.range (8 * m.length))
  have h2 := countP_one (8 * m.length) p
  omega
theorem count_put4 (m key : List UInt8) (h : 0 < m.length) : countS (put4 (8 * m.length) m key) ≤ countS m + 4 := by
  have p0 := pos_lt key (8 * m.length) 0 (by omega)
  have p1 := pos_lt key (8 * m.length) 1 (by omega)
  have p2 := pos_lt key (8 * m.length) 2 (by omega)
  have p3 := pos_lt key (8 * m.length) 3 (by omega)
  unfold put4
  have c0 := count_setP m (pos key (8 * m.length) 0) p0
  have c1 := count_setP (setP m (pos key (8 * m.length) 0)) (pos key (8 * m.length) 1) (by simp only [setP_len]; exact p1)
  have c2 := count_setP (setP (setP m (pos key (8 * m.length) 0)) (pos key (8 * m.length) 1)) (pos key (8 * m.length) 2) (by simp only [setP_len]; exact p2)
  have c3 := count_setP (setP (setP (setP m (pos key (8 * m.length) 0)) (pos key (8 * m.length) 1)) (pos key (8 * m.length) 2)) (pos key (8 * m.length) 3) (by simp only [setP_len]; exact p3)
  omega
theorem count_fillS (l : List (List UInt8)) : ∀ m : List UInt8, 0 < m.length → countS (fillS m l) ≤ countS m + 4 * l.length := by
  induction l with
  | nil => intro m _; simp [fillS]
  | cons k l ih =>
    intro m h
    have h1 := ih (put4 (8 * m.length) m k) (by rw [put4_len]; exact h)
    have h2 := count_put4 m k h
    show countS (fillS (put4 (8 * m.length) m k) l) ≤ _
    rw [List.length_cons]
    omega
theorem count_makeS (l : List (List UInt8)) : countS (makeS l) ≤ 4 * l.length := by
  have h := count_fillS l (List.replicate (max 8 l.length) 0) (by rw [List.length_replicate]; omega)
  have z : countS (List.replicate (max 8 l.length) (0 : UInt8)) = 0 := by
    unfold countS
    rw [List.countP_eq_zero]
    intro a _
    rw [bit_zero]; simp
  rw [makeS]
  omega
theorem count_pos {l : List (List UInt8)} (h : l ≠ []) : 0 < countS (makeS l) := by
  cases l with
  | nil => exact absurd rfl h
  | cons k l =>
    unfold countS
    rw [List.countP_pos_iff, makeS_len]
    refine ⟨pos k (8 * max 8 (k :: l).length) 0, List.mem_range.2 (pos_lt _ _ _ (by omega)), ?_⟩
    rw [bit_makeS, List.any_cons]
    simp [isPos]
theorem make_perm {a b : List (List UInt8)} (hl : a.length = b.length) (h : ∀ k, k ∈ a ↔ k ∈ b) : makeS a = makeS b := by
  apply bits_ext
  · rw [makeS_len, makeS_len, hl]
  · intro q _
    rw [bit_makeS, bit_makeS, hl]
    rw [Bool.eq_iff_iff, List.any_eq_true, List.any_eq_true]
    constructor
    · rintro ⟨k, hk, hp⟩; exact ⟨k, (h k).1 hk, hp⟩
    · rintro ⟨k, hk, hp⟩; exact ⟨k, (h k).2 hk, hp⟩
end Go.Proofs.Ytcnlhpakiadipaa.Q
