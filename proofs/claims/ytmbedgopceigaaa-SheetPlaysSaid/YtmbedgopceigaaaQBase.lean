import Derived.Test.YtmbedgopceigaaaWWords
import Derived.Lib.Bytes
namespace Go.Proofs.Ytmbedgopceigaaa.P
end Go.Proofs.Ytmbedgopceigaaa.P
namespace Go.Proofs.Ytmbedgopceigaaa.Q
end Go.Proofs.Ytmbedgopceigaaa.Q
namespace Go.Proofs.Ytmbedgopceigaaa.Q
open Go.RowKit Go.Proofs.Ytmbedgopceigaaa.P Go.Proofs.YtmbedgopceigaaaW.PrintWords Go.Proofs.YtmbedgopceigaaaW.PrintLast Go.Proofs.YtmbedgopceigaaaW.PrintMore
set_option linter.unusedVariables false
set_option linter.unusedSimpArgs false

/-! Numbers and rounds -/
theorem w64 {n : Int} (h : -9223372036854775808 ≤ n ∧ n ≤ 9223372036854775807) : wrap64 n = n := by unfold wrap64; omega
theorem u64w {n : Int} (h : 0 ≤ n ∧ n < 18446744073709551616) : IntKind.u64.wrap n = n := by
  unfold IntKind.wrap
  simp only [IntKind.bits, IntKind.signed]
  simp
  omega
theorem u32w {n : Int} (h : 0 ≤ n ∧ n < 4294967296) : IntKind.u32.wrap n = n := by
  unfold IntKind.wrap
  simp only [IntKind.bits, IntKind.signed]
  simp
  omega
theorem evSome {α : Type} (r : α) : Ev (fun _ => some r) r := Ev.now r
theorem evT {α : Type} {c : Prop} [Decidable c] {A B : Nat → Option α} {r : α} (h : c) (E : Ev A r) : Ev (fun k => if c then A k else B k) r :=
  Ev.congr (fun _ => if_pos h) E
theorem evF {α : Type} {c : Prop} [Decidable c] {A B : Nat → Option α} {r : α} (h : ¬ c) (E : Ev B r) : Ev (fun k => if c then A k else B k) r :=
  Ev.congr (fun _ => if_neg h) E
theorem evIte {α : Type} {c : Prop} [Decidable c] {A B : Nat → Option α} {r s : α} (hA : c → Ev A r) (hB : ¬ c → Ev B s) : Ev (fun k => if c then A k else B k) (if c then r else s) := by
  by_cases h : c
  · rw [if_pos h]; exact evT h (hA h)
  · rw [if_neg h]; exact evF h (hB h)
theorem evEq {α : Type} {A : Nat → Option α} {r s : α} (E : Ev A r) (h : r = s) : Ev A s := h ▸ E
theorem evUniq {α : Type} {A : Nat → Option α} {r s : α} (E : Ev A r) (F : Ev A s) : r = s := by
  obtain ⟨K, hK⟩ := E
  obtain ⟨L, hL⟩ := F
  have h1 := hK (max K L) (by omega)
  have h2 := hL (max K L) (by omega)
  rw [h1] at h2
  exact Option.some.inj h2
theorem evConst {α β : Type} {a : α} {o : Option α} {f : Nat → α → Option β} {r : β} (h : o = some a) (k : Ev (fun n => f n a) r) : Ev (fun n => o.bind (f n)) r := by
  subst h; exact k
theorem evBind {α β : Type} {g : Nat → Option α} {f : Nat → α → Option β} {a : α} {r : β} (h : Ev g a) (k : Ev (fun n => f n a) r) : Ev (fun n => (g n).bind (f n)) r := Ev.bind h k

theorem wf_i64 {n : Int} (h : (Lit.int .i64 n).wf = true) : -9223372036854775808 ≤ n ∧ n < 9223372036854775808 := by
  simp only [Lit.wf, IntKind.min, IntKind.max, IntKind.signed, IntKind.bits, Bool.and_eq_true, decide_eq_true_eq, if_true] at h
  omega
theorem wf_u8 {n : Int} (h : (Lit.int .u8 n).wf = true) : 0 ≤ n ∧ n ≤ 255 := by
  simp only [Lit.wf, IntKind.min, IntKind.max, IntKind.signed, IntKind.bits, Bool.and_eq_true, decide_eq_true_eq] at h
  simpa using h
/-! Texts as lists of bytes -/
def S (l : List UInt8) : ByteArray := ⟨l.toArray⟩
theorem S_data (l : List UInt8) : (S l).data.toList = l := rfl
theorem S_of (s : ByteArray) : S s.data.toList = s := by cases s; simp [S]
theorem toL (s : ByteArray) : s.toList = s.data.toList := ByteArray.toList_eq s
theorem S_toList (l : List UInt8) : (S l).toList = l := by rw [toL]; rfl
theorem S_append (a b : List UInt8) : S a ++ S b = S (a ++ b) := by
  apply ByteArray.ext; simp [S]
theorem S_size (l : List UInt8) : (S l).size = l.length := by simp [S, ByteArray.size]
theorem size_data (s : ByteArray) : s.size = s.data.toList.length := by rw [Array.length_toList]; rfl
theorem S_inj {a b : List UInt8} (h : S a = S b) : a = b := by have := congrArg (fun s : ByteArray => s.data.toList) h; exact this
theorem S_extract (l : List UInt8) (a b : Nat) : (S l).extract a b = S ((l.drop a).take (b - a)) := by
  apply ByteArray.ext
  apply Array.toList_inj.1
  simp [S]
theorem bt_S (l : List UInt8) (i : Int) : bt (S l) i = ((l.getD i.toNat 0).toNat : Int) := by
  unfold bt
  by_cases h : i.toNat < l.length
  · rw [dif_pos (by rw [S_size]; exact h)]
    simp only [List.getD_eq_getElem?_getD, List.getElem?_eq_getElem h, Option.getD_some]
    rfl
  · rw [dif_neg (by rw [S_size]; exact h)]; simp [List.getD_eq_getElem?_getD, List.getElem?_eq_none (Nat.le_of_not_lt h)]
theorem strOf (l : List UInt8) : strOfNums (l.map fun b => (b.toNat : Int)) = S l := by
  apply ByteArray.ext
  apply Array.toList_inj.1
  rw [strOfNums_data]
  simp [S, List.map_map, Function.comp_def]
def nm (l : List UInt8) : List Int := l.map fun b => (b.toNat : Int)
theorem nm_append (a b : List UInt8) : nm (a ++ b) = nm a ++ nm b := by simp [nm]
theorem nm_length (a : List UInt8) : (nm a).length = a.length := by simp [nm]
theorem strOf' (l : List UInt8) : strOfNums (nm l) = S l := strOf l
theorem rd_nm (l : List UInt8) (i : Int) : rd (nm l) i = ((l.getD i.toNat 0).toNat : Int) := by
  unfold rd nm
  simp only [List.getD_eq_getElem?_getD, List.getElem?_map]
  cases l[i.toNat]? <;> simp
theorem byte_mod (n : Nat) : ((n : Int) % 256) = ((UInt8.ofNat n).toNat : Int) := by simp
end Go.Proofs.Ytmbedgopceigaaa.Q
