import Derived.Test.YtmbedgopceigaaaQTabS
import Derived.Test.YtmbedgopceigaaaQBase
import Derived.Test.YtmbedgopceigaaaQOrder
namespace Go.Proofs.Ytmbedgopceigaaa.Q
open Go.RowKit Go.Lib Go.Proofs Go.Proofs.Ytmbedgopceigaaa.P Go.Proofs.YtmbedgopceigaaaW.PrintWords Go.Proofs.YtmbedgopceigaaaW.PrintLast Go.Proofs.YtmbedgopceigaaaW.PrintMore
set_option linter.unusedVariables false
set_option linter.unusedSimpArgs false
/-! Texts of one byte -/
def B1 (n : Nat) : ByteArray := S [UInt8.ofNat n]
theorem b1_less {m n : Nat} (hm : m < 256) (hn : n < 256) : Op.bytesLess (B1 m).data.toList (B1 n).data.toList = decide (m < n) := by
  show Op.bytesLess [UInt8.ofNat m] [UInt8.ofNat n] = _
  simp only [Op.bytesLess]
  by_cases h : m < n
  · have h1 : UInt8.ofNat m < UInt8.ofNat n := by rw [UInt8.lt_iff_toNat_lt]; simp; omega
    simp [h, h1]
  · have h1 : ¬ UInt8.ofNat m < UInt8.ofNat n := by rw [UInt8.lt_iff_toNat_lt]; simp; omega
    simp [h, h1]
theorem b1_key (n : Nat) : keyB (B1 n) = true := by
  unfold keyB B1
  rw [S_size]; rfl
theorem b1_size (n : Nat) : (B1 n).size = 1 := S_size _
theorem u8w1 {n : Int} (h : 0 ≤ n ∧ n < 256) : IntKind.u8.wrap n = n := by
  unfold IntKind.wrap
  simp only [IntKind.bits, IntKind.signed]
  simp
  omega
theorem b1_str (b : Nat) (hb : b < 256) : strOfNums [(b : Int)] = B1 b := by
  have h := strOf [UInt8.ofNat b]
  have e0 : (UInt8.ofNat b).toNat = b := by simp; omega
  simp only [List.map_cons, List.map_nil, e0] at h
  exact h
theorem b1_conv (w : World) (g b : Nat) (hb : w.heap[g]? = some (.cells #[.int .u8 (b : Int)] 5 (0, 0))) (h : b < 256) : (convert 53 9 (.slice (some ⟨g, 0, none⟩) 1 1)).run Try.prog w = .ok (.string (B1 b)) w := by
  rw [← b1_str b h]
  refine run_convert_bytes_arg _ 53 5 Try.underlying53 Try.underlying5 g 0 1 1 _ rfl (fun i hi => ?_) 9 Try.underlying9
  have hcl := blk_cell hb i
  rcases i with _ | i
  · exact hcl
  · omega
end Go.Proofs.Ytmbedgopceigaaa.Q
