/- What the writer of code and the document's answer write: the bytes of numbers, texts, bools and money. -/
import Derived.Test.YtdhefhnlagnkdaaDoorXS
namespace Go.Sx.Tryd
open Go Go.Sx
/-! ### Vint, of the writer -/
/-! ### The others, of the writer -/
theorem xorNeg (x : BitVec 64) : (x ^^^ BitVec.ofInt 64 18446744073709551615).toNat = 18446744073709551615 - x.toNat := by
  have : BitVec.ofInt 64 18446744073709551615 = BitVec.allOnes 64 := by decide
  rw [this, BitVec.xor_allOnes, BitVec.toNat_not]
end Go.Sx.Tryd
