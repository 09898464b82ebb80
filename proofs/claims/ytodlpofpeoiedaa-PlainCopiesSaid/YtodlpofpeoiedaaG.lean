/-
  The contract of math/bits.Len, out of the library's own, which is proved over any program.
-/
import Derived.Shelf.Small.Bits
import Derived.Test.YtodlpofpeoiedaaProg
namespace Go.Proofs.Ytodlpofpeoiedaa
open Go.Shelf
def lays125ren : Go.Shelf.Ren := ⟨fun | 125 => 129 | 128 => 143 | 129 => 144 | n => n, fun | 46 => 125 | 3 => 3 | 51 => 173 | 53 => 176 | 4 => 4 | 5 => 5 | 9 => 9 | n => n, fun | n => n⟩
theorem lays125 : Go.Proofs.Lays.n125 Try.prog lays125ren := {
  mixed := by kernel_rfl
  f125 := Try.func129.trans (congrArg some (by kernel_rfl))
  f128 := Try.func143.trans (congrArg some (by kernel_rfl))
  f129 := Try.func144.trans (congrArg some (by kernel_rfl))
  t3 := Try.underlying3
  a3 := Try.isAgg3
  z3 := Try.sizeOf3
  v3 := Try.zeroValue3
  t4 := Try.underlying4
  a4 := Try.isAgg4
  z4 := Try.sizeOf4
  v4 := Try.zeroValue4
  t5 := Try.underlying5
  a5 := Try.isAgg5
  z5 := Try.sizeOf5
  v5 := Try.zeroValue5
  t9 := Try.underlying9
  a9 := Try.isAgg9
  z9 := Try.sizeOf9
  v9 := Try.zeroValue9
  t46 := Try.underlying125
  a46 := Try.isAgg125
  z46 := Try.sizeOf125
  v46 := Try.zeroValue125
  t51 := Try.underlying173
  a51 := Try.isAgg173
  z51 := Try.sizeOf173
  v51 := Try.zeroValue173
  t53 := Try.underlying176
  a53 := Try.isAgg176
  z53 := Try.sizeOf176
  v53 := Try.zeroValue176 }
theorem bits_Len (x : Int) (w : World) (h0 : 0 ≤ x) (h1 : x ≤ 18446744073709551615) :
    Calls Try.prog 129 #[.int .u64 x] w fun e w' => e = .returned (.int .i64 (Lib.bitLen x.toNat)) ∧ w' = w := Any.bits_Len lays125 x w h0 h1
end Go.Proofs.Ytodlpofpeoiedaa
