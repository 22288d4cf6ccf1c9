/-
  The library's contracts of strings.Builder, strings.Join, strconv.Itoa and math/bits at this seat, laid by program out of the shelf. Conditions: those that each theorem names.
-/
import Derived.Shelf.Bits.Mul64
import Derived.Test.YtmeaoneaephjeaaGreatDoorProg
namespace Go.Proofs
open Go.Shelf
def Tryz.lays212_ren : Go.Shelf.Ren := ⟨fun | 212 => 74 | 263 => 118 | 264 => 119 | n => n, fun | 46 => 144 | 51 => 180 | 146 => 181 | 53 => 183 | 148 => 184 | n => n, fun | n => n⟩
theorem Tryz.lays212 : Go.Proofs.Lays.n212 Tryz.prog Tryz.lays212_ren := {
  mixed := by kernel_rfl
  f212 := Tryz.func74.trans (congrArg some (by kernel_rfl))
  f263 := Tryz.func118.trans (congrArg some (by kernel_rfl))
  f264 := Tryz.func119.trans (congrArg some (by kernel_rfl))
  t46 := Tryz.underlying144
  a46 := Tryz.isAgg144
  z46 := Tryz.sizeOf144
  v46 := Tryz.zeroValue144
  t51 := Tryz.underlying180
  a51 := Tryz.isAgg180
  z51 := Tryz.sizeOf180
  v51 := Tryz.zeroValue180
  t53 := Tryz.underlying183
  a53 := Tryz.isAgg183
  z53 := Tryz.sizeOf183
  v53 := Tryz.zeroValue183
  t146 := Tryz.underlying181
  a146 := Tryz.isAgg181
  z146 := Tryz.sizeOf181
  v146 := Tryz.zeroValue181
  t148 := Tryz.underlying184
  a148 := Tryz.isAgg184
  z148 := Tryz.sizeOf184
  v148 := Tryz.zeroValue184 }
open Go.RowKit in
theorem Tryz.bits_Mul (x y : Nat) (hx : x < 18446744073709551616) (hy : y < 18446744073709551616) (w : World) :
    Calls Tryz.prog 74 #[.int .u64 x, .int .u64 y] w fun e w' => e = .returned (.tuple #[.int .u64 ((x * y / 18446744073709551616 : Nat) : Int), .int .u64 ((x * y % 18446744073709551616 : Nat) : Int)]) ∧ w' = w := Any.bits_Mul Tryz.lays212 x y hx hy w
end Go.Proofs
