/-
  The library's contracts of strings.Builder, strings.Join, strconv.Itoa and math/bits at this seat, laid by program out of the shelf. Conditions: those that each theorem names.
-/
import Derived.Shelf.SlSortCmp.NoneTotal
import Derived.Shelf.Bits.Mul64
import Derived.Test.YtiocdkdkndpgkaaGreatProg
namespace Go.Proofs
open Go.Shelf
def Tryz.lays212_ren : Go.Shelf.Ren := ⟨fun | 212 => 292 | 263 => 299 | 264 => 300 | n => n, fun | 46 => 335 | 51 => 366 | 146 => 378 | 53 => 368 | 148 => 380 | n => n, fun | n => n⟩
theorem Tryz.lays212 : Go.Proofs.Lays.n212 Tryz.prog Tryz.lays212_ren := {
  mixed := by kernel_rfl
  f212 := Tryz.func292.trans (congrArg some (by kernel_rfl))
  f263 := Tryz.func299.trans (congrArg some (by kernel_rfl))
  f264 := Tryz.func300.trans (congrArg some (by kernel_rfl))
  t46 := Tryz.underlying335
  a46 := Tryz.isAgg335
  z46 := Tryz.sizeOf335
  v46 := Tryz.zeroValue335
  t51 := Tryz.underlying366
  a51 := Tryz.isAgg366
  z51 := Tryz.sizeOf366
  v51 := Tryz.zeroValue366
  t53 := Tryz.underlying368
  a53 := Tryz.isAgg368
  z53 := Tryz.sizeOf368
  v53 := Tryz.zeroValue368
  t146 := Tryz.underlying378
  a146 := Tryz.isAgg378
  z146 := Tryz.sizeOf378
  v146 := Tryz.zeroValue378
  t148 := Tryz.underlying380
  a148 := Tryz.isAgg380
  z148 := Tryz.sizeOf380
  v148 := Tryz.zeroValue380 }
open Go.RowKit in
theorem Tryz.bits_Mul (x y : Nat) (hx : x < 18446744073709551616) (hy : y < 18446744073709551616) (w : World) :
    Calls Tryz.prog 292 #[.int .u64 x, .int .u64 y] w fun e w' => e = .returned (.tuple #[.int .u64 ((x * y / 18446744073709551616 : Nat) : Int), .int .u64 ((x * y % 18446744073709551616 : Nat) : Int)]) ∧ w' = w := Any.bits_Mul Tryz.lays212 x y hx hy w
def Tryz.sortRd_ren : Go.Shelf.Ren := ⟨fun | 6 => 187 | 15 => 247 | 14 => 246 | 28 => 284 | 29 => 285 | 20 => 276 | 21 => 277 | 22 => 278 | 23 => 279 | 24 => 280 | 25 => 281 | 26 => 282 | 27 => 283 | 46 => 294 | 47 => 295 | 48 => 296 | 49 => 297 | 50 => 298 | 57 => 301 | n => n, fun | 22 => 39 | 24 => 109 | 25 => 283 | 3 => 3 | 39 => 335 | 0 => 0 | 53 => 366 | 55 => 368 | 4 => 4 | 46 => 360 | 45 => 359 | 50 => 226 | 5 => 5 | 9 => 9 | 66 => 372 | 70 => 376 | 76 => 382 | 77 => 154 | n => n, fun | n => n⟩
theorem Tryz.sortRd : Go.Proofs.SlLaysF0.n6 Tryz.prog Tryz.sortRd_ren := {
  mixed := by kernel_rfl
  f6 := ⟨Tryz.f187.name, by decide, Tryz.func187.trans (congrArg some (by kernel_rfl))⟩
  f14 := ⟨Tryz.f246.name, by decide, Tryz.func246.trans (congrArg some (by kernel_rfl))⟩
  f15 := Tryz.func247.trans (congrArg some (by kernel_rfl))
  f20 := ⟨Tryz.f276.name, by decide, Tryz.func276.trans (congrArg some (by kernel_rfl))⟩
  f21 := ⟨Tryz.f277.name, by decide, Tryz.func277.trans (congrArg some (by kernel_rfl))⟩
  f22 := ⟨Tryz.f278.name, by decide, Tryz.func278.trans (congrArg some (by kernel_rfl))⟩
  f23 := ⟨Tryz.f279.name, by decide, Tryz.func279.trans (congrArg some (by kernel_rfl))⟩
  f24 := ⟨Tryz.f280.name, by decide, Tryz.func280.trans (congrArg some (by kernel_rfl))⟩
  f25 := ⟨Tryz.f281.name, by decide, Tryz.func281.trans (congrArg some (by kernel_rfl))⟩
  f26 := ⟨Tryz.f282.name, by decide, Tryz.func282.trans (congrArg some (by kernel_rfl))⟩
  f27 := ⟨Tryz.f283.name, by decide, Tryz.func283.trans (congrArg some (by kernel_rfl))⟩
  f28 := Tryz.func284.trans (congrArg some (by kernel_rfl))
  f29 := Tryz.func285.trans (congrArg some (by kernel_rfl))
  f46 := ⟨Tryz.f294.name, by decide, Tryz.func294.trans (congrArg some (by kernel_rfl))⟩
  f47 := Tryz.func295.trans (congrArg some (by kernel_rfl))
  f48 := Tryz.func296.trans (congrArg some (by kernel_rfl))
  f49 := ⟨Tryz.f297.name, by decide, Tryz.func297.trans (congrArg some (by kernel_rfl))⟩
  f50 := ⟨Tryz.f298.name, by decide, Tryz.func298.trans (congrArg some (by kernel_rfl))⟩
  f57 := ⟨Tryz.f301.name, by decide, Tryz.func301.trans (congrArg some (by kernel_rfl))⟩
  t0 := Tryz.underlying0
  a0 := Tryz.isAgg0
  z0 := Tryz.sizeOf0
  v0 := Tryz.zeroValue0
  t3 := Tryz.underlying3
  a3 := Tryz.isAgg3
  z3 := Tryz.sizeOf3
  v3 := Tryz.zeroValue3
  t4 := Tryz.underlying4
  a4 := Tryz.isAgg4
  z4 := Tryz.sizeOf4
  v4 := Tryz.zeroValue4
  t5 := Tryz.underlying5
  a5 := Tryz.isAgg5
  z5 := Tryz.sizeOf5
  v5 := Tryz.zeroValue5
  t9 := Tryz.underlying9
  a9 := Tryz.isAgg9
  z9 := Tryz.sizeOf9
  v9 := Tryz.zeroValue9
  t22 := Tryz.underlying39
  a22 := Tryz.isAgg39
  z22 := Tryz.sizeOf39
  v22 := Tryz.zeroValue39
  t25 := Tryz.underlying283
  a25 := Tryz.isAgg283
  z25 := Tryz.sizeOf283
  v25 := Tryz.zeroValue283
  t39 := Tryz.underlying335
  a39 := Tryz.isAgg335
  z39 := Tryz.sizeOf335
  v39 := Tryz.zeroValue335
  t45 := Tryz.underlying359
  a45 := Tryz.isAgg359
  z45 := Tryz.sizeOf359
  v45 := Tryz.zeroValue359
  t46 := Tryz.underlying360
  a46 := Tryz.isAgg360
  z46 := Tryz.sizeOf360
  v46 := Tryz.zeroValue360
  t50 := Tryz.underlying226
  a50 := Tryz.isAgg226
  z50 := Tryz.sizeOf226
  v50 := Tryz.zeroValue226
  t53 := Tryz.underlying366
  a53 := Tryz.isAgg366
  z53 := Tryz.sizeOf366
  v53 := Tryz.zeroValue366
  t55 := Tryz.underlying368
  a55 := Tryz.isAgg368
  z55 := Tryz.sizeOf368
  v55 := Tryz.zeroValue368
  t66 := Tryz.underlying372
  a66 := Tryz.isAgg372
  z66 := Tryz.sizeOf372
  v66 := Tryz.zeroValue372
  t70 := Tryz.underlying376
  a70 := Tryz.isAgg376
  z70 := Tryz.sizeOf376
  v70 := Tryz.zeroValue376
  t76 := Tryz.underlying382
  a76 := Tryz.isAgg382
  z76 := Tryz.sizeOf382
  v76 := Tryz.zeroValue382
  t77 := Tryz.underlying154
  a77 := Tryz.isAgg154
  z77 := Tryz.sizeOf154
  v77 := Tryz.zeroValue154 }
end Go.Proofs
