/- The library's contracts that this seat's texts use, laid at its translation by the kit's own program. No condition. -/
import Derived.Shelf.Small.Strs
import Derived.Shelf.LaysM
import Derived.Shelf.Strings.SplitShaped
import Derived.Shelf.Bits.Mul64
import Derived.Test.YtcpgmmlaimkojaaGreatDoorProg
namespace Go.Proofs
open Go.Shelf
def Tryz.lays137_ren : Go.Shelf.Ren := ⟨fun | 137 => 181 | 217 => 190 | 266 => 193 | n => n, fun | 9 => 9 | 5 => 5 | 3 => 3 | n => n, fun | n => n⟩
theorem Tryz.lays137 : Go.Proofs.Lays.n137 Tryz.prog Tryz.lays137_ren := {
  mixed := by kernel_rfl
  f137 := Tryz.func181.trans (congrArg some (by kernel_rfl))
  f217 := Tryz.func190.trans (congrArg some (by kernel_rfl))
  f266 := Tryz.func193.trans (congrArg some (by kernel_rfl))
  t3 := Tryz.underlying3
  a3 := Tryz.isAgg3
  z3 := Tryz.sizeOf3
  v3 := Tryz.zeroValue3
  t5 := Tryz.underlying5
  a5 := Tryz.isAgg5
  z5 := Tryz.sizeOf5
  v5 := Tryz.zeroValue5
  t9 := Tryz.underlying9
  a9 := Tryz.isAgg9
  z9 := Tryz.sizeOf9
  v9 := Tryz.zeroValue9 }
open Go.RowKit in
theorem Tryz.strings_IndexByte (s : ByteArray) (c : Int) (w : World) :
    Calls Tryz.prog 181 #[.string s, .int .u8 c] w fun e w' => e = .returned (.int .i64 (Lib.indexByte s.data.toList c.toNat.toUInt8)) ∧ w' = w := Any.strings_IndexByte Tryz.lays137 s c w
def Tryz.laysM157_ren : Go.Shelf.Ren := ⟨fun | 157 => 178 | 229 => 187 | 199 => 188 | 261 => 192 | 311 => 194 | 312 => 195 | n => n, fun | 9 => 9 | 31 => 24 | 3 => 3 | 5 => 5 | 4 => 4 | 119 => 216 | 0 => 0 | 40 => 218 | 152 => 219 | 21 => 21 | 154 => 221 | 51 => 192 | 141 => 223 | 196 => 227 | 193 => 224 | 198 => 230 | 49 => 228 | 194 => 225 | 201 => 233 | 226 => 235 | 46 => 173 | 227 => 236 | n => n, fun | 0 => 0 | 6 => 1 | n => n⟩
theorem Tryz.laysM157 : Go.Proofs.LaysM.n157 Tryz.prog Tryz.laysM157_ren := {
  mixed := by kernel_rfl
  f157 := Tryz.func178.trans (congrArg some (by kernel_rfl))
  f199 := Tryz.func188.trans (congrArg some (by kernel_rfl))
  f229 := Tryz.func187.trans (congrArg some (by kernel_rfl))
  f261 := Tryz.func192.trans (congrArg some (by kernel_rfl))
  f311 := Tryz.func194.trans (congrArg some (by kernel_rfl))
  f312 := Tryz.func195.trans (congrArg some (by kernel_rfl))
  t0 := Tryz.underlying0
  a0 := Tryz.isAgg0
  z0 := Tryz.sizeOf0
  v0 := Tryz.zeroValue0
  t3 := Tryz.underlying3
  a3 := Tryz.isAgg3
  z3 := Tryz.sizeOf3
  v3 := Tryz.zeroValue3
  t4 := Tryz.underlying4
  a4 := Tryz.isAgg4
  z4 := Tryz.sizeOf4
  v4 := Tryz.zeroValue4
  t5 := Tryz.underlying5
  a5 := Tryz.isAgg5
  z5 := Tryz.sizeOf5
  v5 := Tryz.zeroValue5
  t9 := Tryz.underlying9
  a9 := Tryz.isAgg9
  z9 := Tryz.sizeOf9
  v9 := Tryz.zeroValue9
  t21 := Tryz.underlying21
  a21 := Tryz.isAgg21
  z21 := Tryz.sizeOf21
  v21 := Tryz.zeroValue21
  t31 := Tryz.underlying24
  a31 := Tryz.isAgg24
  z31 := Tryz.sizeOf24
  v31 := Tryz.zeroValue24
  t40 := Tryz.underlying218
  a40 := Tryz.isAgg218
  z40 := Tryz.sizeOf218
  v40 := Tryz.zeroValue218
  t46 := Tryz.underlying173
  a46 := Tryz.isAgg173
  z46 := Tryz.sizeOf173
  v46 := Tryz.zeroValue173
  t49 := Tryz.underlying228
  a49 := Tryz.isAgg228
  z49 := Tryz.sizeOf228
  v49 := Tryz.zeroValue228
  t51 := Tryz.underlying192
  a51 := Tryz.isAgg192
  z51 := Tryz.sizeOf192
  v51 := Tryz.zeroValue192
  t119 := Tryz.underlying216
  a119 := Tryz.isAgg216
  z119 := Tryz.sizeOf216
  t141 := Tryz.underlying223
  a141 := Tryz.isAgg223
  z141 := Tryz.sizeOf223
  v141 := Tryz.zeroValue223
  t152 := Tryz.underlying219
  a152 := Tryz.isAgg219
  z152 := Tryz.sizeOf219
  v152 := Tryz.zeroValue219
  t154 := Tryz.underlying221
  a154 := Tryz.isAgg221
  z154 := Tryz.sizeOf221
  v154 := Tryz.zeroValue221
  t193 := Tryz.underlying224
  a193 := Tryz.isAgg224
  z193 := Tryz.sizeOf224
  v193 := Tryz.zeroValue224
  t194 := Tryz.underlying225
  a194 := Tryz.isAgg225
  z194 := Tryz.sizeOf225
  v194 := Tryz.zeroValue225
  t196 := Tryz.underlying227
  a196 := Tryz.isAgg227
  z196 := Tryz.sizeOf227
  v196 := Tryz.zeroValue227
  t198 := Tryz.underlying230
  a198 := Tryz.isAgg230
  z198 := Tryz.sizeOf230
  v198 := Tryz.zeroValue230
  t201 := Tryz.underlying233
  a201 := Tryz.isAgg233
  z201 := Tryz.sizeOf233
  v201 := Tryz.zeroValue233
  t226 := Tryz.underlying235
  a226 := Tryz.isAgg235
  z226 := Tryz.sizeOf235
  v226 := Tryz.zeroValue235
  t227 := Tryz.underlying236
  a227 := Tryz.isAgg236
  z227 := Tryz.sizeOf236
  v227 := Tryz.zeroValue236
  g0 := by kernel_rfl
  g6 := by kernel_rfl
  i0 := by kernel_rfl
  i3 := by kernel_rfl
  i4 := by kernel_rfl
  i5 := by kernel_rfl
  i9 := by kernel_rfl
  i21 := by kernel_rfl
  i31 := by kernel_rfl
  i40 := by kernel_rfl
  i46 := by kernel_rfl
  i49 := by kernel_rfl
  i51 := by kernel_rfl
  i141 := by kernel_rfl
  i152 := by kernel_rfl
  i154 := by kernel_rfl
  i193 := by kernel_rfl
  i194 := by kernel_rfl
  i196 := by kernel_rfl
  i198 := by kernel_rfl
  i201 := by kernel_rfl
  i226 := by kernel_rfl
  i227 := by kernel_rfl
  m0 := by kernel_rfl
  m6 := by kernel_rfl }
open Go.RowKit Go.Lib in
theorem Tryz.strings_Fields_laid (s : ByteArray) (w : World) (hs : s.size < 4294967281) (hascii : ∀ (j : Nat) b, s.data.toList[j]? = some b → b.toNat < 128) (htab : Lib.TabIs Tryz.prog w "strings.asciiSpace" .u8 Lib.asciiSpaceTab) :
    Calls Tryz.prog 178 #[.string s] w fun e w' =>
      e = .returned (.slice (some ⟨w.heap.size, 0, none⟩) (Lib.fields s.data.toList).length (Lib.fields s.data.toList).length) ∧ w' = w.alloc (.cells ((Lib.fields s.data.toList).map fun l => Value.string ⟨l.toArray⟩).toArray 9) := Any.strings_Fields_laid Tryz.laysM157 s w hs hascii htab
def Tryz.lays212_ren : Go.Shelf.Ren := ⟨fun | 212 => 142 | 263 => 158 | 264 => 159 | n => n, fun | 46 => 173 | 51 => 192 | 146 => 193 | 53 => 195 | 148 => 196 | n => n, fun | n => n⟩
theorem Tryz.lays212 : Go.Proofs.Lays.n212 Tryz.prog Tryz.lays212_ren := {
  mixed := by kernel_rfl
  f212 := Tryz.func142.trans (congrArg some (by kernel_rfl))
  f263 := Tryz.func158.trans (congrArg some (by kernel_rfl))
  f264 := Tryz.func159.trans (congrArg some (by kernel_rfl))
  t46 := Tryz.underlying173
  a46 := Tryz.isAgg173
  z46 := Tryz.sizeOf173
  v46 := Tryz.zeroValue173
  t51 := Tryz.underlying192
  a51 := Tryz.isAgg192
  z51 := Tryz.sizeOf192
  v51 := Tryz.zeroValue192
  t53 := Tryz.underlying195
  a53 := Tryz.isAgg195
  z53 := Tryz.sizeOf195
  v53 := Tryz.zeroValue195
  t146 := Tryz.underlying193
  a146 := Tryz.isAgg193
  z146 := Tryz.sizeOf193
  v146 := Tryz.zeroValue193
  t148 := Tryz.underlying196
  a148 := Tryz.isAgg196
  z148 := Tryz.sizeOf196
  v148 := Tryz.zeroValue196 }
open Go.RowKit Go.Lib in
theorem Tryz.bits_Mul (x y : Nat) (hx : x < 18446744073709551616) (hy : y < 18446744073709551616) (w : World) :
    Calls Tryz.prog 142 #[.int .u64 x, .int .u64 y] w fun e w' => e = .returned (.tuple #[.int .u64 ((x * y / 18446744073709551616 : Nat) : Int), .int .u64 ((x * y % 18446744073709551616 : Nat) : Int)]) ∧ w' = w := Any.bits_Mul Tryz.lays212 x y hx hy w
end Go.Proofs
