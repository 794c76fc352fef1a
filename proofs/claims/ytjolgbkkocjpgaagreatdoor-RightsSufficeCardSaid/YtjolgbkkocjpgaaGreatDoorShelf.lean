/- The library's contracts that this seat's texts use, laid at its translation by the kit's own program. No condition. -/
import Derived.Shelf.Small.Strs
import Derived.Shelf.LaysM
import Derived.Shelf.Strings.SplitShaped
import Derived.Shelf.Bits.Mul64
import Derived.Test.YtjolgbkkocjpgaaGreatDoorProg
namespace Go.Proofs
open Go.Shelf
def Tryz.lays137_ren : Go.Shelf.Ren := ⟨fun | 137 => 215 | 217 => 220 | 266 => 222 | n => n, fun | 9 => 9 | 5 => 5 | 3 => 3 | n => n, fun | n => n⟩
theorem Tryz.lays137 : Go.Proofs.Lays.n137 Tryz.prog Tryz.lays137_ren := {
  mixed := by kernel_rfl
  f137 := Tryz.func215.trans (congrArg some (by kernel_rfl))
  f217 := Tryz.func220.trans (congrArg some (by kernel_rfl))
  f266 := Tryz.func222.trans (congrArg some (by kernel_rfl))
  t3 := Tryz.underlying3
  a3 := Tryz.isAgg3
  z3 := Tryz.sizeOf3
  v3 := Tryz.zeroValue3
  t5 := Tryz.underlying5
  a5 := Tryz.isAgg5
  z5 := Tryz.sizeOf5
  v5 := Tryz.zeroValue5
  t9 := Tryz.underlying9
  a9 := Tryz.isAgg9
  z9 := Tryz.sizeOf9
  v9 := Tryz.zeroValue9 }
open Go.RowKit in
theorem Tryz.strings_IndexByte (s : ByteArray) (c : Int) (w : World) :
    Calls Tryz.prog 215 #[.string s, .int .u8 c] w fun e w' => e = .returned (.int .i64 (Lib.indexByte s.data.toList c.toNat.toUInt8)) ∧ w' = w := Any.strings_IndexByte Tryz.lays137 s c w
def Tryz.laysM157_ren : Go.Shelf.Ren := ⟨fun | 157 => 212 | 229 => 217 | 199 => 218 | 261 => 221 | 311 => 223 | 312 => 224 | n => n, fun | 9 => 9 | 31 => 24 | 3 => 3 | 5 => 5 | 4 => 4 | 119 => 243 | 0 => 0 | 40 => 245 | 152 => 246 | 21 => 21 | 154 => 248 | 51 => 223 | 141 => 250 | 196 => 254 | 193 => 251 | 198 => 257 | 49 => 255 | 194 => 252 | 201 => 260 | 226 => 262 | 46 => 204 | 227 => 263 | n => n, fun | 0 => 0 | 6 => 1 | n => n⟩
theorem Tryz.laysM157 : Go.Proofs.LaysM.n157 Tryz.prog Tryz.laysM157_ren := {
  mixed := by kernel_rfl
  f157 := Tryz.func212.trans (congrArg some (by kernel_rfl))
  f199 := Tryz.func218.trans (congrArg some (by kernel_rfl))
  f229 := Tryz.func217.trans (congrArg some (by kernel_rfl))
  f261 := Tryz.func221.trans (congrArg some (by kernel_rfl))
  f311 := Tryz.func223.trans (congrArg some (by kernel_rfl))
  f312 := Tryz.func224.trans (congrArg some (by kernel_rfl))
  t0 := Tryz.underlying0
  a0 := Tryz.isAgg0
  z0 := Tryz.sizeOf0
  v0 := Tryz.zeroValue0
  t3 := Tryz.underlying3
  a3 := Tryz.isAgg3
  z3 := Tryz.sizeOf3
  v3 := Tryz.zeroValue3
  t4 := Tryz.underlying4
  a4 := Tryz.isAgg4
  z4 := Tryz.sizeOf4
  v4 := Tryz.zeroValue4
  t5 := Tryz.underlying5
  a5 := Tryz.isAgg5
  z5 := Tryz.sizeOf5
  v5 := Tryz.zeroValue5
  t9 := Tryz.underlying9
  a9 := Tryz.isAgg9
  z9 := Tryz.sizeOf9
  v9 := Tryz.zeroValue9
  t21 := Tryz.underlying21
  a21 := Tryz.isAgg21
  z21 := Tryz.sizeOf21
  v21 := Tryz.zeroValue21
  t31 := Tryz.underlying24
  a31 := Tryz.isAgg24
  z31 := Tryz.sizeOf24
  v31 := Tryz.zeroValue24
  t40 := Tryz.underlying245
  a40 := Tryz.isAgg245
  z40 := Tryz.sizeOf245
  v40 := Tryz.zeroValue245
  t46 := Tryz.underlying204
  a46 := Tryz.isAgg204
  z46 := Tryz.sizeOf204
  v46 := Tryz.zeroValue204
  t49 := Tryz.underlying255
  a49 := Tryz.isAgg255
  z49 := Tryz.sizeOf255
  v49 := Tryz.zeroValue255
  t51 := Tryz.underlying223
  a51 := Tryz.isAgg223
  z51 := Tryz.sizeOf223
  v51 := Tryz.zeroValue223
  t119 := Tryz.underlying243
  a119 := Tryz.isAgg243
  z119 := Tryz.sizeOf243
  t141 := Tryz.underlying250
  a141 := Tryz.isAgg250
  z141 := Tryz.sizeOf250
  v141 := Tryz.zeroValue250
  t152 := Tryz.underlying246
  a152 := Tryz.isAgg246
  z152 := Tryz.sizeOf246
  v152 := Tryz.zeroValue246
  t154 := Tryz.underlying248
  a154 := Tryz.isAgg248
  z154 := Tryz.sizeOf248
  v154 := Tryz.zeroValue248
  t193 := Tryz.underlying251
  a193 := Tryz.isAgg251
  z193 := Tryz.sizeOf251
  v193 := Tryz.zeroValue251
  t194 := Tryz.underlying252
  a194 := Tryz.isAgg252
  z194 := Tryz.sizeOf252
  v194 := Tryz.zeroValue252
  t196 := Tryz.underlying254
  a196 := Tryz.isAgg254
  z196 := Tryz.sizeOf254
  v196 := Tryz.zeroValue254
  t198 := Tryz.underlying257
  a198 := Tryz.isAgg257
  z198 := Tryz.sizeOf257
  v198 := Tryz.zeroValue257
  t201 := Tryz.underlying260
  a201 := Tryz.isAgg260
  z201 := Tryz.sizeOf260
  v201 := Tryz.zeroValue260
  t226 := Tryz.underlying262
  a226 := Tryz.isAgg262
  z226 := Tryz.sizeOf262
  v226 := Tryz.zeroValue262
  t227 := Tryz.underlying263
  a227 := Tryz.isAgg263
  z227 := Tryz.sizeOf263
  v227 := Tryz.zeroValue263
  g0 := by kernel_rfl
  g6 := by kernel_rfl
  i0 := by kernel_rfl
  i3 := by kernel_rfl
  i4 := by kernel_rfl
  i5 := by kernel_rfl
  i9 := by kernel_rfl
  i21 := by kernel_rfl
  i31 := by kernel_rfl
  i40 := by kernel_rfl
  i46 := by kernel_rfl
  i49 := by kernel_rfl
  i51 := by kernel_rfl
  i141 := by kernel_rfl
  i152 := by kernel_rfl
  i154 := by kernel_rfl
  i193 := by kernel_rfl
  i194 := by kernel_rfl
  i196 := by kernel_rfl
  i198 := by kernel_rfl
  i201 := by kernel_rfl
  i226 := by kernel_rfl
  i227 := by kernel_rfl
  m0 := by kernel_rfl
  m6 := by kernel_rfl }
open Go.RowKit Go.Lib in
theorem Tryz.strings_Fields_laid (s : ByteArray) (w : World) (hs : s.size < 4294967281) (hascii : ∀ (j : Nat) b, s.data.toList[j]? = some b → b.toNat < 128) (htab : Lib.TabIs Tryz.prog w "strings.asciiSpace" .u8 Lib.asciiSpaceTab) :
    Calls Tryz.prog 212 #[.string s] w fun e w' =>
      e = .returned (.slice (some ⟨w.heap.size, 0, none⟩) (Lib.fields s.data.toList).length (Lib.fields s.data.toList).length) ∧ w' = w.alloc (.cells ((Lib.fields s.data.toList).map fun l => Value.string ⟨l.toArray⟩).toArray 9) := Any.strings_Fields_laid Tryz.laysM157 s w hs hascii htab
def Tryz.lays212_ren : Go.Shelf.Ren := ⟨fun | 212 => 170 | 263 => 188 | 264 => 189 | n => n, fun | 46 => 204 | 51 => 223 | 146 => 224 | 53 => 226 | 148 => 227 | n => n, fun | n => n⟩
theorem Tryz.lays212 : Go.Proofs.Lays.n212 Tryz.prog Tryz.lays212_ren := {
  mixed := by kernel_rfl
  f212 := Tryz.func170.trans (congrArg some (by kernel_rfl))
  f263 := Tryz.func188.trans (congrArg some (by kernel_rfl))
  f264 := Tryz.func189.trans (congrArg some (by kernel_rfl))
  t46 := Tryz.underlying204
  a46 := Tryz.isAgg204
  z46 := Tryz.sizeOf204
  v46 := Tryz.zeroValue204
  t51 := Tryz.underlying223
  a51 := Tryz.isAgg223
  z51 := Tryz.sizeOf223
  v51 := Tryz.zeroValue223
  t53 := Tryz.underlying226
  a53 := Tryz.isAgg226
  z53 := Tryz.sizeOf226
  v53 := Tryz.zeroValue226
  t146 := Tryz.underlying224
  a146 := Tryz.isAgg224
  z146 := Tryz.sizeOf224
  v146 := Tryz.zeroValue224
  t148 := Tryz.underlying227
  a148 := Tryz.isAgg227
  z148 := Tryz.sizeOf227
  v148 := Tryz.zeroValue227 }
open Go.RowKit Go.Lib in
theorem Tryz.bits_Mul (x y : Nat) (hx : x < 18446744073709551616) (hy : y < 18446744073709551616) (w : World) :
    Calls Tryz.prog 170 #[.int .u64 x, .int .u64 y] w fun e w' => e = .returned (.tuple #[.int .u64 ((x * y / 18446744073709551616 : Nat) : Int), .int .u64 ((x * y % 18446744073709551616 : Nat) : Int)]) ∧ w' = w := Any.bits_Mul Tryz.lays212 x y hx hy w
end Go.Proofs
