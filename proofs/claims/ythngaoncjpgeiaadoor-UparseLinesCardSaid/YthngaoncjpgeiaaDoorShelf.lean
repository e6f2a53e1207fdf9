/-
  DERIVED: THE SHELF's CONTRACTS AT THIS DUMP, IN PLAIN WORDS (tools/lay-plain.mjs out of 'YthngaoncjpgeiaaDoorShelfHome.lean', which tools/lay-shelf.mjs wrote): THE SAME DECLARATIONS UNDER THE SAME NAMES: 'import', 'namespace', 'open', 'def', 'theorem' AND NOTHING ELSE: no command of the shelf's: FOR A HAND-IN. Each laying: the table of numbers ('.._ren') and one theorem, a field a fact of the dump's own or the kernel's comparison; each contract: ONE APPLICATION.
-/
import Derived.Shelf.Small.Strs
import Derived.Shelf.Strings.Search1
import Derived.Shelf.Strings.Search2
import Derived.Shelf.Strings.Search3
import Derived.Shelf.Strings.Count
import Derived.Shelf.Pu.ToError
import Derived.Shelf.Pu.ToErrorRange
import Derived.Ground.MpProg
import Derived.Test.YthngaoncjpgeiaaDoorProg
namespace Go.Proofs
open Go.Shelf
def Tryd.lays137_ren : Go.Shelf.Ren := ⟨fun | 137 => 41 | 217 => 63 | 266 => 80 | n => n, fun | 9 => 9 | 5 => 5 | 3 => 3 | n => n, fun | n => n⟩
theorem Tryd.lays137 : Go.Proofs.Lays.n137 Tryd.prog Tryd.lays137_ren := {
  mixed := by kernel_rfl
  f137 := Tryd.func41.trans (congrArg some (by kernel_rfl))
  f217 := Tryd.func63.trans (congrArg some (by kernel_rfl))
  f266 := Tryd.func80.trans (congrArg some (by kernel_rfl))
  t3 := Tryd.underlying3
  a3 := Tryd.isAgg3
  z3 := Tryd.sizeOf3
  v3 := Tryd.zeroValue3
  t5 := Tryd.underlying5
  a5 := Tryd.isAgg5
  z5 := Tryd.sizeOf5
  v5 := Tryd.zeroValue5
  t9 := Tryd.underlying9
  a9 := Tryd.isAgg9
  z9 := Tryd.sizeOf9
  v9 := Tryd.zeroValue9 }
def Tryd.lays217_ren : Go.Shelf.Ren := ⟨fun | 217 => 63 | 266 => 80 | n => n, fun | 9 => 9 | 5 => 5 | 3 => 3 | n => n, fun | n => n⟩
theorem Tryd.lays217 : Go.Proofs.Lays.n217 Tryd.prog Tryd.lays217_ren := {
  mixed := by kernel_rfl
  f217 := Tryd.func63.trans (congrArg some (by kernel_rfl))
  f266 := Tryd.func80.trans (congrArg some (by kernel_rfl))
  t3 := Tryd.underlying3
  a3 := Tryd.isAgg3
  z3 := Tryd.sizeOf3
  v3 := Tryd.zeroValue3
  t5 := Tryd.underlying5
  a5 := Tryd.isAgg5
  z5 := Tryd.sizeOf5
  v5 := Tryd.zeroValue5
  t9 := Tryd.underlying9
  a9 := Tryd.isAgg9
  z9 := Tryd.sizeOf9
  v9 := Tryd.zeroValue9 }
def Tryd.lays143_ren : Go.Shelf.Ren := ⟨fun | 143 => 60 | 219 => 76 | 217 => 63 | 225 => 88 | 224 => 89 | 267 => 90 | 266 => 80 | 314 => 101 | n => n, fun | 9 => 9 | 3 => 3 | 4 => 4 | 5 => 5 | 46 => 157 | 146 => 172 | 51 => 171 | n => n, fun | 1 => 1 | n => n⟩
theorem Tryd.lays143 : Go.Proofs.Lays.n143 Tryd.prog Tryd.lays143_ren := {
  mixed := by kernel_rfl
  f143 := Tryd.func60.trans (congrArg some (by kernel_rfl))
  f217 := Tryd.func63.trans (congrArg some (by kernel_rfl))
  f219 := Tryd.func76.trans (congrArg some (by kernel_rfl))
  f224 := Tryd.func89.trans (congrArg some (by kernel_rfl))
  f225 := Tryd.func88.trans (congrArg some (by kernel_rfl))
  f266 := Tryd.func80.trans (congrArg some (by kernel_rfl))
  f267 := Tryd.func90.trans (congrArg some (by kernel_rfl))
  f314 := Tryd.func101.trans (congrArg some (by kernel_rfl))
  t3 := Tryd.underlying3
  a3 := Tryd.isAgg3
  z3 := Tryd.sizeOf3
  v3 := Tryd.zeroValue3
  t4 := Tryd.underlying4
  a4 := Tryd.isAgg4
  z4 := Tryd.sizeOf4
  v4 := Tryd.zeroValue4
  t5 := Tryd.underlying5
  a5 := Tryd.isAgg5
  z5 := Tryd.sizeOf5
  v5 := Tryd.zeroValue5
  t9 := Tryd.underlying9
  a9 := Tryd.isAgg9
  z9 := Tryd.sizeOf9
  v9 := Tryd.zeroValue9
  t46 := Tryd.underlying157
  a46 := Tryd.isAgg157
  z46 := Tryd.sizeOf157
  v46 := Tryd.zeroValue157
  t51 := Tryd.underlying171
  a51 := Tryd.isAgg171
  z51 := Tryd.sizeOf171
  v51 := Tryd.zeroValue171
  t146 := Tryd.underlying172
  a146 := Tryd.isAgg172
  z146 := Tryd.sizeOf172
  v146 := Tryd.zeroValue172
  g1 := by kernel_rfl }
def Tryd.lays138_ren : Go.Shelf.Ren := ⟨fun | 138 => 59 | 195 => 73 | 218 => 75 | 143 => 60 | 219 => 76 | 217 => 63 | 225 => 88 | 224 => 89 | 267 => 90 | 266 => 80 | 314 => 101 | n => n, fun | 9 => 9 | 3 => 3 | 4 => 4 | 5 => 5 | 0 => 0 | 46 => 157 | 146 => 172 | 51 => 171 | n => n, fun | 1 => 1 | n => n⟩
theorem Tryd.lays138 : Go.Proofs.Lays.n138 Tryd.prog Tryd.lays138_ren := {
  mixed := by kernel_rfl
  f138 := Tryd.func59.trans (congrArg some (by kernel_rfl))
  f143 := Tryd.func60.trans (congrArg some (by kernel_rfl))
  f195 := Tryd.func73.trans (congrArg some (by kernel_rfl))
  f217 := Tryd.func63.trans (congrArg some (by kernel_rfl))
  f218 := Tryd.func75.trans (congrArg some (by kernel_rfl))
  f219 := Tryd.func76.trans (congrArg some (by kernel_rfl))
  f224 := Tryd.func89.trans (congrArg some (by kernel_rfl))
  f225 := Tryd.func88.trans (congrArg some (by kernel_rfl))
  f266 := Tryd.func80.trans (congrArg some (by kernel_rfl))
  f267 := Tryd.func90.trans (congrArg some (by kernel_rfl))
  f314 := Tryd.func101.trans (congrArg some (by kernel_rfl))
  t0 := Tryd.underlying0
  a0 := Tryd.isAgg0
  z0 := Tryd.sizeOf0
  v0 := Tryd.zeroValue0
  t3 := Tryd.underlying3
  a3 := Tryd.isAgg3
  z3 := Tryd.sizeOf3
  v3 := Tryd.zeroValue3
  t4 := Tryd.underlying4
  a4 := Tryd.isAgg4
  z4 := Tryd.sizeOf4
  v4 := Tryd.zeroValue4
  t5 := Tryd.underlying5
  a5 := Tryd.isAgg5
  z5 := Tryd.sizeOf5
  v5 := Tryd.zeroValue5
  t9 := Tryd.underlying9
  a9 := Tryd.isAgg9
  z9 := Tryd.sizeOf9
  v9 := Tryd.zeroValue9
  t46 := Tryd.underlying157
  a46 := Tryd.isAgg157
  z46 := Tryd.sizeOf157
  v46 := Tryd.zeroValue157
  t51 := Tryd.underlying171
  a51 := Tryd.isAgg171
  z51 := Tryd.sizeOf171
  v51 := Tryd.zeroValue171
  t146 := Tryd.underlying172
  a146 := Tryd.isAgg172
  z146 := Tryd.sizeOf172
  v146 := Tryd.zeroValue172
  g1 := by kernel_rfl }
def Tryd.laysPu17_ren : Go.Shelf.Ren := ⟨fun | 17 => 79 | 21 => 94 | 22 => 95 | 23 => 96 | 24 => 97 | 25 => 102 | 27 => 104 | 26 => 103 | 28 => 106 | 29 => 109 | 30 => 111 | 31 => 112 | 32 => 113 | 33 => 114 | 35 => 118 | 34 => 117 | 36 => 119 | 37 => 120 | 38 => 121 | 39 => 122 | 40 => 123 | n => n, fun | 9 => 9 | 3 => 3 | 24 => 136 | 34 => 159 | 4 => 4 | 39 => 161 | 44 => 176 | 37 => 37 | 0 => 0 | 47 => 179 | 50 => 182 | 48 => 180 | 2 => 2 | 52 => 191 | 22 => 67 | 5 => 5 | 55 => 194 | 59 => 208 | 60 => 171 | 20 => 20 | 61 => 209 | 36 => 157 | 65 => 214 | 66 => 215 | 67 => 216 | n => n, fun | 0 => 4 | 1 => 5 | 2 => 8 | 3 => 9 | 4 => 10 | n => n⟩
theorem Tryd.laysPu17 : Go.Proofs.LaysPu.n17 Tryd.prog Tryd.laysPu17_ren := {
  mixed := by kernel_rfl
  f17 := Tryd.func79.trans (congrArg some (by kernel_rfl))
  f21 := Tryd.func94.trans (congrArg some (by kernel_rfl))
  f22 := Tryd.func95.trans (congrArg some (by kernel_rfl))
  f23 := Tryd.func96.trans (congrArg some (by kernel_rfl))
  f24 := Tryd.func97.trans (congrArg some (by kernel_rfl))
  f25 := Tryd.func102.trans (congrArg some (by kernel_rfl))
  f26 := Tryd.func103.trans (congrArg some (by kernel_rfl))
  f27 := Tryd.func104.trans (congrArg some (by kernel_rfl))
  f28 := Tryd.func106.trans (congrArg some (by kernel_rfl))
  f29 := Tryd.func109.trans (congrArg some (by kernel_rfl))
  f30 := Tryd.func111.trans (congrArg some (by kernel_rfl))
  f31 := Tryd.func112.trans (congrArg some (by kernel_rfl))
  f32 := Tryd.func113.trans (congrArg some (by kernel_rfl))
  f33 := Tryd.func114.trans (congrArg some (by kernel_rfl))
  f34 := Tryd.func117.trans (congrArg some (by kernel_rfl))
  f35 := Tryd.func118.trans (congrArg some (by kernel_rfl))
  f36 := Tryd.func119.trans (congrArg some (by kernel_rfl))
  f37 := Tryd.func120.trans (congrArg some (by kernel_rfl))
  f38 := Tryd.func121.trans (congrArg some (by kernel_rfl))
  f39 := Tryd.func122.trans (congrArg some (by kernel_rfl))
  f40 := Tryd.func123.trans (congrArg some (by kernel_rfl))
  t0 := Tryd.underlying0
  a0 := Tryd.isAgg0
  z0 := Tryd.sizeOf0
  v0 := Tryd.zeroValue0
  i0 := by kernel_rfl
  t2 := Tryd.underlying2
  a2 := Tryd.isAgg2
  z2 := Tryd.sizeOf2
  v2 := Tryd.zeroValue2
  i2 := by kernel_rfl
  t3 := Tryd.underlying3
  a3 := Tryd.isAgg3
  z3 := Tryd.sizeOf3
  v3 := Tryd.zeroValue3
  i3 := by kernel_rfl
  t4 := Tryd.underlying4
  a4 := Tryd.isAgg4
  z4 := Tryd.sizeOf4
  v4 := Tryd.zeroValue4
  i4 := by kernel_rfl
  t5 := Tryd.underlying5
  a5 := Tryd.isAgg5
  z5 := Tryd.sizeOf5
  v5 := Tryd.zeroValue5
  i5 := by kernel_rfl
  t9 := Tryd.underlying9
  a9 := Tryd.isAgg9
  z9 := Tryd.sizeOf9
  v9 := Tryd.zeroValue9
  i9 := by kernel_rfl
  t20 := Tryd.underlying20
  a20 := Tryd.isAgg20
  z20 := Tryd.sizeOf20
  v20 := Tryd.zeroValue20
  i20 := by kernel_rfl
  t22 := Tryd.underlying67
  a22 := Tryd.isAgg67
  z22 := Tryd.sizeOf67
  v22 := Tryd.zeroValue67
  i22 := by kernel_rfl
  t24 := Tryd.underlying136
  a24 := Tryd.isAgg136
  z24 := Tryd.sizeOf136
  v24 := Tryd.zeroValue136
  i24 := by kernel_rfl
  t34 := Tryd.underlying159
  a34 := Tryd.isAgg159
  z34 := Tryd.sizeOf159
  v34 := Tryd.zeroValue159
  i34 := by kernel_rfl
  c34 := by kernel_rfl
  t36 := Tryd.underlying157
  a36 := Tryd.isAgg157
  z36 := Tryd.sizeOf157
  v36 := Tryd.zeroValue157
  i36 := by kernel_rfl
  t37 := Tryd.underlying37
  a37 := Tryd.isAgg37
  z37 := Tryd.sizeOf37
  v37 := Tryd.zeroValue37
  i37 := by kernel_rfl
  t39 := Tryd.underlying161
  a39 := Tryd.isAgg161
  z39 := Tryd.sizeOf161
  v39 := Tryd.zeroValue161
  i39 := by kernel_rfl
  t44 := Tryd.underlying176
  a44 := Tryd.isAgg176
  z44 := Tryd.sizeOf176
  v44 := Tryd.zeroValue176
  i44 := by kernel_rfl
  t47 := Tryd.underlying179
  a47 := Tryd.isAgg179
  z47 := Tryd.sizeOf179
  v47 := Tryd.zeroValue179
  i47 := by kernel_rfl
  t48 := Tryd.underlying180
  a48 := Tryd.isAgg180
  z48 := Tryd.sizeOf180
  v48 := Tryd.zeroValue180
  i48 := by kernel_rfl
  t50 := Tryd.underlying182
  a50 := Tryd.isAgg182
  z50 := Tryd.sizeOf182
  v50 := Tryd.zeroValue182
  i50 := by kernel_rfl
  t52 := Tryd.underlying191
  a52 := Tryd.isAgg191
  z52 := Tryd.sizeOf191
  v52 := Tryd.zeroValue191
  i52 := by kernel_rfl
  t55 := Tryd.underlying194
  a55 := Tryd.isAgg194
  z55 := Tryd.sizeOf194
  v55 := Tryd.zeroValue194
  i55 := by kernel_rfl
  t59 := Tryd.underlying208
  a59 := Tryd.isAgg208
  z59 := Tryd.sizeOf208
  v59 := Tryd.zeroValue208
  i59 := by kernel_rfl
  t60 := Tryd.underlying171
  a60 := Tryd.isAgg171
  z60 := Tryd.sizeOf171
  v60 := Tryd.zeroValue171
  i60 := by kernel_rfl
  t61 := Tryd.underlying209
  a61 := Tryd.isAgg209
  z61 := Tryd.sizeOf209
  t65 := Tryd.underlying214
  a65 := Tryd.isAgg214
  z65 := Tryd.sizeOf214
  v65 := Tryd.zeroValue214
  i65 := by kernel_rfl
  t66 := Tryd.underlying215
  a66 := Tryd.isAgg215
  z66 := Tryd.sizeOf215
  v66 := Tryd.zeroValue215
  i66 := by kernel_rfl
  t67 := Tryd.underlying216
  a67 := Tryd.isAgg216
  z67 := Tryd.sizeOf216
  v67 := Tryd.zeroValue216
  i67 := by kernel_rfl
  g0 := by kernel_rfl
  m0 := by kernel_rfl
  g1 := by kernel_rfl
  m1 := by kernel_rfl
  g2 := by kernel_rfl
  m2 := by kernel_rfl
  g3 := by kernel_rfl
  m3 := by kernel_rfl
  g4 := by kernel_rfl
  m4 := by kernel_rfl }
open Go.RowKit Go.Lib in
theorem Tryd.strings_IndexByte (s : ByteArray) (c : Int) (w : World) :
    Calls Tryd.prog 41 #[.string s, .int .u8 c] w fun e w' => e = .returned (.int .i64 (Lib.indexByte s.data.toList c.toNat.toUInt8)) ∧ w' = w := Any.strings_IndexByte Tryd.lays137 s c w
open Go.RowKit Go.Lib in
theorem Tryd.stringslite_IndexByte (s : ByteArray) (c : Int) (w : World) :
    Calls Tryd.prog 63 #[.string s, .int .u8 c] w fun e w' => e = .returned (.int .i64 (Lib.indexByte s.data.toList c.toNat.toUInt8)) ∧ w' = w := Any.stringslite_IndexByte Tryd.lays217 s c w
open Go.RowKit Go.Lib in
theorem Tryd.strings_Index_one (s : ByteArray) (c : UInt8) (w : World) :
    Calls Tryd.prog 60 #[.string s, .string ⟨#[c]⟩] w fun e w' => e = .returned (.int .i64 (Lib.indexByte s.data.toList c)) ∧ w' = w := Any.strings_Index_one Tryd.lays143 s c w
open Go.RowKit Go.Lib in
theorem Tryd.strings_Count_one (s : ByteArray) (c : UInt8) (w : World) :
    Calls Tryd.prog 59 #[.string s, .string ⟨#[c]⟩] w fun e w' => e = .returned (.int .i64 (Lib.countByte s.data.toList c)) ∧ w' = w := Any.strings_Count_one Tryd.lays138 s c w
open Go.RowKit Go.Lib in
theorem Tryd.toError_syntax (fn s : ByteArray) (base bits : Int) (ev : Value) (w : World) (hlim : s.size ≤ 281474976710656) (hv : w.cell? ⟨4, 0, none⟩ = some ev) (hev : ev = .nilIface ∨ ∃ te pe, ev = .iface te pe) :
    Calls Tryd.prog 79 #[.string fn, .string s, .int .i64 base, .int .i64 bits, .iface 159 (.int .i64 2)] w fun e w' => ∃ N, e = .returned (.iface 161 (.pointer (some ⟨N, 0, none⟩))) ∧ w.heap.size ≤ N ∧ w'.heap[N]? = some (.cells #[.string fn, .string s, ev] 176 (0, 0)) ∧ Below w.heap.size w w' := AnyPu.strconv_toError_syntax Tryd.laysPu17 fn s base bits ev w hlim hv hev
open Go.RowKit Go.Lib in
theorem Tryd.toError_range (fn s : ByteArray) (base bits : Int) (ev : Value) (w : World) (hlim : s.size ≤ 281474976710656) (hv : w.cell? ⟨5, 0, none⟩ = some ev) (hev : ev = .nilIface ∨ ∃ te pe, ev = .iface te pe) :
    Calls Tryd.prog 79 #[.string fn, .string s, .int .i64 base, .int .i64 bits, .iface 159 (.int .i64 1)] w fun e w' => ∃ N, e = .returned (.iface 161 (.pointer (some ⟨N, 0, none⟩))) ∧ w.heap.size ≤ N ∧ w'.heap[N]? = some (.cells #[.string fn, .string s, ev] 176 (0, 0)) ∧ Below w.heap.size w w' := AnyPu.strconv_toError_range Tryd.laysPu17 fn s base bits ev w hlim hv hev
end Go.Proofs
