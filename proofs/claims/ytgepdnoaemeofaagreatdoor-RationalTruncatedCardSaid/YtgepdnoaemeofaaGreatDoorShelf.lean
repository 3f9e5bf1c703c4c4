/- The library contracts that the proofs of this seat use, laid at its translation by the kit's shelf tools. -/
import Derived.Shelf.Strings.SlTrimAscii
import Derived.Shelf.Strings.Builder1
import Derived.Shelf.Strings.Builder2
import Derived.Shelf.Strings.Trim
import Derived.Shelf.Small.Utf8
import Derived.Shelf.Small.Bits
import Derived.Shelf.Small.Strs
import Derived.Shelf.Small.Wraps
import Derived.Shelf.Strings.BuilderF
import Derived.Shelf.Strings.Search1
import Derived.Shelf.Strings.Search2
import Derived.Shelf.Strings.Cut
import Derived.Shelf.LaysM
import Derived.Shelf.Strings.Shaped
import Derived.Shelf.Strings.Prefix
import Derived.Shelf.Strings.Runes
import Derived.Shelf.Strings.AsciiSet
import Derived.Shelf.Bits.Mul64
import Derived.Shelf.Strings.Repeat
import Derived.Shelf.Unicode.DecodeSlow
import Derived.Test.YtgepdnoaemeofaaGreatDoorProg
namespace Go.Proofs
open Go.Shelf
def Tryz.lays160_ren : Go.Shelf.Ren := ⟨fun | 160 => 142 | 232 => 163 | 231 => 138 | 227 => 139 | 234 => 164 | 233 => 140 | 236 => 165 | 235 => 141 | 228 => 160 | 271 => 175 | 151 => 162 | 197 => 161 | 120 => 178 | 152 => 174 | 260 => 173 | 137 => 176 | 119 => 177 | 224 => 158 | 225 => 157 | 217 => 156 | 266 => 171 | n => n, fun | 9 => 9 | 4 => 4 | 3 => 3 | 5 => 5 | 117 => 120 | 116 => 119 | 0 => 0 | 124 => 123 | 21 => 21 | 105 => 138 | 46 => 86 | 119 => 146 | 139 => 149 | 138 => 148 | n => n, fun | 3 => 1 | 4 => 2 | n => n⟩
theorem Tryz.lays160 : Go.Proofs.Lays.n160 Tryz.prog Tryz.lays160_ren := {
  mixed := by kernel_rfl
  f119 := Tryz.func177.trans (congrArg some (by kernel_rfl))
  f120 := Tryz.func178.trans (congrArg some (by kernel_rfl))
  f137 := Tryz.func176.trans (congrArg some (by kernel_rfl))
  f151 := Tryz.func162.trans (congrArg some (by kernel_rfl))
  f152 := Tryz.func174.trans (congrArg some (by kernel_rfl))
  f160 := Tryz.func142.trans (congrArg some (by kernel_rfl))
  f197 := Tryz.func161.trans (congrArg some (by kernel_rfl))
  f217 := Tryz.func156.trans (congrArg some (by kernel_rfl))
  f224 := Tryz.func158.trans (congrArg some (by kernel_rfl))
  f225 := Tryz.func157.trans (congrArg some (by kernel_rfl))
  f227 := Tryz.func139.trans (congrArg some (by kernel_rfl))
  f228 := Tryz.func160.trans (congrArg some (by kernel_rfl))
  f231 := Tryz.func138.trans (congrArg some (by kernel_rfl))
  f232 := Tryz.func163.trans (congrArg some (by kernel_rfl))
  f233 := Tryz.func140.trans (congrArg some (by kernel_rfl))
  f234 := Tryz.func164.trans (congrArg some (by kernel_rfl))
  f235 := Tryz.func141.trans (congrArg some (by kernel_rfl))
  f236 := Tryz.func165.trans (congrArg some (by kernel_rfl))
  f260 := Tryz.func173.trans (congrArg some (by kernel_rfl))
  f266 := Tryz.func171.trans (congrArg some (by kernel_rfl))
  f271 := Tryz.func175.trans (congrArg some (by kernel_rfl))
  t0 := Tryz.underlying0
  a0 := Tryz.isAgg0
  z0 := Tryz.sizeOf0
  v0 := Tryz.zeroValue0
  t3 := Tryz.underlying3
  a3 := Tryz.isAgg3
  z3 := Tryz.sizeOf3
  v3 := Tryz.zeroValue3
  t4 := Tryz.underlying4
  a4 := Tryz.isAgg4
  z4 := Tryz.sizeOf4
  v4 := Tryz.zeroValue4
  t5 := Tryz.underlying5
  a5 := Tryz.isAgg5
  z5 := Tryz.sizeOf5
  v5 := Tryz.zeroValue5
  t9 := Tryz.underlying9
  a9 := Tryz.isAgg9
  z9 := Tryz.sizeOf9
  v9 := Tryz.zeroValue9
  t21 := Tryz.underlying21
  a21 := Tryz.isAgg21
  z21 := Tryz.sizeOf21
  v21 := Tryz.zeroValue21
  t46 := Tryz.underlying86
  a46 := Tryz.isAgg86
  z46 := Tryz.sizeOf86
  v46 := Tryz.zeroValue86
  t105 := Tryz.underlying138
  a105 := Tryz.isAgg138
  z105 := Tryz.sizeOf138
  v105 := Tryz.zeroValue138
  t116 := Tryz.underlying119
  a116 := Tryz.isAgg119
  z116 := Tryz.sizeOf119
  t117 := Tryz.underlying120
  a117 := Tryz.isAgg120
  z117 := Tryz.sizeOf120
  v117 := Tryz.zeroValue120
  t119 := Tryz.underlying146
  a119 := Tryz.isAgg146
  z119 := Tryz.sizeOf146
  t124 := Tryz.underlying123
  a124 := Tryz.isAgg123
  z124 := Tryz.sizeOf123
  v124 := Tryz.zeroValue123
  t138 := Tryz.underlying148
  a138 := Tryz.isAgg148
  z138 := Tryz.sizeOf148
  v138 := Tryz.zeroValue148
  t139 := Tryz.underlying149
  a139 := Tryz.isAgg149
  z139 := Tryz.sizeOf149
  v139 := Tryz.zeroValue149
  g3 := by kernel_rfl
  g4 := by kernel_rfl }
def Tryz.lays133_ren : Go.Shelf.Ren := ⟨fun | 133 => 145 | 128 => 166 | n => n, fun | 51 => 52 | 3 => 3 | 4 => 4 | 46 => 86 | 5 => 5 | 9 => 9 | n => n, fun | n => n⟩
theorem Tryz.lays133 : Go.Proofs.Lays.n133 Tryz.prog Tryz.lays133_ren := {
  mixed := by kernel_rfl
  f128 := Tryz.func166.trans (congrArg some (by kernel_rfl))
  f133 := Tryz.func145.trans (congrArg some (by kernel_rfl))
  t3 := Tryz.underlying3
  a3 := Tryz.isAgg3
  z3 := Tryz.sizeOf3
  v3 := Tryz.zeroValue3
  t4 := Tryz.underlying4
  a4 := Tryz.isAgg4
  z4 := Tryz.sizeOf4
  v4 := Tryz.zeroValue4
  t5 := Tryz.underlying5
  a5 := Tryz.isAgg5
  z5 := Tryz.sizeOf5
  v5 := Tryz.zeroValue5
  t9 := Tryz.underlying9
  a9 := Tryz.isAgg9
  z9 := Tryz.sizeOf9
  v9 := Tryz.zeroValue9
  t46 := Tryz.underlying86
  a46 := Tryz.isAgg86
  z46 := Tryz.sizeOf86
  v46 := Tryz.zeroValue86
  t51 := Tryz.underlying52
  a51 := Tryz.isAgg52
  z51 := Tryz.sizeOf52
  v51 := Tryz.zeroValue52 }
/-- bits.LeadingZeros32: "LeadingZeros32 returns the number of leading zero bits in x; the result is 32 for x == 0.": IT RETURNS '32 - Lib.bitLen x'; the world is as it was. ITS CALLEE bits.Len32 IS MET BY ITS OWN CONTRACT OFF THE SHELF (lay that first): entered in place it sends the kernel out of memory. (LAID: no walk: one application.) -/
theorem Tryz.bits_LeadingZeros32 (x : Int) (w : World) (h0 : 0 ≤ x) (h1 : x ≤ 4294967295) :
    Calls Tryz.prog 145 #[.int .u32 x] w fun e w' => e = .returned (.int .i64 (32 - (Lib.bitLen x.toNat : Int))) ∧ w' = w := Any.bits_LeadingZeros32 Tryz.lays133 x w h0 h1
def Tryz.lays106_ren : Go.Shelf.Ren := ⟨fun | 106 => 133 | 213 => 155 | 265 => 170 | n => n, fun | 9 => 9 | 3 => 3 | n => n, fun | n => n⟩
theorem Tryz.lays106 : Go.Proofs.Lays.n106 Tryz.prog Tryz.lays106_ren := {
  mixed := by kernel_rfl
  f106 := Tryz.func133.trans (congrArg some (by kernel_rfl))
  f213 := Tryz.func155.trans (congrArg some (by kernel_rfl))
  f265 := Tryz.func170.trans (congrArg some (by kernel_rfl))
  t3 := Tryz.underlying3
  a3 := Tryz.isAgg3
  z3 := Tryz.sizeOf3
  v3 := Tryz.zeroValue3
  t9 := Tryz.underlying9
  a9 := Tryz.isAgg9
  z9 := Tryz.sizeOf9
  v9 := Tryz.zeroValue9 }
open Go.RowKit in
/-- strings.Compare: "Compare returns an integer comparing two strings lexicographically. The result will be 0 if a == b, -1 if a < b, and +1 if a > b.": IT RETURNS 'Lib.compareBytes a b'; the world is as it was. (LAID: no walk: one application.) -/
theorem Tryz.strings_Compare (a b : ByteArray) (w : World) :
    Calls Tryz.prog 133 #[.string a, .string b] w fun e w' => e = .returned (.int .i64 (Lib.compareBytes a.data.toList b.data.toList)) ∧ w' = w := Any.strings_Compare Tryz.lays106 a b w
def Tryz.lays217_ren : Go.Shelf.Ren := ⟨fun | 217 => 156 | 266 => 171 | n => n, fun | 9 => 9 | 5 => 5 | 3 => 3 | n => n, fun | n => n⟩
theorem Tryz.lays217 : Go.Proofs.Lays.n217 Tryz.prog Tryz.lays217_ren := {
  mixed := by kernel_rfl
  f217 := Tryz.func156.trans (congrArg some (by kernel_rfl))
  f266 := Tryz.func171.trans (congrArg some (by kernel_rfl))
  t3 := Tryz.underlying3
  a3 := Tryz.isAgg3
  z3 := Tryz.sizeOf3
  v3 := Tryz.zeroValue3
  t5 := Tryz.underlying5
  a5 := Tryz.isAgg5
  z5 := Tryz.sizeOf5
  v5 := Tryz.zeroValue5
  t9 := Tryz.underlying9
  a9 := Tryz.isAgg9
  z9 := Tryz.sizeOf9
  v9 := Tryz.zeroValue9 }
open Go.RowKit Go.Lib in
/-- internal/stringslite.IndexByte (what strings.IndexByte calls): IT RETURNS 'Lib.indexByte s c'; the world is as it was. (LAID: no walk: one application.) -/
theorem Tryz.stringslite_IndexByte (s : ByteArray) (c : Int) (w : World) :
    Calls Tryz.prog 156 #[.string s, .int .u8 c] w fun e w' => e = .returned (.int .i64 (Lib.indexByte s.data.toList c.toNat.toUInt8)) ∧ w' = w := Any.stringslite_IndexByte Tryz.lays217 s c w
def Tryz.lays151_ren : Go.Shelf.Ren := ⟨fun | 151 => 162 | 152 => 174 | 137 => 176 | 119 => 177 | 224 => 158 | 225 => 157 | 217 => 156 | 266 => 171 | n => n, fun | 9 => 9 | 21 => 21 | 4 => 4 | 3 => 3 | 5 => 5 | 0 => 0 | 46 => 86 | n => n, fun | n => n⟩
theorem Tryz.lays151 : Go.Proofs.Lays.n151 Tryz.prog Tryz.lays151_ren := {
  mixed := by kernel_rfl
  f119 := Tryz.func177.trans (congrArg some (by kernel_rfl))
  f137 := Tryz.func176.trans (congrArg some (by kernel_rfl))
  f151 := Tryz.func162.trans (congrArg some (by kernel_rfl))
  f152 := Tryz.func174.trans (congrArg some (by kernel_rfl))
  f217 := Tryz.func156.trans (congrArg some (by kernel_rfl))
  f224 := Tryz.func158.trans (congrArg some (by kernel_rfl))
  f225 := Tryz.func157.trans (congrArg some (by kernel_rfl))
  f266 := Tryz.func171.trans (congrArg some (by kernel_rfl))
  t0 := Tryz.underlying0
  a0 := Tryz.isAgg0
  z0 := Tryz.sizeOf0
  v0 := Tryz.zeroValue0
  t3 := Tryz.underlying3
  a3 := Tryz.isAgg3
  z3 := Tryz.sizeOf3
  v3 := Tryz.zeroValue3
  t4 := Tryz.underlying4
  a4 := Tryz.isAgg4
  z4 := Tryz.sizeOf4
  v4 := Tryz.zeroValue4
  t5 := Tryz.underlying5
  a5 := Tryz.isAgg5
  z5 := Tryz.sizeOf5
  v5 := Tryz.zeroValue5
  t9 := Tryz.underlying9
  a9 := Tryz.isAgg9
  z9 := Tryz.sizeOf9
  v9 := Tryz.zeroValue9
  t21 := Tryz.underlying21
  a21 := Tryz.isAgg21
  z21 := Tryz.sizeOf21
  v21 := Tryz.zeroValue21
  t46 := Tryz.underlying86
  a46 := Tryz.isAgg86
  z46 := Tryz.sizeOf86
  v46 := Tryz.zeroValue86 }
open Go.RowKit Go.Lib in
theorem Tryz.strings_ContainsRune_ascii (s : ByteArray) (r : Int) (w : World) (h0 : 0 ≤ r) (h1 : r < 128) :
    Calls Tryz.prog 162 #[.string s, .int .i32 r] w fun e w' => e = .returned (.bool (decide (0 ≤ Lib.indexByte s.data.toList r.toNat.toUInt8))) ∧ w' = w := Any.strings_ContainsRune_ascii Tryz.lays151 s r w h0 h1
def Tryz.lays105_ren : Go.Shelf.Ren := ⟨fun | 105 => 78 | 212 => 121 | 99 => 122 | 165 => 123 | 166 => 124 | 170 => 125 | 169 => 126 | 263 => 149 | 264 => 150 | 206 => 135 | 240 => 151 | 241 => 152 | 276 => 168 | 277 => 169 | n => n, fun | 9 => 9 | 3 => 3 | 4 => 4 | 20 => 20 | 0 => 0 | 46 => 86 | 109 => 100 | 5 => 5 | 72 => 105 | 76 => 109 | 51 => 52 | 146 => 90 | 53 => 56 | 148 => 131 | 70 => 103 | 37 => 57 | 75 => 108 | 127 => 133 | 164 => 141 | 80 => 92 | n => n, fun | n => n⟩
theorem Tryz.lays105 : Go.Proofs.Lays.n105 Tryz.prog Tryz.lays105_ren := {
  mixed := by kernel_rfl
  f99 := Tryz.func122.trans (congrArg some (by kernel_rfl))
  f105 := Tryz.func78.trans (congrArg some (by kernel_rfl))
  f165 := Tryz.func123.trans (congrArg some (by kernel_rfl))
  f166 := Tryz.func124.trans (congrArg some (by kernel_rfl))
  f169 := Tryz.func126.trans (congrArg some (by kernel_rfl))
  f170 := Tryz.func125.trans (congrArg some (by kernel_rfl))
  f206 := Tryz.func135.trans (congrArg some (by kernel_rfl))
  f212 := Tryz.func121.trans (congrArg some (by kernel_rfl))
  f240 := Tryz.func151.trans (congrArg some (by kernel_rfl))
  f241 := Tryz.func152.trans (congrArg some (by kernel_rfl))
  f263 := Tryz.func149.trans (congrArg some (by kernel_rfl))
  f264 := Tryz.func150.trans (congrArg some (by kernel_rfl))
  f276 := Tryz.func168.trans (congrArg some (by kernel_rfl))
  f277 := Tryz.func169.trans (congrArg some (by kernel_rfl))
  t0 := Tryz.underlying0
  a0 := Tryz.isAgg0
  z0 := Tryz.sizeOf0
  v0 := Tryz.zeroValue0
  t3 := Tryz.underlying3
  a3 := Tryz.isAgg3
  z3 := Tryz.sizeOf3
  v3 := Tryz.zeroValue3
  t4 := Tryz.underlying4
  a4 := Tryz.isAgg4
  z4 := Tryz.sizeOf4
  v4 := Tryz.zeroValue4
  t5 := Tryz.underlying5
  a5 := Tryz.isAgg5
  z5 := Tryz.sizeOf5
  v5 := Tryz.zeroValue5
  t9 := Tryz.underlying9
  a9 := Tryz.isAgg9
  z9 := Tryz.sizeOf9
  v9 := Tryz.zeroValue9
  t20 := Tryz.underlying20
  a20 := Tryz.isAgg20
  z20 := Tryz.sizeOf20
  v20 := Tryz.zeroValue20
  t37 := Tryz.underlying57
  a37 := Tryz.isAgg57
  z37 := Tryz.sizeOf57
  v37 := Tryz.zeroValue57
  t46 := Tryz.underlying86
  a46 := Tryz.isAgg86
  z46 := Tryz.sizeOf86
  v46 := Tryz.zeroValue86
  t51 := Tryz.underlying52
  a51 := Tryz.isAgg52
  z51 := Tryz.sizeOf52
  v51 := Tryz.zeroValue52
  t53 := Tryz.underlying56
  a53 := Tryz.isAgg56
  z53 := Tryz.sizeOf56
  v53 := Tryz.zeroValue56
  t70 := Tryz.underlying103
  a70 := Tryz.isAgg103
  z70 := Tryz.sizeOf103
  v70 := Tryz.zeroValue103
  t72 := Tryz.underlying105
  a72 := Tryz.isAgg105
  z72 := Tryz.sizeOf105
  v72 := Tryz.zeroValue105
  t75 := Tryz.underlying108
  a75 := Tryz.isAgg108
  z75 := Tryz.sizeOf108
  v75 := Tryz.zeroValue108
  t76 := Tryz.underlying109
  a76 := Tryz.isAgg109
  z76 := Tryz.sizeOf109
  v76 := Tryz.zeroValue109
  t109 := Tryz.underlying100
  a109 := Tryz.isAgg100
  z109 := Tryz.sizeOf100
  v109 := Tryz.zeroValue100
  t127 := Tryz.underlying133
  a127 := Tryz.isAgg133
  z127 := Tryz.sizeOf133
  v127 := Tryz.zeroValue133
  t146 := Tryz.underlying90
  a146 := Tryz.isAgg90
  z146 := Tryz.sizeOf90
  v146 := Tryz.zeroValue90
  t148 := Tryz.underlying131
  a148 := Tryz.isAgg131
  z148 := Tryz.sizeOf131
  v148 := Tryz.zeroValue131
  t164 := Tryz.underlying141
  a164 := Tryz.isAgg141
  z164 := Tryz.sizeOf141
  v164 := Tryz.zeroValue141 }
theorem Tryz.Builder_Extra_105 : Builder.Extra Tryz.prog Tryz.lays105_ren := {
  sizeBuilder := by kernel_rfl
  liesBuilder := by kernel_rfl
  t5 := Tryz.underlying5
  a5 := Tryz.isAgg5
  z5 := Tryz.sizeOf5
  v5 := Tryz.zeroValue5
  infoByte := by kernel_rfl
  cellsByte := by kernel_rfl
  sizeByte := by kernel_rfl
  neB5 := by decide }
open Go.RowKit Go.Lib in
/-- **strings.Repeat: count ≥ 0, the result within one allocation: count copies of s.** (LAID: no walk: one application.) -/
theorem Tryz.strings_Repeat (s : ByteArray) (c : Nat) (w : World) (hc : c ≤ 9223372036854775807) (hlen : s.size * c ≤ 140737488355328) :
    Calls Tryz.prog 78 #[.string s, .int .i64 c] w fun e w' => e = .returned (.string ⟨(Lib.repeatL s.data.toList c).toArray⟩) ∧ Below w.heap.size w w' := Any.strings_Repeat Tryz.lays105 Tryz.Builder_Extra_105 s c w hc hlen
open Go.RowKit Go.Lib in
theorem Tryz.strings_Trim_laid (s cutset : ByteArray) (w : World) (hs : s.size ≤ 9223372036854775807) (hcs : cutset.size < 4294967281) (hascii : ∀ (j : Nat) b, cutset.data.toList[j]? = some b → b.toNat < 128) :
    Calls Tryz.prog 142 #[.string s, .string cutset] w fun e w' => e = .returned (.string ⟨(Lib.trimS s.data.toList cutset.data.toList).toArray⟩) ∧ Below w.heap.size w w' := Any.strings_Trim_laid Tryz.lays160 (by kernel_rfl) s cutset w hs hcs hascii
end Go.Proofs
