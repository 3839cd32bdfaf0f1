import Derived.Test.YtgmlhmojcemliaaDoorA0
import Derived.Shelf.Strings.Builder1
import Derived.Shelf.Strings.SlTrimAscii
import Derived.WalkKit
import Derived.Shelf.Strings.Trim
import Derived.Shelf.Small.Utf8
import Derived.Shelf.Small.Strs
import Derived.Shelf.Strings.BuilderF
import Derived.Shelf.Strings.BuilderK
import Derived.Shelf.Strconv.Itoa0
import Derived.Shelf.Strconv.Itoa1
import Derived.Shelf.LaysM
import Derived.Shelf.Strconv.Itoa2
import Derived.Shelf.Strconv.Itoa3
import Derived.Shelf.Strings.Search1
import Derived.Shelf.Strings.Search2
import Derived.Shelf.Strings.Search3
import Derived.Shelf.Strings.Count
import Derived.Shelf.Strings.Shaped
import Derived.Shelf.Strings.Prefix
import Derived.Shelf.Strings.Runes
import Derived.Shelf.Strings.IndexAny
import Derived.Shelf.Strings.AsciiSet
import Derived.Shelf.Strings.IndexAnyAll
import Derived.Shelf.Unicode.DecodeSlow
import Derived.Test.YtgmlhmojcemliaaDoorProg
import Derived.Laws.Rows
import Derived.StillTailTactics
import Derived.Lib.SlBytesConst
import Derived.Laws.EntriesVeiled
import Derived.WalkMore
import Derived.ScopeJumps
section
/- The shelf's contracts at this dump, in plain words, as the kit's tools lay-shelf and lay-plain print them: the few that this claim uses. -/
namespace Go.Proofs
open Go.Shelf
def Tryd.lays169_ren : Go.Shelf.Ren := ⟨fun | 169 => 57 | n => n, fun | 70 => 102 | 9 => 9 | 0 => 0 | 72 => 104 | 37 => 56 | 127 => 134 | 3 => 3 | 5 => 5 | n => n, fun | n => n⟩
theorem Tryd.lays169 : Go.Proofs.Lays.n169 Tryd.prog Tryd.lays169_ren := {
  mixed := by kernel_rfl
  f169 := Tryd.func57.trans (congrArg some (by kernel_rfl))
  t0 := Tryd.underlying0
  a0 := Tryd.isAgg0
  z0 := Tryd.sizeOf0
  v0 := Tryd.zeroValue0
  t3 := Tryd.underlying3
  a3 := Tryd.isAgg3
  z3 := Tryd.sizeOf3
  v3 := Tryd.zeroValue3
  t9 := Tryd.underlying9
  a9 := Tryd.isAgg9
  z9 := Tryd.sizeOf9
  v9 := Tryd.zeroValue9
  t37 := Tryd.underlying56
  a37 := Tryd.isAgg56
  z37 := Tryd.sizeOf56
  v37 := Tryd.zeroValue56
  t70 := Tryd.underlying102
  a70 := Tryd.isAgg102
  z70 := Tryd.sizeOf102
  v70 := Tryd.zeroValue102
  t72 := Tryd.underlying104
  a72 := Tryd.isAgg104
  z72 := Tryd.sizeOf104
  v72 := Tryd.zeroValue104
  t127 := Tryd.underlying134
  a127 := Tryd.isAgg134
  z127 := Tryd.sizeOf134
  v127 := Tryd.zeroValue134 }
theorem Tryd.Builder_Extra_169 : Builder.Extra Tryd.prog Tryd.lays169_ren := {
  sizeBuilder := by kernel_rfl
  liesBuilder := by kernel_rfl
  t5 := Tryd.underlying5
  a5 := Tryd.isAgg5
  z5 := Tryd.sizeOf5
  v5 := Tryd.zeroValue5
  infoByte := by kernel_rfl
  cellsByte := by kernel_rfl
  sizeByte := by kernel_rfl
  neB5 := by decide }
def Tryd.lays160_ren : Go.Shelf.Ren := ⟨fun | 160 => 50 | 232 => 75 | 231 => 74 | 227 => 76 | 234 => 78 | 233 => 77 | 236 => 80 | 235 => 79 | 228 => 116 | 271 => 119 | 151 => 118 | 197 => 117 | 120 => 138 | 152 => 137 | 260 => 136 | 137 => 49 | 119 => 146 | 224 => 113 | 225 => 112 | 217 => 73 | 266 => 115 | n => n, fun | 9 => 9 | 4 => 4 | 3 => 3 | 5 => 5 | 117 => 127 | 116 => 126 | 0 => 0 | 124 => 130 | 21 => 21 | 105 => 150 | 46 => 149 | 119 => 170 | 139 => 173 | 138 => 172 | n => n, fun | 3 => 1 | 4 => 2 | n => n⟩
theorem Tryd.lays160 : Go.Proofs.Lays.n160 Tryd.prog Tryd.lays160_ren := {
  mixed := by kernel_rfl
  f119 := Tryd.func146.trans (congrArg some (by kernel_rfl))
  f120 := Tryd.func138.trans (congrArg some (by kernel_rfl))
  f137 := Tryd.func49.trans (congrArg some (by kernel_rfl))
  f151 := Tryd.func118.trans (congrArg some (by kernel_rfl))
  f152 := Tryd.func137.trans (congrArg some (by kernel_rfl))
  f160 := Tryd.func50.trans (congrArg some (by kernel_rfl))
  f197 := Tryd.func117.trans (congrArg some (by kernel_rfl))
  f217 := Tryd.func73.trans (congrArg some (by kernel_rfl))
  f224 := Tryd.func113.trans (congrArg some (by kernel_rfl))
  f225 := Tryd.func112.trans (congrArg some (by kernel_rfl))
  f227 := Tryd.func76.trans (congrArg some (by kernel_rfl))
  f228 := Tryd.func116.trans (congrArg some (by kernel_rfl))
  f231 := Tryd.func74.trans (congrArg some (by kernel_rfl))
  f232 := Tryd.func75.trans (congrArg some (by kernel_rfl))
  f233 := Tryd.func77.trans (congrArg some (by kernel_rfl))
  f234 := Tryd.func78.trans (congrArg some (by kernel_rfl))
  f235 := Tryd.func79.trans (congrArg some (by kernel_rfl))
  f236 := Tryd.func80.trans (congrArg some (by kernel_rfl))
  f260 := Tryd.func136.trans (congrArg some (by kernel_rfl))
  f266 := Tryd.func115.trans (congrArg some (by kernel_rfl))
  f271 := Tryd.func119.trans (congrArg some (by kernel_rfl))
  t0 := Tryd.underlying0
  a0 := Tryd.isAgg0
  z0 := Tryd.sizeOf0
  v0 := Tryd.zeroValue0
  t3 := Tryd.underlying3
  a3 := Tryd.isAgg3
  z3 := Tryd.sizeOf3
  v3 := Tryd.zeroValue3
  t4 := Tryd.underlying4
  a4 := Tryd.isAgg4
  z4 := Tryd.sizeOf4
  v4 := Tryd.zeroValue4
  t5 := Tryd.underlying5
  a5 := Tryd.isAgg5
  z5 := Tryd.sizeOf5
  v5 := Tryd.zeroValue5
  t9 := Tryd.underlying9
  a9 := Tryd.isAgg9
  z9 := Tryd.sizeOf9
  v9 := Tryd.zeroValue9
  t21 := Tryd.underlying21
  a21 := Tryd.isAgg21
  z21 := Tryd.sizeOf21
  v21 := Tryd.zeroValue21
  t46 := Tryd.underlying149
  a46 := Tryd.isAgg149
  z46 := Tryd.sizeOf149
  v46 := Tryd.zeroValue149
  t105 := Tryd.underlying150
  a105 := Tryd.isAgg150
  z105 := Tryd.sizeOf150
  v105 := Tryd.zeroValue150
  t116 := Tryd.underlying126
  a116 := Tryd.isAgg126
  z116 := Tryd.sizeOf126
  t117 := Tryd.underlying127
  a117 := Tryd.isAgg127
  z117 := Tryd.sizeOf127
  v117 := Tryd.zeroValue127
  t119 := Tryd.underlying170
  a119 := Tryd.isAgg170
  z119 := Tryd.sizeOf170
  t124 := Tryd.underlying130
  a124 := Tryd.isAgg130
  z124 := Tryd.sizeOf130
  v124 := Tryd.zeroValue130
  t138 := Tryd.underlying172
  a138 := Tryd.isAgg172
  z138 := Tryd.sizeOf172
  v138 := Tryd.zeroValue172
  t139 := Tryd.underlying173
  a139 := Tryd.isAgg173
  z139 := Tryd.sizeOf173
  v139 := Tryd.zeroValue173
  g3 := by kernel_rfl
  g4 := by kernel_rfl }
open Go.RowKit in
theorem Tryd.strings_Trim_one (s : ByteArray) (c : UInt8) (hc : c.toNat < 128) (w : World) (hs : s.size ≤ 9223372036854775807) :
    Calls Tryd.prog 50 #[.string s, .string ⟨#[c]⟩] w fun e w' => e = .returned (.string ⟨(Lib.trimB s.data.toList c).toArray⟩) ∧ (w' = w ∨ w' = w.drew) := Any.strings_Trim_one Tryd.lays160 s c hc w hs
def Tryd.lays137_ren : Go.Shelf.Ren := ⟨fun | 137 => 49 | 217 => 73 | 266 => 115 | n => n, fun | 9 => 9 | 5 => 5 | 3 => 3 | n => n, fun | n => n⟩
theorem Tryd.lays137 : Go.Proofs.Lays.n137 Tryd.prog Tryd.lays137_ren := {
  mixed := by kernel_rfl
  f137 := Tryd.func49.trans (congrArg some (by kernel_rfl))
  f217 := Tryd.func73.trans (congrArg some (by kernel_rfl))
  f266 := Tryd.func115.trans (congrArg some (by kernel_rfl))
  t3 := Tryd.underlying3
  a3 := Tryd.isAgg3
  z3 := Tryd.sizeOf3
  v3 := Tryd.zeroValue3
  t5 := Tryd.underlying5
  a5 := Tryd.isAgg5
  z5 := Tryd.sizeOf5
  v5 := Tryd.zeroValue5
  t9 := Tryd.underlying9
  a9 := Tryd.isAgg9
  z9 := Tryd.sizeOf9
  v9 := Tryd.zeroValue9 }
open Go.RowKit in
theorem Tryd.strings_IndexByte (s : ByteArray) (c : Int) (w : World) :
    Calls Tryd.prog 49 #[.string s, .int .u8 c] w fun e w' => e = .returned (.int .i64 (Lib.indexByte s.data.toList c.toNat.toUInt8)) ∧ w' = w := Any.strings_IndexByte Tryd.lays137 s c w
open Go.RowKit in
theorem Tryd.Builder_String_any_k (B b : Nat) (l : List UInt8) (w : World) (h : Lib.IsBuilderF 104 5 B b (Lib.byteCells l) w) (hBw : B ≤ w.heap.size) :
    Calls Tryd.prog 57 #[.pointer (some ⟨b, 0, none⟩)] w fun e w' => e = .returned (.string ⟨l.toArray⟩) ∧ (Lib.IsBuilderF 104 5 B b (Lib.byteCells l) w' ∧ Below B w w' ∧ Lib.OthersKept 5 (some b) w w') := Any.Builder_String_any_k Tryd.lays169 Tryd.Builder_Extra_169 B b l w h hBw
def Tryd.laysM171_ren : Go.Shelf.Ren := ⟨fun | 171 => 108 | 243 => 133 | 246 => 145 | 283 => 148 | 284 => 149 | 285 => 150 | 286 => 151 | 129 => 153 | 317 => 152 | 318 => 154 | 319 => 155 | 320 => 156 | 337 => 157 | 338 => 158 | n => n, fun | 3 => 3 | 9 => 9 | 2 => 2 | 4 => 4 | 171 => 176 | 0 => 0 | 53 => 177 | 37 => 56 | 5 => 5 | 173 => 180 | 212 => 183 | 51 => 161 | 20 => 20 | 213 => 184 | 46 => 149 | 232 => 187 | 233 => 188 | n => n, fun | 17 => 3 | 18 => 4 | 19 => 5 | n => n⟩
theorem Tryd.laysM171 : Go.Proofs.LaysM.n171 Tryd.prog Tryd.laysM171_ren := {
  mixed := by kernel_rfl
  f129 := Tryd.func153.trans (congrArg some (by kernel_rfl))
  f171 := Tryd.func108.trans (congrArg some (by kernel_rfl))
  f243 := Tryd.func133.trans (congrArg some (by kernel_rfl))
  f246 := Tryd.func145.trans (congrArg some (by kernel_rfl))
  f283 := Tryd.func148.trans (congrArg some (by kernel_rfl))
  f284 := Tryd.func149.trans (congrArg some (by kernel_rfl))
  f285 := Tryd.func150.trans (congrArg some (by kernel_rfl))
  f286 := Tryd.func151.trans (congrArg some (by kernel_rfl))
  f317 := Tryd.func152.trans (congrArg some (by kernel_rfl))
  f318 := Tryd.func154.trans (congrArg some (by kernel_rfl))
  f319 := Tryd.func155.trans (congrArg some (by kernel_rfl))
  f320 := Tryd.func156.trans (congrArg some (by kernel_rfl))
  f337 := Tryd.func157.trans (congrArg some (by kernel_rfl))
  f338 := Tryd.func158.trans (congrArg some (by kernel_rfl))
  t0 := Tryd.underlying0
  a0 := Tryd.isAgg0
  z0 := Tryd.sizeOf0
  v0 := Tryd.zeroValue0
  t2 := Tryd.underlying2
  a2 := Tryd.isAgg2
  z2 := Tryd.sizeOf2
  v2 := Tryd.zeroValue2
  t3 := Tryd.underlying3
  a3 := Tryd.isAgg3
  z3 := Tryd.sizeOf3
  v3 := Tryd.zeroValue3
  t4 := Tryd.underlying4
  a4 := Tryd.isAgg4
  z4 := Tryd.sizeOf4
  v4 := Tryd.zeroValue4
  t5 := Tryd.underlying5
  a5 := Tryd.isAgg5
  z5 := Tryd.sizeOf5
  v5 := Tryd.zeroValue5
  t9 := Tryd.underlying9
  a9 := Tryd.isAgg9
  z9 := Tryd.sizeOf9
  v9 := Tryd.zeroValue9
  t20 := Tryd.underlying20
  a20 := Tryd.isAgg20
  z20 := Tryd.sizeOf20
  v20 := Tryd.zeroValue20
  t37 := Tryd.underlying56
  a37 := Tryd.isAgg56
  z37 := Tryd.sizeOf56
  v37 := Tryd.zeroValue56
  t46 := Tryd.underlying149
  a46 := Tryd.isAgg149
  z46 := Tryd.sizeOf149
  v46 := Tryd.zeroValue149
  t51 := Tryd.underlying161
  a51 := Tryd.isAgg161
  z51 := Tryd.sizeOf161
  v51 := Tryd.zeroValue161
  t53 := Tryd.underlying177
  a53 := Tryd.isAgg177
  z53 := Tryd.sizeOf177
  v53 := Tryd.zeroValue177
  t171 := Tryd.underlying176
  a171 := Tryd.isAgg176
  z171 := Tryd.sizeOf176
  v171 := Tryd.zeroValue176
  t173 := Tryd.underlying180
  a173 := Tryd.isAgg180
  z173 := Tryd.sizeOf180
  v173 := Tryd.zeroValue180
  t212 := Tryd.underlying183
  a212 := Tryd.isAgg183
  z212 := Tryd.sizeOf183
  v212 := Tryd.zeroValue183
  t213 := Tryd.underlying184
  a213 := Tryd.isAgg184
  z213 := Tryd.sizeOf184
  t232 := Tryd.underlying187
  a232 := Tryd.isAgg187
  z232 := Tryd.sizeOf187
  v232 := Tryd.zeroValue187
  t233 := Tryd.underlying188
  a233 := Tryd.isAgg188
  z233 := Tryd.sizeOf188
  v233 := Tryd.zeroValue188
  g17 := by kernel_rfl
  g18 := by kernel_rfl
  g19 := by kernel_rfl
  i0 := by kernel_rfl
  i2 := by kernel_rfl
  i3 := by kernel_rfl
  i4 := by kernel_rfl
  i5 := by kernel_rfl
  i9 := by kernel_rfl
  i20 := by kernel_rfl
  i37 := by kernel_rfl
  i46 := by kernel_rfl
  i51 := by kernel_rfl
  i53 := by kernel_rfl
  i171 := by kernel_rfl
  i173 := by kernel_rfl
  i212 := by kernel_rfl
  i232 := by kernel_rfl
  i233 := by kernel_rfl
  m17 := by kernel_rfl
  m18 := by kernel_rfl
  m19 := by kernel_rfl }
open Go.RowKit Go.Sort Go.Lib in
theorem Tryd.strconv_Itoa (n : Int) (h0 : -9223372036854775808 ≤ n) (h1 : n ≤ 9223372036854775807) (w : World) (htab : Lib.TabIs Tryd.prog w "internal/strconv.uint64pow10" .u64 Lib.pow10Tab) :
    Calls Tryd.prog 108 #[.int .i64 n] w fun e w' => e = .returned (.string ⟨(Lib.itoa n).toArray⟩) ∧ ∃ k os, w' = grow (w.drewN k) os := Any.strconv_Itoa Tryd.laysM171 n h0 h1 w htab
def Tryd.lays171_ren : Go.Shelf.Ren := ⟨fun | 171 => 108 | 243 => 133 | 246 => 145 | 283 => 148 | 284 => 149 | 285 => 150 | 286 => 151 | 129 => 153 | 317 => 152 | 318 => 154 | 319 => 155 | 320 => 156 | 337 => 157 | 338 => 158 | n => n, fun | 3 => 3 | 9 => 9 | 2 => 2 | 4 => 4 | 171 => 176 | 0 => 0 | 53 => 177 | 37 => 56 | 5 => 5 | 173 => 180 | 212 => 183 | 51 => 161 | 20 => 20 | 213 => 184 | 46 => 149 | 232 => 187 | 233 => 188 | n => n, fun | 17 => 3 | 18 => 4 | 19 => 5 | n => n⟩
theorem Tryd.lays171 : Go.Proofs.Lays.n171 Tryd.prog Tryd.lays171_ren := {
  mixed := by kernel_rfl
  f129 := Tryd.func153.trans (congrArg some (by kernel_rfl))
  f171 := Tryd.func108.trans (congrArg some (by kernel_rfl))
  f243 := Tryd.func133.trans (congrArg some (by kernel_rfl))
  f246 := Tryd.func145.trans (congrArg some (by kernel_rfl))
  f283 := Tryd.func148.trans (congrArg some (by kernel_rfl))
  f284 := Tryd.func149.trans (congrArg some (by kernel_rfl))
  f285 := Tryd.func150.trans (congrArg some (by kernel_rfl))
  f286 := Tryd.func151.trans (congrArg some (by kernel_rfl))
  f317 := Tryd.func152.trans (congrArg some (by kernel_rfl))
  f318 := Tryd.func154.trans (congrArg some (by kernel_rfl))
  f319 := Tryd.func155.trans (congrArg some (by kernel_rfl))
  f320 := Tryd.func156.trans (congrArg some (by kernel_rfl))
  f337 := Tryd.func157.trans (congrArg some (by kernel_rfl))
  f338 := Tryd.func158.trans (congrArg some (by kernel_rfl))
  t0 := Tryd.underlying0
  a0 := Tryd.isAgg0
  z0 := Tryd.sizeOf0
  v0 := Tryd.zeroValue0
  t2 := Tryd.underlying2
  a2 := Tryd.isAgg2
  z2 := Tryd.sizeOf2
  v2 := Tryd.zeroValue2
  t3 := Tryd.underlying3
  a3 := Tryd.isAgg3
  z3 := Tryd.sizeOf3
  v3 := Tryd.zeroValue3
  t4 := Tryd.underlying4
  a4 := Tryd.isAgg4
  z4 := Tryd.sizeOf4
  v4 := Tryd.zeroValue4
  t5 := Tryd.underlying5
  a5 := Tryd.isAgg5
  z5 := Tryd.sizeOf5
  v5 := Tryd.zeroValue5
  t9 := Tryd.underlying9
  a9 := Tryd.isAgg9
  z9 := Tryd.sizeOf9
  v9 := Tryd.zeroValue9
  t20 := Tryd.underlying20
  a20 := Tryd.isAgg20
  z20 := Tryd.sizeOf20
  v20 := Tryd.zeroValue20
  t37 := Tryd.underlying56
  a37 := Tryd.isAgg56
  z37 := Tryd.sizeOf56
  v37 := Tryd.zeroValue56
  t46 := Tryd.underlying149
  a46 := Tryd.isAgg149
  z46 := Tryd.sizeOf149
  v46 := Tryd.zeroValue149
  t51 := Tryd.underlying161
  a51 := Tryd.isAgg161
  z51 := Tryd.sizeOf161
  v51 := Tryd.zeroValue161
  t53 := Tryd.underlying177
  a53 := Tryd.isAgg177
  z53 := Tryd.sizeOf177
  v53 := Tryd.zeroValue177
  t171 := Tryd.underlying176
  a171 := Tryd.isAgg176
  z171 := Tryd.sizeOf176
  v171 := Tryd.zeroValue176
  t173 := Tryd.underlying180
  a173 := Tryd.isAgg180
  z173 := Tryd.sizeOf180
  v173 := Tryd.zeroValue180
  t212 := Tryd.underlying183
  a212 := Tryd.isAgg183
  z212 := Tryd.sizeOf183
  v212 := Tryd.zeroValue183
  t213 := Tryd.underlying184
  a213 := Tryd.isAgg184
  z213 := Tryd.sizeOf184
  t232 := Tryd.underlying187
  a232 := Tryd.isAgg187
  z232 := Tryd.sizeOf187
  v232 := Tryd.zeroValue187
  t233 := Tryd.underlying188
  a233 := Tryd.isAgg188
  z233 := Tryd.sizeOf188
  v233 := Tryd.zeroValue188
  g17 := by kernel_rfl
  g18 := by kernel_rfl
  g19 := by kernel_rfl }
open Go.RowKit Go.Sort Go.Lib in
theorem Tryd.strconv_Itoa_small (i : Nat) (hi : i < 100) (w : World) :
    Calls Tryd.prog 108 #[.int .i64 i] w fun e w' => e = .returned (.string ⟨(Lib.decDigits i).toArray⟩) ∧ w' = w := Any.strconv_Itoa_small Tryd.lays171 i hi w
def Tryd.lays143_ren : Go.Shelf.Ren := ⟨fun | 143 => 46 | 219 => 69 | 217 => 73 | 225 => 112 | 224 => 113 | 267 => 114 | 266 => 115 | 314 => 135 | n => n, fun | 9 => 9 | 3 => 3 | 4 => 4 | 5 => 5 | 46 => 149 | 146 => 162 | 51 => 161 | n => n, fun | 1 => 0 | n => n⟩
theorem Tryd.lays143 : Go.Proofs.Lays.n143 Tryd.prog Tryd.lays143_ren := {
  mixed := by kernel_rfl
  f143 := Tryd.func46.trans (congrArg some (by kernel_rfl))
  f217 := Tryd.func73.trans (congrArg some (by kernel_rfl))
  f219 := Tryd.func69.trans (congrArg some (by kernel_rfl))
  f224 := Tryd.func113.trans (congrArg some (by kernel_rfl))
  f225 := Tryd.func112.trans (congrArg some (by kernel_rfl))
  f266 := Tryd.func115.trans (congrArg some (by kernel_rfl))
  f267 := Tryd.func114.trans (congrArg some (by kernel_rfl))
  f314 := Tryd.func135.trans (congrArg some (by kernel_rfl))
  t3 := Tryd.underlying3
  a3 := Tryd.isAgg3
  z3 := Tryd.sizeOf3
  v3 := Tryd.zeroValue3
  t4 := Tryd.underlying4
  a4 := Tryd.isAgg4
  z4 := Tryd.sizeOf4
  v4 := Tryd.zeroValue4
  t5 := Tryd.underlying5
  a5 := Tryd.isAgg5
  z5 := Tryd.sizeOf5
  v5 := Tryd.zeroValue5
  t9 := Tryd.underlying9
  a9 := Tryd.isAgg9
  z9 := Tryd.sizeOf9
  v9 := Tryd.zeroValue9
  t46 := Tryd.underlying149
  a46 := Tryd.isAgg149
  z46 := Tryd.sizeOf149
  v46 := Tryd.zeroValue149
  t51 := Tryd.underlying161
  a51 := Tryd.isAgg161
  z51 := Tryd.sizeOf161
  v51 := Tryd.zeroValue161
  t146 := Tryd.underlying162
  a146 := Tryd.isAgg162
  z146 := Tryd.sizeOf162
  v146 := Tryd.zeroValue162
  g1 := by kernel_rfl }
open Go.RowKit Go.Lib in
theorem Tryd.strings_Index (s sub : ByteArray) (m : Int) (w : World) (hs : s.size < 4294967281) (hm : w.cell? ⟨0, 0, none⟩ = some (.int .i64 m)) :
    Calls Tryd.prog 46 #[.string s, .string sub] w fun e w' => e = .returned (.int .i64 (Lib.index s.data.toList sub.data.toList)) ∧ w' = w := Any.strings_Index Tryd.lays143 s sub m w hs hm
def Tryd.lays144_ren : Go.Shelf.Ren := ⟨fun | 144 => 36 | 143 => 46 | 219 => 69 | 217 => 73 | 225 => 112 | 224 => 113 | 267 => 114 | 266 => 115 | 314 => 135 | n => n, fun | 9 => 9 | 4 => 4 | 3 => 3 | 5 => 5 | 46 => 149 | 146 => 162 | 51 => 161 | n => n, fun | 1 => 0 | n => n⟩
theorem Tryd.lays144 : Go.Proofs.Lays.n144 Tryd.prog Tryd.lays144_ren := {
  mixed := by kernel_rfl
  f143 := Tryd.func46.trans (congrArg some (by kernel_rfl))
  f144 := Tryd.func36.trans (congrArg some (by kernel_rfl))
  f217 := Tryd.func73.trans (congrArg some (by kernel_rfl))
  f219 := Tryd.func69.trans (congrArg some (by kernel_rfl))
  f224 := Tryd.func113.trans (congrArg some (by kernel_rfl))
  f225 := Tryd.func112.trans (congrArg some (by kernel_rfl))
  f266 := Tryd.func115.trans (congrArg some (by kernel_rfl))
  f267 := Tryd.func114.trans (congrArg some (by kernel_rfl))
  f314 := Tryd.func135.trans (congrArg some (by kernel_rfl))
  t3 := Tryd.underlying3
  a3 := Tryd.isAgg3
  z3 := Tryd.sizeOf3
  v3 := Tryd.zeroValue3
  t4 := Tryd.underlying4
  a4 := Tryd.isAgg4
  z4 := Tryd.sizeOf4
  v4 := Tryd.zeroValue4
  t5 := Tryd.underlying5
  a5 := Tryd.isAgg5
  z5 := Tryd.sizeOf5
  v5 := Tryd.zeroValue5
  t9 := Tryd.underlying9
  a9 := Tryd.isAgg9
  z9 := Tryd.sizeOf9
  v9 := Tryd.zeroValue9
  t46 := Tryd.underlying149
  a46 := Tryd.isAgg149
  z46 := Tryd.sizeOf149
  v46 := Tryd.zeroValue149
  t51 := Tryd.underlying161
  a51 := Tryd.isAgg161
  z51 := Tryd.sizeOf161
  v51 := Tryd.zeroValue161
  t146 := Tryd.underlying162
  a146 := Tryd.isAgg162
  z146 := Tryd.sizeOf162
  v146 := Tryd.zeroValue162
  g1 := by kernel_rfl }
open Go.RowKit Go.Lib in
theorem Tryd.strings_Contains (s sub : ByteArray) (m : Int) (w : World) (hs : s.size < 4294967281) (hm : w.cell? ⟨0, 0, none⟩ = some (.int .i64 m)) :
    Calls Tryd.prog 36 #[.string s, .string sub] w fun e w' => e = .returned (.bool (Lib.contains s.data.toList sub.data.toList)) ∧ w' = w := Any.strings_Contains Tryd.lays144 s sub m w hs hm
def Tryd.lays138_ren : Go.Shelf.Ren := ⟨fun | 138 => 64 | 195 => 109 | 218 => 110 | 143 => 46 | 219 => 69 | 217 => 73 | 225 => 112 | 224 => 113 | 267 => 114 | 266 => 115 | 314 => 135 | n => n, fun | 9 => 9 | 3 => 3 | 4 => 4 | 5 => 5 | 0 => 0 | 46 => 149 | 146 => 162 | 51 => 161 | n => n, fun | 1 => 0 | n => n⟩
theorem Tryd.lays138 : Go.Proofs.Lays.n138 Tryd.prog Tryd.lays138_ren := {
  mixed := by kernel_rfl
  f138 := Tryd.func64.trans (congrArg some (by kernel_rfl))
  f143 := Tryd.func46.trans (congrArg some (by kernel_rfl))
  f195 := Tryd.func109.trans (congrArg some (by kernel_rfl))
  f217 := Tryd.func73.trans (congrArg some (by kernel_rfl))
  f218 := Tryd.func110.trans (congrArg some (by kernel_rfl))
  f219 := Tryd.func69.trans (congrArg some (by kernel_rfl))
  f224 := Tryd.func113.trans (congrArg some (by kernel_rfl))
  f225 := Tryd.func112.trans (congrArg some (by kernel_rfl))
  f266 := Tryd.func115.trans (congrArg some (by kernel_rfl))
  f267 := Tryd.func114.trans (congrArg some (by kernel_rfl))
  f314 := Tryd.func135.trans (congrArg some (by kernel_rfl))
  t0 := Tryd.underlying0
  a0 := Tryd.isAgg0
  z0 := Tryd.sizeOf0
  v0 := Tryd.zeroValue0
  t3 := Tryd.underlying3
  a3 := Tryd.isAgg3
  z3 := Tryd.sizeOf3
  v3 := Tryd.zeroValue3
  t4 := Tryd.underlying4
  a4 := Tryd.isAgg4
  z4 := Tryd.sizeOf4
  v4 := Tryd.zeroValue4
  t5 := Tryd.underlying5
  a5 := Tryd.isAgg5
  z5 := Tryd.sizeOf5
  v5 := Tryd.zeroValue5
  t9 := Tryd.underlying9
  a9 := Tryd.isAgg9
  z9 := Tryd.sizeOf9
  v9 := Tryd.zeroValue9
  t46 := Tryd.underlying149
  a46 := Tryd.isAgg149
  z46 := Tryd.sizeOf149
  v46 := Tryd.zeroValue149
  t51 := Tryd.underlying161
  a51 := Tryd.isAgg161
  z51 := Tryd.sizeOf161
  v51 := Tryd.zeroValue161
  t146 := Tryd.underlying162
  a146 := Tryd.isAgg162
  z146 := Tryd.sizeOf162
  v146 := Tryd.zeroValue162
  g1 := by kernel_rfl }
open Go.RowKit Go.Lib in
theorem Tryd.strings_Count (s sub : ByteArray) (m : Int) (w : World) (hs : s.size < 4294967281) (hm : w.cell? ⟨0, 0, none⟩ = some (.int .i64 m)) (h2 : 2 ≤ sub.size) :
    Calls Tryd.prog 64 #[.string s, .string sub] w fun e w' => e = .returned (.int .i64 (Lib.countB s sub)) ∧ w' = w := Any.strings_Count Tryd.lays138 s sub m w hs hm h2
def Tryd.laysM138_ren : Go.Shelf.Ren := ⟨fun | 138 => 64 | 195 => 109 | 218 => 110 | 143 => 46 | 219 => 69 | 217 => 73 | 225 => 112 | 224 => 113 | 267 => 114 | 266 => 115 | 314 => 135 | n => n, fun | 9 => 9 | 3 => 3 | 4 => 4 | 5 => 5 | 0 => 0 | 46 => 149 | 146 => 162 | 51 => 161 | n => n, fun | 1 => 0 | n => n⟩
theorem Tryd.laysM138 : Go.Proofs.LaysM.n138 Tryd.prog Tryd.laysM138_ren := {
  mixed := by kernel_rfl
  f138 := Tryd.func64.trans (congrArg some (by kernel_rfl))
  f143 := Tryd.func46.trans (congrArg some (by kernel_rfl))
  f195 := Tryd.func109.trans (congrArg some (by kernel_rfl))
  f217 := Tryd.func73.trans (congrArg some (by kernel_rfl))
  f218 := Tryd.func110.trans (congrArg some (by kernel_rfl))
  f219 := Tryd.func69.trans (congrArg some (by kernel_rfl))
  f224 := Tryd.func113.trans (congrArg some (by kernel_rfl))
  f225 := Tryd.func112.trans (congrArg some (by kernel_rfl))
  f266 := Tryd.func115.trans (congrArg some (by kernel_rfl))
  f267 := Tryd.func114.trans (congrArg some (by kernel_rfl))
  f314 := Tryd.func135.trans (congrArg some (by kernel_rfl))
  t0 := Tryd.underlying0
  a0 := Tryd.isAgg0
  z0 := Tryd.sizeOf0
  v0 := Tryd.zeroValue0
  t3 := Tryd.underlying3
  a3 := Tryd.isAgg3
  z3 := Tryd.sizeOf3
  v3 := Tryd.zeroValue3
  t4 := Tryd.underlying4
  a4 := Tryd.isAgg4
  z4 := Tryd.sizeOf4
  v4 := Tryd.zeroValue4
  t5 := Tryd.underlying5
  a5 := Tryd.isAgg5
  z5 := Tryd.sizeOf5
  v5 := Tryd.zeroValue5
  t9 := Tryd.underlying9
  a9 := Tryd.isAgg9
  z9 := Tryd.sizeOf9
  v9 := Tryd.zeroValue9
  t46 := Tryd.underlying149
  a46 := Tryd.isAgg149
  z46 := Tryd.sizeOf149
  v46 := Tryd.zeroValue149
  t51 := Tryd.underlying161
  a51 := Tryd.isAgg161
  z51 := Tryd.sizeOf161
  v51 := Tryd.zeroValue161
  t146 := Tryd.underlying162
  a146 := Tryd.isAgg162
  z146 := Tryd.sizeOf162
  v146 := Tryd.zeroValue162
  g1 := by kernel_rfl
  i0 := by kernel_rfl
  i3 := by kernel_rfl
  i4 := by kernel_rfl
  i5 := by kernel_rfl
  i9 := by kernel_rfl
  i46 := by kernel_rfl
  i51 := by kernel_rfl
  i146 := by kernel_rfl
  m1 := by kernel_rfl
  s1_3 := fun w h => Go.Proofs.cell_of_shapedOpen_int (zero := #[.int .i64 0]) (t := 3) h (of_decide_eq_true (by kernel_rfl)) (by kernel_rfl) rfl (by kernel_rfl) (by kernel_rfl) Tryd.underlying3 }
open Go.RowKit Go.Lib in
theorem Tryd.strings_Count_shaped (s sub : ByteArray) (w : World) (h : w.ShapedOpen Tryd.prog) (hs : s.size < 4294967281) (h2 : 2 ≤ sub.size) :
    Calls Tryd.prog 64 #[.string s, .string sub] w fun e w' => e = .returned (.int .i64 (Lib.countB s sub)) ∧ w' = w := Any.strings_Count_shaped Tryd.laysM138 s sub w h hs h2
def Tryd.lays151_ren : Go.Shelf.Ren := ⟨fun | 151 => 118 | 152 => 137 | 137 => 49 | 119 => 146 | 224 => 113 | 225 => 112 | 217 => 73 | 266 => 115 | n => n, fun | 9 => 9 | 21 => 21 | 4 => 4 | 3 => 3 | 5 => 5 | 0 => 0 | 46 => 149 | n => n, fun | n => n⟩
theorem Tryd.lays151 : Go.Proofs.Lays.n151 Tryd.prog Tryd.lays151_ren := {
  mixed := by kernel_rfl
  f119 := Tryd.func146.trans (congrArg some (by kernel_rfl))
  f137 := Tryd.func49.trans (congrArg some (by kernel_rfl))
  f151 := Tryd.func118.trans (congrArg some (by kernel_rfl))
  f152 := Tryd.func137.trans (congrArg some (by kernel_rfl))
  f217 := Tryd.func73.trans (congrArg some (by kernel_rfl))
  f224 := Tryd.func113.trans (congrArg some (by kernel_rfl))
  f225 := Tryd.func112.trans (congrArg some (by kernel_rfl))
  f266 := Tryd.func115.trans (congrArg some (by kernel_rfl))
  t0 := Tryd.underlying0
  a0 := Tryd.isAgg0
  z0 := Tryd.sizeOf0
  v0 := Tryd.zeroValue0
  t3 := Tryd.underlying3
  a3 := Tryd.isAgg3
  z3 := Tryd.sizeOf3
  v3 := Tryd.zeroValue3
  t4 := Tryd.underlying4
  a4 := Tryd.isAgg4
  z4 := Tryd.sizeOf4
  v4 := Tryd.zeroValue4
  t5 := Tryd.underlying5
  a5 := Tryd.isAgg5
  z5 := Tryd.sizeOf5
  v5 := Tryd.zeroValue5
  t9 := Tryd.underlying9
  a9 := Tryd.isAgg9
  z9 := Tryd.sizeOf9
  v9 := Tryd.zeroValue9
  t21 := Tryd.underlying21
  a21 := Tryd.isAgg21
  z21 := Tryd.sizeOf21
  v21 := Tryd.zeroValue21
  t46 := Tryd.underlying149
  a46 := Tryd.isAgg149
  z46 := Tryd.sizeOf149
  v46 := Tryd.zeroValue149 }
open Go.RowKit Go.Lib in
theorem Tryd.strings_ContainsRune_ascii (s : ByteArray) (r : Int) (w : World) (h0 : 0 ≤ r) (h1 : r < 128) :
    Calls Tryd.prog 118 #[.string s, .int .i32 r] w fun e w' => e = .returned (.bool (decide (0 ≤ Lib.indexByte s.data.toList r.toNat.toUInt8))) ∧ w' = w := Any.strings_ContainsRune_ascii Tryd.lays151 s r w h0 h1
def Tryd.lays153_ren : Go.Shelf.Ren := ⟨fun | 153 => 126 | 152 => 137 | 226 => 141 | 227 => 76 | 228 => 116 | 137 => 49 | 119 => 146 | 224 => 113 | 225 => 112 | 217 => 73 | 266 => 115 | n => n, fun | 9 => 9 | 3 => 3 | 4 => 4 | 5 => 5 | 21 => 21 | 117 => 127 | 116 => 126 | 0 => 0 | 46 => 149 | 124 => 130 | n => n, fun | n => n⟩
theorem Tryd.lays153 : Go.Proofs.Lays.n153 Tryd.prog Tryd.lays153_ren := {
  mixed := by kernel_rfl
  f119 := Tryd.func146.trans (congrArg some (by kernel_rfl))
  f137 := Tryd.func49.trans (congrArg some (by kernel_rfl))
  f152 := Tryd.func137.trans (congrArg some (by kernel_rfl))
  f153 := Tryd.func126.trans (congrArg some (by kernel_rfl))
  f217 := Tryd.func73.trans (congrArg some (by kernel_rfl))
  f224 := Tryd.func113.trans (congrArg some (by kernel_rfl))
  f225 := Tryd.func112.trans (congrArg some (by kernel_rfl))
  f226 := Tryd.func141.trans (congrArg some (by kernel_rfl))
  f227 := Tryd.func76.trans (congrArg some (by kernel_rfl))
  f228 := Tryd.func116.trans (congrArg some (by kernel_rfl))
  f266 := Tryd.func115.trans (congrArg some (by kernel_rfl))
  t0 := Tryd.underlying0
  a0 := Tryd.isAgg0
  z0 := Tryd.sizeOf0
  v0 := Tryd.zeroValue0
  t3 := Tryd.underlying3
  a3 := Tryd.isAgg3
  z3 := Tryd.sizeOf3
  v3 := Tryd.zeroValue3
  t4 := Tryd.underlying4
  a4 := Tryd.isAgg4
  z4 := Tryd.sizeOf4
  v4 := Tryd.zeroValue4
  t5 := Tryd.underlying5
  a5 := Tryd.isAgg5
  z5 := Tryd.sizeOf5
  v5 := Tryd.zeroValue5
  t9 := Tryd.underlying9
  a9 := Tryd.isAgg9
  z9 := Tryd.sizeOf9
  v9 := Tryd.zeroValue9
  t21 := Tryd.underlying21
  a21 := Tryd.isAgg21
  z21 := Tryd.sizeOf21
  v21 := Tryd.zeroValue21
  t46 := Tryd.underlying149
  a46 := Tryd.isAgg149
  z46 := Tryd.sizeOf149
  v46 := Tryd.zeroValue149
  t116 := Tryd.underlying126
  a116 := Tryd.isAgg126
  z116 := Tryd.sizeOf126
  t117 := Tryd.underlying127
  a117 := Tryd.isAgg127
  z117 := Tryd.sizeOf127
  v117 := Tryd.zeroValue127
  t124 := Tryd.underlying130
  a124 := Tryd.isAgg130
  z124 := Tryd.sizeOf130
  v124 := Tryd.zeroValue130 }
open Go.RowKit Go.Lib in
theorem Tryd.strings_IndexAny_laid (s chars : ByteArray) (w : World) (hs : s.size < 4294967281) (hcs : chars.size < 4294967281) (has : ∀ (j : Nat) b, s.data.toList[j]? = some b → b.toNat < 128) (hac : ∀ (j : Nat) b, chars.data.toList[j]? = some b → b.toNat < 128) :
    Calls Tryd.prog 126 #[.string s, .string chars] w fun e w' => e = .returned (.int .i64 (Lib.indexAny s.data.toList chars.data.toList)) ∧ Below w.heap.size w w' := Any.strings_IndexAny_laid Tryd.lays153 (by kernel_rfl) s chars w hs hcs has hac
open Go.RowKit Go.Lib in
theorem Tryd.strings_Trim_laid (s cutset : ByteArray) (w : World) (hs : s.size ≤ 9223372036854775807) (hcs : cutset.size < 4294967281) (hascii : ∀ (j : Nat) b, cutset.data.toList[j]? = some b → b.toNat < 128) :
    Calls Tryd.prog 50 #[.string s, .string cutset] w fun e w' => e = .returned (.string ⟨(Lib.trimS s.data.toList cutset.data.toList).toArray⟩) ∧ Below w.heap.size w w' := Any.strings_Trim_laid Tryd.lays160 (by kernel_rfl) s cutset w hs hcs hascii
end Go.Proofs
end
section
/- The strings.Builder of this dump: what copyCheck, WriteByte, WriteString and String do to a Builder that the call has made. -/
set_option linter.unusedVariables false
namespace Go.Proofs.YtgmlhmojcemliaaDoor
open Go.Shelf Go.RowKit

theorem bX72 : Builder.X72 Tryd.prog ⟨fun n => n, fun | 72 => 104 | 5 => 5 | n => n, fun n => n⟩ := { sizeBuilder := by kernel_rfl, liesBuilder := by kernel_rfl }
theorem bInfoByte : (Tryd.prog.info? 5).map (fun i => (i.zero, i.size, i.bytes)) = some (some (.int .u8 0), 1, 1) := by kernel_rfl
theorem bCellsByte : Tryd.prog.cellsOf 5 = 1 := by kernel_rfl

set_option maxRecDepth 100000 in
theorem bCheck_fresh (b : Nat) (w : World) (h0 : w.cell? ⟨b, 0, none⟩ = some (.pointer none)) (hsh : w.shape? b = some (104, 2)) (hfz : w.frozen? ⟨b, 0, none⟩ = false) :
    Calls Tryd.prog 95 #[.pointer (some ⟨b, 0, none⟩)] w fun e w' => e = .returned (.tuple #[]) ∧ w' = w.setCell ⟨b, 0, none⟩ (.pointer (some ⟨b, 0, none⟩)) := by
  obtain ⟨j, hj, hjs⟩ := Option.map_eq_some_iff.1 bX72.sizeBuilder
  go_enter Tryd.func95, Tryd.ntmps95
  go_wp2
  rw [Lib.run_to_unsafe w ⟨b, 0, none⟩ Tryd.underlying102 Tryd.underlying154 hj (by rw [hjs]; decide) hsh (Nat.zero_lt_succ 1)]
  simp only [Result.andThen]
  rw [Oper.upon_value]
  go_wp2
  rw [run_callFunc_extern Tryd.func127 (by kernel_rfl) (by kernel_rfl) (by kernel_rfl) (e := Extern.AbiNoEscape.same) (by kernel_rfl)]
  rw [Lib.run_noEscape]
  simp only [Result.andThen]
  rw [Oper.upon_value]
  go_wp2
  rw [Lib.run_from_unsafe w ⟨b, 0, none⟩ Tryd.underlying154 Tryd.underlying102 hj hsh bX72.liesBuilder]
  simp only [Result.andThen]
  rw [Oper.upon_value]
  go_wp2
  go_end0
  exact ⟨rfl, rfl⟩

set_option maxRecDepth 100000 in
theorem bCheck_used (b : Nat) (w : World) (h0 : w.cell? ⟨b, 0, none⟩ = some (.pointer (some ⟨b, 0, none⟩))) :
    Calls Tryd.prog 95 #[.pointer (some ⟨b, 0, none⟩)] w fun e w' => e = .returned (.tuple #[]) ∧ w' = w := by
  obtain ⟨j, hj, _⟩ := Option.map_eq_some_iff.1 bX72.sizeBuilder
  go_enter Tryd.func95, Tryd.ntmps95
  go_wp2
  rw [Lib.run_neq_ptr_same w _ Tryd.underlying102 hj]
  go_wp2
  go_end0
  exact ⟨rfl, rfl⟩

theorem bCheck (B b : Nat) (bs : List Value) (w : World) (h : Lib.IsBuilderF 104 5 B b bs w) :
    Calls Tryd.prog 95 #[.pointer (some ⟨b, 0, none⟩)] w fun e w' => e = .returned (.tuple #[]) ∧ (Lib.BuilderAtF 104 5 B b (.pointer (some ⟨b, 0, none⟩)) bs w' ∧ Below B w w' ∧ Lib.OthersKept 5 (some b) w w') := by
  rcases h with h | h
  · refine (bCheck_fresh b w h.cell0 h.shape h.frozen0).mono ?_
    rintro e w' ⟨rfl, rfl⟩
    exact ⟨rfl, h.used _, (Below.refl B w).setCell (p := ⟨b, 0, none⟩) h.1 _, (Lib.OthersKept.refl _ _ w).setCell ⟨b, 0, none⟩ rfl _⟩
  · refine (bCheck_used b w h.cell0).mono ?_
    rintro e w' ⟨rfl, rfl⟩
    exact ⟨rfl, h, Below.refl B _, Lib.OthersKept.refl _ _ _⟩

set_option maxHeartbeats 2000000 in
set_option maxRecDepth 100000 in
theorem bWriteByte (B b : Nat) (bs : List Value) (c : Int) (w : World) (h : Lib.IsBuilderF 104 5 B b bs w) (hlen : bs.length + 1 ≤ 140737488355328) (hBw : B ≤ w.heap.size) :
    Calls Tryd.prog 59 #[.pointer (some ⟨b, 0, none⟩), .int .u8 c] w fun e w' => e = .returned .nilIface ∧ (Lib.BuilderAtF 104 5 B b (.pointer (some ⟨b, 0, none⟩)) (bs ++ [.int .u8 c]) w' ∧ Below B w w' ∧ Lib.OthersKept 5 (some b) w w') := by
  obtain ⟨i0, hi, hz0, hz1, hz2⟩ := info_parts bInfoByte
  go_enter Tryd.func59, Tryd.ntmps59
  go_wp2_with (go_at_call 95; refine (bCheck B b bs _ h).mono ?_)
  rintro e w1 ⟨rfl, h1, hb1, hk1⟩
  obtain ⟨hB, v, hbk, hown, hne⟩ := h1
  have c0 : w1.cell? ⟨b, 0, none⟩ = some (.pointer (some ⟨b, 0, none⟩)) := by rw [Lib.cell_of_heap hbk]; rfl
  have c1 : w1.cell? ⟨b, 1, none⟩ = some v := by rw [Lib.cell_of_heap hbk]; rfl
  go_wp2_with (at_builtin; refine wpList_append_ownF _ rfl _ _ 56 rfl B 5 i0 (.int .u8 0) 1 1 Tryd.underlying56 hi hz0 hz1 hz2 rfl (by decide) _ _ _ rfl (hown.alloc _) ⟨w1.heap.size, 0, none⟩ 1 1 [.int .u8 c] rfl rfl ?c1 ?c2 ?c3 ?c4 ?c5 ?_)
  case c1 =>
    intro j u hj
    match j, hj with
    | 0, hj => simp at hj; subst hj; simp [Addr.add]
  case c2 => intro u hu; simp at hu; subst hu; rfl
  case c3 => unfold maxLen; omega
  case c4 => omega
  case c5 => have := hb1.size; simp; omega
  intro v' w2 hown' hgrow _
  have hlt : b < w1.heap.size := by
    rcases Nat.lt_or_ge b w1.heap.size with h' | h'
    · exact h'
    · simp [Array.getElem?_eq_none h'] at hbk
  have hb2 : w2.heap[b]? = some (.cells #[.pointer (some ⟨b, 0, none⟩), v] 104 (0, 0)) := by
    rw [hgrow.block b (by simp; omega) (fun e => hne e.symm), Lib.alloc_old w1 _ b hlt]
    exact hbk
  have d0 : w2.cell? ⟨b, 0, none⟩ = some (.pointer (some ⟨b, 0, none⟩)) := by rw [Lib.cell_of_heap hb2]; rfl
  have d1 : w2.cell? ⟨b, 1, none⟩ = some v := by rw [Lib.cell_of_heap hb2]; rfl
  have f1 : w2.frozen? ⟨b, 1, none⟩ = false := Lib.frozen_of_heap hb2 1
  obtain ⟨g, cap, rfl⟩ : ∃ g cap, v' = .slice (some ⟨g, 0, none⟩) (bs.length + 1) cap := by
    rcases hown'.2 with ⟨_, h0⟩ | ⟨g, cap, cur, fz, hv, _⟩
    · omega
    · exact ⟨g, cap, hv⟩
  go_wp2
  go_ret
  refine ⟨rfl, ?_, ?_, ((hk1.alloc _).grown hgrow (Lib.ownsRowF_kind (hown.alloc _))).setCell ⟨b, 1, none⟩ rfl _⟩
  · exact Lib.BuilderAtF.put (T := 104) (e := 5) hB hb2 (bs' := bs ++ [.int .u8 c]) (by simpa using hown') (by decide)
  · exact ((hb1.alloc (by have := hb1.size; omega) _).grown hgrow (by have := hb1.size; simp; omega) (fun k hk => (hown.lt k hk).1)).setCell (p := ⟨b, 1, none⟩) hB _

set_option maxHeartbeats 2000000 in
set_option maxRecDepth 100000 in
theorem bWriteString (B b : Nat) (bs : List Value) (s : ByteArray) (w : World) (h : Lib.IsBuilderF 104 5 B b bs w) (hlen : bs.length + s.size ≤ 140737488355328) (hBw : B ≤ w.heap.size) :
    Calls Tryd.prog 55 #[.pointer (some ⟨b, 0, none⟩), .string s] w fun e w' => e = .returned (.tuple #[.int .i64 s.size, .nilIface]) ∧ (Lib.BuilderAtF 104 5 B b (.pointer (some ⟨b, 0, none⟩)) (bs ++ Lib.strCells s) w' ∧ Below B w w' ∧ Lib.OthersKept 5 (some b) w w') := by
  obtain ⟨i0, hi, hz0, hz1, hz2⟩ := info_parts bInfoByte
  go_enter Tryd.func55, Tryd.ntmps55
  go_wp2_with (go_at_call 95; refine (bCheck B b bs _ h).mono ?_)
  rintro e w1 ⟨rfl, h1, hb1, hk1⟩
  obtain ⟨hB, v, hbk, hown, hne⟩ := h1
  have c0 : w1.cell? ⟨b, 0, none⟩ = some (.pointer (some ⟨b, 0, none⟩)) := by rw [Lib.cell_of_heap hbk]; rfl
  have c1 : w1.cell? ⟨b, 1, none⟩ = some v := by rw [Lib.cell_of_heap hbk]; rfl
  go_wp2_with (at_builtin; refine Lib.wpList_append_own_stringF _ rfl _ _ 56 9 rfl B 5 i0 Tryd.underlying56 Tryd.underlying9 hi hz0 hz1 hz2 _ _ _ rfl hown s rfl ?c3 ?c4 ?c5 ?_)
  case c3 => unfold maxLen; omega
  case c4 => omega
  case c5 => have := hb1.size; omega
  intro v' w2 hown' hgrow _
  have hlt : b < w1.heap.size := by
    rcases Nat.lt_or_ge b w1.heap.size with h' | h'
    · exact h'
    · simp [Array.getElem?_eq_none h'] at hbk
  have hb2 : w2.heap[b]? = some (.cells #[.pointer (some ⟨b, 0, none⟩), v] 104 (0, 0)) := by
    rw [hgrow.block b hlt (fun e => hne e.symm)]
    exact hbk
  have d0 : w2.cell? ⟨b, 0, none⟩ = some (.pointer (some ⟨b, 0, none⟩)) := by rw [Lib.cell_of_heap hb2]; rfl
  have d1 : w2.cell? ⟨b, 1, none⟩ = some v := by rw [Lib.cell_of_heap hb2]; rfl
  have f1 : w2.frozen? ⟨b, 1, none⟩ = false := Lib.frozen_of_heap hb2 1
  obtain ⟨ao, n', cap, rfl⟩ : ∃ ao n' cap, v' = .slice ao n' cap := by
    rcases hown'.2 with ⟨hv, _⟩ | ⟨g, cap, cur, fz, hv, _⟩
    · exact ⟨_, _, _, hv⟩
    · exact ⟨_, _, _, hv⟩
  go_wp2
  go_ret2
  refine ⟨rfl, ?_, ?_, (hk1.grown hgrow (Lib.ownsRowF_kind hown)).setCell ⟨b, 1, none⟩ rfl _⟩
  · exact Lib.BuilderAtF.put (T := 104) (e := 5) hB hb2 (bs' := bs ++ Lib.strCells s) (by simpa [Lib.strCells_length] using hown') (by decide)
  · exact (hb1.grown hgrow (by have := hb1.size; omega) (fun k hk => (hown.lt k hk).1)).setCell (p := ⟨b, 1, none⟩) hB _

/-- Block b is a Builder of the call's own that holds these bytes. -/
def IsB (b : Nat) (acc : List UInt8) (w : World) : Prop := Lib.IsBuilderF 104 5 b b (Lib.byteCells acc) w
theorem IsB.new (w : World) : IsB w.heap.size [] (w.alloc (.cells #[.pointer none, .slice none 0 0] 104)) := Lib.IsBuilderF.of (Lib.fresh_isBuilder _ _ w)
theorem IsB.alloc {b : Nat} {acc : List UInt8} {w : World} (h : IsB b acc w) (o : Obj) : IsB b acc (w.alloc o) := Lib.IsBuilderF.alloc h o
theorem IsB.lt {b : Nat} {acc : List UInt8} {w : World} (h : IsB b acc w) : b < w.heap.size := by
  rcases h with h | h <;> exact h.lt
theorem IsB.drew {b : Nat} {acc : List UInt8} {w : World} (h : IsB b acc w) : IsB b acc w.drew := by
  rcases h with h | h
  · exact .inl h.drew
  · exact .inr h.drew
theorem IsB.drewN {b : Nat} {acc : List UInt8} {w : World} (h : IsB b acc w) (n : Nat) : IsB b acc (w.drewN n) := by
  induction n with
  | zero => exact h
  | succ n ih => rw [← World.drew_drewN]; exact ih.drew
theorem IsB.below {b : Nat} {acc : List UInt8} {w W : World} (h : IsB b acc w) (hb : Below w.heap.size w W) : IsB b acc W := by
  have hK : ∀ p, Lib.BuilderAtF 104 5 b b p (Lib.byteCells acc) w → Lib.BuilderAtF 104 5 b b p (Lib.byteCells acc) W := by
    rintro p ⟨hB, v, hbk, hown, hne⟩
    have hl : b < w.heap.size := (Array.getElem?_eq_some_iff.1 hbk).1
    refine ⟨hB, v, (hb.block b hl).trans hbk, ⟨hown.1, ?_⟩, hne⟩
    rcases hown.2 with h | ⟨g, cap, cur, fz, hv, h1, h2, h3⟩
    · exact .inl h
    · exact .inr ⟨g, cap, cur, fz, hv, h1, (hb.block g (Array.getElem?_eq_some_iff.1 h2).1).trans h2, h3⟩
  rcases h with h | h
  · exact .inl (hK _ h)
  · exact .inr (hK _ h)
theorem bW1 (b : Nat) (acc : List UInt8) (x : UInt8) (c : Int) (hc : c = x.toNat) (w : World) (h : IsB b acc w) (hlen : acc.length + 1 ≤ 140737488355328) :
    Calls Tryd.prog 59 #[.pointer (some ⟨b, 0, none⟩), .int .u8 c] w fun e w' => e = .returned .nilIface ∧ IsB b (acc ++ [x]) w' ∧ Below b w w' ∧ Lib.OthersKept 5 (some b) w w' :=
  (bWriteByte b b (Lib.byteCells acc) c w h (by rw [Lib.byteCells_length]; exact hlen) (Nat.le_of_lt h.lt)).mono fun e w' ⟨h1, h2, h3, h4⟩ => ⟨h1, .inr (by rw [Lib.byteCells_append]; subst hc; exact h2), h3, h4⟩
theorem bWS (b : Nat) (acc : List UInt8) (s : ByteArray) (w : World) (h : IsB b acc w) (hlen : acc.length + s.data.toList.length ≤ 140737488355328) : Calls Tryd.prog 55 #[.pointer (some ⟨b, 0, none⟩), .string s] w fun e w' => e = .returned (.tuple #[.int .i64 s.size, .nilIface]) ∧ IsB b (acc ++ s.data.toList) w' ∧ Below b w w' ∧ Lib.OthersKept 5 (some b) w w' := (bWriteString b b (Lib.byteCells acc) s w h (by rw [Lib.byteCells_length]; simpa using hlen) (Nat.le_of_lt h.lt)).mono fun e w' ⟨h1, h2, h3, h4⟩ => ⟨h1, .inr (by rw [Lib.byteCells_append, ← Lib.strCells_eq]; exact h2), h3, h4⟩
theorem bStr (b : Nat) (acc : List UInt8) (w : World) (h : IsB b acc w) :
    Calls Tryd.prog 57 #[.pointer (some ⟨b, 0, none⟩)] w fun e w' => e = .returned (.string ⟨acc.toArray⟩) ∧ IsB b acc w' ∧ Below b w w' ∧ Lib.OthersKept 5 (some b) w w' :=
  Tryd.Builder_String_any_k b b acc w h (Nat.le_of_lt h.lt)
/-- A block that is no row of bytes stands behind the call. -/
theorem okept {b g : Nat} {w W : World} {cs : Array Value} {t : TypeId} {z : Nat × Nat} (h : Lib.OthersKept 5 (some b) w W) (hg : w.heap[g]? = some (.cells cs t z)) (ht : t ≠ 5) (hb : g ≠ b) : W.heap[g]? = some (.cells cs t z) :=
  h g _ hg (by simpa using hb) (by intro c fz e; injection e with _ e; exact ht e)
theorem cell_blk {w : World} {g : Nat} {t : TypeId} {cs : Array Value} (h : w.heap[g]? = some (.cells cs t (0, 0))) (i : Nat) : w.cell? ⟨g, i, none⟩ = cs[i]? := cell_of_row w g i cs t (0, 0) h
theorem IsB.setFar {b g i : Nat} {acc : List UInt8} {w : World} {cs : Array Value} {t : TypeId} {z : Nat × Nat} (h : IsB b acc w) (hg : w.heap[g]? = some (.cells cs t z)) (h1 : t ≠ 5) (h2 : t ≠ 104) (v : Value) : IsB b acc (w.setCell ⟨g, i, none⟩ v) := by
  have hK : ∀ p, Lib.BuilderAtF 104 5 b b p (Lib.byteCells acc) w → Lib.BuilderAtF 104 5 b b p (Lib.byteCells acc) (w.setCell ⟨g, i, none⟩ v) := by
    rintro p ⟨hB, x, hbk, hown, hne⟩
    have n1 : b ≠ g := by rintro rfl; rw [hbk] at hg; injection hg with hg; injection hg with _ e; exact h2 e.symm
    refine ⟨hB, x, (Below.heap_setCell w ⟨g, i, none⟩ v b n1).trans hbk, ⟨hown.1, ?_⟩, hne⟩
    rcases hown.2 with h | ⟨q, cap, cur, fz, hv, h3, h4, h5⟩
    · exact .inl h
    · have n2 : q ≠ g := by rintro rfl; rw [h4] at hg; injection hg with hg; injection hg with _ e; exact h1 e.symm
      exact .inr ⟨q, cap, cur, fz, hv, h3, (Below.heap_setCell w ⟨g, i, none⟩ v q n2).trans h4, h5⟩
  rcases h with h | h
  · exact .inl (hK _ h)
  · exact .inr (hK _ h)
end Go.Proofs.YtgmlhmojcemliaaDoor
end
