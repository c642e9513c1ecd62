/- The shelf's contract of strconv.Itoa, laid at this dump in plain declarations (by the kit's lay-shelf and lay-plain). -/
import Derived.Shelf.Strconv.Itoa3
import Derived.Shelf.LaysM
import Derived.Test.YtilkginahmfagaaDoorProg
namespace Go.Proofs.YtilkginahmfagaaDoor.ItoaLaid
open Go.Proofs Go.Shelf
def laysM171_ren : Go.Shelf.Ren := ⟨fun | 171 => 90 | 243 => 121 | 246 => 145 | 283 => 161 | 284 => 162 | 285 => 163 | 286 => 164 | 129 => 170 | 317 => 169 | 318 => 171 | 319 => 172 | 320 => 173 | 337 => 177 | 338 => 178 | n => n, fun | 3 => 3 | 9 => 9 | 2 => 2 | 4 => 4 | 171 => 177 | 0 => 0 | 53 => 149 | 37 => 109 | 5 => 5 | 173 => 180 | 212 => 187 | 51 => 169 | 20 => 20 | 213 => 188 | 46 => 127 | 232 => 197 | 233 => 198 | n => n, fun | 17 => 3 | 18 => 6 | 19 => 7 | n => n⟩
theorem laysM171 : Go.Proofs.LaysM.n171 Tryd.prog laysM171_ren := {
  mixed := by kernel_rfl
  f129 := Tryd.func170.trans (congrArg some (by kernel_rfl))
  f171 := Tryd.func90.trans (congrArg some (by kernel_rfl))
  f243 := Tryd.func121.trans (congrArg some (by kernel_rfl))
  f246 := Tryd.func145.trans (congrArg some (by kernel_rfl))
  f283 := Tryd.func161.trans (congrArg some (by kernel_rfl))
  f284 := Tryd.func162.trans (congrArg some (by kernel_rfl))
  f285 := Tryd.func163.trans (congrArg some (by kernel_rfl))
  f286 := Tryd.func164.trans (congrArg some (by kernel_rfl))
  f317 := Tryd.func169.trans (congrArg some (by kernel_rfl))
  f318 := Tryd.func171.trans (congrArg some (by kernel_rfl))
  f319 := Tryd.func172.trans (congrArg some (by kernel_rfl))
  f320 := Tryd.func173.trans (congrArg some (by kernel_rfl))
  f337 := Tryd.func177.trans (congrArg some (by kernel_rfl))
  f338 := Tryd.func178.trans (congrArg some (by kernel_rfl))
  t0 := Tryd.underlying0
  a0 := Tryd.isAgg0
  z0 := Tryd.sizeOf0
  v0 := Tryd.zeroValue0
  t2 := Tryd.underlying2
  a2 := Tryd.isAgg2
  z2 := Tryd.sizeOf2
  v2 := Tryd.zeroValue2
  t3 := Tryd.underlying3
  a3 := Tryd.isAgg3
  z3 := Tryd.sizeOf3
  v3 := Tryd.zeroValue3
  t4 := Tryd.underlying4
  a4 := Tryd.isAgg4
  z4 := Tryd.sizeOf4
  v4 := Tryd.zeroValue4
  t5 := Tryd.underlying5
  a5 := Tryd.isAgg5
  z5 := Tryd.sizeOf5
  v5 := Tryd.zeroValue5
  t9 := Tryd.underlying9
  a9 := Tryd.isAgg9
  z9 := Tryd.sizeOf9
  v9 := Tryd.zeroValue9
  t20 := Tryd.underlying20
  a20 := Tryd.isAgg20
  z20 := Tryd.sizeOf20
  v20 := Tryd.zeroValue20
  t37 := Tryd.underlying109
  a37 := Tryd.isAgg109
  z37 := Tryd.sizeOf109
  v37 := Tryd.zeroValue109
  t46 := Tryd.underlying127
  a46 := Tryd.isAgg127
  z46 := Tryd.sizeOf127
  v46 := Tryd.zeroValue127
  t51 := Tryd.underlying169
  a51 := Tryd.isAgg169
  z51 := Tryd.sizeOf169
  v51 := Tryd.zeroValue169
  t53 := Tryd.underlying149
  a53 := Tryd.isAgg149
  z53 := Tryd.sizeOf149
  v53 := Tryd.zeroValue149
  t171 := Tryd.underlying177
  a171 := Tryd.isAgg177
  z171 := Tryd.sizeOf177
  v171 := Tryd.zeroValue177
  t173 := Tryd.underlying180
  a173 := Tryd.isAgg180
  z173 := Tryd.sizeOf180
  v173 := Tryd.zeroValue180
  t212 := Tryd.underlying187
  a212 := Tryd.isAgg187
  z212 := Tryd.sizeOf187
  v212 := Tryd.zeroValue187
  t213 := Tryd.underlying188
  a213 := Tryd.isAgg188
  z213 := Tryd.sizeOf188
  t232 := Tryd.underlying197
  a232 := Tryd.isAgg197
  z232 := Tryd.sizeOf197
  v232 := Tryd.zeroValue197
  t233 := Tryd.underlying198
  a233 := Tryd.isAgg198
  z233 := Tryd.sizeOf198
  v233 := Tryd.zeroValue198
  g17 := by kernel_rfl
  g18 := by kernel_rfl
  g19 := by kernel_rfl
  i0 := by kernel_rfl
  i2 := by kernel_rfl
  i3 := by kernel_rfl
  i4 := by kernel_rfl
  i5 := by kernel_rfl
  i9 := by kernel_rfl
  i20 := by kernel_rfl
  i37 := by kernel_rfl
  i46 := by kernel_rfl
  i51 := by kernel_rfl
  i53 := by kernel_rfl
  i171 := by kernel_rfl
  i173 := by kernel_rfl
  i212 := by kernel_rfl
  i232 := by kernel_rfl
  i233 := by kernel_rfl
  m17 := by kernel_rfl
  m18 := by kernel_rfl
  m19 := by kernel_rfl }
open Go.RowKit Go.Sort Go.Lib in
/-- strconv.Itoa: "Itoa is equivalent to FormatInt(int64(i), 10).": i's DECIMAL NUMERAL ('Lib.itoa': a '-' where i is negative, then the digits), FOR EVERY int. The world behind the call: the world before it, new blocks behind the heap (the library's 'var a [24]byte'), draws. (LAID: no walk: one application.) -/
theorem strconv_Itoa (n : Int) (h0 : -9223372036854775808 ≤ n) (h1 : n ≤ 9223372036854775807) (w : World) (htab : Lib.TabIs Tryd.prog w "internal/strconv.uint64pow10" .u64 Lib.pow10Tab) :
    Calls Tryd.prog 90 #[.int .i64 n] w fun e w' => e = .returned (.string ⟨(Lib.itoa n).toArray⟩) ∧ ∃ k os, w' = grow (w.drewN k) os := Any.strconv_Itoa laysM171 n h0 h1 w htab
end Go.Proofs.YtilkginahmfagaaDoor.ItoaLaid
