/- The shelf's contracts Builder_Extra_105, strings_Repeat, laid at this dump in plain declarations (by the kit's lay-shelf and lay-plain). -/
import Derived.Shelf.Strings.Repeat
import Derived.Test.YtkcdhphhacjkhaaProg
namespace Go.Proofs.Ytkcdhphhacjkhaa.RepLaid
open Go.Proofs Go.Shelf Go.RowKit
def lays105_ren : Go.Shelf.Ren := ⟨fun | 105 => 70 | 212 => 78 | 99 => 79 | 165 => 80 | 166 => 81 | 170 => 82 | 169 => 83 | 263 => 84 | 264 => 85 | 206 => 86 | 240 => 87 | 241 => 88 | 276 => 89 | 277 => 90 | n => n, fun | 9 => 9 | 3 => 3 | 4 => 4 | 20 => 20 | 0 => 0 | 46 => 57 | 109 => 100 | 5 => 5 | 72 => 105 | 76 => 109 | 51 => 88 | 146 => 112 | 53 => 43 | 148 => 114 | 70 => 103 | 37 => 56 | 75 => 108 | 127 => 116 | 164 => 117 | 80 => 80 | n => n, fun | n => n⟩
theorem lays105 : Go.Proofs.Lays.n105 Try.prog lays105_ren := {
  mixed := by kernel_rfl
  f99 := Try.func79.trans (congrArg some (by kernel_rfl))
  f105 := Try.func70.trans (congrArg some (by kernel_rfl))
  f165 := Try.func80.trans (congrArg some (by kernel_rfl))
  f166 := Try.func81.trans (congrArg some (by kernel_rfl))
  f169 := Try.func83.trans (congrArg some (by kernel_rfl))
  f170 := Try.func82.trans (congrArg some (by kernel_rfl))
  f206 := Try.func86.trans (congrArg some (by kernel_rfl))
  f212 := Try.func78.trans (congrArg some (by kernel_rfl))
  f240 := Try.func87.trans (congrArg some (by kernel_rfl))
  f241 := Try.func88.trans (congrArg some (by kernel_rfl))
  f263 := Try.func84.trans (congrArg some (by kernel_rfl))
  f264 := Try.func85.trans (congrArg some (by kernel_rfl))
  f276 := Try.func89.trans (congrArg some (by kernel_rfl))
  f277 := Try.func90.trans (congrArg some (by kernel_rfl))
  t0 := Try.underlying0
  a0 := Try.isAgg0
  z0 := Try.sizeOf0
  v0 := Try.zeroValue0
  t3 := Try.underlying3
  a3 := Try.isAgg3
  z3 := Try.sizeOf3
  v3 := Try.zeroValue3
  t4 := Try.underlying4
  a4 := Try.isAgg4
  z4 := Try.sizeOf4
  v4 := Try.zeroValue4
  t5 := Try.underlying5
  a5 := Try.isAgg5
  z5 := Try.sizeOf5
  v5 := Try.zeroValue5
  t9 := Try.underlying9
  a9 := Try.isAgg9
  z9 := Try.sizeOf9
  v9 := Try.zeroValue9
  t20 := Try.underlying20
  a20 := Try.isAgg20
  z20 := Try.sizeOf20
  v20 := Try.zeroValue20
  t37 := Try.underlying56
  a37 := Try.isAgg56
  z37 := Try.sizeOf56
  v37 := Try.zeroValue56
  t46 := Try.underlying57
  a46 := Try.isAgg57
  z46 := Try.sizeOf57
  v46 := Try.zeroValue57
  t51 := Try.underlying88
  a51 := Try.isAgg88
  z51 := Try.sizeOf88
  v51 := Try.zeroValue88
  t53 := Try.underlying43
  a53 := Try.isAgg43
  z53 := Try.sizeOf43
  v53 := Try.zeroValue43
  t70 := Try.underlying103
  a70 := Try.isAgg103
  z70 := Try.sizeOf103
  v70 := Try.zeroValue103
  t72 := Try.underlying105
  a72 := Try.isAgg105
  z72 := Try.sizeOf105
  v72 := Try.zeroValue105
  t75 := Try.underlying108
  a75 := Try.isAgg108
  z75 := Try.sizeOf108
  v75 := Try.zeroValue108
  t76 := Try.underlying109
  a76 := Try.isAgg109
  z76 := Try.sizeOf109
  v76 := Try.zeroValue109
  t109 := Try.underlying100
  a109 := Try.isAgg100
  z109 := Try.sizeOf100
  v109 := Try.zeroValue100
  t127 := Try.underlying116
  a127 := Try.isAgg116
  z127 := Try.sizeOf116
  v127 := Try.zeroValue116
  t146 := Try.underlying112
  a146 := Try.isAgg112
  z146 := Try.sizeOf112
  v146 := Try.zeroValue112
  t148 := Try.underlying114
  a148 := Try.isAgg114
  z148 := Try.sizeOf114
  v148 := Try.zeroValue114
  t164 := Try.underlying117
  a164 := Try.isAgg117
  z164 := Try.sizeOf117
  v164 := Try.zeroValue117 }
theorem Builder_Extra_105 : Builder.Extra Try.prog lays105_ren := {
  sizeBuilder := by kernel_rfl
  liesBuilder := by kernel_rfl
  t5 := Try.underlying5
  a5 := Try.isAgg5
  z5 := Try.sizeOf5
  v5 := Try.zeroValue5
  infoByte := by kernel_rfl
  cellsByte := by kernel_rfl
  sizeByte := by kernel_rfl
  neB5 := by decide }
open Go.RowKit Go.Lib in
theorem strings_Repeat (s : ByteArray) (c : Nat) (w : World) (hc : c ≤ 9223372036854775807) (hlen : s.size * c ≤ 140737488355328) :
    Calls Try.prog 70 #[.string s, .int .i64 c] w fun e w' => e = .returned (.string ⟨(Lib.repeatL s.data.toList c).toArray⟩) ∧ Below w.heap.size w w' := Any.strings_Repeat lays105 Builder_Extra_105 s c w hc hlen

end Go.Proofs.Ytkcdhphhacjkhaa.RepLaid
