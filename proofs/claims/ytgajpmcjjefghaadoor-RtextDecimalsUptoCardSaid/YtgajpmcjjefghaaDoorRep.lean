/- The shelf's contract of strings.Repeat at this program: written by the kit's lay-plain, its numbers by name. -/
import Derived.Shelf.Strings.Repeat
import Derived.Test.YtgajpmcjjefghaaDoorProg
namespace Go.Proofs
open Go.Shelf Go.RowKit
def Tryd.lays105_ren : Go.Shelf.Ren := ⟨fun | 105 => 53 | 212 => 77 | 99 => 78 | 165 => 79 | 166 => 80 | 170 => 81 | 169 => 82 | 263 => 97 | 264 => 98 | 206 => 99 | 240 => 100 | 241 => 101 | 276 => 110 | 277 => 111 | n => n, fun | 9 => 9 | 3 => 3 | 4 => 4 | 20 => 20 | 0 => 0 | 46 => 79 | 109 => 113 | 5 => 5 | 72 => 118 | 76 => 122 | 51 => 71 | 146 => 134 | 53 => 74 | 148 => 136 | 70 => 116 | 37 => 77 | 75 => 121 | 127 => 138 | 164 => 145 | 80 => 125 | n => n, fun | n => n⟩
theorem Tryd.lays105 : Go.Proofs.Lays.n105 Tryd.prog Tryd.lays105_ren := {
  mixed := by kernel_rfl
  f99 := Tryd.func78.trans (congrArg some (by kernel_rfl))
  f105 := Tryd.func53.trans (congrArg some (by kernel_rfl))
  f165 := Tryd.func79.trans (congrArg some (by kernel_rfl))
  f166 := Tryd.func80.trans (congrArg some (by kernel_rfl))
  f169 := Tryd.func82.trans (congrArg some (by kernel_rfl))
  f170 := Tryd.func81.trans (congrArg some (by kernel_rfl))
  f206 := Tryd.func99.trans (congrArg some (by kernel_rfl))
  f212 := Tryd.func77.trans (congrArg some (by kernel_rfl))
  f240 := Tryd.func100.trans (congrArg some (by kernel_rfl))
  f241 := Tryd.func101.trans (congrArg some (by kernel_rfl))
  f263 := Tryd.func97.trans (congrArg some (by kernel_rfl))
  f264 := Tryd.func98.trans (congrArg some (by kernel_rfl))
  f276 := Tryd.func110.trans (congrArg some (by kernel_rfl))
  f277 := Tryd.func111.trans (congrArg some (by kernel_rfl))
  t0 := Tryd.underlying0
  a0 := Tryd.isAgg0
  z0 := Tryd.sizeOf0
  v0 := Tryd.zeroValue0
  t3 := Tryd.underlying3
  a3 := Tryd.isAgg3
  z3 := Tryd.sizeOf3
  v3 := Tryd.zeroValue3
  t4 := Tryd.underlying4
  a4 := Tryd.isAgg4
  z4 := Tryd.sizeOf4
  v4 := Tryd.zeroValue4
  t5 := Tryd.underlying5
  a5 := Tryd.isAgg5
  z5 := Tryd.sizeOf5
  v5 := Tryd.zeroValue5
  t9 := Tryd.underlying9
  a9 := Tryd.isAgg9
  z9 := Tryd.sizeOf9
  v9 := Tryd.zeroValue9
  t20 := Tryd.underlying20
  a20 := Tryd.isAgg20
  z20 := Tryd.sizeOf20
  v20 := Tryd.zeroValue20
  t37 := Tryd.underlying77
  a37 := Tryd.isAgg77
  z37 := Tryd.sizeOf77
  v37 := Tryd.zeroValue77
  t46 := Tryd.underlying79
  a46 := Tryd.isAgg79
  z46 := Tryd.sizeOf79
  v46 := Tryd.zeroValue79
  t51 := Tryd.underlying71
  a51 := Tryd.isAgg71
  z51 := Tryd.sizeOf71
  v51 := Tryd.zeroValue71
  t53 := Tryd.underlying74
  a53 := Tryd.isAgg74
  z53 := Tryd.sizeOf74
  v53 := Tryd.zeroValue74
  t70 := Tryd.underlying116
  a70 := Tryd.isAgg116
  z70 := Tryd.sizeOf116
  v70 := Tryd.zeroValue116
  t72 := Tryd.underlying118
  a72 := Tryd.isAgg118
  z72 := Tryd.sizeOf118
  v72 := Tryd.zeroValue118
  t75 := Tryd.underlying121
  a75 := Tryd.isAgg121
  z75 := Tryd.sizeOf121
  v75 := Tryd.zeroValue121
  t76 := Tryd.underlying122
  a76 := Tryd.isAgg122
  z76 := Tryd.sizeOf122
  v76 := Tryd.zeroValue122
  t109 := Tryd.underlying113
  a109 := Tryd.isAgg113
  z109 := Tryd.sizeOf113
  v109 := Tryd.zeroValue113
  t127 := Tryd.underlying138
  a127 := Tryd.isAgg138
  z127 := Tryd.sizeOf138
  v127 := Tryd.zeroValue138
  t146 := Tryd.underlying134
  a146 := Tryd.isAgg134
  z146 := Tryd.sizeOf134
  v146 := Tryd.zeroValue134
  t148 := Tryd.underlying136
  a148 := Tryd.isAgg136
  z148 := Tryd.sizeOf136
  v148 := Tryd.zeroValue136
  t164 := Tryd.underlying145
  a164 := Tryd.isAgg145
  z164 := Tryd.sizeOf145
  v164 := Tryd.zeroValue145 }

theorem Tryd.repExtra : Builder.Extra Tryd.prog Tryd.lays105_ren := {
  sizeBuilder := by kernel_rfl
  liesBuilder := by kernel_rfl
  t5 := Tryd.lays105.t5
  a5 := Tryd.lays105.a5
  z5 := Tryd.lays105.z5
  v5 := Tryd.lays105.v5
  infoByte := by kernel_rfl
  cellsByte := by kernel_rfl
  sizeByte := by kernel_rfl
  neB5 := by decide }
theorem Tryd.strings_Repeat (s : ByteArray) (c : Nat) (w : World) (hc : c ≤ 9223372036854775807) (hlen : s.size * c ≤ 140737488355328) :
    Calls Tryd.prog 53 #[.string s, .int .i64 c] w fun e w' => e = .returned (.string ⟨(Lib.repeatL s.data.toList c).toArray⟩) ∧ Below w.heap.size w w' :=
  Any.strings_Repeat Tryd.lays105 Tryd.repExtra s c w hc hlen
end Go.Proofs
