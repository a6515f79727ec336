/- The shelf's contract of utf8.ValidString, laid at this program: the table of numbers and what it asks of them. -/
import Derived.Test.YtfckadoadmdgjaaDoorProg
import Derived.Ground.NamesProg
import Derived.Shelf.Unicode.ValidAny
set_option linter.all false
namespace Go.Proofs
set_option linter.unusedSimpArgs false
open Go.Shelf
def Tryd.laysValid_ren : Go.Shelf.Ren := ⟨fun | 196 => 98 | 259 => 111 | n => n, fun | 0 => 0 | 3 => 3 | 4 => 4 | 5 => 5 | 9 => 9 | 12 => 12 | 46 => 175 | 53 => 179 | 119 => 171 | 138 => 173 | 139 => 174 | n => n, fun | 3 => 0 | 4 => 1 | n => n⟩
theorem Tryd.laysValid : Go.Proofs.Lays.n196 Tryd.prog Tryd.laysValid_ren := {
  mixed := by kernel_rfl
  f196 := Tryd.func98.trans (congrArg some (by kernel_rfl))
  f259 := Tryd.func111.trans (congrArg some (by kernel_rfl))
  t0 := Tryd.underlying0
  a0 := Tryd.isAgg0
  z0 := Tryd.sizeOf0
  v0 := Tryd.zeroValue0
  t3 := Tryd.underlying3
  a3 := Tryd.isAgg3
  z3 := Tryd.sizeOf3
  v3 := Tryd.zeroValue3
  t4 := Tryd.underlying4
  a4 := Tryd.isAgg4
  z4 := Tryd.sizeOf4
  v4 := Tryd.zeroValue4
  t5 := Tryd.underlying5
  a5 := Tryd.isAgg5
  z5 := Tryd.sizeOf5
  v5 := Tryd.zeroValue5
  t9 := Tryd.underlying9
  a9 := Tryd.isAgg9
  z9 := Tryd.sizeOf9
  v9 := Tryd.zeroValue9
  t12 := Tryd.underlying12
  a12 := Tryd.isAgg12
  z12 := Tryd.sizeOf12
  v12 := Tryd.zeroValue12
  t46 := Tryd.underlying175
  a46 := Tryd.isAgg175
  z46 := Tryd.sizeOf175
  v46 := Tryd.zeroValue175
  t53 := Tryd.underlying179
  a53 := Tryd.isAgg179
  z53 := Tryd.sizeOf179
  v53 := Tryd.zeroValue179
  t119 := Tryd.underlying171
  a119 := Tryd.isAgg171
  z119 := Tryd.sizeOf171
  t138 := Tryd.underlying173
  a138 := Tryd.isAgg173
  z138 := Tryd.sizeOf173
  v138 := Tryd.zeroValue173
  t139 := Tryd.underlying174
  a139 := Tryd.isAgg174
  z139 := Tryd.sizeOf174
  v139 := Tryd.zeroValue174
  g3 := by kernel_rfl
  g4 := by kernel_rfl }
end Go.Proofs
