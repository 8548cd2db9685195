import Derived.Shelf.Strings.Builder1
import Derived.Shelf.Strings.BuilderF
import Derived.Shelf.Strings.BuilderK
import Derived.Shelf.Unicode.Decode
import Derived.Shelf.Bits.Mul64
import Derived.Shelf.Unicode.DecodeSlow
import Derived.Shelf.Unicode.DecodeAny
import Derived.Ground.Names2Prog
import Derived.Shelf.Slices.Clone
import Derived.Shelf.Slices.SearchI
import Derived.Ground.SlgnProg
import Derived.Shelf.SlicesE.Clone
import Derived.Test.YtoigkneoaemcfaaDoorProg
namespace Go.Proofs
open Go.Shelf
def Tryd.lays197_ren:Go.Shelf.Ren:=⟨fun | 197 => 91 | 260 => 104 | n => n,fun | 9 => 9 | 21 => 21 | 3 => 3 | 4 => 4 | 5 => 5 | 105 => 149 | 119 => 173 | 0 => 0 | 46 => 129 | 139 => 176 | 138 => 175 | n => n,fun | 3 => 0 | 4 => 1 | n => n⟩
theorem Tryd.lays197:Go.Proofs.Lays.n197 Tryd.prog Tryd.lays197_ren:={
  mixed:=by kernel_rfl
  f197:=Tryd.func91.trans (congrArg some (by kernel_rfl))
  f260:=Tryd.func104.trans (congrArg some (by kernel_rfl))
  t0:=Tryd.underlying0
  a0:=Tryd.isAgg0
  z0:=Tryd.sizeOf0
  v0:=Tryd.zeroValue0
  t3:=Tryd.underlying3
  a3:=Tryd.isAgg3
  z3:=Tryd.sizeOf3
  v3:=Tryd.zeroValue3
  t4:=Tryd.underlying4
  a4:=Tryd.isAgg4
  z4:=Tryd.sizeOf4
  v4:=Tryd.zeroValue4
  t5:=Tryd.underlying5
  a5:=Tryd.isAgg5
  z5:=Tryd.sizeOf5
  v5:=Tryd.zeroValue5
  t9:=Tryd.underlying9
  a9:=Tryd.isAgg9
  z9:=Tryd.sizeOf9
  v9:=Tryd.zeroValue9
  t21:=Tryd.underlying21
  a21:=Tryd.isAgg21
  z21:=Tryd.sizeOf21
  v21:=Tryd.zeroValue21
  t46:=Tryd.underlying129
  a46:=Tryd.isAgg129
  z46:=Tryd.sizeOf129
  v46:=Tryd.zeroValue129
  t105:=Tryd.underlying149
  a105:=Tryd.isAgg149
  z105:=Tryd.sizeOf149
  v105:=Tryd.zeroValue149
  t119:=Tryd.underlying173
  a119:=Tryd.isAgg173
  z119:=Tryd.sizeOf173
  t138:=Tryd.underlying175
  a138:=Tryd.isAgg175
  z138:=Tryd.sizeOf175
  v138:=Tryd.zeroValue175
  t139:=Tryd.underlying176
  a139:=Tryd.isAgg176
  z139:=Tryd.sizeOf176
  v139:=Tryd.zeroValue176
  g3:=by kernel_rfl
  g4:=by kernel_rfl }
def Tryd.lays260_ren:Go.Shelf.Ren:=⟨fun | 260 => 104 | n => n,fun | 9 => 9 | 21 => 21 | 3 => 3 | 4 => 4 | 5 => 5 | 119 => 173 | 0 => 0 | 46 => 129 | 139 => 176 | 138 => 175 | n => n,fun | 3 => 0 | 4 => 1 | n => n⟩
theorem Tryd.lays260:Go.Proofs.Lays.n260 Tryd.prog Tryd.lays260_ren:={
  mixed:=by kernel_rfl
  f260:=Tryd.func104.trans (congrArg some (by kernel_rfl))
  t0:=Tryd.underlying0
  a0:=Tryd.isAgg0
  z0:=Tryd.sizeOf0
  v0:=Tryd.zeroValue0
  t3:=Tryd.underlying3
  a3:=Tryd.isAgg3
  z3:=Tryd.sizeOf3
  v3:=Tryd.zeroValue3
  t4:=Tryd.underlying4
  a4:=Tryd.isAgg4
  z4:=Tryd.sizeOf4
  v4:=Tryd.zeroValue4
  t5:=Tryd.underlying5
  a5:=Tryd.isAgg5
  z5:=Tryd.sizeOf5
  v5:=Tryd.zeroValue5
  t9:=Tryd.underlying9
  a9:=Tryd.isAgg9
  z9:=Tryd.sizeOf9
  v9:=Tryd.zeroValue9
  t21:=Tryd.underlying21
  a21:=Tryd.isAgg21
  z21:=Tryd.sizeOf21
  v21:=Tryd.zeroValue21
  t46:=Tryd.underlying129
  a46:=Tryd.isAgg129
  z46:=Tryd.sizeOf129
  v46:=Tryd.zeroValue129
  t119:=Tryd.underlying173
  a119:=Tryd.isAgg173
  z119:=Tryd.sizeOf173
  t138:=Tryd.underlying175
  a138:=Tryd.isAgg175
  z138:=Tryd.sizeOf175
  v138:=Tryd.zeroValue175
  t139:=Tryd.underlying176
  a139:=Tryd.isAgg176
  z139:=Tryd.sizeOf176
  v139:=Tryd.zeroValue176
  g3:=by kernel_rfl
  g4:=by kernel_rfl }
open Go.RowKit Go.Lib in
theorem Tryd.utf8_DecodeRuneInString (s:ByteArray) (w:World) (hT:Lib.Utf8Tabs 0 1 w) :
    Calls Tryd.prog 91 #[.string s] w fun e w' => e = .returned (.tuple #[.int .i32 (Lib.decodeGo s).1,.int .i64 (Lib.decodeGo s).2])∧Below w.heap.size w w':=Any.utf8_DecodeRuneInString Tryd.lays197 s w hT
end Go.Proofs
