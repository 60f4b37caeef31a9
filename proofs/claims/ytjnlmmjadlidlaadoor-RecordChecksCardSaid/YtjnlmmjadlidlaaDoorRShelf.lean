/-
  strings.Repeat and strings.Builder's WriteString and String, at this program's numbers.
-/
import Derived.Shelf.Strings.Builder1
import Derived.Shelf.Strings.Builder2
import Derived.Shelf.LaysM
import Derived.Shelf.Strings.Repeat
import Derived.Test.YtjnlmmjadlidlaaDoorProg
namespace Go.Proofs
open Go.Shelf
def Tryd.lays105_ren : Go.Shelf.Ren := ⟨fun | 105 => 79 | 212 => 119 | 99 => 120 | 165 => 121 | 166 => 78 | 170 => 122 | 169 => 81 | 263 => 147 | 264 => 148 | 206 => 149 | 240 => 118 | 241 => 150 | 276 => 146 | 277 => 171 | n => n, fun | 9 => 9 | 3 => 3 | 4 => 4 | 20 => 20 | 0 => 0 | 46 => 130 | 109 => 179 | 5 => 5 | 72 => 113 | 76 => 116 | 51 => 201 | 146 => 202 | 53 => 67 | 148 => 204 | 70 => 111 | 37 => 22 | 75 => 115 | 127 => 185 | 164 => 199 | 80 => 94 | n => n, fun | n => n⟩

theorem Tryd.lays105 : Go.Proofs.Lays.n105 Tryd.prog Tryd.lays105_ren := {
  mixed := by kernel_rfl
  f99 := Tryd.func120.trans (congrArg some (by kernel_rfl))
  f105 := Tryd.func79.trans (congrArg some (by kernel_rfl))
  f165 := Tryd.func121.trans (congrArg some (by kernel_rfl))
  f166 := Tryd.func78.trans (congrArg some (by kernel_rfl))
  f169 := Tryd.func81.trans (congrArg some (by kernel_rfl))
  f170 := Tryd.func122.trans (congrArg some (by kernel_rfl))
  f206 := Tryd.func149.trans (congrArg some (by kernel_rfl))
  f212 := Tryd.func119.trans (congrArg some (by kernel_rfl))
  f240 := Tryd.func118.trans (congrArg some (by kernel_rfl))
  f241 := Tryd.func150.trans (congrArg some (by kernel_rfl))
  f263 := Tryd.func147.trans (congrArg some (by kernel_rfl))
  f264 := Tryd.func148.trans (congrArg some (by kernel_rfl))
  f276 := Tryd.func146.trans (congrArg some (by kernel_rfl))
  f277 := Tryd.func171.trans (congrArg some (by kernel_rfl))
  t0 := Tryd.underlying0
  a0 := Tryd.isAgg0
  z0 := Tryd.sizeOf0
  v0 := Tryd.zeroValue0
  t3 := Tryd.underlying3
  a3 := Tryd.isAgg3
  z3 := Tryd.sizeOf3
  v3 := Tryd.zeroValue3
  t4 := Tryd.underlying4
  a4 := Tryd.isAgg4
  z4 := Tryd.sizeOf4
  v4 := Tryd.zeroValue4
  t5 := Tryd.underlying5
  a5 := Tryd.isAgg5
  z5 := Tryd.sizeOf5
  v5 := Tryd.zeroValue5
  t9 := Tryd.underlying9
  a9 := Tryd.isAgg9
  z9 := Tryd.sizeOf9
  v9 := Tryd.zeroValue9
  t20 := Tryd.underlying20
  a20 := Tryd.isAgg20
  z20 := Tryd.sizeOf20
  v20 := Tryd.zeroValue20
  t37 := Tryd.underlying22
  a37 := Tryd.isAgg22
  z37 := Tryd.sizeOf22
  v37 := Tryd.zeroValue22
  t46 := Tryd.underlying130
  a46 := Tryd.isAgg130
  z46 := Tryd.sizeOf130
  v46 := Tryd.zeroValue130
  t51 := Tryd.underlying201
  a51 := Tryd.isAgg201
  z51 := Tryd.sizeOf201
  v51 := Tryd.zeroValue201
  t53 := Tryd.underlying67
  a53 := Tryd.isAgg67
  z53 := Tryd.sizeOf67
  v53 := Tryd.zeroValue67
  t70 := Tryd.underlying111
  a70 := Tryd.isAgg111
  z70 := Tryd.sizeOf111
  v70 := Tryd.zeroValue111
  t72 := Tryd.underlying113
  a72 := Tryd.isAgg113
  z72 := Tryd.sizeOf113
  v72 := Tryd.zeroValue113
  t75 := Tryd.underlying115
  a75 := Tryd.isAgg115
  z75 := Tryd.sizeOf115
  v75 := Tryd.zeroValue115
  t76 := Tryd.underlying116
  a76 := Tryd.isAgg116
  z76 := Tryd.sizeOf116
  v76 := Tryd.zeroValue116
  t109 := Tryd.underlying179
  a109 := Tryd.isAgg179
  z109 := Tryd.sizeOf179
  v109 := Tryd.zeroValue179
  t127 := Tryd.underlying185
  a127 := Tryd.isAgg185
  z127 := Tryd.sizeOf185
  v127 := Tryd.zeroValue185
  t146 := Tryd.underlying202
  a146 := Tryd.isAgg202
  z146 := Tryd.sizeOf202
  v146 := Tryd.zeroValue202
  t148 := Tryd.underlying204
  a148 := Tryd.isAgg204
  z148 := Tryd.sizeOf204
  v148 := Tryd.zeroValue204
  t164 := Tryd.underlying199
  a164 := Tryd.isAgg199
  z164 := Tryd.sizeOf199
  v164 := Tryd.zeroValue199 }

theorem Tryd.Builder_Extra_105 : Builder.Extra Tryd.prog Tryd.lays105_ren := {
  sizeBuilder := by kernel_rfl
  liesBuilder := by kernel_rfl
  t5 := Tryd.underlying5
  a5 := Tryd.isAgg5
  z5 := Tryd.sizeOf5
  v5 := Tryd.zeroValue5
  infoByte := by kernel_rfl
  cellsByte := by kernel_rfl
  sizeByte := by kernel_rfl
  neB5 := by decide }
open Go.RowKit Go.Lib in

open Go.RowKit in
theorem Tryd.strings_Repeat (s : ByteArray) (c : Nat) (w : World) (hc : c ≤ 9223372036854775807) (hlen : s.size * c ≤ 140737488355328) :
    Calls Tryd.prog 79 #[.string s, .int .i64 c] w fun e w' => e = .returned (.string ⟨(Lib.repeatL s.data.toList c).toArray⟩) ∧ Below w.heap.size w w' := Any.strings_Repeat Tryd.lays105 Tryd.Builder_Extra_105 s c w hc hlen
open Go.RowKit in
theorem Tryd.Builder_WriteString (B b : Nat) (bs : List Value) (s : ByteArray) (w : World) (h : Lib.IsBuilder 113 5 B b bs w) (hlen : bs.length + s.size ≤ 140737488355328) (hBw : B ≤ w.heap.size) :
    Calls Tryd.prog 78 #[.pointer (some ⟨b, 0, none⟩), .string s] w fun e w' => e = .returned (.tuple #[.int .i64 s.size, .nilIface]) ∧ (Lib.BuilderAt 113 5 B b (.pointer (some ⟨b, 0, none⟩)) (bs ++ Lib.strCells s) w' ∧ Below B w w') :=
  Any.Builder_WriteString (ρ := Tryd.lays105_ren) { Tryd.lays105 with } Tryd.Builder_Extra_105 B b bs s w h hlen hBw
open Go.RowKit in
theorem Tryd.Builder_String_any (B b : Nat) (l : List UInt8) (w : World) (h : Lib.IsBuilder 113 5 B b (Lib.byteCells l) w) (hBw : B ≤ w.heap.size) :
    Calls Tryd.prog 81 #[.pointer (some ⟨b, 0, none⟩)] w fun e w' => e = .returned (.string ⟨l.toArray⟩) ∧ Below B w w' :=
  Any.Builder_String_any (ρ := Tryd.lays105_ren) { Tryd.lays105 with } Tryd.Builder_Extra_105 B b l w h hBw
end Go.Proofs
