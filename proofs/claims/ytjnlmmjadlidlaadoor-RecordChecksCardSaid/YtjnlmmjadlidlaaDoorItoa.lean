/-
  strconv.Itoa's contract of the shelf, laid at this seat's dump (written by the kit's lay-shelf.mjs and lay-plain.mjs; cut to this one function).
-/
import Derived.Shelf.Strconv.Itoa3
import Derived.Shelf.LaysM
import Derived.Test.YtjnlmmjadlidlaaDoorProg
namespace Go.Proofs
open Go.Shelf
def Tryd.laysM171_ren : Go.Shelf.Ren := ⟨fun | 171 => 69 | 243 => 112 | 246 => 142 | 283 => 166 | 284 => 167 | 285 => 168 | 286 => 169 | 129 => 189 | 317 => 190 | 318 => 191 | 319 => 192 | 320 => 193 | 337 => 202 | 338 => 203 | n => n, fun | 3 => 3 | 9 => 9 | 2 => 2 | 4 => 4 | 171 => 222 | 0 => 0 | 53 => 67 | 37 => 22 | 5 => 5 | 173 => 225 | 212 => 245 | 51 => 201 | 20 => 20 | 213 => 246 | 46 => 130 | 232 => 258 | 233 => 259 | n => n, fun | 17 => 3 | 18 => 5 | 19 => 6 | n => n⟩
theorem Tryd.laysM171 : Go.Proofs.LaysM.n171 Tryd.prog Tryd.laysM171_ren := {
  mixed := by kernel_rfl
  f129 := Tryd.func189.trans (congrArg some (by kernel_rfl))
  f171 := Tryd.func69.trans (congrArg some (by kernel_rfl))
  f243 := Tryd.func112.trans (congrArg some (by kernel_rfl))
  f246 := Tryd.func142.trans (congrArg some (by kernel_rfl))
  f283 := Tryd.func166.trans (congrArg some (by kernel_rfl))
  f284 := Tryd.func167.trans (congrArg some (by kernel_rfl))
  f285 := Tryd.func168.trans (congrArg some (by kernel_rfl))
  f286 := Tryd.func169.trans (congrArg some (by kernel_rfl))
  f317 := Tryd.func190.trans (congrArg some (by kernel_rfl))
  f318 := Tryd.func191.trans (congrArg some (by kernel_rfl))
  f319 := Tryd.func192.trans (congrArg some (by kernel_rfl))
  f320 := Tryd.func193.trans (congrArg some (by kernel_rfl))
  f337 := Tryd.func202.trans (congrArg some (by kernel_rfl))
  f338 := Tryd.func203.trans (congrArg some (by kernel_rfl))
  t0 := Tryd.underlying0
  a0 := Tryd.isAgg0
  z0 := Tryd.sizeOf0
  v0 := Tryd.zeroValue0
  t2 := Tryd.underlying2
  a2 := Tryd.isAgg2
  z2 := Tryd.sizeOf2
  v2 := Tryd.zeroValue2
  t3 := Tryd.underlying3
  a3 := Tryd.isAgg3
  z3 := Tryd.sizeOf3
  v3 := Tryd.zeroValue3
  t4 := Tryd.underlying4
  a4 := Tryd.isAgg4
  z4 := Tryd.sizeOf4
  v4 := Tryd.zeroValue4
  t5 := Tryd.underlying5
  a5 := Tryd.isAgg5
  z5 := Tryd.sizeOf5
  v5 := Tryd.zeroValue5
  t9 := Tryd.underlying9
  a9 := Tryd.isAgg9
  z9 := Tryd.sizeOf9
  v9 := Tryd.zeroValue9
  t20 := Tryd.underlying20
  a20 := Tryd.isAgg20
  z20 := Tryd.sizeOf20
  v20 := Tryd.zeroValue20
  t37 := Tryd.underlying22
  a37 := Tryd.isAgg22
  z37 := Tryd.sizeOf22
  v37 := Tryd.zeroValue22
  t46 := Tryd.underlying130
  a46 := Tryd.isAgg130
  z46 := Tryd.sizeOf130
  v46 := Tryd.zeroValue130
  t51 := Tryd.underlying201
  a51 := Tryd.isAgg201
  z51 := Tryd.sizeOf201
  v51 := Tryd.zeroValue201
  t53 := Tryd.underlying67
  a53 := Tryd.isAgg67
  z53 := Tryd.sizeOf67
  v53 := Tryd.zeroValue67
  t171 := Tryd.underlying222
  a171 := Tryd.isAgg222
  z171 := Tryd.sizeOf222
  v171 := Tryd.zeroValue222
  t173 := Tryd.underlying225
  a173 := Tryd.isAgg225
  z173 := Tryd.sizeOf225
  v173 := Tryd.zeroValue225
  t212 := Tryd.underlying245
  a212 := Tryd.isAgg245
  z212 := Tryd.sizeOf245
  v212 := Tryd.zeroValue245
  t213 := Tryd.underlying246
  a213 := Tryd.isAgg246
  z213 := Tryd.sizeOf246
  t232 := Tryd.underlying258
  a232 := Tryd.isAgg258
  z232 := Tryd.sizeOf258
  v232 := Tryd.zeroValue258
  t233 := Tryd.underlying259
  a233 := Tryd.isAgg259
  z233 := Tryd.sizeOf259
  v233 := Tryd.zeroValue259
  g17 := by kernel_rfl
  g18 := by kernel_rfl
  g19 := by kernel_rfl
  i0 := by kernel_rfl
  i2 := by kernel_rfl
  i3 := by kernel_rfl
  i4 := by kernel_rfl
  i5 := by kernel_rfl
  i9 := by kernel_rfl
  i20 := by kernel_rfl
  i37 := by kernel_rfl
  i46 := by kernel_rfl
  i51 := by kernel_rfl
  i53 := by kernel_rfl
  i171 := by kernel_rfl
  i173 := by kernel_rfl
  i212 := by kernel_rfl
  i232 := by kernel_rfl
  i233 := by kernel_rfl
  m17 := by kernel_rfl
  m18 := by kernel_rfl
  m19 := by kernel_rfl }
open Go.RowKit Go.Sort Go.Lib in
/-- strconv.Itoa: "Itoa is equivalent to FormatInt(int64(i), 10).": i's DECIMAL NUMERAL ('Lib.itoa': a '-' where i is negative, then the digits), FOR EVERY int. The world behind the call: the world before it, new blocks behind the heap (the library's 'var a [24]byte'), draws. (LAID: no walk: one application.) -/
theorem Tryd.strconv_Itoa (n : Int) (h0 : -9223372036854775808 ≤ n) (h1 : n ≤ 9223372036854775807) (w : World) (htab : Lib.TabIs Tryd.prog w "internal/strconv.uint64pow10" .u64 Lib.pow10Tab) :
    Calls Tryd.prog 69 #[.int .i64 n] w fun e w' => e = .returned (.string ⟨(Lib.itoa n).toArray⟩) ∧ ∃ k os, w' = grow (w.drewN k) os := Any.strconv_Itoa Tryd.laysM171 n h0 h1 w htab
end Go.Proofs
