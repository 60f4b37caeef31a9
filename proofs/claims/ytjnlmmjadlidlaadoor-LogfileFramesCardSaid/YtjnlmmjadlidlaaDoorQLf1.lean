/-
  A part of the proof of this: LogfileFrames holds for every input: frames and heads are the same bytes as the reference says, or the same error; no condition.
-/
import Derived.Lib.Repeat
import Derived.Test.YtjnlmmjadlidlaaDoorProg
import Derived.Below
import Derived.Deep.Draws
import Derived.Deep.AppendLies
import Derived.Maps.AppendAt
import Derived.OwnWalk
import Derived.Laws.BytesArg
import Derived.Laws.MakeOwn
import Derived.Laws.OwnMore
import Derived.Deep.OwnRows
import Derived.Tactics
import Derived.Lib.ConvBytes
import Derived.Laws.Slices
import Derived.WalkKit
import Derived.KernelRfl
import Derived.RowKit3
import Derived.Deep.LoopGhost
import Derived.Deep.QuietTactic
import Derived.BigQuiet
import Derived.WideLaws
import Derived.Deep.DeepCutAuto
import Derived.Deep.CutBlock
import Derived.Deep.RegionHeld3
import Derived.Laws.Rows
import Derived.Lib.AppendStr
import Derived.ArgAppend
import Derived.Laws.IdiomCopy
import Derived.OrdersHeld
import Derived.Laws.BitsLemmas
import Derived.RowKit
import Derived.Lib.SmallJoins
import Derived.Lib.ItoaNum
import Derived.Lib.LaidTab
import Derived.Shelf.Strconv.Itoa3
import Derived.Shelf.LaysM
import Derived.LoopTactic
import Derived.WalkSpells
import Derived.Outline
import Derived.Lib.Hide
import Derived.Laws.Runes
import Derived.Lib.AppendIntMem
import Derived.StillTailTactics
import Derived.Test.YtjnlmmjadlidlaaDoorQLf0
section
namespace Go.Proofs.YtjnlmmjadlidlaaDoor.PRec
open Go.RowKit Go.Proofs.YtjnlmmjadlidlaaDoorW.PrintWords Go.Proofs.YtjnlmmjadlidlaaDoorW.PrintLast Go.Proofs.YtjnlmmjadlidlaaDoorW.PrintMore
attribute [local go_sem] max2_int min2_int max_two min_two max_three min_three max_four min_four
set_option linter.unusedVariables false
set_option linter.unusedSimpArgs false
def errW : Option Int → Value
  | none => .nilIface
  | some c => .iface 0 (.int .i64 c)
theorem isEmpty_ne_ (l : List UInt8) : (!l.isEmpty) = (l != []) := by cases l <;> rfl
theorem isEmpty_eq_ (l : List UInt8) : l.isEmpty = (l == []) := by cases l <;> rfl
theorem errW_none : errW none = .nilIface := rfl
theorem errW_some (c : Int) : errW (some c) = .iface 0 (.int .i64 c) := rfl
theorem info5 : (Tryd.prog.info? 5).map (fun i => (i.zero, i.size, i.bytes)) = some (some (.int .u8 0), 1, 1) := by kernel_rfl
structure S34 where
  f0 : ByteArray
  f1 : Int
  f2 : Int
  f3 : ByteArray
def z34 : S34 := ⟨(⟨#[]⟩ : ByteArray), (0 : Int), (0 : Int), (⟨#[]⟩ : ByteArray)⟩
def k34 : Kd S34 := Kd.iso (Kd.pair Kd.string (Kd.pair (Kd.int .i64) (Kd.pair (Kd.int .i64) Kd.string))) (fun x : S34 => (x.f0, x.f1, x.f2, x.f3))
def rd_T34 (xs : List S34) (i : Int) : S34 := xs.getD i.toNat z34
structure S50 where
  f0 : Int
  f1 : Int
  f2 : Int
  f3 : (List S34)
def z50 : S50 := ⟨(0 : Int), (0 : Int), (0 : Int), ([] : List S34)⟩
def k50 : Kd S50 := Kd.iso (Kd.pair (Kd.int .i64) (Kd.pair (Kd.int .i64) (Kd.pair (Kd.int .i64) (Kd.slice 34 k34)))) (fun x : S50 => (x.f0, x.f1, x.f2, x.f3))
def rd_T50 (xs : List S50) (i : Int) : S50 := xs.getD i.toNat z50
structure S126 where
  f0 : ByteArray
  f1 : Int
  f2 : Bool
def z126 : S126 := ⟨(⟨#[]⟩ : ByteArray), (0 : Int), false⟩
def rd_T126 (xs : List S126) (i : Int) : S126 := xs.getD i.toNat z126
structure S208 where
  f0 : Int
  f1 : Int
structure S210 where
  f0 : Int
  f1 : Int
  f2 : Int
  f3 : Int
def rd_L11 (xs : List (List Int)) (i : Int) : (List Int) := xs.getD i.toNat ([] : List Int)
theorem at_L11 {w : World} {A : Option Addr} {n : Nat} {xs : List (List Int)} (h : Kd.C (Kd.slice 5 (Kd.int .u8)) w A n xs) (i : Int) (h0 : 0 ≤ i) (h1 : i < n) : ∃ ad A0 c0, A = some ad ∧ w.cell? (ad.add i.toNat) = some (.slice A0 (rd_L11 xs i).length c0) ∧ (rd_L11 xs i).length ≤ c0 ∧ (Kd.int .u8).C w A0 (rd_L11 xs i).length (rd_L11 xs i) := by
  obtain ⟨ad, c, e, _, hK, hc0⟩ := Kd.C_get h ([] : List Int) i h0 h1
  have hc : ∀ j u, c[j]? = some u → w.cell? (ad.add (i.toNat * 1 + j)) = some u := hc0
  obtain ⟨A0, c0, rfl, l0, g0⟩ := hK
  exact ⟨ad, A0, c0, e, by have hq := hc 0 _ rfl; rwa [Nat.mul_one, Nat.add_zero] at hq, l0, g0⟩
end Go.Proofs.YtjnlmmjadlidlaaDoor.PRec
end
section
namespace Go.Proofs.YtjnlmmjadlidlaaDoor.PRec
open Go.RowKit Go.Proofs.YtjnlmmjadlidlaaDoorW.PrintWords
def digitsTab : List Int := [48, 49, 50, 51, 52, 53, 54, 55, 56, 57, 97, 98, 99, 100, 101, 102]
def typesTab : List (List UInt8 × Int × Bool) :=
  [([85, 83, 69, 82], 1005, true), ([68, 65, 69, 77, 79, 78], 1200, true), ([83, 89, 83, 67, 65, 76, 76], 1300, false), ([80, 65, 84, 72], 1302, false), ([67, 79, 78, 70, 73, 71], 1305, true),
   ([83, 79, 67, 75, 65, 68, 68, 82], 1306, false), ([67, 87, 68], 1307, false), ([69, 88, 69, 67, 86, 69], 1309, false), ([69, 79, 69], 1320, false), ([76, 79, 83, 83], 1331, true)]
def typeCells (x : List UInt8 × Int × Bool) : List Value := [.string ⟨x.1.toArray⟩, .int .i64 x.2.1, .bool x.2.2]
def typesCells : Array Value := (typesTab.flatMap typeCells).toArray
def GL (w : World) : Prop :=
  Lib.TabIs Tryd.prog w "internal/strconv.uint64pow10" .u64 Lib.pow10Tab ∧ Lib.TabIs Tryd.prog w "kaudit/value.digits" .u8 digitsTab ∧ w.var? Tryd.prog "kaudit/record.types" = some typesCells
theorem GL.below {w w' : World} (h : GL w) (hb : Below w.heap.size w w') : GL w' :=
  ⟨Joins.tab_stays (g := 3) (by kernel_rfl) h.1 hb (Nat.le_refl _), Joins.tab_stays (g := 2) (by kernel_rfl) h.2.1 hb (Nat.le_refl _), Joins.var_stays (g := 0) (by kernel_rfl) h.2.2 hb (Nat.le_refl _)⟩
theorem GL.digits {w : World} (h : GL w) : Kd.C (Kd.int .u8) w (some ⟨2, 0, none⟩) digitsTab.length digitsTab := by
  refine ⟨rfl, by decide, fun _ => ⟨⟨2, 0, none⟩, rfl, fun j p hj => ⟨[.int .u8 p], rfl, rfl, fun i u hu => ?_⟩⟩⟩
  have hlt := (List.getElem?_eq_some_iff.1 hj).1
  have hc := h.2.1.cell (g := 2) (by kernel_rfl) j hlt
  have hi : i = 0 := by
    have := (List.getElem?_eq_some_iff.1 hu).1
    simp at this
    exact this
  subst hi
  have hu' : u = .int .u8 p := by simpa using hu.symm
  rw [hu', show (⟨2, 0, none⟩ : Addr).add (j * (Kd.int .u8).sz + 0) = ⟨2, j, none⟩ from by rw [show (Kd.int .u8).sz = 1 from rfl, Nat.mul_one, Nat.add_zero, add_plain], hc]
  rw [List.getD_eq_getElem?_getD, hj]
  rfl
end Go.Proofs.YtjnlmmjadlidlaaDoor.PRec
end
section
namespace Go.Proofs
open Go.Shelf
def Tryd.laysM171_ren : Go.Shelf.Ren := ⟨fun | 171 => 69 | 243 => 112 | 246 => 142 | 283 => 166 | 284 => 167 | 285 => 168 | 286 => 169 | 129 => 189 | 317 => 190 | 318 => 191 | 319 => 192 | 320 => 193 | 337 => 202 | 338 => 203 | n => n, fun | 3 => 3 | 9 => 9 | 2 => 2 | 4 => 4 | 171 => 222 | 0 => 0 | 53 => 67 | 37 => 22 | 5 => 5 | 173 => 225 | 212 => 245 | 51 => 201 | 20 => 20 | 213 => 246 | 46 => 130 | 232 => 258 | 233 => 259 | n => n, fun | 17 => 3 | 18 => 5 | 19 => 6 | n => n⟩
theorem Tryd.laysM171 : Go.Proofs.LaysM.n171 Tryd.prog Tryd.laysM171_ren := {
  mixed := by kernel_rfl
  f129 := Tryd.func189.trans (congrArg some (by kernel_rfl))
  f171 := Tryd.func69.trans (congrArg some (by kernel_rfl))
  f243 := Tryd.func112.trans (congrArg some (by kernel_rfl))
  f246 := Tryd.func142.trans (congrArg some (by kernel_rfl))
  f283 := Tryd.func166.trans (congrArg some (by kernel_rfl))
  f284 := Tryd.func167.trans (congrArg some (by kernel_rfl))
  f285 := Tryd.func168.trans (congrArg some (by kernel_rfl))
  f286 := Tryd.func169.trans (congrArg some (by kernel_rfl))
  f317 := Tryd.func190.trans (congrArg some (by kernel_rfl))
  f318 := Tryd.func191.trans (congrArg some (by kernel_rfl))
  f319 := Tryd.func192.trans (congrArg some (by kernel_rfl))
  f320 := Tryd.func193.trans (congrArg some (by kernel_rfl))
  f337 := Tryd.func202.trans (congrArg some (by kernel_rfl))
  f338 := Tryd.func203.trans (congrArg some (by kernel_rfl))
  t0 := Tryd.underlying0
  a0 := Tryd.isAgg0
  z0 := Tryd.sizeOf0
  v0 := Tryd.zeroValue0
  t2 := Tryd.underlying2
  a2 := Tryd.isAgg2
  z2 := Tryd.sizeOf2
  v2 := Tryd.zeroValue2
  t3 := Tryd.underlying3
  a3 := Tryd.isAgg3
  z3 := Tryd.sizeOf3
  v3 := Tryd.zeroValue3
  t4 := Tryd.underlying4
  a4 := Tryd.isAgg4
  z4 := Tryd.sizeOf4
  v4 := Tryd.zeroValue4
  t5 := Tryd.underlying5
  a5 := Tryd.isAgg5
  z5 := Tryd.sizeOf5
  v5 := Tryd.zeroValue5
  t9 := Tryd.underlying9
  a9 := Tryd.isAgg9
  z9 := Tryd.sizeOf9
  v9 := Tryd.zeroValue9
  t20 := Tryd.underlying20
  a20 := Tryd.isAgg20
  z20 := Tryd.sizeOf20
  v20 := Tryd.zeroValue20
  t37 := Tryd.underlying22
  a37 := Tryd.isAgg22
  z37 := Tryd.sizeOf22
  v37 := Tryd.zeroValue22
  t46 := Tryd.underlying130
  a46 := Tryd.isAgg130
  z46 := Tryd.sizeOf130
  v46 := Tryd.zeroValue130
  t51 := Tryd.underlying201
  a51 := Tryd.isAgg201
  z51 := Tryd.sizeOf201
  v51 := Tryd.zeroValue201
  t53 := Tryd.underlying67
  a53 := Tryd.isAgg67
  z53 := Tryd.sizeOf67
  v53 := Tryd.zeroValue67
  t171 := Tryd.underlying222
  a171 := Tryd.isAgg222
  z171 := Tryd.sizeOf222
  v171 := Tryd.zeroValue222
  t173 := Tryd.underlying225
  a173 := Tryd.isAgg225
  z173 := Tryd.sizeOf225
  v173 := Tryd.zeroValue225
  t212 := Tryd.underlying245
  a212 := Tryd.isAgg245
  z212 := Tryd.sizeOf245
  v212 := Tryd.zeroValue245
  t213 := Tryd.underlying246
  a213 := Tryd.isAgg246
  z213 := Tryd.sizeOf246
  t232 := Tryd.underlying258
  a232 := Tryd.isAgg258
  z232 := Tryd.sizeOf258
  v232 := Tryd.zeroValue258
  t233 := Tryd.underlying259
  a233 := Tryd.isAgg259
  z233 := Tryd.sizeOf259
  v233 := Tryd.zeroValue259
  g17 := by kernel_rfl
  g18 := by kernel_rfl
  g19 := by kernel_rfl
  i0 := by kernel_rfl
  i2 := by kernel_rfl
  i3 := by kernel_rfl
  i4 := by kernel_rfl
  i5 := by kernel_rfl
  i9 := by kernel_rfl
  i20 := by kernel_rfl
  i37 := by kernel_rfl
  i46 := by kernel_rfl
  i51 := by kernel_rfl
  i53 := by kernel_rfl
  i171 := by kernel_rfl
  i173 := by kernel_rfl
  i212 := by kernel_rfl
  i232 := by kernel_rfl
  i233 := by kernel_rfl
  m17 := by kernel_rfl
  m18 := by kernel_rfl
  m19 := by kernel_rfl }
open Go.RowKit Go.Sort Go.Lib in
theorem Tryd.strconv_Itoa (n : Int) (h0 : -9223372036854775808 ≤ n) (h1 : n ≤ 9223372036854775807) (w : World) (htab : Lib.TabIs Tryd.prog w "internal/strconv.uint64pow10" .u64 Lib.pow10Tab) :
    Calls Tryd.prog 69 #[.int .i64 n] w fun e w' => e = .returned (.string ⟨(Lib.itoa n).toArray⟩) ∧ ∃ k os, w' = grow (w.drewN k) os := Any.strconv_Itoa Tryd.laysM171 n h0 h1 w htab
end Go.Proofs
end
section
namespace Go.Proofs.YtjnlmmjadlidlaaDoor.PNames
open Go.RowKit
def lettersTab : List Int := [114, 119, 120, 114, 119, 120, 114, 119, 120]
def GL (w : World) : Prop :=
  Lib.TabIs Tryd.prog w "internal/strconv.uint64pow10" .u64 Lib.pow10Tab ∧ Lib.TabIs Tryd.prog w "kaudit/access.letters" .u8 lettersTab
theorem GL.below {w w' : World} (h : GL w) (hb : Below w.heap.size w w') : GL w' :=
  ⟨Joins.tab_stays (g := 3) (by kernel_rfl) h.1 hb (Nat.le_refl _), Joins.tab_stays (g := 1) (by kernel_rfl) h.2 hb (Nat.le_refl _)⟩
end Go.Proofs.YtjnlmmjadlidlaaDoor.PNames
end
section
namespace Go.Proofs.YtjnlmmjadlidlaaDoor.PNames
open Go.RowKit
def kauditref01_Decimal.f (a0 : Int) : Option ByteArray := if 0 ≤ a0 ∧ a0 ≤ 9223372036854775807 then some ⟨(Lib.decDigits a0.toNat).toArray⟩ else none
end Go.Proofs.YtjnlmmjadlidlaaDoor.PNames
end
section
namespace Go.Proofs.YtjnlmmjadlidlaaDoor.PRec
open Go.RowKit
def strconv_Itoa.f (a0 : Int) : Option ByteArray := if -9223372036854775808 ≤ a0 ∧ a0 ≤ 9223372036854775807 then some ⟨(Lib.itoa a0).toArray⟩ else none
def kauditref01_Decimal.f (a0 : Int) : Option ByteArray := PNames.kauditref01_Decimal.f a0
end Go.Proofs.YtjnlmmjadlidlaaDoor.PRec
end
section
namespace Go.Proofs.YtjnlmmjadlidlaaDoor.PNames
open Go.RowKit Go.Proofs.YtjnlmmjadlidlaaDoorW.PrintWords Go.Proofs.YtjnlmmjadlidlaaDoorW.PrintLast Go.Proofs.YtjnlmmjadlidlaaDoorW.PrintMore
attribute [local go_sem] max2_int min2_int max_two min_two max_three min_three max_four min_four
set_option linter.unusedVariables false
set_option linter.unusedSimpArgs false
def errW : Option Int → Value
  | none => .nilIface
  | some c => .iface 0 (.int .i64 c)
theorem isEmpty_ne_ (l : List UInt8) : (!l.isEmpty) = (l != []) := by cases l <;> rfl
theorem isEmpty_eq_ (l : List UInt8) : l.isEmpty = (l == []) := by cases l <;> rfl
theorem errW_none : errW none = .nilIface := rfl
theorem errW_some (c : Int) : errW (some c) = .iface 0 (.int .i64 c) := rfl
theorem info5 : (Tryd.prog.info? 5).map (fun i => (i.zero, i.size, i.bytes)) = some (some (.int .u8 0), 1, 1) := by kernel_rfl
structure S47 where
  f0 : Int
  f1 : Int
  f2 : Int
  f3 : ByteArray
structure S34 where
  f0 : ByteArray
  f1 : Int
  f2 : Int
  f3 : ByteArray
def z34 : S34 := ⟨(⟨#[]⟩ : ByteArray), (0 : Int), (0 : Int), (⟨#[]⟩ : ByteArray)⟩
def k34 : Kd S34 := Kd.iso (Kd.pair Kd.string (Kd.pair (Kd.int .i64) (Kd.pair (Kd.int .i64) Kd.string))) (fun x : S34 => (x.f0, x.f1, x.f2, x.f3))
def rd_T34 (xs : List S34) (i : Int) : S34 := xs.getD i.toNat z34
end Go.Proofs.YtjnlmmjadlidlaaDoor.PNames
end
section
namespace Go.Proofs.YtjnlmmjadlidlaaDoor.PRec
open Go.RowKit Go.Proofs.YtjnlmmjadlidlaaDoorW.PrintWords
def findT (t : Int) (k : Nat) : Option (List UInt8 × Int × Bool) := (typesTab.drop k).find? fun x => x.2.1 == t
def typeName (t : Int) : ByteArray := match findT t 0 with | some x => ⟨x.1.toArray⟩ | none => ⟨#[]⟩
def typeOne (t : Int) : Bool := match findT t 0 with | some x => x.2.2 | none => false
def findN (s : ByteArray) (k : Nat) : Option (List UInt8 × Int × Bool) := (typesTab.drop k).find? fun x => x.1 == s.toList
def typeNum (s : ByteArray) : Int := match findN s 0 with | some x => x.2.1 | none => 0
def record_Name.f (a0 : Int) : Option ByteArray := some (typeName a0)
def record_Single.f (a0 : Int) : Option Bool := some (typeOne a0)
def record_Number.f (a0 : ByteArray) : Option Int := some (typeNum a0)
end Go.Proofs.YtjnlmmjadlidlaaDoor.PRec
end
section
namespace Go.Proofs.YtjnlmmjadlidlaaDoor.PRec
open Go.RowKit Go.Proofs.YtjnlmmjadlidlaaDoorW.PrintWords Go.Proofs.YtjnlmmjadlidlaaDoorW.PrintLast Go.Proofs.YtjnlmmjadlidlaaDoorW.PrintMore
attribute [local go_sem] max2_int min2_int max_two min_two max_three min_three max_four min_four
set_option linter.unusedVariables false
set_option linter.unusedSimpArgs false
mutual
def value_proper.j0 : Nat → ByteArray → Bool → Option (Bool)
  | 0, _, _ => none
  | k + 1, x0, x21 => if x21 = true then (some false) else (value_proper.l0 k x0 (x0.size : Int) 0)
def value_proper.l0 : Nat → ByteArray → Int → Int → Option (Bool)
  | 0, _, _, _ => none
  | k + 1, x0, x23, x24 => if x24 < x23 then (if 0 ≤ x24 then (if x24 < (x0.size : Int) then (if (bt x0 x24) < 97 then (if (bt x0 x24) < 48 then (if (bt x0 x24) = 95 then (value_proper.l0 k x0 x23 (wrap64 (x24 + 1))) else (some false)) else (if (bt x0 x24) > 57 then (if (bt x0 x24) = 95 then (value_proper.l0 k x0 x23 (wrap64 (x24 + 1))) else (some false)) else (value_proper.l0 k x0 x23 (wrap64 (x24 + 1))))) else (if (bt x0 x24) > 122 then (if (bt x0 x24) < 48 then (if (bt x0 x24) = 95 then (value_proper.l0 k x0 x23 (wrap64 (x24 + 1))) else (some false)) else (if (bt x0 x24) > 57 then (if (bt x0 x24) = 95 then (value_proper.l0 k x0 x23 (wrap64 (x24 + 1))) else (some false)) else (value_proper.l0 k x0 x23 (wrap64 (x24 + 1))))) else (value_proper.l0 k x0 x23 (wrap64 (x24 + 1))))) else (none)) else (none)) else (some true)
end
def value_proper.f (k : Nat) (a0 : ByteArray) : Option (Bool) := if a0.toList = ([] : List UInt8) then (value_proper.j0 k a0 true) else (if (a0.size : Int) > 16 then (value_proper.j0 k a0 true) else (if 0 < (a0.size : Int) then (if (bt a0 0) < 97 then (value_proper.j0 k a0 true) else (value_proper.j0 k a0 (decide ((bt a0 0) > 122)))) else (none)))
theorem value_proper.mono_l : ∀ k, (∀ y0 y1, LeO (value_proper.j0 k y0 y1) (value_proper.j0 (k + 1) y0 y1)) ∧ (∀ y0 y1 y2, LeO (value_proper.l0 k y0 y1 y2) (value_proper.l0 (k + 1) y0 y1 y2))
  | 0 => ⟨fun _ _ r h => by simp [value_proper.j0] at h, fun _ _ _ r h => by simp [value_proper.l0] at h⟩
  | k + 1 => by
    obtain ⟨ih0, ih1⟩ := value_proper.mono_l k
    refine ⟨?_, ?_⟩
    · intro y0 y1
      unfold value_proper.j0
      repeat' first
      | (with_reducible exact ih0 _ _)
      | (with_reducible exact ih1 _ _ _)
      | (with_reducible exact LeO.refl _)
      | (with_reducible exact LeO.none _)
      | (with_reducible refine LeO.ite ?_ ?_)
      | (with_reducible refine LeO.bind ?_ (fun _ => ?_))
      | exact ih0 _ _
      | exact ih1 _ _ _
      | exact LeO.none _
      | refine LeO.ite ?_ ?_
      | refine LeO.bind ?_ (fun _ => ?_)
    · intro y0 y1 y2
      unfold value_proper.l0
      repeat' first
      | (with_reducible exact ih0 _ _)
      | (with_reducible exact ih1 _ _ _)
      | (with_reducible exact LeO.refl _)
      | (with_reducible exact LeO.none _)
      | (with_reducible refine LeO.ite ?_ ?_)
      | (with_reducible refine LeO.bind ?_ (fun _ => ?_))
      | exact ih0 _ _
      | exact ih1 _ _ _
      | exact LeO.none _
      | refine LeO.ite ?_ ?_
      | refine LeO.bind ?_ (fun _ => ?_)
theorem value_proper.mono : ∀ a0 k, LeO (value_proper.f k a0) (value_proper.f (k + 1) a0) := by
  intro a0 k
  obtain ⟨ih0, ih1⟩ := value_proper.mono_l k
  unfold value_proper.f
  repeat' first
      | (with_reducible exact ih0 _ _)
      | (with_reducible exact ih1 _ _ _)
      | (with_reducible exact LeO.refl _)
      | (with_reducible exact LeO.none _)
      | (with_reducible refine LeO.ite ?_ ?_)
      | (with_reducible refine LeO.bind ?_ (fun _ => ?_))
      | exact ih0 _ _
      | exact ih1 _ _ _
      | exact LeO.none _
      | refine LeO.ite ?_ ?_
      | refine LeO.bind ?_ (fun _ => ?_)
end Go.Proofs.YtjnlmmjadlidlaaDoor.PRec
end
section
namespace Go.Proofs.YtjnlmmjadlidlaaDoor.PRec
open Go.RowKit Go.Proofs.YtjnlmmjadlidlaaDoorW.PrintWords Go.Proofs.YtjnlmmjadlidlaaDoorW.PrintLast Go.Proofs.YtjnlmmjadlidlaaDoorW.PrintMore
attribute [local go_sem] max2_int min2_int max_two min_two max_three min_three max_four min_four
set_option linter.unusedVariables false
set_option linter.unusedSimpArgs false
mutual
def value_Check.j0 : Nat → Bool → ByteArray → Int → Int → ByteArray → Option (Int)
  | 0, _, _, _, _, _ => none
  | k + 1, x8, x102000, x102001, x102002, x102003 => if x8 = true then (value_Check.j1 k x8 x102000 x102001 x102002 x102003) else (if x102002 = 0 then (if x102003.toList = ([] : List UInt8) then (value_Check.j1 k false x102000 x102001 x102002 x102003) else (value_Check.j1 k (x102001 != 2) x102000 x102001 x102002 x102003)) else (if x102001 = 1 then (if x102003.toList = ([] : List UInt8) then (value_Check.j1 k false x102000 x102001 x102002 x102003) else (value_Check.j1 k (x102001 != 2) x102000 x102001 x102002 x102003)) else (value_Check.j1 k (x102001 != 1) x102000 x102001 x102002 x102003)))
def value_Check.j1 : Nat → Bool → ByteArray → Int → Int → ByteArray → Option (Int)
  | 0, _, _, _, _, _ => none
  | k + 1, x8, x102000, x102001, x102002, x102003 => if x8 = true then (some 23) else (if (x102003.size : Int) > 640 then (some 20) else (some 0))
end
def value_Check.f (k : Nat) (a0_0 : ByteArray) (a0_1 : Int) (a0_2 : Int) (a0_3 : ByteArray) : Option (Int) := (value_proper.f k a0_0).bind fun t102 => (if t102 = true then (if a0_1 = 1 then (value_Check.j0 k false a0_0 a0_1 a0_2 a0_3) else (if a0_1 = 2 then (value_Check.j0 k false a0_0 a0_1 a0_2 a0_3) else (value_Check.j0 k (a0_1 != 3) a0_0 a0_1 a0_2 a0_3))) else (some 22))
theorem value_Check.mono_l : ∀ k, (∀ y0 y1 y2 y3 y4, LeO (value_Check.j0 k y0 y1 y2 y3 y4) (value_Check.j0 (k + 1) y0 y1 y2 y3 y4)) ∧ (∀ y0 y1 y2 y3 y4, LeO (value_Check.j1 k y0 y1 y2 y3 y4) (value_Check.j1 (k + 1) y0 y1 y2 y3 y4))
  | 0 => ⟨fun _ _ _ _ _ r h => by simp [value_Check.j0] at h, fun _ _ _ _ _ r h => by simp [value_Check.j1] at h⟩
  | k + 1 => by
    obtain ⟨ih0, ih1⟩ := value_Check.mono_l k
    refine ⟨?_, ?_⟩
    · intro y0 y1 y2 y3 y4
      unfold value_Check.j0
      repeat' first
      | (with_reducible exact ih0 _ _ _ _ _)
      | (with_reducible exact ih1 _ _ _ _ _)
      | (with_reducible exact value_proper.mono _ _)
      | (with_reducible exact LeO.refl _)
      | (with_reducible exact LeO.none _)
      | (with_reducible refine LeO.ite ?_ ?_)
      | (with_reducible refine LeO.bind ?_ (fun _ => ?_))
      | exact ih0 _ _ _ _ _
      | exact ih1 _ _ _ _ _
      | exact value_proper.mono _ _
      | exact LeO.none _
      | refine LeO.ite ?_ ?_
      | refine LeO.bind ?_ (fun _ => ?_)
    · intro y0 y1 y2 y3 y4
      unfold value_Check.j1
      repeat' first
      | (with_reducible exact ih0 _ _ _ _ _)
      | (with_reducible exact ih1 _ _ _ _ _)
      | (with_reducible exact value_proper.mono _ _)
      | (with_reducible exact LeO.refl _)
      | (with_reducible exact LeO.none _)
      | (with_reducible refine LeO.ite ?_ ?_)
      | (with_reducible refine LeO.bind ?_ (fun _ => ?_))
      | exact ih0 _ _ _ _ _
      | exact ih1 _ _ _ _ _
      | exact value_proper.mono _ _
      | exact LeO.none _
      | refine LeO.ite ?_ ?_
      | refine LeO.bind ?_ (fun _ => ?_)
theorem value_Check.mono : ∀ a0 a1 a2 a3 k, LeO (value_Check.f k a0 a1 a2 a3) (value_Check.f (k + 1) a0 a1 a2 a3) := by
  intro a0 a1 a2 a3 k
  obtain ⟨ih0, ih1⟩ := value_Check.mono_l k
  unfold value_Check.f
  repeat' first
      | (with_reducible exact ih0 _ _ _ _ _)
      | (with_reducible exact ih1 _ _ _ _ _)
      | (with_reducible exact value_proper.mono _ _)
      | (with_reducible exact LeO.refl _)
      | (with_reducible exact LeO.none _)
      | (with_reducible refine LeO.ite ?_ ?_)
      | (with_reducible refine LeO.bind ?_ (fun _ => ?_))
      | exact ih0 _ _ _ _ _
      | exact ih1 _ _ _ _ _
      | exact value_proper.mono _ _
      | exact LeO.none _
      | refine LeO.ite ?_ ?_
      | refine LeO.bind ?_ (fun _ => ?_)
end Go.Proofs.YtjnlmmjadlidlaaDoor.PRec
end
section
namespace Go.Proofs.YtjnlmmjadlidlaaDoor.PRec
open Go.RowKit Go.Proofs.YtjnlmmjadlidlaaDoorW.PrintWords Go.Proofs.YtjnlmmjadlidlaaDoorW.PrintLast Go.Proofs.YtjnlmmjadlidlaaDoorW.PrintMore
attribute [local go_sem] max2_int min2_int max_two min_two max_three min_three max_four min_four
set_option linter.unusedVariables false
set_option linter.unusedSimpArgs false
mutual
def record_Check.j0 : Nat → Bool → Int → Int → Int → List (S34) → Option (Int)
  | 0, _, _, _, _, _ => none
  | k + 1, x13, x104000, x104001, x104002, x104003 => if x13 = true then (some 31) else (if (x104003.length : Int) > 24 then (some 32) else (record_Check.l0 k x104003 (x104003.length : Int) 0 x104000 x104001 x104002 x104003))
def record_Check.l0 : Nat → List (S34) → Int → Int → Int → Int → Int → List (S34) → Option (Int)
  | 0, _, _, _, _, _, _, _ => none
  | k + 1, x38, x39, x40, x104000, x104001, x104002, x104003 => if x40 < x39 then (if 0 ≤ x40 then (if x40 < (x38.length : Int) then ((value_Check.f k ((rd_T34 x38 x40).f0) ((rd_T34 x38 x40).f1) ((rd_T34 x38 x40).f2) ((rd_T34 x38 x40).f3)).bind fun t107 => (if t107 = 0 then (if x40 ≤ (x104003.length : Int) then ((some (x104003.take (x40 : Int).toNat : List (S34))).bind fun y108 => (record_Check.l1 k x38 x39 x40 y108 (y108.length : Int) 0 x104000 x104001 x104002 x104003 ((rd_T34 x38 x40).f0) ((rd_T34 x38 x40).f1) ((rd_T34 x38 x40).f2) ((rd_T34 x38 x40).f3))) else (none)) else (some t107))) else (none)) else (none)) else (some 0)
def record_Check.l1 : Nat → List (S34) → Int → Int → List (S34) → Int → Int → Int → Int → Int → List (S34) → ByteArray → Int → Int → ByteArray → Option (Int)
  | 0, _, _, _, _, _, _, _, _, _, _, _, _, _, _ => none
  | k + 1, x38, x39, x40, x53, x54, x55, x104000, x104001, x104002, x104003, x107000, x107001, x107002, x107003 => if x55 < x54 then (if 0 ≤ x55 then (if x55 < (x53.length : Int) then (if ((rd_T34 x53 x55).f0).toList = x107000.toList then (some 33) else (record_Check.l1 k x38 x39 x40 x53 x54 (wrap64 (x55 + 1)) x104000 x104001 x104002 x104003 x107000 x107001 x107002 x107003)) else (none)) else (none)) else (record_Check.l0 k x38 x39 (wrap64 (x40 + 1)) x104000 x104001 x104002 x104003)
end
def record_Check.f (k : Nat) (a0_0 : Int) (a0_1 : Int) (a0_2 : Int) (l0_3 : List (S34)) : Option (Int) := (record_Name.f a0_0).bind fun t104 => (if t104.toList = ([] : List UInt8) then (some 30) else (if a0_1 < 0 then (record_Check.j0 k true a0_0 a0_1 a0_2 l0_3) else (if a0_1 > 1099511627776 then (record_Check.j0 k true a0_0 a0_1 a0_2 l0_3) else (if a0_2 < 0 then (record_Check.j0 k true a0_0 a0_1 a0_2 l0_3) else (record_Check.j0 k (decide (a0_2 > 1073741824)) a0_0 a0_1 a0_2 l0_3)))))
theorem record_Check.mono_l : ∀ k, (∀ y0 y1 y2 y3 y4, LeO (record_Check.j0 k y0 y1 y2 y3 y4) (record_Check.j0 (k + 1) y0 y1 y2 y3 y4)) ∧ (∀ y0 y1 y2 y3 y4 y5 y6, LeO (record_Check.l0 k y0 y1 y2 y3 y4 y5 y6) (record_Check.l0 (k + 1) y0 y1 y2 y3 y4 y5 y6)) ∧ (∀ y0 y1 y2 y3 y4 y5 y6 y7 y8 y9 y10 y11 y12 y13, LeO (record_Check.l1 k y0 y1 y2 y3 y4 y5 y6 y7 y8 y9 y10 y11 y12 y13) (record_Check.l1 (k + 1) y0 y1 y2 y3 y4 y5 y6 y7 y8 y9 y10 y11 y12 y13))
  | 0 => ⟨fun _ _ _ _ _ r h => by simp [record_Check.j0] at h, fun _ _ _ _ _ _ _ r h => by simp [record_Check.l0] at h, fun _ _ _ _ _ _ _ _ _ _ _ _ _ _ r h => by simp [record_Check.l1] at h⟩
  | k + 1 => by
    obtain ⟨ih0, ih1, ih2⟩ := record_Check.mono_l k
    refine ⟨?_, ?_, ?_⟩
    · intro y0 y1 y2 y3 y4
      unfold record_Check.j0
      repeat' first
      | (with_reducible exact ih0 _ _ _ _ _)
      | (with_reducible exact ih1 _ _ _ _ _ _ _)
      | (with_reducible exact ih2 _ _ _ _ _ _ _ _ _ _ _ _ _ _)
      | (with_reducible exact value_Check.mono _ _ _ _ _)
      | (with_reducible exact LeO.refl _)
      | (with_reducible exact LeO.none _)
      | (with_reducible refine LeO.ite ?_ ?_)
      | (with_reducible refine LeO.bind ?_ (fun _ => ?_))
      | exact ih0 _ _ _ _ _
      | exact ih1 _ _ _ _ _ _ _
      | exact ih2 _ _ _ _ _ _ _ _ _ _ _ _ _ _
      | exact value_Check.mono _ _ _ _ _
      | exact LeO.none _
      | refine LeO.ite ?_ ?_
      | refine LeO.bind ?_ (fun _ => ?_)
    · intro y0 y1 y2 y3 y4 y5 y6
      unfold record_Check.l0
      repeat' first
      | (with_reducible exact ih0 _ _ _ _ _)
      | (with_reducible exact ih1 _ _ _ _ _ _ _)
      | (with_reducible exact ih2 _ _ _ _ _ _ _ _ _ _ _ _ _ _)
      | (with_reducible exact value_Check.mono _ _ _ _ _)
      | (with_reducible exact LeO.refl _)
      | (with_reducible exact LeO.none _)
      | (with_reducible refine LeO.ite ?_ ?_)
      | (with_reducible refine LeO.bind ?_ (fun _ => ?_))
      | exact ih0 _ _ _ _ _
      | exact ih1 _ _ _ _ _ _ _
      | exact ih2 _ _ _ _ _ _ _ _ _ _ _ _ _ _
      | exact value_Check.mono _ _ _ _ _
      | exact LeO.none _
      | refine LeO.ite ?_ ?_
      | refine LeO.bind ?_ (fun _ => ?_)
    · intro y0 y1 y2 y3 y4 y5 y6 y7 y8 y9 y10 y11 y12 y13
      unfold record_Check.l1
      repeat' first
      | (with_reducible exact ih0 _ _ _ _ _)
      | (with_reducible exact ih1 _ _ _ _ _ _ _)
      | (with_reducible exact ih2 _ _ _ _ _ _ _ _ _ _ _ _ _ _)
      | (with_reducible exact value_Check.mono _ _ _ _ _)
      | (with_reducible exact LeO.refl _)
      | (with_reducible exact LeO.none _)
      | (with_reducible refine LeO.ite ?_ ?_)
      | (with_reducible refine LeO.bind ?_ (fun _ => ?_))
      | exact ih0 _ _ _ _ _
      | exact ih1 _ _ _ _ _ _ _
      | exact ih2 _ _ _ _ _ _ _ _ _ _ _ _ _ _
      | exact value_Check.mono _ _ _ _ _
      | exact LeO.none _
      | refine LeO.ite ?_ ?_
      | refine LeO.bind ?_ (fun _ => ?_)
theorem record_Check.mono : ∀ a0 a1 a2 a3 k, LeO (record_Check.f k a0 a1 a2 a3) (record_Check.f (k + 1) a0 a1 a2 a3) := by
  intro a0 a1 a2 a3 k
  obtain ⟨ih0, ih1, ih2⟩ := record_Check.mono_l k
  unfold record_Check.f
  repeat' first
      | (with_reducible exact ih0 _ _ _ _ _)
      | (with_reducible exact ih1 _ _ _ _ _ _ _)
      | (with_reducible exact ih2 _ _ _ _ _ _ _ _ _ _ _ _ _ _)
      | (with_reducible exact value_Check.mono _ _ _ _ _)
      | (with_reducible exact LeO.refl _)
      | (with_reducible exact LeO.none _)
      | (with_reducible refine LeO.ite ?_ ?_)
      | (with_reducible refine LeO.bind ?_ (fun _ => ?_))
      | exact ih0 _ _ _ _ _
      | exact ih1 _ _ _ _ _ _ _
      | exact ih2 _ _ _ _ _ _ _ _ _ _ _ _ _ _
      | exact value_Check.mono _ _ _ _ _
      | exact LeO.none _
      | refine LeO.ite ?_ ?_
      | refine LeO.bind ?_ (fun _ => ?_)
end Go.Proofs.YtjnlmmjadlidlaaDoor.PRec
end
section
namespace Go.Proofs.YtjnlmmjadlidlaaDoor.PRec
open Go.RowKit Go.Proofs.YtjnlmmjadlidlaaDoorW.PrintWords Go.Proofs.YtjnlmmjadlidlaaDoorW.PrintLast Go.Proofs.YtjnlmmjadlidlaaDoorW.PrintMore
attribute [local go_sem] max2_int min2_int max_two min_two max_three min_three max_four min_four
set_option linter.unusedVariables false
set_option linter.unusedSimpArgs false
def value_safe.l0 : Nat → ByteArray → Int → Int → Option (Bool)
  | 0, _, _, _ => none
  | k + 1, x0, x5, x6 => if x6 < x5 then (if 0 ≤ x6 then (if x6 < (x0.size : Int) then (if (bt x0 x6) < 33 then (some false) else (if (bt x0 x6) > 126 then (some false) else (if (bt x0 x6) = 34 then (some false) else (value_safe.l0 k x0 x5 (wrap64 (x6 + 1)))))) else (none)) else (none)) else (some true)
def value_safe.f (k : Nat) (a0 : ByteArray) : Option (Bool) := value_safe.l0 k a0 (a0.size : Int) 0
theorem value_safe.mono_l : ∀ k, (∀ y0 y1 y2, LeO (value_safe.l0 k y0 y1 y2) (value_safe.l0 (k + 1) y0 y1 y2))
  | 0 => fun _ _ _ r h => by simp [value_safe.l0] at h
  | k + 1 => by
    have ih0 := value_safe.mono_l k
    · intro y0 y1 y2
      unfold value_safe.l0
      repeat' first
      | (with_reducible exact ih0 _ _ _)
      | (with_reducible exact LeO.refl _)
      | (with_reducible exact LeO.none _)
      | (with_reducible refine LeO.ite ?_ ?_)
      | (with_reducible refine LeO.bind ?_ (fun _ => ?_))
      | exact ih0 _ _ _
      | exact LeO.none _
      | refine LeO.ite ?_ ?_
      | refine LeO.bind ?_ (fun _ => ?_)
theorem value_safe.mono : ∀ a0 k, LeO (value_safe.f k a0) (value_safe.f (k + 1) a0) := by
  intro a0 k
  have ih0 := value_safe.mono_l k
  unfold value_safe.f
  repeat' first
      | (with_reducible exact ih0 _ _ _)
      | (with_reducible exact LeO.refl _)
      | (with_reducible exact LeO.none _)
      | (with_reducible refine LeO.ite ?_ ?_)
      | (with_reducible refine LeO.bind ?_ (fun _ => ?_))
      | exact ih0 _ _ _
      | exact LeO.none _
      | refine LeO.ite ?_ ?_
      | refine LeO.bind ?_ (fun _ => ?_)
def value_Quote.l0 : Nat → ByteArray → List Int → Int → Int → Option (ByteArray × Int)
  | 0, _, _, _, _ => none
  | k + 1, x0, x4, x23, x24 => if x24 < x23 then (if 0 ≤ x24 then (if x24 < (x0.size : Int) then (if 0 ≤ ((bt x0 x24) / 16) then (if ((bt x0 x24) / 16) < 16 then (if 0 ≤ (Go.bits .and .u8 (bt x0 x24) 15) then (if (Go.bits .and .u8 (bt x0 x24) 15) < 16 then ((some (([rd digitsTab ((bt x0 x24) / 16), rd digitsTab (Go.bits .and .u8 (bt x0 x24) 15)] : List Int) : List Int)).bind fun y123 => (if x4.length + y123.length < 140737488355328 then (value_Quote.l0 k x0 (x4 ++ y123) x23 (wrap64 (x24 + 1))) else (none))) else (none)) else (none)) else (none)) else (none)) else (none)) else (none)) else (some (strOfNums x4, 0))
def value_Quote.f (k : Nat) (a0 : ByteArray) : Option (ByteArray × Int) := if (a0.size : Int) > 640 then (some ((⟨#[]⟩ : ByteArray), 20)) else ((value_safe.f k a0).bind fun t114 => (if t114 = true then (if 1 + a0.size ≤ 9223372036854775807 then (if 1 + a0.size + 1 ≤ 9223372036854775807 then (some (((⟨#[34]⟩ : ByteArray) ++ a0) ++ (⟨#[34]⟩ : ByteArray), 0)) else (none)) else (none)) else (if 0 ≤ (wrap64 (1 + (wrap64 (2 * (a0.size : Int))))) then (if (wrap64 (1 + (wrap64 (2 * (a0.size : Int)))) : Int).toNat ≤ 281474976710656 then ((some (([] : List Int) : List Int)).bind fun y115 => (if y115.length < 140737488355328 then (value_Quote.l0 k a0 (y115 ++ [120]) (a0.size : Int) 0) else (none))) else (none)) else (none))))
theorem value_Quote.mono_l : ∀ k, (∀ y0 y1 y2 y3, LeO (value_Quote.l0 k y0 y1 y2 y3) (value_Quote.l0 (k + 1) y0 y1 y2 y3))
  | 0 => fun _ _ _ _ r h => by simp [value_Quote.l0] at h
  | k + 1 => by
    have ih0 := value_Quote.mono_l k
    · intro y0 y1 y2 y3
      unfold value_Quote.l0
      repeat' first
      | (with_reducible exact ih0 _ _ _ _)
      | (with_reducible exact value_safe.mono _ _)
      | (with_reducible exact LeO.refl _)
      | (with_reducible exact LeO.none _)
      | (with_reducible refine LeO.ite ?_ ?_)
      | (with_reducible refine LeO.bind ?_ (fun _ => ?_))
      | exact ih0 _ _ _ _
      | exact value_safe.mono _ _
      | exact LeO.none _
      | refine LeO.ite ?_ ?_
      | refine LeO.bind ?_ (fun _ => ?_)
theorem value_Quote.mono : ∀ a0 k, LeO (value_Quote.f k a0) (value_Quote.f (k + 1) a0) := by
  intro a0 k
  have ih0 := value_Quote.mono_l k
  unfold value_Quote.f
  repeat' first
      | (with_reducible exact ih0 _ _ _ _)
      | (with_reducible exact value_safe.mono _ _)
      | (with_reducible exact LeO.refl _)
      | (with_reducible exact LeO.none _)
      | (with_reducible refine LeO.ite ?_ ?_)
      | (with_reducible refine LeO.bind ?_ (fun _ => ?_))
      | exact ih0 _ _ _ _
      | exact value_safe.mono _ _
      | exact LeO.none _
      | refine LeO.ite ?_ ?_
      | refine LeO.bind ?_ (fun _ => ?_)
def value_Format.f (k : Nat) (a0_0 : ByteArray) (a0_1 : Int) (a0_2 : Int) (a0_3 : ByteArray) : Option (ByteArray × Int) := (value_Check.f k a0_0 a0_1 a0_2 a0_3).bind fun t130 => (if t130 = 0 then (if a0_1 = 1 then ((strconv_Itoa.f a0_2).bind fun t131 => (if a0_0.size + 1 ≤ 9223372036854775807 then (if a0_0.size + 1 + t131.size ≤ 9223372036854775807 then (some ((a0_0 ++ (⟨#[61]⟩ : ByteArray)) ++ t131, 0)) else (none)) else (none))) else (if a0_1 = 2 then ((value_Quote.f k a0_3).bind fun bt132 => (if bt132.2 = 0 then (if a0_0.size + 1 ≤ 9223372036854775807 then (if a0_0.size + 1 + bt132.1.size ≤ 9223372036854775807 then (some ((a0_0 ++ (⟨#[61]⟩ : ByteArray)) ++ bt132.1, 0)) else (none)) else (none)) else (some ((⟨#[]⟩ : ByteArray), bt132.2)))) else (if a0_0.size + 1 ≤ 9223372036854775807 then (if a0_0.size + 1 + 6 ≤ 9223372036854775807 then (some ((a0_0 ++ (⟨#[61]⟩ : ByteArray)) ++ (⟨#[40, 110, 117, 108, 108, 41]⟩ : ByteArray), 0)) else (none)) else (none)))) else (some ((⟨#[]⟩ : ByteArray), t130)))
theorem value_Format.mono : ∀ a0 a1 a2 a3 k, LeO (value_Format.f k a0 a1 a2 a3) (value_Format.f (k + 1) a0 a1 a2 a3) := by
  intro a0 a1 a2 a3 k
  unfold value_Format.f
  repeat' first
      | (with_reducible exact value_Check.mono _ _ _ _ _)
      | (with_reducible exact value_Quote.mono _ _)
      | (with_reducible exact LeO.refl _)
      | (with_reducible exact LeO.none _)
      | (with_reducible refine LeO.ite ?_ ?_)
      | (with_reducible refine LeO.bind ?_ (fun _ => ?_))
      | exact value_Check.mono _ _ _ _ _
      | exact value_Quote.mono _ _
      | exact LeO.none _
      | refine LeO.ite ?_ ?_
      | refine LeO.bind ?_ (fun _ => ?_)
end Go.Proofs.YtjnlmmjadlidlaaDoor.PRec
end
section
namespace Go.Proofs.YtjnlmmjadlidlaaDoor.PRec
open Go.RowKit Go.Proofs.YtjnlmmjadlidlaaDoorW.PrintWords
def head1 (a0 a1 : Int) : ByteArray := ((((⟨#[116, 121, 112, 101, 61]⟩ : ByteArray) ++ typeName a0) ++ (⟨#[32, 109, 115, 103, 61, 97, 117, 100, 105, 116, 40]⟩ : ByteArray)) ++ ⟨(Lib.itoa (Int.tdiv a1 1000)).toArray⟩) ++ (⟨#[46]⟩ : ByteArray)
def msS (a1 : Int) : ByteArray := ⟨(Lib.itoa (Int.tmod a1 1000)).toArray⟩
def head2 (a1 : Int) : ByteArray := (⟨(Lib.repeatL [48] (3 - (msS a1).size)).toArray⟩ : ByteArray) ++ msS a1
def head3 (a2 : Int) : ByteArray := ((⟨#[58]⟩ : ByteArray) ++ ⟨(Lib.itoa a2).toArray⟩) ++ (⟨#[41, 58]⟩ : ByteArray)
def fmtPairs (k : Nat) : List S34 → ByteArray → Option (ByteArray × Int)
  | [], s => some (s, 0)
  | p :: r, s => (value_Format.f k p.f0 p.f1 p.f2 p.f3).bind fun t => if t.2 = 0 then (if s.size + (1 + t.1.size) ≤ 140737488355328 then fmtPairs k r (s ++ ((⟨#[32]⟩ : ByteArray) ++ t.1)) else none) else some (⟨#[]⟩, t.2)
def record_Format.f (k : Nat) (a0_0 a0_1 a0_2 : Int) (l0_3 : List S34) : Option (ByteArray × Int) :=
  (record_Check.f k a0_0 a0_1 a0_2 l0_3).bind fun e => if e = 0 then
    (if (0 ≤ a0_1 ∧ a0_1 ≤ 4611686018427387904) ∧ (0 ≤ a0_2 ∧ a0_2 ≤ 4611686018427387904) then fmtPairs k l0_3 ((head1 a0_0 a0_1 ++ head2 a0_1) ++ head3 a0_2) else none) else some (⟨#[]⟩, e)
theorem fmtPairs.mono (k : Nat) : ∀ (l : List S34) (s : ByteArray), LeO (fmtPairs k l s) (fmtPairs (k + 1) l s)
  | [], _ => LeO.refl _
  | p :: r, s => by
    unfold fmtPairs
    refine LeO.bind (value_Format.mono _ _ _ _ _) (fun t => ?_)
    refine LeO.ite (LeO.ite (fmtPairs.mono k r _) (LeO.refl _)) (LeO.refl _)
theorem record_Format.mono : ∀ a0 a1 a2 a3 k, LeO (record_Format.f k a0 a1 a2 a3) (record_Format.f (k + 1) a0 a1 a2 a3) := by
  intro a0 a1 a2 a3 k
  unfold record_Format.f
  refine LeO.bind (record_Check.mono _ _ _ _ _) (fun t => ?_)
  exact LeO.ite (LeO.ite (fmtPairs.mono k _ _) (LeO.refl _)) (LeO.refl _)
end Go.Proofs.YtjnlmmjadlidlaaDoor.PRec
end
section
namespace Go.Proofs.YtjnlmmjadlidlaaDoor.PRec
open Go.RowKit Go.Proofs.YtjnlmmjadlidlaaDoorW.PrintWords Go.Proofs.YtjnlmmjadlidlaaDoorW.PrintLast Go.Proofs.YtjnlmmjadlidlaaDoorW.PrintMore
attribute [local go_sem] max2_int min2_int max_two min_two max_three min_three max_four min_four
set_option linter.unusedVariables false
set_option linter.unusedSimpArgs false
def kauditlaw03_awake.f (k : Nat)  : Option (Bool) := (record_Format.f k 1307 12345 7 (([(⟨(⟨#[99, 119, 100]⟩ : ByteArray), 2, 0, (⟨#[47, 116, 109, 112]⟩ : ByteArray)⟩ : S34)] : List (S34)))).bind fun bt137 => (if bt137.2 = 0 then (some (bt137.1.toList == ([116, 121, 112, 101, 61, 67, 87, 68, 32, 109, 115, 103, 61, 97, 117, 100, 105, 116, 40, 49, 50, 46, 51, 52, 53, 58, 55, 41, 58, 32, 99, 119, 100, 61, 34, 47, 116, 109, 112, 34] : List UInt8))) else (some false))
theorem kauditlaw03_awake.mono : ∀ k, LeO (kauditlaw03_awake.f k ) (kauditlaw03_awake.f (k + 1) ) := by
  intro  k
  unfold kauditlaw03_awake.f
  repeat' first
      | (with_reducible exact record_Format.mono _ _ _ _ _)
      | (with_reducible exact LeO.refl _)
      | (with_reducible exact LeO.none _)
      | (with_reducible refine LeO.ite ?_ ?_)
      | (with_reducible refine LeO.bind ?_ (fun _ => ?_))
      | exact record_Format.mono _ _ _ _ _
      | exact LeO.none _
      | refine LeO.ite ?_ ?_
      | refine LeO.bind ?_ (fun _ => ?_)
end Go.Proofs.YtjnlmmjadlidlaaDoor.PRec
end
section
namespace Go.Proofs.YtjnlmmjadlidlaaDoor.PRec
open Go.RowKit Go.Proofs.YtjnlmmjadlidlaaDoorW.PrintWords Go.Proofs.YtjnlmmjadlidlaaDoorW.PrintLast Go.Proofs.YtjnlmmjadlidlaaDoorW.PrintMore
attribute [local go_sem] max2_int min2_int max_two min_two max_three min_three max_four min_four
set_option linter.unusedVariables false
set_option linter.unusedSimpArgs false
def kauditref03_kinds.f  : Option ((List (S126))) := some (([(⟨(⟨#[85, 83, 69, 82]⟩ : ByteArray), 1005, true⟩ : S126), (⟨(⟨#[68, 65, 69, 77, 79, 78]⟩ : ByteArray), 1200, true⟩ : S126), (⟨(⟨#[83, 89, 83, 67, 65, 76, 76]⟩ : ByteArray), 1300, false⟩ : S126), (⟨(⟨#[80, 65, 84, 72]⟩ : ByteArray), 1302, false⟩ : S126), (⟨(⟨#[67, 79, 78, 70, 73, 71]⟩ : ByteArray), 1305, true⟩ : S126), (⟨(⟨#[83, 79, 67, 75, 65, 68, 68, 82]⟩ : ByteArray), 1306, false⟩ : S126), (⟨(⟨#[67, 87, 68]⟩ : ByteArray), 1307, false⟩ : S126), (⟨(⟨#[69, 88, 69, 67, 86, 69]⟩ : ByteArray), 1309, false⟩ : S126), (⟨(⟨#[69, 79, 69]⟩ : ByteArray), 1320, false⟩ : S126), (⟨(⟨#[76, 79, 83, 83]⟩ : ByteArray), 1331, true⟩ : S126)] : List (S126)))
def kauditref03_Types.l0 : Nat → List Int → List (S126) → Int → Option (List Int)
  | 0, _, _, _ => none
  | k + 1, x1, x2, x3 => if x3 < (x2.length : Int) then (if 0 ≤ x3 then (if x1.length < 17592186044416 then (kauditref03_Types.l0 k (x1 ++ [(rd_T126 x2 x3).f1]) x2 (wrap64 (x3 + 1))) else (none)) else (none)) else (some x1)
def kauditref03_Types.f (k : Nat)  : Option (List Int) := (kauditref03_kinds.f).bind fun t142 => (kauditref03_Types.l0 k ([] : List Int) t142 0)
theorem kauditref03_Types.mono_l : ∀ k, (∀ y0 y1 y2, LeO (kauditref03_Types.l0 k y0 y1 y2) (kauditref03_Types.l0 (k + 1) y0 y1 y2))
  | 0 => fun _ _ _ r h => by simp [kauditref03_Types.l0] at h
  | k + 1 => by
    have ih0 := kauditref03_Types.mono_l k
    · intro y0 y1 y2
      unfold kauditref03_Types.l0
      repeat' first
      | (with_reducible exact ih0 _ _ _)
      | (with_reducible exact LeO.refl _)
      | (with_reducible exact LeO.none _)
      | (with_reducible refine LeO.ite ?_ ?_)
      | (with_reducible refine LeO.bind ?_ (fun _ => ?_))
      | exact ih0 _ _ _
      | exact LeO.none _
      | refine LeO.ite ?_ ?_
      | refine LeO.bind ?_ (fun _ => ?_)
theorem kauditref03_Types.mono : ∀ k, LeO (kauditref03_Types.f k ) (kauditref03_Types.f (k + 1) ) := by
  intro  k
  have ih0 := kauditref03_Types.mono_l k
  unfold kauditref03_Types.f
  repeat' first
      | (with_reducible exact ih0 _ _ _)
      | (with_reducible exact LeO.refl _)
      | (with_reducible exact LeO.none _)
      | (with_reducible refine LeO.ite ?_ ?_)
      | (with_reducible refine LeO.bind ?_ (fun _ => ?_))
      | exact ih0 _ _ _
      | exact LeO.none _
      | refine LeO.ite ?_ ?_
      | refine LeO.bind ?_ (fun _ => ?_)
def kauditref03_find.l0 : Nat → Int → List (S126) → Int → Option (ByteArray × Int × Bool × Bool)
  | 0, _, _, _ => none
  | k + 1, x0, x4, x5 => if x5 < (x4.length : Int) then (if 0 ≤ x5 then (if ((rd_T126 x4 x5).f1) = x0 then (some ((rd_T126 x4 x5).f0, (rd_T126 x4 x5).f1, (rd_T126 x4 x5).f2, true)) else (kauditref03_find.l0 k x0 x4 (wrap64 (x5 + 1)))) else (none)) else (some ((⟨#[]⟩ : ByteArray), 0, false, false))
def kauditref03_find.f (k : Nat) (a0 : Int) : Option (ByteArray × Int × Bool × Bool) := (kauditref03_kinds.f).bind fun t150 => (kauditref03_find.l0 k a0 t150 0)
theorem kauditref03_find.mono_l : ∀ k, (∀ y0 y1 y2, LeO (kauditref03_find.l0 k y0 y1 y2) (kauditref03_find.l0 (k + 1) y0 y1 y2))
  | 0 => fun _ _ _ r h => by simp [kauditref03_find.l0] at h
  | k + 1 => by
    have ih0 := kauditref03_find.mono_l k
    · intro y0 y1 y2
      unfold kauditref03_find.l0
      repeat' first
      | (with_reducible exact ih0 _ _ _)
      | (with_reducible exact LeO.refl _)
      | (with_reducible exact LeO.none _)
      | (with_reducible refine LeO.ite ?_ ?_)
      | (with_reducible refine LeO.bind ?_ (fun _ => ?_))
      | exact ih0 _ _ _
      | exact LeO.none _
      | refine LeO.ite ?_ ?_
      | refine LeO.bind ?_ (fun _ => ?_)
theorem kauditref03_find.mono : ∀ a0 k, LeO (kauditref03_find.f k a0) (kauditref03_find.f (k + 1) a0) := by
  intro a0 k
  have ih0 := kauditref03_find.mono_l k
  unfold kauditref03_find.f
  repeat' first
      | (with_reducible exact ih0 _ _ _)
      | (with_reducible exact LeO.refl _)
      | (with_reducible exact LeO.none _)
      | (with_reducible refine LeO.ite ?_ ?_)
      | (with_reducible refine LeO.bind ?_ (fun _ => ?_))
      | exact ih0 _ _ _
      | exact LeO.none _
      | refine LeO.ite ?_ ?_
      | refine LeO.bind ?_ (fun _ => ?_)
def kauditref03_Name.f (k : Nat) (a0 : Int) : Option (ByteArray) := (kauditref03_find.f k a0).bind fun bt155 => (some bt155.1)
theorem kauditref03_Name.mono : ∀ a0 k, LeO (kauditref03_Name.f k a0) (kauditref03_Name.f (k + 1) a0) := by
  intro a0 k
  unfold kauditref03_Name.f
  repeat' first
      | (with_reducible exact kauditref03_find.mono _ _)
      | (with_reducible exact LeO.refl _)
      | (with_reducible exact LeO.none _)
      | (with_reducible refine LeO.ite ?_ ?_)
      | (with_reducible refine LeO.bind ?_ (fun _ => ?_))
      | exact kauditref03_find.mono _ _
      | exact LeO.none _
      | refine LeO.ite ?_ ?_
      | refine LeO.bind ?_ (fun _ => ?_)
end Go.Proofs.YtjnlmmjadlidlaaDoor.PRec
end
section
namespace Go.Proofs.YtjnlmmjadlidlaaDoor.PRec
open Go.RowKit Go.Proofs.YtjnlmmjadlidlaaDoorW.PrintWords Go.Proofs.YtjnlmmjadlidlaaDoorW.PrintLast Go.Proofs.YtjnlmmjadlidlaaDoorW.PrintMore
attribute [local go_sem] max2_int min2_int max_two min_two max_three min_three max_four min_four
set_option linter.unusedVariables false
set_option linter.unusedSimpArgs false
def kauditref03_Number.l0 : Nat → ByteArray → List (S126) → Int → Option (Int)
  | 0, _, _, _ => none
  | k + 1, x0, x3, x4 => if x4 < (x3.length : Int) then (if 0 ≤ x4 then (if ((rd_T126 x3 x4).f0).toList = x0.toList then (some ((rd_T126 x3 x4).f1)) else (kauditref03_Number.l0 k x0 x3 (wrap64 (x4 + 1)))) else (none)) else (some 0)
def kauditref03_Number.f (k : Nat) (a0 : ByteArray) : Option (Int) := (kauditref03_kinds.f).bind fun t165 => (kauditref03_Number.l0 k a0 t165 0)
theorem kauditref03_Number.mono_l : ∀ k, (∀ y0 y1 y2, LeO (kauditref03_Number.l0 k y0 y1 y2) (kauditref03_Number.l0 (k + 1) y0 y1 y2))
  | 0 => fun _ _ _ r h => by simp [kauditref03_Number.l0] at h
  | k + 1 => by
    have ih0 := kauditref03_Number.mono_l k
    · intro y0 y1 y2
      unfold kauditref03_Number.l0
      repeat' first
      | (with_reducible exact ih0 _ _ _)
      | (with_reducible exact LeO.refl _)
      | (with_reducible exact LeO.none _)
      | (with_reducible refine LeO.ite ?_ ?_)
      | (with_reducible refine LeO.bind ?_ (fun _ => ?_))
      | exact ih0 _ _ _
      | exact LeO.none _
      | refine LeO.ite ?_ ?_
      | refine LeO.bind ?_ (fun _ => ?_)
theorem kauditref03_Number.mono : ∀ a0 k, LeO (kauditref03_Number.f k a0) (kauditref03_Number.f (k + 1) a0) := by
  intro a0 k
  have ih0 := kauditref03_Number.mono_l k
  unfold kauditref03_Number.f
  repeat' first
      | (with_reducible exact ih0 _ _ _)
      | (with_reducible exact LeO.refl _)
      | (with_reducible exact LeO.none _)
      | (with_reducible refine LeO.ite ?_ ?_)
      | (with_reducible refine LeO.bind ?_ (fun _ => ?_))
      | exact ih0 _ _ _
      | exact LeO.none _
      | refine LeO.ite ?_ ?_
      | refine LeO.bind ?_ (fun _ => ?_)
def kauditlaw03_light.l0 : Nat → Int → Int → Int → Int → List (S34) → Option (Bool)
  | 0, _, _, _, _, _ => none
  | k + 1, x3, x200000, x200001, x200002, x200003 => if x3 < (x200003.length : Int) then (if 0 ≤ x3 then (if (((rd_T34 x200003 x3).f0).size : Int) > 40 then (some false) else (if (((rd_T34 x200003 x3).f3).size : Int) > 700 then (some false) else (kauditlaw03_light.l0 k (wrap64 (x3 + 1)) x200000 x200001 x200002 x200003))) else (none)) else (some true)
def kauditlaw03_light.f (k : Nat) (a0_0 : Int) (a0_1 : Int) (a0_2 : Int) (l0_3 : List (S34)) : Option (Bool) := if (l0_3.length : Int) > 40 then (some false) else (kauditlaw03_light.l0 k 0 a0_0 a0_1 a0_2 l0_3)
theorem kauditlaw03_light.mono_l : ∀ k, (∀ y0 y1 y2 y3 y4, LeO (kauditlaw03_light.l0 k y0 y1 y2 y3 y4) (kauditlaw03_light.l0 (k + 1) y0 y1 y2 y3 y4))
  | 0 => fun _ _ _ _ _ r h => by simp [kauditlaw03_light.l0] at h
  | k + 1 => by
    have ih0 := kauditlaw03_light.mono_l k
    · intro y0 y1 y2 y3 y4
      unfold kauditlaw03_light.l0
      repeat' first
      | (with_reducible exact ih0 _ _ _ _ _)
      | (with_reducible exact LeO.refl _)
      | (with_reducible exact LeO.none _)
      | (with_reducible refine LeO.ite ?_ ?_)
      | (with_reducible refine LeO.bind ?_ (fun _ => ?_))
      | exact ih0 _ _ _ _ _
      | exact LeO.none _
      | refine LeO.ite ?_ ?_
      | refine LeO.bind ?_ (fun _ => ?_)
theorem kauditlaw03_light.mono : ∀ a0 a1 a2 a3 k, LeO (kauditlaw03_light.f k a0 a1 a2 a3) (kauditlaw03_light.f (k + 1) a0 a1 a2 a3) := by
  intro a0 a1 a2 a3 k
  have ih0 := kauditlaw03_light.mono_l k
  unfold kauditlaw03_light.f
  repeat' first
      | (with_reducible exact ih0 _ _ _ _ _)
      | (with_reducible exact LeO.refl _)
      | (with_reducible exact LeO.none _)
      | (with_reducible refine LeO.ite ?_ ?_)
      | (with_reducible refine LeO.bind ?_ (fun _ => ?_))
      | exact ih0 _ _ _ _ _
      | exact LeO.none _
      | refine LeO.ite ?_ ?_
      | refine LeO.bind ?_ (fun _ => ?_)
mutual
def kauditref02_name.j0 : Nat → ByteArray → Bool → Option (Bool)
  | 0, _, _ => none
  | k + 1, x0, x12 => if x12 = true then (some false) else (kauditref02_name.l0 k x0 0)
def kauditref02_name.l0 : Nat → ByteArray → Int → Option (Bool)
  | 0, _, _ => none
  | k + 1, x0, x3 => if x3 < (x0.size : Int) then (if 0 ≤ x3 then (if (bt x0 x3) ≥ 97 then (if (bt x0 x3) ≤ 122 then (kauditref02_name.l0 k x0 (wrap64 (x3 + 1))) else (if x3 > 0 then (if (bt x0 x3) ≥ 48 then (if (bt x0 x3) ≤ 57 then (kauditref02_name.l0 k x0 (wrap64 (x3 + 1))) else (if ((bt x0 x3) = 95) then (kauditref02_name.l0 k x0 (wrap64 (x3 + 1))) else (some false))) else (if ((bt x0 x3) = 95) then (kauditref02_name.l0 k x0 (wrap64 (x3 + 1))) else (some false))) else (some false))) else (if x3 > 0 then (if (bt x0 x3) ≥ 48 then (if (bt x0 x3) ≤ 57 then (kauditref02_name.l0 k x0 (wrap64 (x3 + 1))) else (if ((bt x0 x3) = 95) then (kauditref02_name.l0 k x0 (wrap64 (x3 + 1))) else (some false))) else (if ((bt x0 x3) = 95) then (kauditref02_name.l0 k x0 (wrap64 (x3 + 1))) else (some false))) else (some false))) else (none)) else (some true)
end
def kauditref02_name.f (k : Nat) (a0 : ByteArray) : Option (Bool) := if (a0.size : Int) < 1 then (kauditref02_name.j0 k a0 true) else (kauditref02_name.j0 k a0 (decide ((a0.size : Int) > 16)))
theorem kauditref02_name.mono_l : ∀ k, (∀ y0 y1, LeO (kauditref02_name.j0 k y0 y1) (kauditref02_name.j0 (k + 1) y0 y1)) ∧ (∀ y0 y1, LeO (kauditref02_name.l0 k y0 y1) (kauditref02_name.l0 (k + 1) y0 y1))
  | 0 => ⟨fun _ _ r h => by simp [kauditref02_name.j0] at h, fun _ _ r h => by simp [kauditref02_name.l0] at h⟩
  | k + 1 => by
    obtain ⟨ih0, ih1⟩ := kauditref02_name.mono_l k
    refine ⟨?_, ?_⟩
    · intro y0 y1
      unfold kauditref02_name.j0
      repeat' first
      | (with_reducible exact ih0 _ _)
      | (with_reducible exact ih1 _ _)
      | (with_reducible exact LeO.refl _)
      | (with_reducible exact LeO.none _)
      | (with_reducible refine LeO.ite ?_ ?_)
      | (with_reducible refine LeO.bind ?_ (fun _ => ?_))
      | exact ih0 _ _
      | exact ih1 _ _
      | exact LeO.none _
      | refine LeO.ite ?_ ?_
      | refine LeO.bind ?_ (fun _ => ?_)
    · intro y0 y1
      unfold kauditref02_name.l0
      repeat' first
      | (with_reducible exact ih0 _ _)
      | (with_reducible exact ih1 _ _)
      | (with_reducible exact LeO.refl _)
      | (with_reducible exact LeO.none _)
      | (with_reducible refine LeO.ite ?_ ?_)
      | (with_reducible refine LeO.bind ?_ (fun _ => ?_))
      | exact ih0 _ _
      | exact ih1 _ _
      | exact LeO.none _
      | refine LeO.ite ?_ ?_
      | refine LeO.bind ?_ (fun _ => ?_)
theorem kauditref02_name.mono : ∀ a0 k, LeO (kauditref02_name.f k a0) (kauditref02_name.f (k + 1) a0) := by
  intro a0 k
  obtain ⟨ih0, ih1⟩ := kauditref02_name.mono_l k
  unfold kauditref02_name.f
  repeat' first
      | (with_reducible exact ih0 _ _)
      | (with_reducible exact ih1 _ _)
      | (with_reducible exact LeO.refl _)
      | (with_reducible exact LeO.none _)
      | (with_reducible refine LeO.ite ?_ ?_)
      | (with_reducible refine LeO.bind ?_ (fun _ => ?_))
      | exact ih0 _ _
      | exact ih1 _ _
      | exact LeO.none _
      | refine LeO.ite ?_ ?_
      | refine LeO.bind ?_ (fun _ => ?_)
end Go.Proofs.YtjnlmmjadlidlaaDoor.PRec
end
section
namespace Go.Proofs.YtjnlmmjadlidlaaDoor.PRec
open Go.RowKit Go.Proofs.YtjnlmmjadlidlaaDoorW.PrintWords Go.Proofs.YtjnlmmjadlidlaaDoorW.PrintLast Go.Proofs.YtjnlmmjadlidlaaDoorW.PrintMore
attribute [local go_sem] max2_int min2_int max_two min_two max_three min_three max_four min_four
set_option linter.unusedVariables false
set_option linter.unusedSimpArgs false
def kauditref02_Check.j0 : Nat → Bool → ByteArray → Int → Int → ByteArray → Option (Int)
  | 0, _, _, _, _, _ => none
  | k + 1, x34, x203000, x203001, x203002, x203003 => if x34 = true then (some 23) else (if (x203003.size : Int) > 640 then (some 20) else (some 0))
def kauditref02_Check.f (k : Nat) (a0_0 : ByteArray) (a0_1 : Int) (a0_2 : Int) (a0_3 : ByteArray) : Option (Int) := (kauditref02_name.f k a0_0).bind fun t203 => (if t203 = true then (if a0_1 < 1 then (kauditref02_Check.j0 k true a0_0 a0_1 a0_2 a0_3) else (if a0_1 > 3 then (kauditref02_Check.j0 k true a0_0 a0_1 a0_2 a0_3) else (if a0_1 = 1 then (if a0_1 = 2 then (kauditref02_Check.j0 k false a0_0 a0_1 a0_2 a0_3) else (kauditref02_Check.j0 k (a0_3.toList != ([] : List UInt8)) a0_0 a0_1 a0_2 a0_3)) else (if a0_2 = 0 then (if a0_1 = 2 then (kauditref02_Check.j0 k false a0_0 a0_1 a0_2 a0_3) else (kauditref02_Check.j0 k (a0_3.toList != ([] : List UInt8)) a0_0 a0_1 a0_2 a0_3)) else (kauditref02_Check.j0 k true a0_0 a0_1 a0_2 a0_3))))) else (some 22))
theorem kauditref02_Check.mono_l : ∀ k, (∀ y0 y1 y2 y3 y4, LeO (kauditref02_Check.j0 k y0 y1 y2 y3 y4) (kauditref02_Check.j0 (k + 1) y0 y1 y2 y3 y4))
  | 0 => fun _ _ _ _ _ r h => by simp [kauditref02_Check.j0] at h
  | k + 1 => by
    have ih0 := kauditref02_Check.mono_l k
    · intro y0 y1 y2 y3 y4
      unfold kauditref02_Check.j0
      repeat' first
      | (with_reducible exact ih0 _ _ _ _ _)
      | (with_reducible exact kauditref02_name.mono _ _)
      | (with_reducible exact LeO.refl _)
      | (with_reducible exact LeO.none _)
      | (with_reducible refine LeO.ite ?_ ?_)
      | (with_reducible refine LeO.bind ?_ (fun _ => ?_))
      | exact ih0 _ _ _ _ _
      | exact kauditref02_name.mono _ _
      | exact LeO.none _
      | refine LeO.ite ?_ ?_
      | refine LeO.bind ?_ (fun _ => ?_)
theorem kauditref02_Check.mono : ∀ a0 a1 a2 a3 k, LeO (kauditref02_Check.f k a0 a1 a2 a3) (kauditref02_Check.f (k + 1) a0 a1 a2 a3) := by
  intro a0 a1 a2 a3 k
  have ih0 := kauditref02_Check.mono_l k
  unfold kauditref02_Check.f
  repeat' first
      | (with_reducible exact ih0 _ _ _ _ _)
      | (with_reducible exact kauditref02_name.mono _ _)
      | (with_reducible exact LeO.refl _)
      | (with_reducible exact LeO.none _)
      | (with_reducible refine LeO.ite ?_ ?_)
      | (with_reducible refine LeO.bind ?_ (fun _ => ?_))
      | exact ih0 _ _ _ _ _
      | exact kauditref02_name.mono _ _
      | exact LeO.none _
      | refine LeO.ite ?_ ?_
      | refine LeO.bind ?_ (fun _ => ?_)
end Go.Proofs.YtjnlmmjadlidlaaDoor.PRec
end
section
namespace Go.Proofs.YtjnlmmjadlidlaaDoor.PRec
open Go.RowKit Go.Proofs.YtjnlmmjadlidlaaDoorW.PrintWords Go.Proofs.YtjnlmmjadlidlaaDoorW.PrintLast Go.Proofs.YtjnlmmjadlidlaaDoorW.PrintMore
attribute [local go_sem] max2_int min2_int max_two min_two max_three min_three max_four min_four
set_option linter.unusedVariables false
set_option linter.unusedSimpArgs false
mutual
def kauditref03_Check.j0 : Nat → Bool → Int → Int → Int → List (S34) → Option (Int)
  | 0, _, _, _, _, _ => none
  | k + 1, x33, x205000, x205001, x205002, x205003 => if x33 = true then (some 31) else (if (x205003.length : Int) > 24 then (some 32) else (kauditref03_Check.l0 k 0 x205000 x205001 x205002 x205003))
def kauditref03_Check.l0 : Nat → Int → Int → Int → Int → List (S34) → Option (Int)
  | 0, _, _, _, _, _ => none
  | k + 1, x5, x205000, x205001, x205002, x205003 => if x5 < (x205003.length : Int) then (if 0 ≤ x5 then ((kauditref02_Check.f k ((rd_T34 x205003 x5).f0) ((rd_T34 x205003 x5).f1) ((rd_T34 x205003 x5).f2) ((rd_T34 x205003 x5).f3)).bind fun t211 => (if t211 = 0 then (kauditref03_Check.l1 k x5 0 x205000 x205001 x205002 x205003) else (some t211))) else (none)) else (some 0)
def kauditref03_Check.l1 : Nat → Int → Int → Int → Int → Int → List (S34) → Option (Int)
  | 0, _, _, _, _, _, _ => none
  | k + 1, x5, x7, x205000, x205001, x205002, x205003 => if x7 < x5 then (if 0 ≤ x7 then (if x7 < (x205003.length : Int) then (if 0 ≤ x5 then (if x5 < (x205003.length : Int) then (if ((rd_T34 x205003 x7).f0).toList = ((rd_T34 x205003 x5).f0).toList then (some 33) else (kauditref03_Check.l1 k x5 (wrap64 (x7 + 1)) x205000 x205001 x205002 x205003)) else (none)) else (none)) else (none)) else (none)) else (kauditref03_Check.l0 k (wrap64 (x5 + 1)) x205000 x205001 x205002 x205003)
end
def kauditref03_Check.f (k : Nat) (a0_0 : Int) (a0_1 : Int) (a0_2 : Int) (l0_3 : List (S34)) : Option (Int) := (kauditref03_find.f k a0_0).bind fun bt205 => (if bt205.2.2.2 = true then (if a0_1 < 0 then (kauditref03_Check.j0 k true a0_0 a0_1 a0_2 l0_3) else (if a0_1 > 1099511627776 then (kauditref03_Check.j0 k true a0_0 a0_1 a0_2 l0_3) else (if a0_2 < 0 then (kauditref03_Check.j0 k true a0_0 a0_1 a0_2 l0_3) else (kauditref03_Check.j0 k (decide (a0_2 > 1073741824)) a0_0 a0_1 a0_2 l0_3)))) else (some 30))
theorem kauditref03_Check.mono_l : ∀ k, (∀ y0 y1 y2 y3 y4, LeO (kauditref03_Check.j0 k y0 y1 y2 y3 y4) (kauditref03_Check.j0 (k + 1) y0 y1 y2 y3 y4)) ∧ (∀ y0 y1 y2 y3 y4, LeO (kauditref03_Check.l0 k y0 y1 y2 y3 y4) (kauditref03_Check.l0 (k + 1) y0 y1 y2 y3 y4)) ∧ (∀ y0 y1 y2 y3 y4 y5, LeO (kauditref03_Check.l1 k y0 y1 y2 y3 y4 y5) (kauditref03_Check.l1 (k + 1) y0 y1 y2 y3 y4 y5))
  | 0 => ⟨fun _ _ _ _ _ r h => by simp [kauditref03_Check.j0] at h, fun _ _ _ _ _ r h => by simp [kauditref03_Check.l0] at h, fun _ _ _ _ _ _ r h => by simp [kauditref03_Check.l1] at h⟩
  | k + 1 => by
    obtain ⟨ih0, ih1, ih2⟩ := kauditref03_Check.mono_l k
    refine ⟨?_, ?_, ?_⟩
    · intro y0 y1 y2 y3 y4
      unfold kauditref03_Check.j0
      repeat' first
      | (with_reducible exact ih0 _ _ _ _ _)
      | (with_reducible exact ih1 _ _ _ _ _)
      | (with_reducible exact ih2 _ _ _ _ _ _)
      | (with_reducible exact kauditref02_Check.mono _ _ _ _ _)
      | (with_reducible exact kauditref03_find.mono _ _)
      | (with_reducible exact LeO.refl _)
      | (with_reducible exact LeO.none _)
      | (with_reducible refine LeO.ite ?_ ?_)
      | (with_reducible refine LeO.bind ?_ (fun _ => ?_))
      | exact ih0 _ _ _ _ _
      | exact ih1 _ _ _ _ _
      | exact ih2 _ _ _ _ _ _
      | exact kauditref02_Check.mono _ _ _ _ _
      | exact kauditref03_find.mono _ _
      | exact LeO.none _
      | refine LeO.ite ?_ ?_
      | refine LeO.bind ?_ (fun _ => ?_)
    · intro y0 y1 y2 y3 y4
      unfold kauditref03_Check.l0
      repeat' first
      | (with_reducible exact ih0 _ _ _ _ _)
      | (with_reducible exact ih1 _ _ _ _ _)
      | (with_reducible exact ih2 _ _ _ _ _ _)
      | (with_reducible exact kauditref02_Check.mono _ _ _ _ _)
      | (with_reducible exact kauditref03_find.mono _ _)
      | (with_reducible exact LeO.refl _)
      | (with_reducible exact LeO.none _)
      | (with_reducible refine LeO.ite ?_ ?_)
      | (with_reducible refine LeO.bind ?_ (fun _ => ?_))
      | exact ih0 _ _ _ _ _
      | exact ih1 _ _ _ _ _
      | exact ih2 _ _ _ _ _ _
      | exact kauditref02_Check.mono _ _ _ _ _
      | exact kauditref03_find.mono _ _
      | exact LeO.none _
      | refine LeO.ite ?_ ?_
      | refine LeO.bind ?_ (fun _ => ?_)
    · intro y0 y1 y2 y3 y4 y5
      unfold kauditref03_Check.l1
      repeat' first
      | (with_reducible exact ih0 _ _ _ _ _)
      | (with_reducible exact ih1 _ _ _ _ _)
      | (with_reducible exact ih2 _ _ _ _ _ _)
      | (with_reducible exact kauditref02_Check.mono _ _ _ _ _)
      | (with_reducible exact kauditref03_find.mono _ _)
      | (with_reducible exact LeO.refl _)
      | (with_reducible exact LeO.none _)
      | (with_reducible refine LeO.ite ?_ ?_)
      | (with_reducible refine LeO.bind ?_ (fun _ => ?_))
      | exact ih0 _ _ _ _ _
      | exact ih1 _ _ _ _ _
      | exact ih2 _ _ _ _ _ _
      | exact kauditref02_Check.mono _ _ _ _ _
      | exact kauditref03_find.mono _ _
      | exact LeO.none _
      | refine LeO.ite ?_ ?_
      | refine LeO.bind ?_ (fun _ => ?_)
theorem kauditref03_Check.mono : ∀ a0 a1 a2 a3 k, LeO (kauditref03_Check.f k a0 a1 a2 a3) (kauditref03_Check.f (k + 1) a0 a1 a2 a3) := by
  intro a0 a1 a2 a3 k
  obtain ⟨ih0, ih1, ih2⟩ := kauditref03_Check.mono_l k
  unfold kauditref03_Check.f
  repeat' first
      | (with_reducible exact ih0 _ _ _ _ _)
      | (with_reducible exact ih1 _ _ _ _ _)
      | (with_reducible exact ih2 _ _ _ _ _ _)
      | (with_reducible exact kauditref02_Check.mono _ _ _ _ _)
      | (with_reducible exact kauditref03_find.mono _ _)
      | (with_reducible exact LeO.refl _)
      | (with_reducible exact LeO.none _)
      | (with_reducible refine LeO.ite ?_ ?_)
      | (with_reducible refine LeO.bind ?_ (fun _ => ?_))
      | exact ih0 _ _ _ _ _
      | exact ih1 _ _ _ _ _
      | exact ih2 _ _ _ _ _ _
      | exact kauditref02_Check.mono _ _ _ _ _
      | exact kauditref03_find.mono _ _
      | exact LeO.none _
      | refine LeO.ite ?_ ?_
      | refine LeO.bind ?_ (fun _ => ?_)
end Go.Proofs.YtjnlmmjadlidlaaDoor.PRec
end
section
namespace Go.Proofs.YtjnlmmjadlidlaaDoor.PRec
open Go.RowKit Go.Proofs.YtjnlmmjadlidlaaDoorW.PrintWords Go.Proofs.YtjnlmmjadlidlaaDoorW.PrintLast Go.Proofs.YtjnlmmjadlidlaaDoorW.PrintMore
attribute [local go_sem] max2_int min2_int max_two min_two max_three min_three max_four min_four
set_option linter.unusedVariables false
set_option linter.unusedSimpArgs false
def kauditref03_three.f (a0 : Int) : Option (ByteArray) := (kauditref01_Decimal.f (wrap64 (Int.tdiv a0 100))).bind fun t214 => ((kauditref01_Decimal.f (Int.tmod (wrap64 (Int.tdiv a0 10)) 10)).bind fun t215 => (if t214.size + t215.size ≤ 9223372036854775807 then ((kauditref01_Decimal.f (Int.tmod a0 10)).bind fun t216 => (if t214.size + t215.size + t216.size ≤ 9223372036854775807 then (some ((t214 ++ t215) ++ t216)) else (none))) else (none)))
def kauditref02_Number.f (a0 : Int) : Option (ByteArray) := if a0 ≥ 0 then ((kauditref01_Decimal.f a0).bind fun t217 => (some t217)) else (if (wrap64 (-a0)) < 0 then ((kauditref01_Decimal.f (wrap64 (-(wrap64 (Int.tdiv a0 10))))).bind fun t218 => (if 1 + t218.size ≤ 9223372036854775807 then ((kauditref01_Decimal.f (wrap64 (-(Int.tmod a0 10)))).bind fun t219 => (if 1 + t218.size + t219.size ≤ 9223372036854775807 then (some (((⟨#[45]⟩ : ByteArray) ++ t218) ++ t219)) else (none))) else (none))) else ((kauditref01_Decimal.f (wrap64 (-a0))).bind fun t220 => (if 1 + t220.size ≤ 9223372036854775807 then (some ((⟨#[45]⟩ : ByteArray) ++ t220)) else (none))))
def kauditref02_safe.l0 : Nat → ByteArray → Int → Option (Bool)
  | 0, _, _ => none
  | k + 1, x0, x3 => if x3 < (x0.size : Int) then (if 0 ≤ x3 then (if (bt x0 x3) < 33 then (some false) else (if (bt x0 x3) > 126 then (some false) else (if (bt x0 x3) = 34 then (some false) else (kauditref02_safe.l0 k x0 (wrap64 (x3 + 1)))))) else (none)) else (some true)
def kauditref02_safe.f (k : Nat) (a0 : ByteArray) : Option (Bool) := kauditref02_safe.l0 k a0 0
theorem kauditref02_safe.mono_l : ∀ k, (∀ y0 y1, LeO (kauditref02_safe.l0 k y0 y1) (kauditref02_safe.l0 (k + 1) y0 y1))
  | 0 => fun _ _ r h => by simp [kauditref02_safe.l0] at h
  | k + 1 => by
    have ih0 := kauditref02_safe.mono_l k
    · intro y0 y1
      unfold kauditref02_safe.l0
      repeat' first
      | (with_reducible exact ih0 _ _)
      | (with_reducible exact LeO.refl _)
      | (with_reducible exact LeO.none _)
      | (with_reducible refine LeO.ite ?_ ?_)
      | (with_reducible refine LeO.bind ?_ (fun _ => ?_))
      | exact ih0 _ _
      | exact LeO.none _
      | refine LeO.ite ?_ ?_
      | refine LeO.bind ?_ (fun _ => ?_)
theorem kauditref02_safe.mono : ∀ a0 k, LeO (kauditref02_safe.f k a0) (kauditref02_safe.f (k + 1) a0) := by
  intro a0 k
  have ih0 := kauditref02_safe.mono_l k
  unfold kauditref02_safe.f
  repeat' first
      | (with_reducible exact ih0 _ _)
      | (with_reducible exact LeO.refl _)
      | (with_reducible exact LeO.none _)
      | (with_reducible refine LeO.ite ?_ ?_)
      | (with_reducible refine LeO.bind ?_ (fun _ => ?_))
      | exact ih0 _ _
      | exact LeO.none _
      | refine LeO.ite ?_ ?_
      | refine LeO.bind ?_ (fun _ => ?_)
def kauditref02_Quote.l0 : Nat → ByteArray → ByteArray → Int → Option (ByteArray × Int)
  | 0, _, _, _ => none
  | k + 1, x0, x4, x5 => if x5 < (x0.size : Int) then (if 0 ≤ x5 then (if 0 ≤ ((bt x0 x5) / 16) then (if ((bt x0 x5) / 16) ≤ ((((bt x0 x5) / 16) + 1) % 256) then (if ((((bt x0 x5) / 16) + 1) % 256) ≤ 16 then (if 0 ≤ (Go.bits .and .u8 (bt x0 x5) 15) then (if (Go.bits .and .u8 (bt x0 x5) 15) ≤ (((Go.bits .and .u8 (bt x0 x5) 15) + 1) % 256) then (if (((Go.bits .and .u8 (bt x0 x5) 15) + 1) % 256) ≤ 16 then (if ((⟨#[48, 49, 50, 51, 52, 53, 54, 55, 56, 57, 97, 98, 99, 100, 101, 102]⟩ : ByteArray).extract (((bt x0 x5) / 16) : Int).toNat (((((bt x0 x5) / 16) + 1) % 256) : Int).toNat).size + ((⟨#[48, 49, 50, 51, 52, 53, 54, 55, 56, 57, 97, 98, 99, 100, 101, 102]⟩ : ByteArray).extract ((Go.bits .and .u8 (bt x0 x5) 15) : Int).toNat ((((Go.bits .and .u8 (bt x0 x5) 15) + 1) % 256) : Int).toNat).size ≤ 9223372036854775807 then (if x4.size + ((⟨#[48, 49, 50, 51, 52, 53, 54, 55, 56, 57, 97, 98, 99, 100, 101, 102]⟩ : ByteArray).extract (((bt x0 x5) / 16) : Int).toNat (((((bt x0 x5) / 16) + 1) % 256) : Int).toNat).size + ((⟨#[48, 49, 50, 51, 52, 53, 54, 55, 56, 57, 97, 98, 99, 100, 101, 102]⟩ : ByteArray).extract ((Go.bits .and .u8 (bt x0 x5) 15) : Int).toNat ((((Go.bits .and .u8 (bt x0 x5) 15) + 1) % 256) : Int).toNat).size ≤ 9223372036854775807 then (kauditref02_Quote.l0 k x0 (x4 ++ (((⟨#[48, 49, 50, 51, 52, 53, 54, 55, 56, 57, 97, 98, 99, 100, 101, 102]⟩ : ByteArray).extract (((bt x0 x5) / 16) : Int).toNat (((((bt x0 x5) / 16) + 1) % 256) : Int).toNat) ++ ((⟨#[48, 49, 50, 51, 52, 53, 54, 55, 56, 57, 97, 98, 99, 100, 101, 102]⟩ : ByteArray).extract ((Go.bits .and .u8 (bt x0 x5) 15) : Int).toNat ((((Go.bits .and .u8 (bt x0 x5) 15) + 1) % 256) : Int).toNat))) (wrap64 (x5 + 1))) else (none)) else (none)) else (none)) else (none)) else (none)) else (none)) else (none)) else (none)) else (none)) else (some (x4, 0))
def kauditref02_Quote.f (k : Nat) (a0 : ByteArray) : Option (ByteArray × Int) := if (a0.size : Int) > 640 then (some ((⟨#[]⟩ : ByteArray), 20)) else ((kauditref02_safe.f k a0).bind fun t221 => (if t221 = true then (if 1 + a0.size ≤ 9223372036854775807 then (if 1 + a0.size + 1 ≤ 9223372036854775807 then (some (((⟨#[34]⟩ : ByteArray) ++ a0) ++ (⟨#[34]⟩ : ByteArray), 0)) else (none)) else (none)) else (kauditref02_Quote.l0 k a0 (⟨#[120]⟩ : ByteArray) 0)))
theorem kauditref02_Quote.mono_l : ∀ k, (∀ y0 y1 y2, LeO (kauditref02_Quote.l0 k y0 y1 y2) (kauditref02_Quote.l0 (k + 1) y0 y1 y2))
  | 0 => fun _ _ _ r h => by simp [kauditref02_Quote.l0] at h
  | k + 1 => by
    have ih0 := kauditref02_Quote.mono_l k
    · intro y0 y1 y2
      unfold kauditref02_Quote.l0
      repeat' first
      | (with_reducible exact ih0 _ _ _)
      | (with_reducible exact kauditref02_safe.mono _ _)
      | (with_reducible exact LeO.refl _)
      | (with_reducible exact LeO.none _)
      | (with_reducible refine LeO.ite ?_ ?_)
      | (with_reducible refine LeO.bind ?_ (fun _ => ?_))
      | exact ih0 _ _ _
      | exact kauditref02_safe.mono _ _
      | exact LeO.none _
      | refine LeO.ite ?_ ?_
      | refine LeO.bind ?_ (fun _ => ?_)
theorem kauditref02_Quote.mono : ∀ a0 k, LeO (kauditref02_Quote.f k a0) (kauditref02_Quote.f (k + 1) a0) := by
  intro a0 k
  have ih0 := kauditref02_Quote.mono_l k
  unfold kauditref02_Quote.f
  repeat' first
      | (with_reducible exact ih0 _ _ _)
      | (with_reducible exact kauditref02_safe.mono _ _)
      | (with_reducible exact LeO.refl _)
      | (with_reducible exact LeO.none _)
      | (with_reducible refine LeO.ite ?_ ?_)
      | (with_reducible refine LeO.bind ?_ (fun _ => ?_))
      | exact ih0 _ _ _
      | exact kauditref02_safe.mono _ _
      | exact LeO.none _
      | refine LeO.ite ?_ ?_
      | refine LeO.bind ?_ (fun _ => ?_)
def kauditref02_Format.f (k : Nat) (a0_0 : ByteArray) (a0_1 : Int) (a0_2 : Int) (a0_3 : ByteArray) : Option (ByteArray × Int) := (kauditref02_Check.f k a0_0 a0_1 a0_2 a0_3).bind fun t223 => (if t223 = 0 then (if a0_1 = 1 then (if a0_0.size + 1 ≤ 9223372036854775807 then ((kauditref02_Number.f a0_2).bind fun t224 => (if a0_0.size + 1 + t224.size ≤ 9223372036854775807 then (some ((a0_0 ++ (⟨#[61]⟩ : ByteArray)) ++ t224, 0)) else (none))) else (none)) else (if a0_1 = 2 then ((kauditref02_Quote.f k a0_3).bind fun bt225 => (if a0_0.size + 1 ≤ 9223372036854775807 then (if a0_0.size + 1 + bt225.1.size ≤ 9223372036854775807 then (some ((a0_0 ++ (⟨#[61]⟩ : ByteArray)) ++ bt225.1, bt225.2)) else (none)) else (none))) else (if a0_0.size + 7 ≤ 9223372036854775807 then (some (a0_0 ++ (⟨#[61, 40, 110, 117, 108, 108, 41]⟩ : ByteArray), 0)) else (none)))) else (some ((⟨#[]⟩ : ByteArray), t223)))
theorem kauditref02_Format.mono : ∀ a0 a1 a2 a3 k, LeO (kauditref02_Format.f k a0 a1 a2 a3) (kauditref02_Format.f (k + 1) a0 a1 a2 a3) := by
  intro a0 a1 a2 a3 k
  unfold kauditref02_Format.f
  repeat' first
      | (with_reducible exact kauditref02_Check.mono _ _ _ _ _)
      | (with_reducible exact kauditref02_Quote.mono _ _)
      | (with_reducible exact LeO.refl _)
      | (with_reducible exact LeO.none _)
      | (with_reducible refine LeO.ite ?_ ?_)
      | (with_reducible refine LeO.bind ?_ (fun _ => ?_))
      | exact kauditref02_Check.mono _ _ _ _ _
      | exact kauditref02_Quote.mono _ _
      | exact LeO.none _
      | refine LeO.ite ?_ ?_
      | refine LeO.bind ?_ (fun _ => ?_)
end Go.Proofs.YtjnlmmjadlidlaaDoor.PRec
end
section
namespace Go.Proofs.YtjnlmmjadlidlaaDoor.PRec
open Go.RowKit Go.Proofs.YtjnlmmjadlidlaaDoorW.PrintWords Go.Proofs.YtjnlmmjadlidlaaDoorW.PrintLast Go.Proofs.YtjnlmmjadlidlaaDoorW.PrintMore
attribute [local go_sem] max2_int min2_int max_two min_two max_three min_three max_four min_four
set_option linter.unusedVariables false
set_option linter.unusedSimpArgs false
def kauditref03_Format.l0 : Nat → ByteArray → Int → Int → Int → Int → List (S34) → Option (ByteArray × Int)
  | 0, _, _, _, _, _, _ => none
  | k + 1, x5, x6, x228000, x228001, x228002, x228003 => if x6 < (x228003.length : Int) then (if 0 ≤ x6 then ((kauditref02_Format.f k ((rd_T34 x228003 x6).f0) ((rd_T34 x228003 x6).f1) ((rd_T34 x228003 x6).f2) ((rd_T34 x228003 x6).f3)).bind fun bt234 => (if 1 + bt234.1.size ≤ 9223372036854775807 then (if x5.size + 1 + bt234.1.size ≤ 9223372036854775807 then (kauditref03_Format.l0 k (x5 ++ ((⟨#[32]⟩ : ByteArray) ++ bt234.1)) (wrap64 (x6 + 1)) x228000 x228001 x228002 x228003) else (none)) else (none))) else (none)) else (some (x5, 0))
def kauditref03_Format.f (k : Nat) (a0_0 : Int) (a0_1 : Int) (a0_2 : Int) (l0_3 : List (S34)) : Option (ByteArray × Int) := (kauditref03_Check.f k a0_0 a0_1 a0_2 l0_3).bind fun t228 => (if t228 = 0 then ((kauditref03_Name.f k a0_0).bind fun t229 => (if 5 + t229.size ≤ 9223372036854775807 then (if 5 + t229.size + 11 ≤ 9223372036854775807 then ((kauditref01_Decimal.f (wrap64 (Int.tdiv a0_1 1000))).bind fun t230 => (if 5 + t229.size + 11 + t230.size ≤ 9223372036854775807 then (if 5 + t229.size + 11 + t230.size + 1 ≤ 9223372036854775807 then ((kauditref03_three.f (Int.tmod a0_1 1000)).bind fun t231 => (if 5 + t229.size + 11 + t230.size + 1 + t231.size ≤ 9223372036854775807 then (if 5 + t229.size + 11 + t230.size + 1 + t231.size + 1 ≤ 9223372036854775807 then ((kauditref01_Decimal.f a0_2).bind fun t232 => (if 5 + t229.size + 11 + t230.size + 1 + t231.size + 1 + t232.size ≤ 9223372036854775807 then (if 5 + t229.size + 11 + t230.size + 1 + t231.size + 1 + t232.size + 2 ≤ 9223372036854775807 then (kauditref03_Format.l0 k (((((((((⟨#[116, 121, 112, 101, 61]⟩ : ByteArray) ++ t229) ++ (⟨#[32, 109, 115, 103, 61, 97, 117, 100, 105, 116, 40]⟩ : ByteArray)) ++ t230) ++ (⟨#[46]⟩ : ByteArray)) ++ t231) ++ (⟨#[58]⟩ : ByteArray)) ++ t232) ++ (⟨#[41, 58]⟩ : ByteArray)) 0 a0_0 a0_1 a0_2 l0_3) else (none)) else (none))) else (none)) else (none))) else (none)) else (none))) else (none)) else (none))) else (some ((⟨#[]⟩ : ByteArray), t228)))
theorem kauditref03_Format.mono_l : ∀ k, (∀ y0 y1 y2 y3 y4 y5, LeO (kauditref03_Format.l0 k y0 y1 y2 y3 y4 y5) (kauditref03_Format.l0 (k + 1) y0 y1 y2 y3 y4 y5))
  | 0 => fun _ _ _ _ _ _ r h => by simp [kauditref03_Format.l0] at h
  | k + 1 => by
    have ih0 := kauditref03_Format.mono_l k
    · intro y0 y1 y2 y3 y4 y5
      unfold kauditref03_Format.l0
      repeat' first
      | (with_reducible exact ih0 _ _ _ _ _ _)
      | (with_reducible exact kauditref02_Format.mono _ _ _ _ _)
      | (with_reducible exact kauditref03_Check.mono _ _ _ _ _)
      | (with_reducible exact kauditref03_Name.mono _ _)
      | (with_reducible exact LeO.refl _)
      | (with_reducible exact LeO.none _)
      | (with_reducible refine LeO.ite ?_ ?_)
      | (with_reducible refine LeO.bind ?_ (fun _ => ?_))
      | exact ih0 _ _ _ _ _ _
      | exact kauditref02_Format.mono _ _ _ _ _
      | exact kauditref03_Check.mono _ _ _ _ _
      | exact kauditref03_Name.mono _ _
      | exact LeO.none _
      | refine LeO.ite ?_ ?_
      | refine LeO.bind ?_ (fun _ => ?_)
theorem kauditref03_Format.mono : ∀ a0 a1 a2 a3 k, LeO (kauditref03_Format.f k a0 a1 a2 a3) (kauditref03_Format.f (k + 1) a0 a1 a2 a3) := by
  intro a0 a1 a2 a3 k
  have ih0 := kauditref03_Format.mono_l k
  unfold kauditref03_Format.f
  repeat' first
      | (with_reducible exact ih0 _ _ _ _ _ _)
      | (with_reducible exact kauditref02_Format.mono _ _ _ _ _)
      | (with_reducible exact kauditref03_Check.mono _ _ _ _ _)
      | (with_reducible exact kauditref03_Name.mono _ _)
      | (with_reducible exact LeO.refl _)
      | (with_reducible exact LeO.none _)
      | (with_reducible refine LeO.ite ?_ ?_)
      | (with_reducible refine LeO.bind ?_ (fun _ => ?_))
      | exact ih0 _ _ _ _ _ _
      | exact kauditref02_Format.mono _ _ _ _ _
      | exact kauditref03_Check.mono _ _ _ _ _
      | exact kauditref03_Name.mono _ _
      | exact LeO.none _
      | refine LeO.ite ?_ ?_
      | refine LeO.bind ?_ (fun _ => ?_)
end Go.Proofs.YtjnlmmjadlidlaaDoor.PRec
end
section
namespace Go.Proofs.YtjnlmmjadlidlaaDoor.PRec
open Go.RowKit Go.Proofs.YtjnlmmjadlidlaaDoorW.PrintWords Go.Proofs.YtjnlmmjadlidlaaDoorW.PrintLast Go.Proofs.YtjnlmmjadlidlaaDoorW.PrintMore
attribute [local go_sem] max2_int min2_int max_two min_two max_three min_three max_four min_four
set_option linter.unusedVariables false
set_option linter.unusedSimpArgs false
def kauditlaw03_agrees.f (k : Nat) (a0_0 : Int) (a0_1 : Int) (a0_2 : Int) (l0_3 : List (S34)) : Option (Bool) := (record_Format.f k a0_0 a0_1 a0_2 l0_3).bind fun bt237 => ((kauditref03_Format.f k a0_0 a0_1 a0_2 l0_3).bind fun bt239 => ((record_Check.f k a0_0 a0_1 a0_2 l0_3).bind fun t241 => ((kauditref03_Check.f k a0_0 a0_1 a0_2 l0_3).bind fun t242 => (if t241 = t242 then (if bt237.2 = bt239.2 then (some (bt237.1.toList == bt239.1.toList)) else (some false)) else (some false)))))
theorem kauditlaw03_agrees.mono : ∀ a0 a1 a2 a3 k, LeO (kauditlaw03_agrees.f k a0 a1 a2 a3) (kauditlaw03_agrees.f (k + 1) a0 a1 a2 a3) := by
  intro a0 a1 a2 a3 k
  unfold kauditlaw03_agrees.f
  repeat' first
      | (with_reducible exact kauditref03_Check.mono _ _ _ _ _)
      | (with_reducible exact kauditref03_Format.mono _ _ _ _ _)
      | (with_reducible exact record_Check.mono _ _ _ _ _)
      | (with_reducible exact record_Format.mono _ _ _ _ _)
      | (with_reducible exact LeO.refl _)
      | (with_reducible exact LeO.none _)
      | (with_reducible refine LeO.ite ?_ ?_)
      | (with_reducible refine LeO.bind ?_ (fun _ => ?_))
      | exact kauditref03_Check.mono _ _ _ _ _
      | exact kauditref03_Format.mono _ _ _ _ _
      | exact record_Check.mono _ _ _ _ _
      | exact record_Format.mono _ _ _ _ _
      | exact LeO.none _
      | refine LeO.ite ?_ ?_
      | refine LeO.bind ?_ (fun _ => ?_)
def kauditlaw03_RecordChecks.f (k : Nat) (a0_0 : Int) (a0_1 : Int) (a0_2 : Int) (l0_3 : List (S34)) : Option (Bool) := (kauditlaw03_light.f k a0_0 a0_1 a0_2 l0_3).bind fun t244 => (if t244 = true then ((kauditlaw03_agrees.f k a0_0 a0_1 a0_2 l0_3).bind fun t246 => (if t246 = true then ((kauditlaw03_agrees.f k 1302 (Go.bits .and .i64 a0_1 1099511627775) (Go.bits .and .i64 a0_2 1073741823) l0_3).bind fun t247 => (if t247 = true then ((kauditlaw03_awake.f k).bind fun t248 => (some t248)) else (some false))) else (some false))) else ((kauditlaw03_awake.f k).bind fun t245 => (some t245)))
theorem kauditlaw03_RecordChecks.mono : ∀ a0 a1 a2 a3 k, LeO (kauditlaw03_RecordChecks.f k a0 a1 a2 a3) (kauditlaw03_RecordChecks.f (k + 1) a0 a1 a2 a3) := by
  intro a0 a1 a2 a3 k
  unfold kauditlaw03_RecordChecks.f
  repeat' first
      | (with_reducible exact kauditlaw03_agrees.mono _ _ _ _ _)
      | (with_reducible exact kauditlaw03_awake.mono _)
      | (with_reducible exact kauditlaw03_light.mono _ _ _ _ _)
      | (with_reducible exact LeO.refl _)
      | (with_reducible exact LeO.none _)
      | (with_reducible refine LeO.ite ?_ ?_)
      | (with_reducible refine LeO.bind ?_ (fun _ => ?_))
      | exact kauditlaw03_agrees.mono _ _ _ _ _
      | exact kauditlaw03_awake.mono _
      | exact kauditlaw03_light.mono _ _ _ _ _
      | exact LeO.none _
      | refine LeO.ite ?_ ?_
      | refine LeO.bind ?_ (fun _ => ?_)
def IsS107 (w0 W : World) (g : Nat) (f0 : List Int) (f1 : Int) : Prop := ∃ A0 c0, W.heap[g]? = some (.cells #[.slice A0 f0.length c0, .int .i64 f1] 107 (0, 0)) ∧ w0.heap.size ≤ g ∧ Kd.C (Kd.int .i64) w0 A0 f0.length f0
theorem IsS107.grown {w0 W : World} {g : Nat} {f0 : List Int} {f1 : Int} {W1 : World} {row : Option Nat} (h : IsS107 w0 W g f0 f1) (hw : W.grownBy W1 row) (hne : some g ≠ row) : IsS107 w0 W1 g f0 f1 := by
  obtain ⟨A0, c0, hb, hg, hr0⟩ := h
  exact ⟨A0, c0, blk_grown hb hw hne, hg, hr0⟩
theorem IsS107.kept {w0 W : World} {g : Nat} {f0 : List Int} {f1 : Int} {W1 : World} {S : Nat → Prop} (h : IsS107 w0 W g f0 f1) (hk : Kept W W1 S) (hne : ¬ S g) : IsS107 w0 W1 g f0 f1 := by
  obtain ⟨A0, c0, hb, hg, hr0⟩ := h
  exact ⟨A0, c0, blk_kept hb hk hne, hg, hr0⟩
theorem IsS107.below {w0 W : World} {g : Nat} {f0 : List Int} {f1 : Int} {W1 : World} (h : IsS107 w0 W g f0 f1) (hw : Below W.heap.size W W1) : IsS107 w0 W1 g f0 f1 := h.grown (grown_of_below hw none) (by simp)
theorem IsS107.alloc {w0 W : World} {g : Nat} {f0 : List Int} {f1 : Int} (h : IsS107 w0 W g f0 f1) (o : Obj) : IsS107 w0 (W.alloc o) g f0 f1 := h.below (below_alloc (Below.refl _ _) o)
theorem IsS107.drewN {w0 W : World} {g : Nat} {f0 : List Int} {f1 : Int} (h : IsS107 w0 W g f0 f1) (m : Nat) : IsS107 w0 (W.drewN m) g f0 f1 := h
theorem IsS107.drew {w0 W : World} {g : Nat} {f0 : List Int} {f1 : Int} (h : IsS107 w0 W g f0 f1) : IsS107 w0 W.drew g f0 f1 := h
theorem IsS107.at_ {w0 W : World} {g : Nat} {f0 : List Int} {f1 : Int} {w' : World} {m : Nat} (hq : W.drewN m = w') (h : IsS107 w0 W g f0 f1) : IsS107 w0 w' g f0 f1 := by subst hq; exact IsS107.drewN h m
theorem IsS107.apart {w0 W : World} {g : Nat} {f0 : List Int} {f1 : Int} {α : Type} {d : Kd α} {e : Nat} {base : Nat} {ok : Nat → Prop} {v : Value} {xs : List α} (h : IsS107 w0 W g f0 f1) (ho : d.R e W base ok v xs) (ht : ∀ q, q ∈ e :: d.E → q ≠ 107) : d.R e W base (fun k => ok k ∧ k ≠ g) v xs := by
  obtain ⟨A0, c0, hb, hg, hr0⟩ := h
  exact Kd.R_types ho hb ht
theorem IsS107.own_ne {w0 W : World} {g : Nat} {f0 : List Int} {f1 : Int} {α : Type} {d : Kd α} {e : Nat} {base : Nat} {ok : Nat → Prop} {v : Value} {xs : List α} (h : IsS107 w0 W g f0 f1) (ho : d.R e W base ok v xs) (ht : e ≠ 107) : some g ≠ v.ownBlock := by
  obtain ⟨A0, c0, hb, hg, hr0⟩ := h
  exact Kd.R_ne ho hb ht
def kauditmake_New.f (l0 : List Int) : Option (List Int × Int) := some (l0, 0)
end Go.Proofs.YtjnlmmjadlidlaaDoor.PRec
end
section
namespace Go.Proofs.YtjnlmmjadlidlaaDoor.PRec
open Go.RowKit Go.Proofs.YtjnlmmjadlidlaaDoorW.PrintWords Go.Proofs.YtjnlmmjadlidlaaDoorW.PrintLast Go.Proofs.YtjnlmmjadlidlaaDoorW.PrintMore
attribute [local go_sem] max2_int min2_int max_two min_two max_three min_three max_four min_four
set_option linter.unusedVariables false
set_option linter.unusedSimpArgs false
def kauditmake_Src_N.f (s0_0 : List Int) (s0_1 : Int) (a1 : Int) : Option (Int × Int) := if a1 < 1 then (some (0, s0_1)) else (if (wrap64 (s0_1 + 1)) ≤ (s0_0.length : Int) then (if 0 ≤ (wrap64 ((wrap64 (s0_1 + 1)) - 1)) then (if (wrap64 ((wrap64 (s0_1 + 1)) - 1)) < (s0_0.length : Int) then (if a1 = 0 then (none) else (if (Int.tmod (rd s0_0 (wrap64 ((wrap64 (s0_1 + 1)) - 1))) a1) < 0 then (some (wrap64 ((Int.tmod (rd s0_0 (wrap64 ((wrap64 (s0_1 + 1)) - 1))) a1) + a1), wrap64 (s0_1 + 1))) else (some (Int.tmod (rd s0_0 (wrap64 ((wrap64 (s0_1 + 1)) - 1))) a1, wrap64 (s0_1 + 1))))) else (none)) else (none)) else (if a1 = 0 then (none) else (if (Int.tmod (wrap64 ((wrap64 (s0_1 + 1)) * 7)) a1) < 0 then (some (wrap64 ((Int.tmod (wrap64 ((wrap64 (s0_1 + 1)) * 7)) a1) + a1), wrap64 (s0_1 + 1))) else (some (Int.tmod (wrap64 ((wrap64 (s0_1 + 1)) * 7)) a1, wrap64 (s0_1 + 1))))))
def kauditmake_Src_Pick.f (s0_0 : List Int) (s0_1 : Int) (l1 : List Int) : Option (Int × Int) := (kauditmake_Src_N.f s0_0 s0_1 (l1.length : Int)).bind fun bt251 => (if 0 ≤ bt251.1 then (if bt251.1 < (l1.length : Int) then (some (rd l1 bt251.1, bt251.2)) else (none)) else (none))
def kauditmake_Src_Range.f (s0_0 : List Int) (s0_1 : Int) (a1 : Int) (a2 : Int) : Option (Int × Int) := (kauditmake_Src_N.f s0_0 s0_1 (wrap64 ((wrap64 (a2 - a1)) + 1))).bind fun bt254 => (some (wrap64 (a1 + bt254.1), bt254.2))
def kauditmake_Src_Word.f (s0_0 : List Int) (s0_1 : Int) (l1 : List ByteArray) : Option (ByteArray × Int) := (kauditmake_Src_N.f s0_0 s0_1 (l1.length : Int)).bind fun bt256 => (if 0 ≤ bt256.1 then (if bt256.1 < (l1.length : Int) then (some (rdOf ByteArray.empty l1 bt256.1, bt256.2)) else (none)) else (none))
def kauditmake_Src_Text.l0 : Nat → ByteArray → Int → List Int → Int → Option (ByteArray × Int)
  | 0, _, _, _, _ => none
  | k + 1, x3, x4, x1000, x1001 => if x4 > 0 then ((kauditmake_Src_Word.f x1000 x1001 (([(⟨#[97]⟩ : ByteArray), (⟨#[66]⟩ : ByteArray), (⟨#[55]⟩ : ByteArray), (⟨#[47]⟩ : ByteArray), (⟨#[34]⟩ : ByteArray), (⟨#[32]⟩ : ByteArray), (⟨#[0]⟩ : ByteArray), (⟨#[255]⟩ : ByteArray), (⟨#[61]⟩ : ByteArray), (⟨#[10]⟩ : ByteArray), (⟨#[126]⟩ : ByteArray), (⟨#[33]⟩ : ByteArray)] : List ByteArray))).bind fun bt264 => (if x3.size + bt264.1.size ≤ 9223372036854775807 then (kauditmake_Src_Text.l0 k (x3 ++ bt264.1) (wrap64 (x4 - 1)) x1000 bt264.2) else (none))) else (some (x3, x1001))
def kauditmake_Src_Text.f (k : Nat) (s0_0 : List Int) (s0_1 : Int) : Option (ByteArray × Int) := (kauditmake_Src_N.f s0_0 s0_1 5).bind fun bt259 => (kauditmake_Src_Text.l0 k (⟨#[]⟩ : ByteArray) bt259.1 s0_0 bt259.2)
theorem kauditmake_Src_Text.mono_l : ∀ k, (∀ y0 y1 y2 y3, LeO (kauditmake_Src_Text.l0 k y0 y1 y2 y3) (kauditmake_Src_Text.l0 (k + 1) y0 y1 y2 y3))
  | 0 => fun _ _ _ _ r h => by simp [kauditmake_Src_Text.l0] at h
  | k + 1 => by
    have ih0 := kauditmake_Src_Text.mono_l k
    · intro y0 y1 y2 y3
      unfold kauditmake_Src_Text.l0
      repeat' first
      | (with_reducible exact ih0 _ _ _ _)
      | (with_reducible exact LeO.refl _)
      | (with_reducible exact LeO.none _)
      | (with_reducible refine LeO.ite ?_ ?_)
      | (with_reducible refine LeO.bind ?_ (fun _ => ?_))
      | exact ih0 _ _ _ _
      | exact LeO.none _
      | refine LeO.ite ?_ ?_
      | refine LeO.bind ?_ (fun _ => ?_)
theorem kauditmake_Src_Text.mono : ∀ a0 a1 k, LeO (kauditmake_Src_Text.f k a0 a1) (kauditmake_Src_Text.f (k + 1) a0 a1) := by
  intro a0 a1 k
  have ih0 := kauditmake_Src_Text.mono_l k
  unfold kauditmake_Src_Text.f
  repeat' first
      | (with_reducible exact ih0 _ _ _ _)
      | (with_reducible exact LeO.refl _)
      | (with_reducible exact LeO.none _)
      | (with_reducible refine LeO.ite ?_ ?_)
      | (with_reducible refine LeO.bind ?_ (fun _ => ?_))
      | exact ih0 _ _ _ _
      | exact LeO.none _
      | refine LeO.ite ?_ ?_
      | refine LeO.bind ?_ (fun _ => ?_)
def kauditmake_Src_Pair.j0 : Nat → List Int → Int → ByteArray → Int → Int → ByteArray → Option (ByteArray × Int × Int × ByteArray × Int)
  | 0, _, _, _, _, _, _ => none
  | k + 1, x1000, x1001, x275000, x275001, x275002, x275003 => (kauditmake_Src_N.f x1000 x1001 24).bind fun bt284 => (if bt284.1 = 23 then ((kauditmake_Src_Word.f x1000 bt284.2 (([(⟨#[]⟩ : ByteArray), (⟨#[65]⟩ : ByteArray), (⟨#[49, 97]⟩ : ByteArray), (⟨#[97, 45, 98]⟩ : ByteArray), (⟨#[97, 98, 99, 100, 101, 102, 103, 104, 105, 106, 107, 108, 109, 110, 111, 112]⟩ : ByteArray), (⟨#[97, 98, 99, 100, 101, 102, 103, 104, 105, 106, 107, 108, 109, 110, 111, 112, 113]⟩ : ByteArray)] : List ByteArray))).bind fun bt289 => ((kauditmake_Src_N.f x1000 bt289.2 2).bind fun bt291 => (some (bt289.1, x275001, bt291.1, x275003, bt291.2)))) else (some (x275000, x275001, x275002, x275003, bt284.2)))
def kauditmake_Src_Pair.f (k : Nat) (s0_0 : List Int) (s0_1 : Int) : Option (ByteArray × Int × Int × ByteArray × Int) := (kauditmake_Src_Word.f s0_0 s0_1 (([(⟨#[97]⟩ : ByteArray), (⟨#[98]⟩ : ByteArray), (⟨#[117, 105, 100]⟩ : ByteArray), (⟨#[107, 101, 121]⟩ : ByteArray), (⟨#[97, 48]⟩ : ByteArray), (⟨#[120, 95, 49]⟩ : ByteArray), (⟨#[112, 105, 100]⟩ : ByteArray), (⟨#[112, 97, 116, 104]⟩ : ByteArray)] : List ByteArray))).bind fun bt270 => ((kauditmake_Src_Range.f s0_0 bt270.2 1 3).bind fun bt272 => (if bt272.1 = 1 then ((kauditmake_Src_N.f s0_0 bt272.2 1000).bind fun bt275 => ((kauditmake_Src_Pick.f s0_0 bt275.2 (([0, 1, (-1), 42, 9223372036854775807, (-9223372036854775808), bt275.1] : List Int))).bind fun bt280 => (kauditmake_Src_Pair.j0 k s0_0 bt280.2 bt270.1 bt272.1 bt280.1 (⟨#[]⟩ : ByteArray)))) else (if bt272.1 = 2 then ((kauditmake_Src_Text.f k s0_0 bt272.2).bind fun bt282 => (kauditmake_Src_Pair.j0 k s0_0 bt282.2 bt270.1 bt272.1 0 bt282.1)) else (kauditmake_Src_Pair.j0 k s0_0 bt272.2 bt270.1 bt272.1 0 (⟨#[]⟩ : ByteArray)))))
theorem kauditmake_Src_Pair.mono_l : ∀ k, (∀ y0 y1 y2 y3 y4 y5, LeO (kauditmake_Src_Pair.j0 k y0 y1 y2 y3 y4 y5) (kauditmake_Src_Pair.j0 (k + 1) y0 y1 y2 y3 y4 y5))
  | 0 => fun _ _ _ _ _ _ r h => by simp [kauditmake_Src_Pair.j0] at h
  | k + 1 => by
    have ih0 := kauditmake_Src_Pair.mono_l k
    · intro y0 y1 y2 y3 y4 y5
      unfold kauditmake_Src_Pair.j0
      repeat' first
      | (with_reducible exact ih0 _ _ _ _ _ _)
      | (with_reducible exact kauditmake_Src_Text.mono _ _ _)
      | (with_reducible exact LeO.refl _)
      | (with_reducible exact LeO.none _)
      | (with_reducible refine LeO.ite ?_ ?_)
      | (with_reducible refine LeO.bind ?_ (fun _ => ?_))
      | exact ih0 _ _ _ _ _ _
      | exact kauditmake_Src_Text.mono _ _ _
      | exact LeO.none _
      | refine LeO.ite ?_ ?_
      | refine LeO.bind ?_ (fun _ => ?_)
theorem kauditmake_Src_Pair.mono : ∀ a0 a1 k, LeO (kauditmake_Src_Pair.f k a0 a1) (kauditmake_Src_Pair.f (k + 1) a0 a1) := by
  intro a0 a1 k
  have ih0 := kauditmake_Src_Pair.mono_l k
  unfold kauditmake_Src_Pair.f
  repeat' first
      | (with_reducible exact ih0 _ _ _ _ _ _)
      | (with_reducible exact kauditmake_Src_Text.mono _ _ _)
      | (with_reducible exact LeO.refl _)
      | (with_reducible exact LeO.none _)
      | (with_reducible refine LeO.ite ?_ ?_)
      | (with_reducible refine LeO.bind ?_ (fun _ => ?_))
      | exact ih0 _ _ _ _ _ _
      | exact kauditmake_Src_Text.mono _ _ _
      | exact LeO.none _
      | refine LeO.ite ?_ ?_
      | refine LeO.bind ?_ (fun _ => ?_)
end Go.Proofs.YtjnlmmjadlidlaaDoor.PRec
end
section
namespace Go.Proofs.YtjnlmmjadlidlaaDoor.PRec
open Go.RowKit Go.Proofs.YtjnlmmjadlidlaaDoorW.PrintWords Go.Proofs.YtjnlmmjadlidlaaDoorW.PrintLast Go.Proofs.YtjnlmmjadlidlaaDoorW.PrintMore
attribute [local go_sem] max2_int min2_int max_two min_two max_three min_three max_four min_four
set_option linter.unusedVariables false
set_option linter.unusedSimpArgs false
theorem eqA34 (d : Nat) (w : World) (x0 y0 : ByteArray) (x1 y1 : Int) (x2 y2 : Int) (x3 y3 : ByteArray) :
    (Op.equalIn (d + 2) 34 (.agg #[.string x0, .int .i64 x1, .int .i64 x2, .string x3]) (.agg #[.string y0, .int .i64 y1, .int .i64 y2, .string y3])).run Tryd.prog w = .ok (x0.toList == y0.toList && (x1 == y1 && (x2 == y2 && (x3.toList == y3.toList)))) w := by
  refine eqA_of Tryd.underlying34 (by kernel_rfl) ?_
  refine eqf_cons (by rfl) (by go_simp; rfl) (by go_simp; rfl) (by go_simp) ?_
  refine eqf_cons (by rfl) (by go_simp; rfl) (by go_simp; rfl) (by go_simp) ?_
  refine eqf_cons (by rfl) (by go_simp; rfl) (by go_simp; rfl) (by go_simp) ?_
  exact eqf_last (by rfl) (by go_simp; rfl) (by go_simp; rfl) (by go_simp)
end Go.Proofs.YtjnlmmjadlidlaaDoor.PRec
namespace Go.Proofs.YtjnlmmjadlidlaaDoor.PRec
open Go.RowKit Go.Proofs.YtjnlmmjadlidlaaDoorW.PrintWords Go.Proofs.YtjnlmmjadlidlaaDoorW.PrintLast Go.Proofs.YtjnlmmjadlidlaaDoorW.PrintMore
attribute [local go_sem] max2_int min2_int max_two min_two max_three min_three max_four min_four
set_option linter.unusedVariables false
set_option linter.unusedSimpArgs false
theorem eqA137 (d : Nat) (w : World) (x0 y0 : Int) (x1 y1 : Int) (x2 y2 : Int) (x3 y3 : Int) :
    (Op.equalIn (d + 2) 137 (.agg #[.int .i64 x0, .int .i64 x1, .int .i64 x2, .int .i64 x3]) (.agg #[.int .i64 y0, .int .i64 y1, .int .i64 y2, .int .i64 y3])).run Tryd.prog w = .ok (x0 == y0 && (x1 == y1 && (x2 == y2 && (x3 == y3)))) w := by
  refine eqA_of Tryd.underlying137 (by kernel_rfl) ?_
  refine eqf_cons (by rfl) (by go_simp; rfl) (by go_simp; rfl) (by go_simp) ?_
  refine eqf_cons (by rfl) (by go_simp; rfl) (by go_simp; rfl) (by go_simp) ?_
  refine eqf_cons (by rfl) (by go_simp; rfl) (by go_simp; rfl) (by go_simp) ?_
  exact eqf_last (by rfl) (by go_simp; rfl) (by go_simp; rfl) (by go_simp)
end Go.Proofs.YtjnlmmjadlidlaaDoor.PRec
end
section
namespace Go.Proofs.YtjnlmmjadlidlaaDoor.PRec
open Go.RowKit Go.Proofs.YtjnlmmjadlidlaaDoorW.PrintWords Go.Proofs.YtjnlmmjadlidlaaDoorW.PrintLast Go.Proofs.YtjnlmmjadlidlaaDoorW.PrintMore
attribute [local go_sem] max2_int min2_int max_two min_two max_three min_three max_four min_four
set_option linter.unusedVariables false
set_option linter.unusedSimpArgs false
attribute [local go_sem high] eqA34
def kauditmake_Src_Record.l0 : Nat → Int → List Int → Int → Int → Int → Int → List (S34) → Option (Int × Int × Int × (List (S34)) × Int)
  | 0, _, _, _, _, _, _, _ => none
  | k + 1, x4, x1000, x1001, x310000, x310001, x310002, x310003 => if x4 > 0 then ((kauditmake_Src_Pair.f k x1000 x1001).bind fun bt312 => (if x310003.length < 2932031007402 then (kauditmake_Src_Record.l0 k (wrap64 (x4 - 1)) x1000 bt312.2.2.2.2 x310000 x310001 x310002 (x310003 ++ [(⟨bt312.1, bt312.2.1, bt312.2.2.1, bt312.2.2.2.1⟩ : S34)])) else (none))) else ((kauditmake_Src_N.f x1000 x1001 20).bind fun bt320 => (if bt320.1 = 19 then ((kauditmake_Src_Range.f x1000 bt320.2 1299 1303).bind fun bt322 => ((kauditmake_Src_Range.f x1000 bt322.2 (-1) 1).bind fun bt324 => (some (bt322.1, bt324.1, x310002, x310003, bt324.2)))) else (some (x310000, x310001, x310002, x310003, bt320.2))))
def kauditmake_Src_Record.f (k : Nat) (s0_0 : List Int) (s0_1 : Int) : Option (Int × Int × Int × (List (S34)) × Int) := (kauditmake_Src_Pick.f s0_0 s0_1 (([1005, 1200, 1300, 1302, 1305, 1306, 1307, 1309, 1320, 1331] : List Int))).bind fun bt297 => ((kauditmake_Src_Pick.f s0_0 bt297.2 (([0, 5, 999, 1000, 12345, 1099511627776] : List Int))).bind fun bt302 => ((kauditmake_Src_Pick.f s0_0 bt302.2 (([0, 1, 7, 1073741824] : List Int))).bind fun bt307 => ((kauditmake_Src_N.f s0_0 bt307.2 4).bind fun bt310 => (kauditmake_Src_Record.l0 k bt310.1 s0_0 bt310.2 bt297.1 bt302.1 bt307.1 ([] : List (S34))))))
theorem kauditmake_Src_Record.mono_l : ∀ k, (∀ y0 y1 y2 y3 y4 y5 y6, LeO (kauditmake_Src_Record.l0 k y0 y1 y2 y3 y4 y5 y6) (kauditmake_Src_Record.l0 (k + 1) y0 y1 y2 y3 y4 y5 y6))
  | 0 => fun _ _ _ _ _ _ _ r h => by simp [kauditmake_Src_Record.l0] at h
  | k + 1 => by
    have ih0 := kauditmake_Src_Record.mono_l k
    · intro y0 y1 y2 y3 y4 y5 y6
      unfold kauditmake_Src_Record.l0
      repeat' first
      | (with_reducible exact ih0 _ _ _ _ _ _ _)
      | (with_reducible exact kauditmake_Src_Pair.mono _ _ _)
      | (with_reducible exact LeO.refl _)
      | (with_reducible exact LeO.none _)
      | (with_reducible refine LeO.ite ?_ ?_)
      | (with_reducible refine LeO.bind ?_ (fun _ => ?_))
      | exact ih0 _ _ _ _ _ _ _
      | exact kauditmake_Src_Pair.mono _ _ _
      | exact LeO.none _
      | refine LeO.ite ?_ ?_
      | refine LeO.bind ?_ (fun _ => ?_)
theorem kauditmake_Src_Record.mono : ∀ a0 a1 k, LeO (kauditmake_Src_Record.f k a0 a1) (kauditmake_Src_Record.f (k + 1) a0 a1) := by
  intro a0 a1 k
  have ih0 := kauditmake_Src_Record.mono_l k
  unfold kauditmake_Src_Record.f
  repeat' first
      | (with_reducible exact ih0 _ _ _ _ _ _ _)
      | (with_reducible exact kauditmake_Src_Pair.mono _ _ _)
      | (with_reducible exact LeO.refl _)
      | (with_reducible exact LeO.none _)
      | (with_reducible refine LeO.ite ?_ ?_)
      | (with_reducible refine LeO.bind ?_ (fun _ => ?_))
      | exact ih0 _ _ _ _ _ _ _
      | exact kauditmake_Src_Pair.mono _ _ _
      | exact LeO.none _
      | refine LeO.ite ?_ ?_
      | refine LeO.bind ?_ (fun _ => ?_)
def record_Get.l0 : Nat → ByteArray → List (S34) → Int → Int → Option (ByteArray × Int × Int × ByteArray × Bool)
  | 0, _, _, _, _ => none
  | k + 1, x1, x9, x10, x11 => if x11 < x10 then (if 0 ≤ x11 then (if x11 < (x9.length : Int) then (if ((rd_T34 x9 x11).f0).toList = x1.toList then (some ((rd_T34 x9 x11).f0, (rd_T34 x9 x11).f1, (rd_T34 x9 x11).f2, (rd_T34 x9 x11).f3, true)) else (record_Get.l0 k x1 x9 x10 (wrap64 (x11 + 1)))) else (none)) else (none)) else (some ((⟨#[]⟩ : ByteArray), 0, 0, (⟨#[]⟩ : ByteArray), false))
def record_Get.f (k : Nat) (a0_0 : Int) (a0_1 : Int) (a0_2 : Int) (l0_3 : List (S34)) (a1 : ByteArray) : Option (ByteArray × Int × Int × ByteArray × Bool) := record_Get.l0 k a1 l0_3 (l0_3.length : Int) 0
theorem record_Get.mono_l : ∀ k, (∀ y0 y1 y2 y3, LeO (record_Get.l0 k y0 y1 y2 y3) (record_Get.l0 (k + 1) y0 y1 y2 y3))
  | 0 => fun _ _ _ _ r h => by simp [record_Get.l0] at h
  | k + 1 => by
    have ih0 := record_Get.mono_l k
    · intro y0 y1 y2 y3
      unfold record_Get.l0
      repeat' first
      | (with_reducible exact ih0 _ _ _ _)
      | (with_reducible exact LeO.refl _)
      | (with_reducible exact LeO.none _)
      | (with_reducible refine LeO.ite ?_ ?_)
      | (with_reducible refine LeO.bind ?_ (fun _ => ?_))
      | exact ih0 _ _ _ _
      | exact LeO.none _
      | refine LeO.ite ?_ ?_
      | refine LeO.bind ?_ (fun _ => ?_)
theorem record_Get.mono : ∀ a0 a1 a2 a3 a4 k, LeO (record_Get.f k a0 a1 a2 a3 a4) (record_Get.f (k + 1) a0 a1 a2 a3 a4) := by
  intro a0 a1 a2 a3 a4 k
  have ih0 := record_Get.mono_l k
  unfold record_Get.f
  repeat' first
      | (with_reducible exact ih0 _ _ _ _)
      | (with_reducible exact LeO.refl _)
      | (with_reducible exact LeO.none _)
      | (with_reducible refine LeO.ite ?_ ?_)
      | (with_reducible refine LeO.bind ?_ (fun _ => ?_))
      | exact ih0 _ _ _ _
      | exact LeO.none _
      | refine LeO.ite ?_ ?_
      | refine LeO.bind ?_ (fun _ => ?_)
def kauditref03_Get.l0 : Nat → ByteArray → Int → Int → Int → Int → List (S34) → Option (ByteArray × Int × Int × ByteArray × Bool)
  | 0, _, _, _, _, _, _ => none
  | k + 1, x1, x6, x331000, x331001, x331002, x331003 => if x6 < (x331003.length : Int) then (if 0 ≤ x6 then (if ((rd_T34 x331003 x6).f0).toList = x1.toList then (some ((rd_T34 x331003 x6).f0, (rd_T34 x331003 x6).f1, (rd_T34 x331003 x6).f2, (rd_T34 x331003 x6).f3, true)) else (kauditref03_Get.l0 k x1 (wrap64 (x6 + 1)) x331000 x331001 x331002 x331003)) else (none)) else (some ((⟨#[]⟩ : ByteArray), 0, 0, (⟨#[]⟩ : ByteArray), false))
def kauditref03_Get.f (k : Nat) (a0_0 : Int) (a0_1 : Int) (a0_2 : Int) (l0_3 : List (S34)) (a1 : ByteArray) : Option (ByteArray × Int × Int × ByteArray × Bool) := kauditref03_Get.l0 k a1 0 a0_0 a0_1 a0_2 l0_3
theorem kauditref03_Get.mono_l : ∀ k, (∀ y0 y1 y2 y3 y4 y5, LeO (kauditref03_Get.l0 k y0 y1 y2 y3 y4 y5) (kauditref03_Get.l0 (k + 1) y0 y1 y2 y3 y4 y5))
  | 0 => fun _ _ _ _ _ _ r h => by simp [kauditref03_Get.l0] at h
  | k + 1 => by
    have ih0 := kauditref03_Get.mono_l k
    · intro y0 y1 y2 y3 y4 y5
      unfold kauditref03_Get.l0
      repeat' first
      | (with_reducible exact ih0 _ _ _ _ _ _)
      | (with_reducible exact LeO.refl _)
      | (with_reducible exact LeO.none _)
      | (with_reducible refine LeO.ite ?_ ?_)
      | (with_reducible refine LeO.bind ?_ (fun _ => ?_))
      | exact ih0 _ _ _ _ _ _
      | exact LeO.none _
      | refine LeO.ite ?_ ?_
      | refine LeO.bind ?_ (fun _ => ?_)
theorem kauditref03_Get.mono : ∀ a0 a1 a2 a3 a4 k, LeO (kauditref03_Get.f k a0 a1 a2 a3 a4) (kauditref03_Get.f (k + 1) a0 a1 a2 a3 a4) := by
  intro a0 a1 a2 a3 a4 k
  have ih0 := kauditref03_Get.mono_l k
  unfold kauditref03_Get.f
  repeat' first
      | (with_reducible exact ih0 _ _ _ _ _ _)
      | (with_reducible exact LeO.refl _)
      | (with_reducible exact LeO.none _)
      | (with_reducible refine LeO.ite ?_ ?_)
      | (with_reducible refine LeO.bind ?_ (fun _ => ?_))
      | exact ih0 _ _ _ _ _ _
      | exact LeO.none _
      | refine LeO.ite ?_ ?_
      | refine LeO.bind ?_ (fun _ => ?_)
def kauditref03_SamePairs.l0 : Nat → List (S34) → List (S34) → Int → Option (Bool)
  | 0, _, _, _ => none
  | k + 1, x0, x1, x5 => if x5 < (x0.length : Int) then (if 0 ≤ x5 then (if x5 < (x1.length : Int) then (if (!((((rd_T34 x0 x5).f0).toList) == (((rd_T34 x1 x5).f0).toList)) || (!(((rd_T34 x0 x5).f1) == ((rd_T34 x1 x5).f1)) || (!(((rd_T34 x0 x5).f2) == ((rd_T34 x1 x5).f2)) || (!((((rd_T34 x0 x5).f3).toList) == (((rd_T34 x1 x5).f3).toList)))))) = true then (some false) else (kauditref03_SamePairs.l0 k x0 x1 (wrap64 (x5 + 1)))) else (none)) else (none)) else (some true)
def kauditref03_SamePairs.f (k : Nat) (l0 : List (S34)) (l1 : List (S34)) : Option (Bool) := if (l0.length : Int) = (l1.length : Int) then (kauditref03_SamePairs.l0 k l0 l1 0) else (some false)
theorem kauditref03_SamePairs.mono_l : ∀ k, (∀ y0 y1 y2, LeO (kauditref03_SamePairs.l0 k y0 y1 y2) (kauditref03_SamePairs.l0 (k + 1) y0 y1 y2))
  | 0 => fun _ _ _ r h => by simp [kauditref03_SamePairs.l0] at h
  | k + 1 => by
    have ih0 := kauditref03_SamePairs.mono_l k
    · intro y0 y1 y2
      unfold kauditref03_SamePairs.l0
      repeat' first
      | (with_reducible exact ih0 _ _ _)
      | (with_reducible exact LeO.refl _)
      | (with_reducible exact LeO.none _)
      | (with_reducible refine LeO.ite ?_ ?_)
      | (with_reducible refine LeO.bind ?_ (fun _ => ?_))
      | exact ih0 _ _ _
      | exact LeO.none _
      | refine LeO.ite ?_ ?_
      | refine LeO.bind ?_ (fun _ => ?_)
theorem kauditref03_SamePairs.mono : ∀ a0 a1 k, LeO (kauditref03_SamePairs.f k a0 a1) (kauditref03_SamePairs.f (k + 1) a0 a1) := by
  intro a0 a1 k
  have ih0 := kauditref03_SamePairs.mono_l k
  unfold kauditref03_SamePairs.f
  repeat' first
      | (with_reducible exact ih0 _ _ _)
      | (with_reducible exact LeO.refl _)
      | (with_reducible exact LeO.none _)
      | (with_reducible refine LeO.ite ?_ ?_)
      | (with_reducible refine LeO.bind ?_ (fun _ => ?_))
      | exact ih0 _ _ _
      | exact LeO.none _
      | refine LeO.ite ?_ ?_
      | refine LeO.bind ?_ (fun _ => ?_)
def kauditref03_Same.f (k : Nat) (a0_0 : Int) (a0_1 : Int) (a0_2 : Int) (l0_3 : List (S34)) (a1_0 : Int) (a1_1 : Int) (a1_2 : Int) (l1_3 : List (S34)) : Option (Bool) := if a0_0 = a1_0 then (if a0_1 = a1_1 then (if a0_2 = a1_2 then ((kauditref03_SamePairs.f k l0_3 l1_3).bind fun t384 => (some t384)) else (some false)) else (some false)) else (some false)
theorem kauditref03_Same.mono : ∀ a0 a1 a2 a3 a4 a5 a6 a7 k, LeO (kauditref03_Same.f k a0 a1 a2 a3 a4 a5 a6 a7) (kauditref03_Same.f (k + 1) a0 a1 a2 a3 a4 a5 a6 a7) := by
  intro a0 a1 a2 a3 a4 a5 a6 a7 k
  unfold kauditref03_Same.f
  repeat' first
      | (with_reducible exact kauditref03_SamePairs.mono _ _ _)
      | (with_reducible exact LeO.refl _)
      | (with_reducible exact LeO.none _)
      | (with_reducible refine LeO.ite ?_ ?_)
      | (with_reducible refine LeO.bind ?_ (fun _ => ?_))
      | exact kauditref03_SamePairs.mono _ _ _
      | exact LeO.none _
      | refine LeO.ite ?_ ?_
      | refine LeO.bind ?_ (fun _ => ?_)
end Go.Proofs.YtjnlmmjadlidlaaDoor.PRec
end
section
namespace Go.Proofs.YtjnlmmjadlidlaaDoor.PRec
open Go.RowKit Go.Proofs.YtjnlmmjadlidlaaDoorW.PrintWords Go.Proofs.YtjnlmmjadlidlaaDoorW.PrintLast Go.Proofs.YtjnlmmjadlidlaaDoorW.PrintMore
attribute [local go_sem] max2_int min2_int max_two min_two max_three min_three max_four min_four
set_option linter.unusedVariables false
set_option linter.unusedSimpArgs false
def kauditlaw03_RecordDiffer.j0 : Nat → Int → Int → Int → List (S34) → Int → Int → Int → List (S34) → Option (Bool)
  | 0, _, _, _, _, _, _, _, _ => none
  | k + 1, x396000, x396001, x396002, x396003, x397000, x397001, x397002, x397003 => (record_Format.f k x396000 x396001 x396002 x396003).bind fun bt419 => ((record_Format.f k x397000 x397001 x397002 x397003).bind fun bt421 => (if bt419.2 = 0 then (if bt421.2 = 0 then ((kauditref03_Same.f k x396000 x396001 x396002 x396003 x397000 x397001 x397002 x397003).bind fun t423 => (if ((bt419.1.toList == bt421.1.toList) == t423) = true then ((kauditlaw03_awake.f k).bind fun t424 => (some t424)) else (some false))) else ((kauditlaw03_awake.f k).bind fun t425 => (some t425))) else ((kauditlaw03_awake.f k).bind fun t426 => (some t426))))
def kauditlaw03_RecordDiffer.f (k : Nat) (l0 : List Int) : Option (Bool) := (kauditmake_New.f l0).bind fun bt385 => ((kauditmake_Src_Record.f k bt385.1 bt385.2).bind fun bt388 => ((kauditmake_Src_N.f bt385.1 bt388.2.2.2.2 4).bind fun bt397 => (if bt397.1 = 0 then ((kauditmake_Src_Record.f k bt385.1 bt397.2).bind fun bt399 => (kauditlaw03_RecordDiffer.j0 k bt388.1 bt388.2.1 bt388.2.2.1 bt388.2.2.2.1 bt399.1 bt399.2.1 bt399.2.2.1 bt399.2.2.2.1)) else (if bt397.1 = 1 then ((kauditmake_Src_N.f bt385.1 bt397.2 2).bind fun bt406 => (kauditlaw03_RecordDiffer.j0 k bt388.1 bt388.2.1 bt388.2.2.1 bt388.2.2.2.1 bt388.1 (wrap64 (bt388.2.1 + bt406.1)) bt388.2.2.1 bt388.2.2.2.1)) else (if bt397.1 = 2 then (if ([] : List (S34)).length + bt388.2.2.2.1.length < 2932031007402 then ((some (([] : List (S34)) ++ bt388.2.2.2.1 : List (S34))).bind fun y408 => ((kauditmake_Src_Pair.f k bt385.1 bt397.2).bind fun bt411 => (if y408.length < 2932031007402 then (kauditlaw03_RecordDiffer.j0 k bt388.1 bt388.2.1 bt388.2.2.1 bt388.2.2.2.1 bt388.1 bt388.2.1 bt388.2.2.1 (y408 ++ [(⟨bt411.1, bt411.2.1, bt411.2.2.1, bt411.2.2.2.1⟩ : S34)])) else (none)))) else (none)) else (kauditlaw03_RecordDiffer.j0 k bt388.1 bt388.2.1 bt388.2.2.1 bt388.2.2.2.1 bt388.1 bt388.2.1 bt388.2.2.1 bt388.2.2.2.1))))))
theorem kauditlaw03_RecordDiffer.mono_l : ∀ k, (∀ y0 y1 y2 y3 y4 y5 y6 y7, LeO (kauditlaw03_RecordDiffer.j0 k y0 y1 y2 y3 y4 y5 y6 y7) (kauditlaw03_RecordDiffer.j0 (k + 1) y0 y1 y2 y3 y4 y5 y6 y7))
  | 0 => fun _ _ _ _ _ _ _ _ r h => by simp [kauditlaw03_RecordDiffer.j0] at h
  | k + 1 => by
    have ih0 := kauditlaw03_RecordDiffer.mono_l k
    · intro y0 y1 y2 y3 y4 y5 y6 y7
      unfold kauditlaw03_RecordDiffer.j0
      repeat' first
      | (with_reducible exact ih0 _ _ _ _ _ _ _ _)
      | (with_reducible exact kauditlaw03_awake.mono _)
      | (with_reducible exact kauditmake_Src_Pair.mono _ _ _)
      | (with_reducible exact kauditmake_Src_Record.mono _ _ _)
      | (with_reducible exact kauditref03_Same.mono _ _ _ _ _ _ _ _ _)
      | (with_reducible exact record_Format.mono _ _ _ _ _)
      | (with_reducible exact LeO.refl _)
      | (with_reducible exact LeO.none _)
      | (with_reducible refine LeO.ite ?_ ?_)
      | (with_reducible refine LeO.bind ?_ (fun _ => ?_))
      | exact ih0 _ _ _ _ _ _ _ _
      | exact kauditlaw03_awake.mono _
      | exact kauditmake_Src_Pair.mono _ _ _
      | exact kauditmake_Src_Record.mono _ _ _
      | exact kauditref03_Same.mono _ _ _ _ _ _ _ _ _
      | exact record_Format.mono _ _ _ _ _
      | exact LeO.none _
      | refine LeO.ite ?_ ?_
      | refine LeO.bind ?_ (fun _ => ?_)
theorem kauditlaw03_RecordDiffer.mono : ∀ a0 k, LeO (kauditlaw03_RecordDiffer.f k a0) (kauditlaw03_RecordDiffer.f (k + 1) a0) := by
  intro a0 k
  have ih0 := kauditlaw03_RecordDiffer.mono_l k
  unfold kauditlaw03_RecordDiffer.f
  repeat' first
      | (with_reducible exact ih0 _ _ _ _ _ _ _ _)
      | (with_reducible exact kauditlaw03_awake.mono _)
      | (with_reducible exact kauditmake_Src_Pair.mono _ _ _)
      | (with_reducible exact kauditmake_Src_Record.mono _ _ _)
      | (with_reducible exact kauditref03_Same.mono _ _ _ _ _ _ _ _ _)
      | (with_reducible exact record_Format.mono _ _ _ _ _)
      | (with_reducible exact LeO.refl _)
      | (with_reducible exact LeO.none _)
      | (with_reducible refine LeO.ite ?_ ?_)
      | (with_reducible refine LeO.bind ?_ (fun _ => ?_))
      | exact ih0 _ _ _ _ _ _ _ _
      | exact kauditlaw03_awake.mono _
      | exact kauditmake_Src_Pair.mono _ _ _
      | exact kauditmake_Src_Record.mono _ _ _
      | exact kauditref03_Same.mono _ _ _ _ _ _ _ _ _
      | exact record_Format.mono _ _ _ _ _
      | exact LeO.none _
      | refine LeO.ite ?_ ?_
      | refine LeO.bind ?_ (fun _ => ?_)
def digest_Put.l0 : Nat → Int → List Int → Int → Int → Option (List Int)
  | 0, _, _, _, _ => none
  | k + 1, x0, x3, x7, x8 => if x8 < x7 then (if 0 ≤ (wrap64 (56 - (wrap64 (8 * x8)))) then (if 0 ≤ x8 then (if x8 < (x3.length : Int) then (digest_Put.l0 k x0 (x3.set (x8 : Int).toNat ((shr .u64 x0 (wrap64 (56 - (wrap64 (8 * x8))))) % 256)) x7 (wrap64 (x8 + 1))) else (none)) else (none)) else (none)) else (some x3)
def digest_Put.f (k : Nat) (a0 : Int) : Option (List Int) := if 8 ≤ 281474976710656 then ((some (List.replicate 8 0 : List Int)).bind fun y427 => (digest_Put.l0 k a0 y427 (y427.length : Int) 0)) else (none)
theorem digest_Put.mono_l : ∀ k, (∀ y0 y1 y2 y3, LeO (digest_Put.l0 k y0 y1 y2 y3) (digest_Put.l0 (k + 1) y0 y1 y2 y3))
  | 0 => fun _ _ _ _ r h => by simp [digest_Put.l0] at h
  | k + 1 => by
    have ih0 := digest_Put.mono_l k
    · intro y0 y1 y2 y3
      unfold digest_Put.l0
      repeat' first
      | (with_reducible exact ih0 _ _ _ _)
      | (with_reducible exact LeO.refl _)
      | (with_reducible exact LeO.none _)
      | (with_reducible refine LeO.ite ?_ ?_)
      | (with_reducible refine LeO.bind ?_ (fun _ => ?_))
      | exact ih0 _ _ _ _
      | exact LeO.none _
      | refine LeO.ite ?_ ?_
      | refine LeO.bind ?_ (fun _ => ?_)
theorem digest_Put.mono : ∀ a0 k, LeO (digest_Put.f k a0) (digest_Put.f (k + 1) a0) := by
  intro a0 k
  have ih0 := digest_Put.mono_l k
  unfold digest_Put.f
  repeat' first
      | (with_reducible exact ih0 _ _ _ _)
      | (with_reducible exact LeO.refl _)
      | (with_reducible exact LeO.none _)
      | (with_reducible refine LeO.ite ?_ ?_)
      | (with_reducible refine LeO.bind ?_ (fun _ => ?_))
      | exact ih0 _ _ _ _
      | exact LeO.none _
      | refine LeO.ite ?_ ?_
      | refine LeO.bind ?_ (fun _ => ?_)
set_option maxHeartbeats 8000000 in
set_option maxRecDepth 100000 in
theorem digest_Put.calls (k : Nat) (a0 : Int) (r : List Int) (w : World) (h : digest_Put.f k a0 = some r) :
    Calls Tryd.prog 86 #[.int .u64 a0] w fun e w' => ∃ v0_ : Value, e = .returned (v0_) ∧ Kd.R (Kd.int .u8) 5 w' w.heap.size (fun _ => True) v0_ r ∧ Below w.heap.size w w' := by
  have HB := Aside0.mk (Below.refl w.heap.size w)
  have H : (if 8 ≤ 281474976710656 then ((some (List.replicate 8 0 : List Int)).bind fun y427 => (digest_Put.l0 k a0 y427 (y427.length : Int) 0)) else (none)) = some r := h
  clear h
  by_cases c2 : 8 ≤ 281474976710656
  · rw [if_pos c2] at H
    have c2b0 := eq_true c2
    have c2b1 : decide (8 ≤ 281474976710656) = true := decide_eq_true c2
    clear c2
    obtain ⟨y427, hy427⟩ : ∃ y_ : List Int, y_ = (List.replicate 8 0) := ⟨_, rfl⟩
    replace H : (digest_Put.l0 k a0 y427 (y427.length : Int) 0) = some r := by first | (rw [hy427]; with_reducible exact H) | (have H2_ := (Option.bind_some _ _).symm.trans H; rw [hy427]; with_reducible exact H2_) | (have H2_ := (Option.bind_some _ _).symm.trans H; with_reducible exact H2_) | with_reducible exact H | (rw [hy427]; exact H) | exact H
    have Ny427 := Aside0.mk hy427
    clear hy427
    have H' := Aside0.mk H
    clear H
    go_enter Tryd.func86, Tryd.ntmps86
    go_wp2_with (first | ((with_reducible refine gate_dst (N := 5) rfl ?_); refine Kd.R_make (Kd.int .u8) _ 5 rfl (N := 5) rfl 22 _ _ rfl 8 rfl rfl Tryd.underlying22 (.int .u8 0) 1 info5 rfl (by decide) (by omega) 0 (ok := fun _ => True) (okp := fun _ => True) rfl (fun _ hk => hk) trivial (by omega) (by omega) (Below.refl _ _) (Nat.le_refl _) ?_; intro v428 w3 ho4 hb hg_ hnew_; clear hg_ hnew_; (first | rw [← Ny427.out] at ho4 | (simp only [Int.reduceToNat] at ho4; rw [← Ny427.out] at ho4)); have n0_ := Aside0.mk (Kd.R_lower ho4 (below_size (by repeat (first | (with_reducible first | exact HB.out | apply below_alloc | apply pw_below_drewN | apply below_drew1) | exact HB.out)))); have n1_ := Aside0.mk (below_step (by repeat (first | (with_reducible first | exact HB.out | apply below_alloc | apply pw_below_drewN | apply below_drew1) | exact HB.out)) hb); clear HB; have HO429 := n0_; have HB := n1_; clear n0_ n1_; clear hb ho4; obtain ⟨Ao5, co5, eo5⟩ := Kd.R_slice HO429.out; subst eo5))
    go_loopg [8] k (fun kq v8 w' => ∃ (x3_1 : List Int) (x8_1 : Int), v8 = .int .i64 x8_1 ∧ Aside0 (digest_Put.l0 kq a0 x3_1 (y427.length : Int) x8_1 = some r) ∧ Aside0 (kq ≤ k) ∧ Aside0 (Kd.R (Kd.int .u8) 5 w' w.heap.size (fun _ => True) (.slice Ao5 y427.length co5) x3_1) ∧ Aside0 (Below w.heap.size w w'))
    case atStart => exact ⟨(y427), (0), (by first | rfl | (simp; done) | (simp [*]; done) | (simp only [isEmpty_ne_]; done)), H', ⟨Nat.le_refl _⟩, ⟨by (with_reducible repeat (first | apply Kd.R_alloc | apply Kd.R_drewN | apply Kd.R_drew)); exact HO429.out⟩, ⟨by repeat (first | (with_reducible first | exact HB.out | apply below_alloc | apply pw_below_drewN | apply below_drew1) | exact HB.out)⟩⟩
    case round =>
      clear H'
      try clear c2
      try clear c2b0
      try clear c2b1
      try clear p2
      obtain ⟨x3_1, x8_1, rfl, HA, HK1, HO_3, HB⟩ := hrel
      have hl3_1 := (Kd.R_reads' HO_3.out).1
      rw [hl3_1] at HO_3
      (try simp only [hl3_1])
      cases gk with
      | zero => exact absurd HA.out (by simp [digest_Put.l0])
      | succ k1 =>
        have H := HA.out
        clear HA
        simp only [digest_Put.l0] at H
        by_cases c6 : x8_1 < (y427.length : Int)
        · rw [if_pos c6] at H
          have c6b0 : decide (x8_1 < (y427.length : Int)) = true := decide_eq_true c6
          clear c6
          obtain ⟨ji7, hji7⟩ : ∃ j_ : Int, (wrap64 (56 - (wrap64 (8 * x8_1)))) = j_ := ⟨_, rfl⟩
          replace H : (if 0 ≤ (ji7) then (if 0 ≤ x8_1 then (if x8_1 < (x3_1.length : Int) then (digest_Put.l0 k1 a0 (x3_1.set (x8_1 : Int).toNat ((shr .u64 a0 (ji7)) % 256)) (y427.length : Int) (wrap64 (x8_1 + 1))) else (none)) else (none)) else (none)) = some r := by first | (rw [hji7] at H; exact H) | (simp only [hji7] at H ⊢; exact H)
          have hji7w : (IntKind.i64.wrap (56 - (wrap64 (8 * x8_1)))) = ji7 := (i64_w _).trans hji7
          by_cases c8 : 0 ≤ (ji7)
          · rw [if_pos c8] at H
            have c8b0 := eq_true c8
            have c8b1 : decide (0 ≤ (ji7)) = true := decide_eq_true c8
            clear c8
            obtain ⟨ji9, hji9⟩ : ∃ j_ : Int, (shr .u64 a0 (ji7)) = j_ := ⟨_, rfl⟩
            replace H : (if 0 ≤ x8_1 then (if x8_1 < (x3_1.length : Int) then (digest_Put.l0 k1 a0 (x3_1.set (x8_1 : Int).toNat ((ji9) % 256)) (y427.length : Int) (wrap64 (x8_1 + 1))) else (none)) else (none)) = some r := by first | (rw [hji9] at H; exact H) | (simp only [hji9] at H ⊢; exact H)
            have hji9_ : (a0 / 2 ^ min (ji7).toNat 64) = ji9 := hji9
            have hji9z : (ji7) ≤ 64 → (a0 / 2 ^ (ji7).toNat) = ji9 := shr_small hji9
            by_cases c10 : 0 ≤ x8_1
            · rw [if_pos c10] at H
              have c10b0 : decide (0 ≤ x8_1) = true := decide_eq_true c10
              clear c10
              by_cases c11 : x8_1 < (x3_1.length : Int)
              · rw [if_pos c11] at H
                have c11b0 : decide (x8_1 < (x3_1.length : Int)) = true := decide_eq_true c11
                clear c11
                obtain ⟨y430, hy430⟩ : ∃ y_ : List Int, y_ = (x3_1.set (x8_1 : Int).toNat ((ji9) % 256)) := ⟨_, rfl⟩
                replace H : (digest_Put.l0 k1 a0 y430 (y427.length : Int) (wrap64 (x8_1 + 1))) = some r := by first | (rw [hy430]; with_reducible exact H) | (have H2_ := (Option.bind_some _ _).symm.trans H; rw [hy430]; with_reducible exact H2_) | (have H2_ := (Option.bind_some _ _).symm.trans H; with_reducible exact H2_) | with_reducible exact H | (rw [hy430]; exact H) | exact H
                have Ny430 := Aside0.mk hy430
                clear hy430
                have H' := Aside0.mk H
                clear H
                have p12 : 0 ≤ (x8_1 : Int) := of_decide_eq_true (by first | (with_reducible assumption) | assumption)
                have q12 : (x8_1 : Int) < ((x3_1.length : Int) : Int) := of_decide_eq_true (by first | (with_reducible assumption) | assumption)
                obtain ⟨go12, co12, eo12, gb12, gl12, cl12, HG12⟩ := Kd.R_form HO_3.out (by omega)
                (first | cases eo12 | (injection eo12 with ea_ en_ ec_; (first | subst ea_ | (injection ea_ with ea_; subst ea_)); subst ec_; clear en_))
                have GB12 := Aside0.mk gb12
                have GG12 := Aside0.mk HG12
                clear gb12 gl12 HG12
                obtain ⟨hx12_0, hf12_0⟩ := Kd.R_celln 0 HO_3.out (x8_1 : Int) p12 q12
                replace p12 := eq_true p12
                replace q12 := eq_true q12
                have HP13 := Kd.R_putg HO_3.out (x8_1 : Int) ((ji9) % 256)
                go_wp2_with (first | ((with_reducible refine gate_store (t := 5) (p := 19) rfl ?_); refine store_event (t := 5) (p := 19) (v := ?vo_w14) (w1 := (wr.setCell ⟨go12, (x8_1 : Int).toNat, none⟩ (.int .u8 ((ji9) % 256)))) ?hg ?ho ?hn ?hr ?_; (case ho => rfl); (case hg => rfl); (case hn => rfl); (case hr => first | (go_simp; done) | (go_simp; rfl)); intro w14 hw; have hg : wr.grownBy w14 (some go12) := (by rw [hw]; exact HP13.2); have hp_ : Kd.R (Kd.int .u8) 5 w14 w.heap.size (fun _ => True) (.slice (some ⟨go12, 0, none⟩) x3_1.length co5) y430 := (by rw [hw, Ny430.out]; exact HP13.1); clear HP13; have n0_ := Aside0.mk (hp_); have n1_ := Aside0.mk ((by rw [hw]; exact below_set (HB.out) GB12.out : Below w.heap.size w w14)); clear HO_3; clear HB; have HO_3 := n0_; have HB := n1_; clear n0_ n1_; clear hg hw hp_))
                (try simp only [← hl3_1])
                go_roundg k1
                case measure => have := HK1.out; omega
                case rel => exact ⟨(y430), (wrap64 (x8_1 + 1)), (by first | rfl | (simp; done) | (simp [*]; done) | (simp only [isEmpty_ne_]; done)), (by first | exact H' | ((try subst hji7); (try subst hji9); exact H')), ⟨by have := HK1.out; omega⟩, ⟨by (try simp only [hl3_1]); (with_reducible repeat (first | apply Kd.R_alloc | apply Kd.R_drewN | apply Kd.R_drew)); exact HO_3.out⟩, ⟨by repeat (first | (with_reducible first | exact HB.out | apply below_alloc | apply pw_below_drewN | apply below_drew1) | exact HB.out)⟩⟩
              · rw [if_neg c11] at H
                exact absurd H (by simp)
            · rw [if_neg c10] at H
              exact absurd H (by simp)
          · rw [if_neg c8] at H
            exact absurd H (by simp)
        · rw [if_neg c6] at H
          have c6b0 : decide (x8_1 < (y427.length : Int)) = false := decide_eq_false c6
          have c6b9 : decide (x8_1 < (x3_1.length : Int)) = false := decide_eq_false (by rw [← hl3_1]; exact c6)
          clear c6
          obtain rfl := Option.some.inj H
          go_wp2
          go_ret
          exact ⟨_, by first | rfl | (simp [errW_none, errW_some] <;> rfl) | (simp [*, errW_none, errW_some] <;> rfl) | (simp only [isEmpty_ne_, isEmpty_eq_]; rfl) | (simp [*, isEmpty_ne_, isEmpty_eq_]; done), by (with_reducible repeat (first | apply Kd.R_alloc | apply Kd.R_drewN | apply Kd.R_drew)); exact HO_3.out, by repeat (first | (with_reducible first | exact HB.out | apply below_alloc | apply pw_below_drewN | apply below_drew1) | exact HB.out)⟩
  · rw [if_neg c2] at H
    exact absurd H (by simp)
def bits_RotateLeft64.f (a0 : Int) (a1 : Int) : Option (Int) := if 0 ≤ (Go.bits .and .u64 (IntKind.u64.wrap (a1)) 63) then (if 0 ≤ (IntKind.u64.wrap (64 - (Go.bits .and .u64 (IntKind.u64.wrap (a1)) 63))) then (some (Go.bits .or .u64 (shl .u64 a0 (Go.bits .and .u64 (IntKind.u64.wrap (a1)) 63)) (shr .u64 a0 (IntKind.u64.wrap (64 - (Go.bits .and .u64 (IntKind.u64.wrap (a1)) 63)))))) else (none)) else (none)
end Go.Proofs.YtjnlmmjadlidlaaDoor.PRec
end
section
namespace Go.Proofs.YtjnlmmjadlidlaaDoor.PRec
open Go.RowKit Go.Proofs.YtjnlmmjadlidlaaDoorW.PrintWords
set_option linter.unusedVariables false
def Wd (g : Nat) (v0 v1 v2 v3 : Int) (w : World) : Prop := w.heap[g]? = some (.cells #[.int .u64 v0, .int .u64 v1, .int .u64 v2, .int .u64 v3] 229 (0, 0))
def rotV (x : Int) (k n : Int) : Int := Go.bits .or .u64 (shl .u64 x k) (shr .u64 x n)
theorem rot13 (x : Int) (w : World) : Calls Tryd.prog 194 #[.int .u64 x, .int .i64 13] w (fun e w' => e = .returned (.int .u64 (rotV x 13 51)) ∧ w' = w) := by
  have e1 : IntKind.u64.wrap 13 = 13 := by decide +kernel
  have e2 : Go.bits .and .u64 13 63 = 13 := by decide +kernel
  go_enter Tryd.func194, Tryd.ntmps194
  go_wp2
  go_ret
  exact ⟨rfl, rfl⟩
theorem rot32 (x : Int) (w : World) : Calls Tryd.prog 194 #[.int .u64 x, .int .i64 32] w (fun e w' => e = .returned (.int .u64 (rotV x 32 32)) ∧ w' = w) := by
  have e1 : IntKind.u64.wrap 32 = 32 := by decide +kernel
  have e2 : Go.bits .and .u64 32 63 = 32 := by decide +kernel
  go_enter Tryd.func194, Tryd.ntmps194
  go_wp2
  go_ret
  exact ⟨rfl, rfl⟩
theorem rot16 (x : Int) (w : World) : Calls Tryd.prog 194 #[.int .u64 x, .int .i64 16] w (fun e w' => e = .returned (.int .u64 (rotV x 16 48)) ∧ w' = w) := by
  have e1 : IntKind.u64.wrap 16 = 16 := by decide +kernel
  have e2 : Go.bits .and .u64 16 63 = 16 := by decide +kernel
  go_enter Tryd.func194, Tryd.ntmps194
  go_wp2
  go_ret
  exact ⟨rfl, rfl⟩
theorem rot21 (x : Int) (w : World) : Calls Tryd.prog 194 #[.int .u64 x, .int .i64 21] w (fun e w' => e = .returned (.int .u64 (rotV x 21 43)) ∧ w' = w) := by
  have e1 : IntKind.u64.wrap 21 = 21 := by decide +kernel
  have e2 : Go.bits .and .u64 21 63 = 21 := by decide +kernel
  go_enter Tryd.func194, Tryd.ntmps194
  go_wp2
  go_ret
  exact ⟨rfl, rfl⟩
theorem rot17 (x : Int) (w : World) : Calls Tryd.prog 194 #[.int .u64 x, .int .i64 17] w (fun e w' => e = .returned (.int .u64 (rotV x 17 47)) ∧ w' = w) := by
  have e1 : IntKind.u64.wrap 17 = 17 := by decide +kernel
  have e2 : Go.bits .and .u64 17 63 = 17 := by decide +kernel
  go_enter Tryd.func194, Tryd.ntmps194
  go_wp2
  go_ret
  exact ⟨rfl, rfl⟩
def roundV (v : Int × Int × Int × Int) : Int × Int × Int × Int :=
  let n0 := IntKind.u64.wrap (v.1 + v.2.1)
  let n1 := rotV v.2.1 13 51
  let n2 := Go.bits .xor .u64 n1 n0
  let n3 := rotV n0 32 32
  let n4 := IntKind.u64.wrap (v.2.2.1 + v.2.2.2)
  let n5 := rotV v.2.2.2 16 48
  let n6 := Go.bits .xor .u64 n5 n4
  let n7 := IntKind.u64.wrap (n3 + n6)
  let n8 := rotV n6 21 43
  let n9 := Go.bits .xor .u64 n8 n7
  let n10 := IntKind.u64.wrap (n4 + n2)
  let n11 := rotV n2 17 47
  let n12 := Go.bits .xor .u64 n11 n10
  let n13 := rotV n10 32 32
  (n7, n12, n13, n9)
set_option maxRecDepth 100000 in
set_option maxHeartbeats 8000000 in
theorem round_in (g : Nat) (v0 v1 v2 v3 : Int) (w : World) (h : Wd g v0 v1 v2 v3 w) :
    Calls Tryd.prog 174 #[.pointer (some ⟨g, 0, none⟩)] w fun e w' => e = .returned (.tuple #[]) ∧ Wd g (roundV (v0, v1, v2, v3)).1 (roundV (v0, v1, v2, v3)).2.1 (roundV (v0, v1, v2, v3)).2.2.1 (roundV (v0, v1, v2, v3)).2.2.2 w' ∧ Below g w w' := by
  have hu229 := Tryd.underlying229
  have BK0 := Aside0.mk (show w.heap[g]? = some (.cells #[.int .u64 v0, .int .u64 v1, .int .u64 v2, .int .u64 v3] 229 (0, 0)) from h)
  have HB0 := Aside0.mk (Below.refl g w)
  clear h
  obtain ⟨w0, hw0⟩ : ∃ w0 : World, w0 = w := ⟨w, rfl⟩
  rw [← hw0] at BK0
  have HB0 := Aside0.mk (show Below g w w0 from by rw [hw0]; exact Below.refl g w)
  rw [show Calls Tryd.prog 174 #[.pointer (some ⟨g, 0, none⟩)] w = Calls Tryd.prog 174 #[.pointer (some ⟨g, 0, none⟩)] w0 from by rw [hw0]]
  have HW0 := Lib.hid hw0
  clear hw0
  have z0 : w0.cell? ⟨g, 0, none⟩ = some (.int .u64 v0) := (blk_cell BK0.out 0).trans rfl
  have z1 : w0.cell? ⟨g, 1, none⟩ = some (.int .u64 v1) := (blk_cell BK0.out 1).trans rfl
  have z2 : w0.cell? ⟨g, 2, none⟩ = some (.int .u64 v2) := (blk_cell BK0.out 2).trans rfl
  have z3 : w0.cell? ⟨g, 3, none⟩ = some (.int .u64 v3) := (blk_cell BK0.out 3).trans rfl
  have f0 := blk_frozen BK0.out 0
  have f1 := blk_frozen BK0.out 1
  have f2 := blk_frozen BK0.out 2
  have f3 := blk_frozen BK0.out 3
  go_enter Tryd.func174, Tryd.ntmps174
  go_wp2_with fail
  go_still_tail 11, (by kernel_rfl)
  change wpList _ _ _ _ _ w0.drew
  have bk_ := Aside0.mk (blk_drew BK0.out)
  have hb_ := Aside0.mk (below_drew1 HB0.out)
  clear z0 z1 z2 z3 f0 f1 f2 f3
  clear BK0 HB0
  generalize w0.drew = u0 at bk_ hb_ ⊢
  have z0 : u0.cell? ⟨g, 0, none⟩ = some (.int .u64 v0) := (blk_cell bk_.out 0).trans rfl
  have z1 : u0.cell? ⟨g, 1, none⟩ = some (.int .u64 v1) := (blk_cell bk_.out 1).trans rfl
  have z2 : u0.cell? ⟨g, 2, none⟩ = some (.int .u64 v2) := (blk_cell bk_.out 2).trans rfl
  have z3 : u0.cell? ⟨g, 3, none⟩ = some (.int .u64 v3) := (blk_cell bk_.out 3).trans rfl
  have f0 := blk_frozen bk_.out 0
  have f1 := blk_frozen bk_.out 1
  have f2 := blk_frozen bk_.out 2
  have f3 := blk_frozen bk_.out 3
  go_wp2_with fail
  clear z0 z1 z2 z3 f0 f1 f2 f3
  have BK1 := Aside0.mk (blk_put (cs' := #[.int .u64 (IntKind.u64.wrap (v0 + v1)), .int .u64 (v1), .int .u64 (v2), .int .u64 (v3)]) bk_.out 0 (.int .u64 (IntKind.u64.wrap (v0 + v1))) rfl)
  have HB1 := Aside0.mk (hb_.out.setCell (p := ⟨g, 0, none⟩) (Nat.le_refl g) (.int .u64 (IntKind.u64.wrap (v0 + v1))))
  clear bk_ hb_
  generalize hn0 : IntKind.u64.wrap (v0 + v1) = n0 at BK1 HB1 ⊢
  have HN0 := Lib.hid hn0
  clear hn0
  generalize u0.setCell ⟨g, 0, none⟩ (.int .u64 n0) = w1 at BK1 HB1 ⊢
  have z0 : w1.cell? ⟨g, 0, none⟩ = some (.int .u64 n0) := (blk_cell BK1.out 0).trans rfl
  have z1 : w1.cell? ⟨g, 1, none⟩ = some (.int .u64 v1) := (blk_cell BK1.out 1).trans rfl
  have z2 : w1.cell? ⟨g, 2, none⟩ = some (.int .u64 v2) := (blk_cell BK1.out 2).trans rfl
  have z3 : w1.cell? ⟨g, 3, none⟩ = some (.int .u64 v3) := (blk_cell BK1.out 3).trans rfl
  have f0 := blk_frozen BK1.out 0
  have f1 := blk_frozen BK1.out 1
  have f2 := blk_frozen BK1.out 2
  have f3 := blk_frozen BK1.out 3
  go_still_tail 8, (by kernel_rfl)
  still_call (rot13 _ _)
  repeat still_step
  refine wpStill_nil ?_
  change wpList _ _ _ _ _ w1.drew
  have bk_ := Aside0.mk (blk_drew BK1.out)
  have hb_ := Aside0.mk (below_drew1 HB1.out)
  clear z0 z1 z2 z3 f0 f1 f2 f3
  clear BK1 HB1
  generalize w1.drew = u1 at bk_ hb_ ⊢
  have z0 : u1.cell? ⟨g, 0, none⟩ = some (.int .u64 n0) := (blk_cell bk_.out 0).trans rfl
  have z1 : u1.cell? ⟨g, 1, none⟩ = some (.int .u64 v1) := (blk_cell bk_.out 1).trans rfl
  have z2 : u1.cell? ⟨g, 2, none⟩ = some (.int .u64 v2) := (blk_cell bk_.out 2).trans rfl
  have z3 : u1.cell? ⟨g, 3, none⟩ = some (.int .u64 v3) := (blk_cell bk_.out 3).trans rfl
  have f0 := blk_frozen bk_.out 0
  have f1 := blk_frozen bk_.out 1
  have f2 := blk_frozen bk_.out 2
  have f3 := blk_frozen bk_.out 3
  go_wp2_with fail
  clear z0 z1 z2 z3 f0 f1 f2 f3
  have BK2 := Aside0.mk (blk_put (cs' := #[.int .u64 (n0), .int .u64 (rotV v1 13 51), .int .u64 (v2), .int .u64 (v3)]) bk_.out 1 (.int .u64 (rotV v1 13 51)) rfl)
  have HB2 := Aside0.mk (hb_.out.setCell (p := ⟨g, 1, none⟩) (Nat.le_refl g) (.int .u64 (rotV v1 13 51)))
  clear bk_ hb_
  generalize hn1 : rotV v1 13 51 = n1 at BK2 HB2 ⊢
  have HN1 := Lib.hid hn1
  clear hn1
  generalize u1.setCell ⟨g, 1, none⟩ (.int .u64 n1) = w2 at BK2 HB2 ⊢
  have z0 : w2.cell? ⟨g, 0, none⟩ = some (.int .u64 n0) := (blk_cell BK2.out 0).trans rfl
  have z1 : w2.cell? ⟨g, 1, none⟩ = some (.int .u64 n1) := (blk_cell BK2.out 1).trans rfl
  have z2 : w2.cell? ⟨g, 2, none⟩ = some (.int .u64 v2) := (blk_cell BK2.out 2).trans rfl
  have z3 : w2.cell? ⟨g, 3, none⟩ = some (.int .u64 v3) := (blk_cell BK2.out 3).trans rfl
  have f0 := blk_frozen BK2.out 0
  have f1 := blk_frozen BK2.out 1
  have f2 := blk_frozen BK2.out 2
  have f3 := blk_frozen BK2.out 3
  go_still_tail 11, (by kernel_rfl)
  change wpList _ _ _ _ _ w2.drew
  have bk_ := Aside0.mk (blk_drew BK2.out)
  have hb_ := Aside0.mk (below_drew1 HB2.out)
  clear z0 z1 z2 z3 f0 f1 f2 f3
  clear BK2 HB2
  generalize w2.drew = u2 at bk_ hb_ ⊢
  have z0 : u2.cell? ⟨g, 0, none⟩ = some (.int .u64 n0) := (blk_cell bk_.out 0).trans rfl
  have z1 : u2.cell? ⟨g, 1, none⟩ = some (.int .u64 n1) := (blk_cell bk_.out 1).trans rfl
  have z2 : u2.cell? ⟨g, 2, none⟩ = some (.int .u64 v2) := (blk_cell bk_.out 2).trans rfl
  have z3 : u2.cell? ⟨g, 3, none⟩ = some (.int .u64 v3) := (blk_cell bk_.out 3).trans rfl
  have f0 := blk_frozen bk_.out 0
  have f1 := blk_frozen bk_.out 1
  have f2 := blk_frozen bk_.out 2
  have f3 := blk_frozen bk_.out 3
  go_wp2_with fail
  clear z0 z1 z2 z3 f0 f1 f2 f3
  have BK3 := Aside0.mk (blk_put (cs' := #[.int .u64 (n0), .int .u64 (Go.bits .xor .u64 n1 n0), .int .u64 (v2), .int .u64 (v3)]) bk_.out 1 (.int .u64 (Go.bits .xor .u64 n1 n0)) rfl)
  have HB3 := Aside0.mk (hb_.out.setCell (p := ⟨g, 1, none⟩) (Nat.le_refl g) (.int .u64 (Go.bits .xor .u64 n1 n0)))
  clear bk_ hb_
  generalize hn2 : Go.bits .xor .u64 n1 n0 = n2 at BK3 HB3 ⊢
  have HN2 := Lib.hid hn2
  clear hn2
  generalize u2.setCell ⟨g, 1, none⟩ (.int .u64 n2) = w3 at BK3 HB3 ⊢
  have z0 : w3.cell? ⟨g, 0, none⟩ = some (.int .u64 n0) := (blk_cell BK3.out 0).trans rfl
  have z1 : w3.cell? ⟨g, 1, none⟩ = some (.int .u64 n2) := (blk_cell BK3.out 1).trans rfl
  have z2 : w3.cell? ⟨g, 2, none⟩ = some (.int .u64 v2) := (blk_cell BK3.out 2).trans rfl
  have z3 : w3.cell? ⟨g, 3, none⟩ = some (.int .u64 v3) := (blk_cell BK3.out 3).trans rfl
  have f0 := blk_frozen BK3.out 0
  have f1 := blk_frozen BK3.out 1
  have f2 := blk_frozen BK3.out 2
  have f3 := blk_frozen BK3.out 3
  go_still_tail 8, (by kernel_rfl)
  still_call (rot32 _ _)
  repeat still_step
  refine wpStill_nil ?_
  change wpList _ _ _ _ _ w3.drew
  have bk_ := Aside0.mk (blk_drew BK3.out)
  have hb_ := Aside0.mk (below_drew1 HB3.out)
  clear z0 z1 z2 z3 f0 f1 f2 f3
  clear BK3 HB3
  generalize w3.drew = u3 at bk_ hb_ ⊢
  have z0 : u3.cell? ⟨g, 0, none⟩ = some (.int .u64 n0) := (blk_cell bk_.out 0).trans rfl
  have z1 : u3.cell? ⟨g, 1, none⟩ = some (.int .u64 n2) := (blk_cell bk_.out 1).trans rfl
  have z2 : u3.cell? ⟨g, 2, none⟩ = some (.int .u64 v2) := (blk_cell bk_.out 2).trans rfl
  have z3 : u3.cell? ⟨g, 3, none⟩ = some (.int .u64 v3) := (blk_cell bk_.out 3).trans rfl
  have f0 := blk_frozen bk_.out 0
  have f1 := blk_frozen bk_.out 1
  have f2 := blk_frozen bk_.out 2
  have f3 := blk_frozen bk_.out 3
  go_wp2_with fail
  clear z0 z1 z2 z3 f0 f1 f2 f3
  have BK4 := Aside0.mk (blk_put (cs' := #[.int .u64 (rotV n0 32 32), .int .u64 (n2), .int .u64 (v2), .int .u64 (v3)]) bk_.out 0 (.int .u64 (rotV n0 32 32)) rfl)
  have HB4 := Aside0.mk (hb_.out.setCell (p := ⟨g, 0, none⟩) (Nat.le_refl g) (.int .u64 (rotV n0 32 32)))
  clear bk_ hb_
  generalize hn3 : rotV n0 32 32 = n3 at BK4 HB4 ⊢
  have HN3 := Lib.hid hn3
  clear hn3
  generalize u3.setCell ⟨g, 0, none⟩ (.int .u64 n3) = w4 at BK4 HB4 ⊢
  have z0 : w4.cell? ⟨g, 0, none⟩ = some (.int .u64 n3) := (blk_cell BK4.out 0).trans rfl
  have z1 : w4.cell? ⟨g, 1, none⟩ = some (.int .u64 n2) := (blk_cell BK4.out 1).trans rfl
  have z2 : w4.cell? ⟨g, 2, none⟩ = some (.int .u64 v2) := (blk_cell BK4.out 2).trans rfl
  have z3 : w4.cell? ⟨g, 3, none⟩ = some (.int .u64 v3) := (blk_cell BK4.out 3).trans rfl
  have f0 := blk_frozen BK4.out 0
  have f1 := blk_frozen BK4.out 1
  have f2 := blk_frozen BK4.out 2
  have f3 := blk_frozen BK4.out 3
  go_still_tail 11, (by kernel_rfl)
  change wpList _ _ _ _ _ w4.drew
  have bk_ := Aside0.mk (blk_drew BK4.out)
  have hb_ := Aside0.mk (below_drew1 HB4.out)
  clear z0 z1 z2 z3 f0 f1 f2 f3
  clear BK4 HB4
  generalize w4.drew = u4 at bk_ hb_ ⊢
  have z0 : u4.cell? ⟨g, 0, none⟩ = some (.int .u64 n3) := (blk_cell bk_.out 0).trans rfl
  have z1 : u4.cell? ⟨g, 1, none⟩ = some (.int .u64 n2) := (blk_cell bk_.out 1).trans rfl
  have z2 : u4.cell? ⟨g, 2, none⟩ = some (.int .u64 v2) := (blk_cell bk_.out 2).trans rfl
  have z3 : u4.cell? ⟨g, 3, none⟩ = some (.int .u64 v3) := (blk_cell bk_.out 3).trans rfl
  have f0 := blk_frozen bk_.out 0
  have f1 := blk_frozen bk_.out 1
  have f2 := blk_frozen bk_.out 2
  have f3 := blk_frozen bk_.out 3
  go_wp2_with fail
  clear z0 z1 z2 z3 f0 f1 f2 f3
  have BK5 := Aside0.mk (blk_put (cs' := #[.int .u64 (n3), .int .u64 (n2), .int .u64 (IntKind.u64.wrap (v2 + v3)), .int .u64 (v3)]) bk_.out 2 (.int .u64 (IntKind.u64.wrap (v2 + v3))) rfl)
  have HB5 := Aside0.mk (hb_.out.setCell (p := ⟨g, 2, none⟩) (Nat.le_refl g) (.int .u64 (IntKind.u64.wrap (v2 + v3))))
  clear bk_ hb_
  generalize hn4 : IntKind.u64.wrap (v2 + v3) = n4 at BK5 HB5 ⊢
  have HN4 := Lib.hid hn4
  clear hn4
  generalize u4.setCell ⟨g, 2, none⟩ (.int .u64 n4) = w5 at BK5 HB5 ⊢
  have z0 : w5.cell? ⟨g, 0, none⟩ = some (.int .u64 n3) := (blk_cell BK5.out 0).trans rfl
  have z1 : w5.cell? ⟨g, 1, none⟩ = some (.int .u64 n2) := (blk_cell BK5.out 1).trans rfl
  have z2 : w5.cell? ⟨g, 2, none⟩ = some (.int .u64 n4) := (blk_cell BK5.out 2).trans rfl
  have z3 : w5.cell? ⟨g, 3, none⟩ = some (.int .u64 v3) := (blk_cell BK5.out 3).trans rfl
  have f0 := blk_frozen BK5.out 0
  have f1 := blk_frozen BK5.out 1
  have f2 := blk_frozen BK5.out 2
  have f3 := blk_frozen BK5.out 3
  go_still_tail 8, (by kernel_rfl)
  still_call (rot16 _ _)
  repeat still_step
  refine wpStill_nil ?_
  change wpList _ _ _ _ _ w5.drew
  have bk_ := Aside0.mk (blk_drew BK5.out)
  have hb_ := Aside0.mk (below_drew1 HB5.out)
  clear z0 z1 z2 z3 f0 f1 f2 f3
  clear BK5 HB5
  generalize w5.drew = u5 at bk_ hb_ ⊢
  have z0 : u5.cell? ⟨g, 0, none⟩ = some (.int .u64 n3) := (blk_cell bk_.out 0).trans rfl
  have z1 : u5.cell? ⟨g, 1, none⟩ = some (.int .u64 n2) := (blk_cell bk_.out 1).trans rfl
  have z2 : u5.cell? ⟨g, 2, none⟩ = some (.int .u64 n4) := (blk_cell bk_.out 2).trans rfl
  have z3 : u5.cell? ⟨g, 3, none⟩ = some (.int .u64 v3) := (blk_cell bk_.out 3).trans rfl
  have f0 := blk_frozen bk_.out 0
  have f1 := blk_frozen bk_.out 1
  have f2 := blk_frozen bk_.out 2
  have f3 := blk_frozen bk_.out 3
  go_wp2_with fail
  clear z0 z1 z2 z3 f0 f1 f2 f3
  have BK6 := Aside0.mk (blk_put (cs' := #[.int .u64 (n3), .int .u64 (n2), .int .u64 (n4), .int .u64 (rotV v3 16 48)]) bk_.out 3 (.int .u64 (rotV v3 16 48)) rfl)
  have HB6 := Aside0.mk (hb_.out.setCell (p := ⟨g, 3, none⟩) (Nat.le_refl g) (.int .u64 (rotV v3 16 48)))
  clear bk_ hb_
  generalize hn5 : rotV v3 16 48 = n5 at BK6 HB6 ⊢
  have HN5 := Lib.hid hn5
  clear hn5
  generalize u5.setCell ⟨g, 3, none⟩ (.int .u64 n5) = w6 at BK6 HB6 ⊢
  have z0 : w6.cell? ⟨g, 0, none⟩ = some (.int .u64 n3) := (blk_cell BK6.out 0).trans rfl
  have z1 : w6.cell? ⟨g, 1, none⟩ = some (.int .u64 n2) := (blk_cell BK6.out 1).trans rfl
  have z2 : w6.cell? ⟨g, 2, none⟩ = some (.int .u64 n4) := (blk_cell BK6.out 2).trans rfl
  have z3 : w6.cell? ⟨g, 3, none⟩ = some (.int .u64 n5) := (blk_cell BK6.out 3).trans rfl
  have f0 := blk_frozen BK6.out 0
  have f1 := blk_frozen BK6.out 1
  have f2 := blk_frozen BK6.out 2
  have f3 := blk_frozen BK6.out 3
  go_still_tail 11, (by kernel_rfl)
  change wpList _ _ _ _ _ w6.drew
  have bk_ := Aside0.mk (blk_drew BK6.out)
  have hb_ := Aside0.mk (below_drew1 HB6.out)
  clear z0 z1 z2 z3 f0 f1 f2 f3
  clear BK6 HB6
  generalize w6.drew = u6 at bk_ hb_ ⊢
  have z0 : u6.cell? ⟨g, 0, none⟩ = some (.int .u64 n3) := (blk_cell bk_.out 0).trans rfl
  have z1 : u6.cell? ⟨g, 1, none⟩ = some (.int .u64 n2) := (blk_cell bk_.out 1).trans rfl
  have z2 : u6.cell? ⟨g, 2, none⟩ = some (.int .u64 n4) := (blk_cell bk_.out 2).trans rfl
  have z3 : u6.cell? ⟨g, 3, none⟩ = some (.int .u64 n5) := (blk_cell bk_.out 3).trans rfl
  have f0 := blk_frozen bk_.out 0
  have f1 := blk_frozen bk_.out 1
  have f2 := blk_frozen bk_.out 2
  have f3 := blk_frozen bk_.out 3
  go_wp2_with fail
  clear z0 z1 z2 z3 f0 f1 f2 f3
  have BK7 := Aside0.mk (blk_put (cs' := #[.int .u64 (n3), .int .u64 (n2), .int .u64 (n4), .int .u64 (Go.bits .xor .u64 n5 n4)]) bk_.out 3 (.int .u64 (Go.bits .xor .u64 n5 n4)) rfl)
  have HB7 := Aside0.mk (hb_.out.setCell (p := ⟨g, 3, none⟩) (Nat.le_refl g) (.int .u64 (Go.bits .xor .u64 n5 n4)))
  clear bk_ hb_
  generalize hn6 : Go.bits .xor .u64 n5 n4 = n6 at BK7 HB7 ⊢
  have HN6 := Lib.hid hn6
  clear hn6
  generalize u6.setCell ⟨g, 3, none⟩ (.int .u64 n6) = w7 at BK7 HB7 ⊢
  have z0 : w7.cell? ⟨g, 0, none⟩ = some (.int .u64 n3) := (blk_cell BK7.out 0).trans rfl
  have z1 : w7.cell? ⟨g, 1, none⟩ = some (.int .u64 n2) := (blk_cell BK7.out 1).trans rfl
  have z2 : w7.cell? ⟨g, 2, none⟩ = some (.int .u64 n4) := (blk_cell BK7.out 2).trans rfl
  have z3 : w7.cell? ⟨g, 3, none⟩ = some (.int .u64 n6) := (blk_cell BK7.out 3).trans rfl
  have f0 := blk_frozen BK7.out 0
  have f1 := blk_frozen BK7.out 1
  have f2 := blk_frozen BK7.out 2
  have f3 := blk_frozen BK7.out 3
  go_still_tail 11, (by kernel_rfl)
  change wpList _ _ _ _ _ w7.drew
  have bk_ := Aside0.mk (blk_drew BK7.out)
  have hb_ := Aside0.mk (below_drew1 HB7.out)
  clear z0 z1 z2 z3 f0 f1 f2 f3
  clear BK7 HB7
  generalize w7.drew = u7 at bk_ hb_ ⊢
  have z0 : u7.cell? ⟨g, 0, none⟩ = some (.int .u64 n3) := (blk_cell bk_.out 0).trans rfl
  have z1 : u7.cell? ⟨g, 1, none⟩ = some (.int .u64 n2) := (blk_cell bk_.out 1).trans rfl
  have z2 : u7.cell? ⟨g, 2, none⟩ = some (.int .u64 n4) := (blk_cell bk_.out 2).trans rfl
  have z3 : u7.cell? ⟨g, 3, none⟩ = some (.int .u64 n6) := (blk_cell bk_.out 3).trans rfl
  have f0 := blk_frozen bk_.out 0
  have f1 := blk_frozen bk_.out 1
  have f2 := blk_frozen bk_.out 2
  have f3 := blk_frozen bk_.out 3
  go_wp2_with fail
  clear z0 z1 z2 z3 f0 f1 f2 f3
  have BK8 := Aside0.mk (blk_put (cs' := #[.int .u64 (IntKind.u64.wrap (n3 + n6)), .int .u64 (n2), .int .u64 (n4), .int .u64 (n6)]) bk_.out 0 (.int .u64 (IntKind.u64.wrap (n3 + n6))) rfl)
  have HB8 := Aside0.mk (hb_.out.setCell (p := ⟨g, 0, none⟩) (Nat.le_refl g) (.int .u64 (IntKind.u64.wrap (n3 + n6))))
  clear bk_ hb_
  generalize hn7 : IntKind.u64.wrap (n3 + n6) = n7 at BK8 HB8 ⊢
  have HN7 := Lib.hid hn7
  clear hn7
  generalize u7.setCell ⟨g, 0, none⟩ (.int .u64 n7) = w8 at BK8 HB8 ⊢
  have z0 : w8.cell? ⟨g, 0, none⟩ = some (.int .u64 n7) := (blk_cell BK8.out 0).trans rfl
  have z1 : w8.cell? ⟨g, 1, none⟩ = some (.int .u64 n2) := (blk_cell BK8.out 1).trans rfl
  have z2 : w8.cell? ⟨g, 2, none⟩ = some (.int .u64 n4) := (blk_cell BK8.out 2).trans rfl
  have z3 : w8.cell? ⟨g, 3, none⟩ = some (.int .u64 n6) := (blk_cell BK8.out 3).trans rfl
  have f0 := blk_frozen BK8.out 0
  have f1 := blk_frozen BK8.out 1
  have f2 := blk_frozen BK8.out 2
  have f3 := blk_frozen BK8.out 3
  go_still_tail 8, (by kernel_rfl)
  still_call (rot21 _ _)
  repeat still_step
  refine wpStill_nil ?_
  change wpList _ _ _ _ _ w8.drew
  have bk_ := Aside0.mk (blk_drew BK8.out)
  have hb_ := Aside0.mk (below_drew1 HB8.out)
  clear z0 z1 z2 z3 f0 f1 f2 f3
  clear BK8 HB8
  generalize w8.drew = u8 at bk_ hb_ ⊢
  have z0 : u8.cell? ⟨g, 0, none⟩ = some (.int .u64 n7) := (blk_cell bk_.out 0).trans rfl
  have z1 : u8.cell? ⟨g, 1, none⟩ = some (.int .u64 n2) := (blk_cell bk_.out 1).trans rfl
  have z2 : u8.cell? ⟨g, 2, none⟩ = some (.int .u64 n4) := (blk_cell bk_.out 2).trans rfl
  have z3 : u8.cell? ⟨g, 3, none⟩ = some (.int .u64 n6) := (blk_cell bk_.out 3).trans rfl
  have f0 := blk_frozen bk_.out 0
  have f1 := blk_frozen bk_.out 1
  have f2 := blk_frozen bk_.out 2
  have f3 := blk_frozen bk_.out 3
  go_wp2_with fail
  clear z0 z1 z2 z3 f0 f1 f2 f3
  have BK9 := Aside0.mk (blk_put (cs' := #[.int .u64 (n7), .int .u64 (n2), .int .u64 (n4), .int .u64 (rotV n6 21 43)]) bk_.out 3 (.int .u64 (rotV n6 21 43)) rfl)
  have HB9 := Aside0.mk (hb_.out.setCell (p := ⟨g, 3, none⟩) (Nat.le_refl g) (.int .u64 (rotV n6 21 43)))
  clear bk_ hb_
  generalize hn8 : rotV n6 21 43 = n8 at BK9 HB9 ⊢
  have HN8 := Lib.hid hn8
  clear hn8
  generalize u8.setCell ⟨g, 3, none⟩ (.int .u64 n8) = w9 at BK9 HB9 ⊢
  have z0 : w9.cell? ⟨g, 0, none⟩ = some (.int .u64 n7) := (blk_cell BK9.out 0).trans rfl
  have z1 : w9.cell? ⟨g, 1, none⟩ = some (.int .u64 n2) := (blk_cell BK9.out 1).trans rfl
  have z2 : w9.cell? ⟨g, 2, none⟩ = some (.int .u64 n4) := (blk_cell BK9.out 2).trans rfl
  have z3 : w9.cell? ⟨g, 3, none⟩ = some (.int .u64 n8) := (blk_cell BK9.out 3).trans rfl
  have f0 := blk_frozen BK9.out 0
  have f1 := blk_frozen BK9.out 1
  have f2 := blk_frozen BK9.out 2
  have f3 := blk_frozen BK9.out 3
  go_still_tail 11, (by kernel_rfl)
  change wpList _ _ _ _ _ w9.drew
  have bk_ := Aside0.mk (blk_drew BK9.out)
  have hb_ := Aside0.mk (below_drew1 HB9.out)
  clear z0 z1 z2 z3 f0 f1 f2 f3
  clear BK9 HB9
  generalize w9.drew = u9 at bk_ hb_ ⊢
  have z0 : u9.cell? ⟨g, 0, none⟩ = some (.int .u64 n7) := (blk_cell bk_.out 0).trans rfl
  have z1 : u9.cell? ⟨g, 1, none⟩ = some (.int .u64 n2) := (blk_cell bk_.out 1).trans rfl
  have z2 : u9.cell? ⟨g, 2, none⟩ = some (.int .u64 n4) := (blk_cell bk_.out 2).trans rfl
  have z3 : u9.cell? ⟨g, 3, none⟩ = some (.int .u64 n8) := (blk_cell bk_.out 3).trans rfl
  have f0 := blk_frozen bk_.out 0
  have f1 := blk_frozen bk_.out 1
  have f2 := blk_frozen bk_.out 2
  have f3 := blk_frozen bk_.out 3
  go_wp2_with fail
  clear z0 z1 z2 z3 f0 f1 f2 f3
  have BK10 := Aside0.mk (blk_put (cs' := #[.int .u64 (n7), .int .u64 (n2), .int .u64 (n4), .int .u64 (Go.bits .xor .u64 n8 n7)]) bk_.out 3 (.int .u64 (Go.bits .xor .u64 n8 n7)) rfl)
  have HB10 := Aside0.mk (hb_.out.setCell (p := ⟨g, 3, none⟩) (Nat.le_refl g) (.int .u64 (Go.bits .xor .u64 n8 n7)))
  clear bk_ hb_
  generalize hn9 : Go.bits .xor .u64 n8 n7 = n9 at BK10 HB10 ⊢
  have HN9 := Lib.hid hn9
  clear hn9
  generalize u9.setCell ⟨g, 3, none⟩ (.int .u64 n9) = w10 at BK10 HB10 ⊢
  have z0 : w10.cell? ⟨g, 0, none⟩ = some (.int .u64 n7) := (blk_cell BK10.out 0).trans rfl
  have z1 : w10.cell? ⟨g, 1, none⟩ = some (.int .u64 n2) := (blk_cell BK10.out 1).trans rfl
  have z2 : w10.cell? ⟨g, 2, none⟩ = some (.int .u64 n4) := (blk_cell BK10.out 2).trans rfl
  have z3 : w10.cell? ⟨g, 3, none⟩ = some (.int .u64 n9) := (blk_cell BK10.out 3).trans rfl
  have f0 := blk_frozen BK10.out 0
  have f1 := blk_frozen BK10.out 1
  have f2 := blk_frozen BK10.out 2
  have f3 := blk_frozen BK10.out 3
  go_still_tail 11, (by kernel_rfl)
  change wpList _ _ _ _ _ w10.drew
  have bk_ := Aside0.mk (blk_drew BK10.out)
  have hb_ := Aside0.mk (below_drew1 HB10.out)
  clear z0 z1 z2 z3 f0 f1 f2 f3
  clear BK10 HB10
  generalize w10.drew = u10 at bk_ hb_ ⊢
  have z0 : u10.cell? ⟨g, 0, none⟩ = some (.int .u64 n7) := (blk_cell bk_.out 0).trans rfl
  have z1 : u10.cell? ⟨g, 1, none⟩ = some (.int .u64 n2) := (blk_cell bk_.out 1).trans rfl
  have z2 : u10.cell? ⟨g, 2, none⟩ = some (.int .u64 n4) := (blk_cell bk_.out 2).trans rfl
  have z3 : u10.cell? ⟨g, 3, none⟩ = some (.int .u64 n9) := (blk_cell bk_.out 3).trans rfl
  have f0 := blk_frozen bk_.out 0
  have f1 := blk_frozen bk_.out 1
  have f2 := blk_frozen bk_.out 2
  have f3 := blk_frozen bk_.out 3
  go_wp2_with fail
  clear z0 z1 z2 z3 f0 f1 f2 f3
  have BK11 := Aside0.mk (blk_put (cs' := #[.int .u64 (n7), .int .u64 (n2), .int .u64 (IntKind.u64.wrap (n4 + n2)), .int .u64 (n9)]) bk_.out 2 (.int .u64 (IntKind.u64.wrap (n4 + n2))) rfl)
  have HB11 := Aside0.mk (hb_.out.setCell (p := ⟨g, 2, none⟩) (Nat.le_refl g) (.int .u64 (IntKind.u64.wrap (n4 + n2))))
  clear bk_ hb_
  generalize hn10 : IntKind.u64.wrap (n4 + n2) = n10 at BK11 HB11 ⊢
  have HN10 := Lib.hid hn10
  clear hn10
  generalize u10.setCell ⟨g, 2, none⟩ (.int .u64 n10) = w11 at BK11 HB11 ⊢
  have z0 : w11.cell? ⟨g, 0, none⟩ = some (.int .u64 n7) := (blk_cell BK11.out 0).trans rfl
  have z1 : w11.cell? ⟨g, 1, none⟩ = some (.int .u64 n2) := (blk_cell BK11.out 1).trans rfl
  have z2 : w11.cell? ⟨g, 2, none⟩ = some (.int .u64 n10) := (blk_cell BK11.out 2).trans rfl
  have z3 : w11.cell? ⟨g, 3, none⟩ = some (.int .u64 n9) := (blk_cell BK11.out 3).trans rfl
  have f0 := blk_frozen BK11.out 0
  have f1 := blk_frozen BK11.out 1
  have f2 := blk_frozen BK11.out 2
  have f3 := blk_frozen BK11.out 3
  go_still_tail 8, (by kernel_rfl)
  still_call (rot17 _ _)
  repeat still_step
  refine wpStill_nil ?_
  change wpList _ _ _ _ _ w11.drew
  have bk_ := Aside0.mk (blk_drew BK11.out)
  have hb_ := Aside0.mk (below_drew1 HB11.out)
  clear z0 z1 z2 z3 f0 f1 f2 f3
  clear BK11 HB11
  generalize w11.drew = u11 at bk_ hb_ ⊢
  have z0 : u11.cell? ⟨g, 0, none⟩ = some (.int .u64 n7) := (blk_cell bk_.out 0).trans rfl
  have z1 : u11.cell? ⟨g, 1, none⟩ = some (.int .u64 n2) := (blk_cell bk_.out 1).trans rfl
  have z2 : u11.cell? ⟨g, 2, none⟩ = some (.int .u64 n10) := (blk_cell bk_.out 2).trans rfl
  have z3 : u11.cell? ⟨g, 3, none⟩ = some (.int .u64 n9) := (blk_cell bk_.out 3).trans rfl
  have f0 := blk_frozen bk_.out 0
  have f1 := blk_frozen bk_.out 1
  have f2 := blk_frozen bk_.out 2
  have f3 := blk_frozen bk_.out 3
  go_wp2_with fail
  clear z0 z1 z2 z3 f0 f1 f2 f3
  have BK12 := Aside0.mk (blk_put (cs' := #[.int .u64 (n7), .int .u64 (rotV n2 17 47), .int .u64 (n10), .int .u64 (n9)]) bk_.out 1 (.int .u64 (rotV n2 17 47)) rfl)
  have HB12 := Aside0.mk (hb_.out.setCell (p := ⟨g, 1, none⟩) (Nat.le_refl g) (.int .u64 (rotV n2 17 47)))
  clear bk_ hb_
  generalize hn11 : rotV n2 17 47 = n11 at BK12 HB12 ⊢
  have HN11 := Lib.hid hn11
  clear hn11
  generalize u11.setCell ⟨g, 1, none⟩ (.int .u64 n11) = w12 at BK12 HB12 ⊢
  have z0 : w12.cell? ⟨g, 0, none⟩ = some (.int .u64 n7) := (blk_cell BK12.out 0).trans rfl
  have z1 : w12.cell? ⟨g, 1, none⟩ = some (.int .u64 n11) := (blk_cell BK12.out 1).trans rfl
  have z2 : w12.cell? ⟨g, 2, none⟩ = some (.int .u64 n10) := (blk_cell BK12.out 2).trans rfl
  have z3 : w12.cell? ⟨g, 3, none⟩ = some (.int .u64 n9) := (blk_cell BK12.out 3).trans rfl
  have f0 := blk_frozen BK12.out 0
  have f1 := blk_frozen BK12.out 1
  have f2 := blk_frozen BK12.out 2
  have f3 := blk_frozen BK12.out 3
  go_still_tail 11, (by kernel_rfl)
  change wpList _ _ _ _ _ w12.drew
  have bk_ := Aside0.mk (blk_drew BK12.out)
  have hb_ := Aside0.mk (below_drew1 HB12.out)
  clear z0 z1 z2 z3 f0 f1 f2 f3
  clear BK12 HB12
  generalize w12.drew = u12 at bk_ hb_ ⊢
  have z0 : u12.cell? ⟨g, 0, none⟩ = some (.int .u64 n7) := (blk_cell bk_.out 0).trans rfl
  have z1 : u12.cell? ⟨g, 1, none⟩ = some (.int .u64 n11) := (blk_cell bk_.out 1).trans rfl
  have z2 : u12.cell? ⟨g, 2, none⟩ = some (.int .u64 n10) := (blk_cell bk_.out 2).trans rfl
  have z3 : u12.cell? ⟨g, 3, none⟩ = some (.int .u64 n9) := (blk_cell bk_.out 3).trans rfl
  have f0 := blk_frozen bk_.out 0
  have f1 := blk_frozen bk_.out 1
  have f2 := blk_frozen bk_.out 2
  have f3 := blk_frozen bk_.out 3
  go_wp2_with fail
  clear z0 z1 z2 z3 f0 f1 f2 f3
  have BK13 := Aside0.mk (blk_put (cs' := #[.int .u64 (n7), .int .u64 (Go.bits .xor .u64 n11 n10), .int .u64 (n10), .int .u64 (n9)]) bk_.out 1 (.int .u64 (Go.bits .xor .u64 n11 n10)) rfl)
  have HB13 := Aside0.mk (hb_.out.setCell (p := ⟨g, 1, none⟩) (Nat.le_refl g) (.int .u64 (Go.bits .xor .u64 n11 n10)))
  clear bk_ hb_
  generalize hn12 : Go.bits .xor .u64 n11 n10 = n12 at BK13 HB13 ⊢
  have HN12 := Lib.hid hn12
  clear hn12
  generalize u12.setCell ⟨g, 1, none⟩ (.int .u64 n12) = w13 at BK13 HB13 ⊢
  have z0 : w13.cell? ⟨g, 0, none⟩ = some (.int .u64 n7) := (blk_cell BK13.out 0).trans rfl
  have z1 : w13.cell? ⟨g, 1, none⟩ = some (.int .u64 n12) := (blk_cell BK13.out 1).trans rfl
  have z2 : w13.cell? ⟨g, 2, none⟩ = some (.int .u64 n10) := (blk_cell BK13.out 2).trans rfl
  have z3 : w13.cell? ⟨g, 3, none⟩ = some (.int .u64 n9) := (blk_cell BK13.out 3).trans rfl
  have f0 := blk_frozen BK13.out 0
  have f1 := blk_frozen BK13.out 1
  have f2 := blk_frozen BK13.out 2
  have f3 := blk_frozen BK13.out 3
  go_still_tail 8, (by kernel_rfl)
  still_call (rot32 _ _)
  repeat still_step
  refine wpStill_nil ?_
  change wpList _ _ _ _ _ w13.drew
  have bk_ := Aside0.mk (blk_drew BK13.out)
  have hb_ := Aside0.mk (below_drew1 HB13.out)
  clear z0 z1 z2 z3 f0 f1 f2 f3
  clear BK13 HB13
  generalize w13.drew = u13 at bk_ hb_ ⊢
  have z0 : u13.cell? ⟨g, 0, none⟩ = some (.int .u64 n7) := (blk_cell bk_.out 0).trans rfl
  have z1 : u13.cell? ⟨g, 1, none⟩ = some (.int .u64 n12) := (blk_cell bk_.out 1).trans rfl
  have z2 : u13.cell? ⟨g, 2, none⟩ = some (.int .u64 n10) := (blk_cell bk_.out 2).trans rfl
  have z3 : u13.cell? ⟨g, 3, none⟩ = some (.int .u64 n9) := (blk_cell bk_.out 3).trans rfl
  have f0 := blk_frozen bk_.out 0
  have f1 := blk_frozen bk_.out 1
  have f2 := blk_frozen bk_.out 2
  have f3 := blk_frozen bk_.out 3
  go_wp2
  clear z0 z1 z2 z3 f0 f1 f2 f3
  have BK14 := Aside0.mk (blk_put (cs' := #[.int .u64 (n7), .int .u64 (n12), .int .u64 (rotV n10 32 32), .int .u64 (n9)]) bk_.out 2 (.int .u64 (rotV n10 32 32)) rfl)
  have HB14 := Aside0.mk (hb_.out.setCell (p := ⟨g, 2, none⟩) (Nat.le_refl g) (.int .u64 (rotV n10 32 32)))
  clear bk_ hb_
  generalize hn13 : rotV n10 32 32 = n13 at BK14 HB14 ⊢
  have HN13 := Lib.hid hn13
  clear hn13
  generalize u13.setCell ⟨g, 2, none⟩ (.int .u64 n13) = w14 at BK14 HB14 ⊢
  first | go_end0 | ((try simp only [Exit.inBlock, Exit.then]); refine bodyPost_ret (results_none rfl _ _ _) rfl ?_)
  refine ⟨rfl, ?_, HB14.out⟩
  have hn0 := HN0.out
  have hn1 := HN1.out
  have hn2 := HN2.out
  have hn3 := HN3.out
  have hn4 := HN4.out
  have hn5 := HN5.out
  have hn6 := HN6.out
  have hn7 := HN7.out
  have hn8 := HN8.out
  have hn9 := HN9.out
  have hn10 := HN10.out
  have hn11 := HN11.out
  have hn12 := HN12.out
  have hn13 := HN13.out
  subst hn0 hn1 hn2 hn3 hn4 hn5 hn6 hn7 hn8 hn9 hn10 hn11 hn12 hn13
  exact BK14.out
end Go.Proofs.YtjnlmmjadlidlaaDoor.PRec
end
section
namespace Go.Proofs.YtjnlmmjadlidlaaDoor.PRec
open Go.RowKit Go.Proofs.YtjnlmmjadlidlaaDoorW.PrintWords Go.Proofs.YtjnlmmjadlidlaaDoorW.PrintLast Go.Proofs.YtjnlmmjadlidlaaDoorW.PrintMore
set_option linter.unusedVariables false
set_option linter.unusedSimpArgs false
theorem turn13 (x : Int) (w : World) : Calls Tryd.prog 175 #[.int .u64 x, .int .i64 13] w (fun e w' => e = .returned (.int .u64 (rotV x 13 51)) ∧ Drawn0 w w') := by
  go_enter Tryd.func175, Tryd.ntmps175
  go_wp2
  repeat (go_quiet (fail); try go_wp2)
  go_ret
  exact ⟨rfl, by repeat (first | exact Drawn0.refl _ | apply Drawn0.step)⟩
theorem turn32 (x : Int) (w : World) : Calls Tryd.prog 175 #[.int .u64 x, .int .i64 32] w (fun e w' => e = .returned (.int .u64 (rotV x 32 32)) ∧ Drawn0 w w') := by
  go_enter Tryd.func175, Tryd.ntmps175
  go_wp2
  repeat (go_quiet (fail); try go_wp2)
  go_ret
  exact ⟨rfl, by repeat (first | exact Drawn0.refl _ | apply Drawn0.step)⟩
theorem turn16 (x : Int) (w : World) : Calls Tryd.prog 175 #[.int .u64 x, .int .i64 16] w (fun e w' => e = .returned (.int .u64 (rotV x 16 48)) ∧ Drawn0 w w') := by
  go_enter Tryd.func175, Tryd.ntmps175
  go_wp2
  repeat (go_quiet (fail); try go_wp2)
  go_ret
  exact ⟨rfl, by repeat (first | exact Drawn0.refl _ | apply Drawn0.step)⟩
theorem turn21 (x : Int) (w : World) : Calls Tryd.prog 175 #[.int .u64 x, .int .i64 21] w (fun e w' => e = .returned (.int .u64 (rotV x 21 43)) ∧ Drawn0 w w') := by
  go_enter Tryd.func175, Tryd.ntmps175
  go_wp2
  repeat (go_quiet (fail); try go_wp2)
  go_ret
  exact ⟨rfl, by repeat (first | exact Drawn0.refl _ | apply Drawn0.step)⟩
theorem turn17 (x : Int) (w : World) : Calls Tryd.prog 175 #[.int .u64 x, .int .i64 17] w (fun e w' => e = .returned (.int .u64 (rotV x 17 47)) ∧ Drawn0 w w') := by
  go_enter Tryd.func175, Tryd.ntmps175
  go_wp2
  repeat (go_quiet (fail); try go_wp2)
  go_ret
  exact ⟨rfl, by repeat (first | exact Drawn0.refl _ | apply Drawn0.step)⟩
def W4 (v : Int × Int × Int × Int) : Array Value := #[.int .u64 v.1, .int .u64 v.2.1, .int .u64 v.2.2.1, .int .u64 v.2.2.2]
def iterV : Nat → Int × Int × Int × Int → Int × Int × Int × Int
  | 0, v => v
  | n + 1, v => iterV n (roundV v)
def roundsT : Bool × List (List Nat × List Nat) := (true, [([], []), ([0], [0]), ([1], [1]), ([], []), ([3], [3]), ([2, 4], [2, 4]), ([0, 1, 2, 3, 4, 5], []), ([6, 5, 2, 0, 1, 2, 3, 4, 5], [5, 6])])
def roundsB : List Nat := [0, 1, 3, 0, 8, 31, 63, 127]
theorem rounds_bits : waitsOk roundsT.2 roundsB = true := by kernel_rfl
theorem rounds_tab4 : rtab .any (opsOf Tryd.f154 4) = roundsT := by kernel_rfl
theorem rounds_tab7 : rtab .any (opsOf Tryd.f154 7) = roundsT := by kernel_rfl
theorem rounds_tab9 : rtab .any (opsOf Tryd.f154 9) = roundsT := by kernel_rfl
theorem rounds_tab11 : rtab .any (opsOf Tryd.f154 11) = roundsT := by kernel_rfl
set_option maxRecDepth 100000 in
set_option maxHeartbeats 8000000 in
theorem rounds_in (v : Int × Int × Int × Int) (n : Nat) (hn : n ≤ 1000) (w : World) :
    Calls Tryd.prog 154 #[.agg (W4 v), .int .i64 n] w fun e w' => e = .returned (.agg (W4 (iterV n v))) ∧ Below w.heap.size w w' := by
  have hu210 := Tryd.underlying210
  obtain ⟨a0, a1, a2, a3⟩ := v
  show Calls Tryd.prog 154 #[.agg #[.int .u64 a0, .int .u64 a1, .int .u64 a2, .int .u64 a3], .int .i64 n] w _
  go_enter Tryd.func154, Tryd.ntmps154
  go_wp2_with fail
  have B0 := Aside0.mk (show ((w.alloc (.cells #[.int .u64 a0, .int .u64 a1, .int .u64 a2, .int .u64 a3] 210)).alloc (.cells #[.int .u64 0, .int .u64 0, .int .u64 0, .int .u64 0] 210)).heap[w.heap.size]? = some (.cells #[.int .u64 a0, .int .u64 a1, .int .u64 a2, .int .u64 a3] 210 (0, 0)) from blk_alloc (blk_new w _) _)
  have C0 := Aside0.mk (show ((w.alloc (.cells #[.int .u64 a0, .int .u64 a1, .int .u64 a2, .int .u64 a3] 210)).alloc (.cells #[.int .u64 0, .int .u64 0, .int .u64 0, .int .u64 0] 210)).heap[w.heap.size + 1]? = some (.cells #[.int .u64 0, .int .u64 0, .int .u64 0, .int .u64 0] 210 (0, 0)) from by have := blk_new (w.alloc (.cells #[.int .u64 a0, .int .u64 a1, .int .u64 a2, .int .u64 a3] 210)) (.cells #[.int .u64 0, .int .u64 0, .int .u64 0, .int .u64 0] 210); simpa using this)
  have D0 := Aside0.mk (show Below w.heap.size w ((w.alloc (.cells #[.int .u64 a0, .int .u64 a1, .int .u64 a2, .int .u64 a3] 210)).alloc (.cells #[.int .u64 0, .int .u64 0, .int .u64 0, .int .u64 0] 210)) from below_alloc (below_alloc (Below.refl _ _) _) _)
  go_loopw [1] (fun i wr => ∃ (m : Nat) (v0 v1 v2 v3 : Int), m ≤ 1000 ∧ i = .int .i64 m ∧ Aside0 (iterV m (v0, v1, v2, v3) = iterV n (a0, a1, a2, a3)) ∧ Aside0 (wr.heap[w.heap.size]? = some (.cells #[.int .u64 v0, .int .u64 v1, .int .u64 v2, .int .u64 v3] 210 (0, 0))) ∧ Aside0 (wr.heap[w.heap.size + 1]? = some (.cells #[.int .u64 0, .int .u64 0, .int .u64 0, .int .u64 0] 210 (0, 0))) ∧ Aside0 (Below w.heap.size w wr)) (fun i _ => (intOf i).toNat)
  case atStart => exact ⟨n, a0, a1, a2, a3, hn, rfl, ⟨rfl⟩, B0, C0, D0⟩
  case round =>
    clear B0 C0 D0
    obtain ⟨m, v0, v1, v2, v3, hm, rfl, HI, BK0, CK0, HB0⟩ := hrel
    by_cases hlt : 0 < m
    · obtain ⟨m, rfl⟩ : ∃ q, m = q + 1 := ⟨m - 1, by omega⟩
      clear hlt
      have z0 : wr.cell? ⟨w.heap.size, 0, none⟩ = some (.int .u64 v0) := (blk_cell BK0.out 0).trans rfl
      have z1 : wr.cell? ⟨w.heap.size, 1, none⟩ = some (.int .u64 v1) := (blk_cell BK0.out 1).trans rfl
      have z2 : wr.cell? ⟨w.heap.size, 2, none⟩ = some (.int .u64 v2) := (blk_cell BK0.out 2).trans rfl
      have z3 : wr.cell? ⟨w.heap.size, 3, none⟩ = some (.int .u64 v3) := (blk_cell BK0.out 3).trans rfl
      have f0 := blk_frozen BK0.out 0
      have f1 := blk_frozen BK0.out 1
      have f2 := blk_frozen BK0.out 2
      have f3 := blk_frozen BK0.out 3
      go_wp2_with fail
      have bk_ := BK0
      have ck_ := CK0
      have hb_ := HB0
      clear BK0 CK0 HB0
      clear z0 z1 z2 z3 f0 f1 f2 f3
      have BK1 := Aside0.mk (blk_put (cs' := #[.int .u64 (IntKind.u64.wrap (v0 + v1)), .int .u64 (v1), .int .u64 (v2), .int .u64 (v3)]) bk_.out 0 (.int .u64 (IntKind.u64.wrap (v0 + v1))) rfl)
      have CK1 := Aside0.mk (blk_far ck_.out (p := ⟨w.heap.size, 0, none⟩) (show w.heap.size + 1 ≠ w.heap.size by omega) (.int .u64 (IntKind.u64.wrap (v0 + v1))))
      have HB1 := Aside0.mk (hb_.out.setCell (p := ⟨w.heap.size, 0, none⟩) (Nat.le_refl _) (.int .u64 (IntKind.u64.wrap (v0 + v1))))
      clear bk_ ck_ hb_
      generalize hn0 : IntKind.u64.wrap (v0 + v1) = n0 at BK1 CK1 HB1 ⊢
      have HN0 := Lib.hid hn0
      clear hn0
      generalize wr.setCell ⟨w.heap.size, 0, none⟩ (.int .u64 n0) = w1 at BK1 CK1 HB1 ⊢
      have z0 : w1.cell? ⟨w.heap.size, 0, none⟩ = some (.int .u64 n0) := (blk_cell BK1.out 0).trans rfl
      have z1 : w1.cell? ⟨w.heap.size, 1, none⟩ = some (.int .u64 v1) := (blk_cell BK1.out 1).trans rfl
      have z2 : w1.cell? ⟨w.heap.size, 2, none⟩ = some (.int .u64 v2) := (blk_cell BK1.out 2).trans rfl
      have z3 : w1.cell? ⟨w.heap.size, 3, none⟩ = some (.int .u64 v3) := (blk_cell BK1.out 3).trans rfl
      have f0 := blk_frozen BK1.out 0
      have f1 := blk_frozen BK1.out 1
      have f2 := blk_frozen BK1.out 2
      have f3 := blk_frozen BK1.out 3
      go_wp2_with fail
      have bk_ := Aside0.mk (blk_drew BK1.out)
      have ck_ := Aside0.mk (blk_drew CK1.out)
      have hb_ := Aside0.mk (below_drew1 HB1.out)
      clear z0 z1 z2 z3 f0 f1 f2 f3
      clear BK1 CK1 HB1
      refine start_ (n := 8) (S := fun w' => w'.cell? ⟨w.heap.size, 0, none⟩ = some (.int .u64 n0) ∧ w'.cell? ⟨w.heap.size, 1, none⟩ = some (.int .u64 v1) ∧ w'.cell? ⟨w.heap.size, 2, none⟩ = some (.int .u64 v2) ∧ w'.cell? ⟨w.heap.size, 3, none⟩ = some (.int .u64 v3)) (ds := [7]) #[false, false, false, false, false, false, false, false] (by kernel_rfl) rfl rfl ⟨(blk_cell bk_.out 0).trans rfl, (blk_cell bk_.out 1).trans rfl, (blk_cell bk_.out 2).trans rfl, (blk_cell bk_.out 3).trans rfl⟩ (fun hHeld => ?_); refine with_tabW rounds_tab4 rounds_bits (fun HT_ HW_ => ?_)
      generalize w1.drew = u1 at bk_ ck_ hb_ hHeld ⊢
      refine pure_ (i := 0) (N := some 15) (v := ?_) (a' := ?_) #[true, false, false, false, false, false, false, false] rfl rfl (any_of HT_.out (by kernel_rfl)) (fun _ _ _ h => h) (Or.inl ⟨by rfl, ?_⟩) ?_ ?_
      rotate_left
      · intro w'
        go_simp
        with_reducible rfl
      rotate_left
      · simp only [Act.put, List.setIfInBounds_toArray, List.set_cons_zero, List.set_cons_succ, i64_w, i32_w]
        rfl
      refine pure_ (i := 3) (N := some 18) (v := ?_) (a' := ?_) #[true, false, false, true, false, false, false, false] rfl rfl (any_of HT_.out (by kernel_rfl)) (fun _ _ _ h => h) (Or.inl ⟨by rfl, ?_⟩) ?_ ?_
      rotate_left
      · intro w'
        go_simp
        with_reducible rfl
      rotate_left
      · simp only [Act.put, List.setIfInBounds_toArray, List.set_cons_zero, List.set_cons_succ, i64_w, i32_w]
        rfl
      refine take_ (i := 1) (N := some 16) (v := ?_) (a' := ?_) #[true, true, false, true, false, false, false, false] rfl rfl (take_ofW HT_.out HW_.out (by kernel_rfl)) (fun _ _ _ h => h) (Or.inl ⟨by rfl, ?_⟩) hHeld ?_ ?_
      rotate_left
      · rintro w' ⟨s0, s1, s2, s3⟩
        go_simp
        with_reducible rfl
      rotate_left
      · simp only [Act.put, List.setIfInBounds_toArray, List.set_cons_zero, List.set_cons_succ, i64_w, i32_w]
        rfl
      refine take_ (i := 4) (N := some 19) (v := ?_) (a' := ?_) #[true, true, false, true, true, false, false, false] rfl rfl (take_ofW HT_.out HW_.out (by kernel_rfl)) (fun _ _ _ h => h) (Or.inl ⟨by rfl, ?_⟩) hHeld ?_ ?_
      rotate_left
      · rintro w' ⟨s0, s1, s2, s3⟩
        go_simp
        with_reducible rfl
      rotate_left
      · simp only [Act.put, List.setIfInBounds_toArray, List.set_cons_zero, List.set_cons_succ, i64_w, i32_w]
        rfl
      refine one_ (i := 2) (N := some 17) #[true, true, true, true, true, false, false, false] rfl rfl (one_of HT_.out (by kernel_rfl)) (by decide) (fun K hK => ?_)
      refine goes_ Tryd.func175 (by kernel_rfl) rfl #[.int .u64 v1, .int .i64 13] (by rfl) rfl rfl (by (try simp only [List.map_toArray, List.map_cons, List.map_nil]); first | done | rfl | (simp only [List.length_drop, List.length_take]; rfl)) ?_
      with_reducible refine (turn13 v1 _).mono ?_
      rintro e w' ⟨rfl, ⟨nd, rfl⟩⟩
      refine ⟨_, rfl, ?_⟩
      clear hHeld
      refine hK.out _ _ ⟨(blk_cell bk_.out 0).trans rfl, (blk_cell bk_.out 1).trans rfl, (blk_cell bk_.out 2).trans rfl, (blk_cell bk_.out 3).trans rfl⟩ (fun hHeld => ?_)
      clear hK K
      have bk2 := Aside0.mk (blk_drewN bk_.out nd)
      have ck2 := Aside0.mk (blk_drewN ck_.out nd)
      have hb2 := Aside0.mk (pw_below_drewN hb_.out nd)
      clear bk_ ck_ hb_
      generalize u1.drewN nd = u1b at bk2 ck2 hb2 hHeld ⊢
      have bk_ := bk2
      have ck_ := ck2
      have hb_ := hb2
      clear bk2 ck2 hb2
      refine norm_ (a' := ?_) ?_ ?_
      rotate_left
      · show Act.put _ (some 17) _ = _
        simp only [Act.put, List.setIfInBounds_toArray, List.set_cons_zero, List.set_cons_succ, i64_w, i32_w]
        rfl
      refine pure_ (i := 5) (N := some 20) (v := ?_) (a' := ?_) #[true, true, true, true, true, true, false, false] rfl rfl (any_of HT_.out (by kernel_rfl)) (fun _ _ _ h => h) (Or.inl ⟨by rfl, ?_⟩) ?_ ?_
      rotate_left
      · intro w'
        go_simp
        with_reducible rfl
      rotate_left
      · simp only [Act.put, List.setIfInBounds_toArray, List.set_cons_zero, List.set_cons_succ, i64_w, i32_w]
        rfl
      refine pure_ (i := 6) (N := some 21) (v := ?_) (a' := ?_) #[true, true, true, true, true, true, true, false] rfl rfl (any_of HT_.out (by kernel_rfl)) (fun _ _ _ h => h) (Or.inl ⟨by rfl, ?_⟩) ?_ ?_
      rotate_left
      · intro w'
        go_simp
        with_reducible rfl
      rotate_left
      · simp only [Act.put, List.setIfInBounds_toArray, List.set_cons_zero, List.set_cons_succ, i64_w, i32_w]
        rfl
      refine last_ (i := 7) (N := none) #[true, true, true, true, true, true, true, true] rfl rfl (one_of HT_.out (by kernel_rfl)) (by decide) (fun K hK => ?_)
      have s_ : u1b.cell? ⟨w.heap.size, 1, none⟩ = some (.int .u64 v1) := (blk_cell bk_.out 1).trans rfl
      have f_ := blk_frozen bk_.out 1
      refine skip_ (w1 := ?_) (by rfl) rfl ?_ ?_
      rotate_left
      · go_simp
        rfl
      refine hK.out _ _ ?_
      clear hK K
      refine done_ (done_of HT_.out (by kernel_rfl)) ?_
      clear s_ f_ hHeld
      have BK2 := Aside0.mk (blk_put (cs' := #[.int .u64 (n0), .int .u64 (Go.bits .xor .u64 (rotV v1 13 51) n0), .int .u64 (v2), .int .u64 (v3)]) bk_.out 1 (.int .u64 (Go.bits .xor .u64 (rotV v1 13 51) n0)) rfl)
      have CK2 := Aside0.mk (blk_far ck_.out (p := ⟨w.heap.size, 1, none⟩) (show w.heap.size + 1 ≠ w.heap.size by omega) (.int .u64 (Go.bits .xor .u64 (rotV v1 13 51) n0)))
      have HB2 := Aside0.mk (hb_.out.setCell (p := ⟨w.heap.size, 1, none⟩) (Nat.le_refl _) (.int .u64 (Go.bits .xor .u64 (rotV v1 13 51) n0)))
      clear bk_ ck_ hb_
      generalize hn1 : Go.bits .xor .u64 (rotV v1 13 51) n0 = n1 at BK2 CK2 HB2 ⊢
      have HN1 := Lib.hid hn1
      clear hn1
      generalize u1b.setCell ⟨w.heap.size, 1, none⟩ (.int .u64 n1) = w2 at BK2 CK2 HB2 ⊢
      have z0 : w2.cell? ⟨w.heap.size, 0, none⟩ = some (.int .u64 n0) := (blk_cell BK2.out 0).trans rfl
      have z1 : w2.cell? ⟨w.heap.size, 1, none⟩ = some (.int .u64 n1) := (blk_cell BK2.out 1).trans rfl
      have z2 : w2.cell? ⟨w.heap.size, 2, none⟩ = some (.int .u64 v2) := (blk_cell BK2.out 2).trans rfl
      have z3 : w2.cell? ⟨w.heap.size, 3, none⟩ = some (.int .u64 v3) := (blk_cell BK2.out 3).trans rfl
      have f0 := blk_frozen BK2.out 0
      have f1 := blk_frozen BK2.out 1
      have f2 := blk_frozen BK2.out 2
      have f3 := blk_frozen BK2.out 3
      go_wp2_with fail
      have bk_ := BK2
      have ck_ := CK2
      have hb_ := HB2
      clear BK2 CK2 HB2
      refine (turn32 _ _).mono ?_
      rintro e w' ⟨rfl, ⟨nd, rfl⟩⟩
      have bk2 := Aside0.mk (blk_drewN bk_.out nd)
      have ck2 := Aside0.mk (blk_drewN ck_.out nd)
      have hb2 := Aside0.mk (pw_below_drewN hb_.out nd)
      clear z0 z1 z2 z3 f0 f1 f2 f3
      clear bk_ ck_ hb_
      generalize w2.drewN nd = u2 at bk2 ck2 hb2 ⊢
      have bk_ := bk2
      have ck_ := ck2
      have hb_ := hb2
      clear bk2 ck2 hb2
      have z0 : u2.cell? ⟨w.heap.size, 0, none⟩ = some (.int .u64 n0) := (blk_cell bk_.out 0).trans rfl
      have z1 : u2.cell? ⟨w.heap.size, 1, none⟩ = some (.int .u64 n1) := (blk_cell bk_.out 1).trans rfl
      have z2 : u2.cell? ⟨w.heap.size, 2, none⟩ = some (.int .u64 v2) := (blk_cell bk_.out 2).trans rfl
      have z3 : u2.cell? ⟨w.heap.size, 3, none⟩ = some (.int .u64 v3) := (blk_cell bk_.out 3).trans rfl
      have f0 := blk_frozen bk_.out 0
      have f1 := blk_frozen bk_.out 1
      have f2 := blk_frozen bk_.out 2
      have f3 := blk_frozen bk_.out 3
      go_wp2_with fail
      clear z0 z1 z2 z3 f0 f1 f2 f3
      have BK3 := Aside0.mk (blk_put (cs' := #[.int .u64 (rotV n0 32 32), .int .u64 (n1), .int .u64 (v2), .int .u64 (v3)]) bk_.out 0 (.int .u64 (rotV n0 32 32)) rfl)
      have CK3 := Aside0.mk (blk_far ck_.out (p := ⟨w.heap.size, 0, none⟩) (show w.heap.size + 1 ≠ w.heap.size by omega) (.int .u64 (rotV n0 32 32)))
      have HB3 := Aside0.mk (hb_.out.setCell (p := ⟨w.heap.size, 0, none⟩) (Nat.le_refl _) (.int .u64 (rotV n0 32 32)))
      clear bk_ ck_ hb_
      generalize hn2 : rotV n0 32 32 = n2 at BK3 CK3 HB3 ⊢
      have HN2 := Lib.hid hn2
      clear hn2
      generalize u2.setCell ⟨w.heap.size, 0, none⟩ (.int .u64 n2) = w3 at BK3 CK3 HB3 ⊢
      have z0 : w3.cell? ⟨w.heap.size, 0, none⟩ = some (.int .u64 n2) := (blk_cell BK3.out 0).trans rfl
      have z1 : w3.cell? ⟨w.heap.size, 1, none⟩ = some (.int .u64 n1) := (blk_cell BK3.out 1).trans rfl
      have z2 : w3.cell? ⟨w.heap.size, 2, none⟩ = some (.int .u64 v2) := (blk_cell BK3.out 2).trans rfl
      have z3 : w3.cell? ⟨w.heap.size, 3, none⟩ = some (.int .u64 v3) := (blk_cell BK3.out 3).trans rfl
      have f0 := blk_frozen BK3.out 0
      have f1 := blk_frozen BK3.out 1
      have f2 := blk_frozen BK3.out 2
      have f3 := blk_frozen BK3.out 3
      go_wp2_with fail
      have bk_ := BK3
      have ck_ := CK3
      have hb_ := HB3
      clear BK3 CK3 HB3
      clear z0 z1 z2 z3 f0 f1 f2 f3
      have BK4 := Aside0.mk (blk_put (cs' := #[.int .u64 (n2), .int .u64 (n1), .int .u64 (IntKind.u64.wrap (v2 + v3)), .int .u64 (v3)]) bk_.out 2 (.int .u64 (IntKind.u64.wrap (v2 + v3))) rfl)
      have CK4 := Aside0.mk (blk_far ck_.out (p := ⟨w.heap.size, 2, none⟩) (show w.heap.size + 1 ≠ w.heap.size by omega) (.int .u64 (IntKind.u64.wrap (v2 + v3))))
      have HB4 := Aside0.mk (hb_.out.setCell (p := ⟨w.heap.size, 2, none⟩) (Nat.le_refl _) (.int .u64 (IntKind.u64.wrap (v2 + v3))))
      clear bk_ ck_ hb_
      generalize hn3 : IntKind.u64.wrap (v2 + v3) = n3 at BK4 CK4 HB4 ⊢
      have HN3 := Lib.hid hn3
      clear hn3
      generalize w3.setCell ⟨w.heap.size, 2, none⟩ (.int .u64 n3) = w4 at BK4 CK4 HB4 ⊢
      have z0 : w4.cell? ⟨w.heap.size, 0, none⟩ = some (.int .u64 n2) := (blk_cell BK4.out 0).trans rfl
      have z1 : w4.cell? ⟨w.heap.size, 1, none⟩ = some (.int .u64 n1) := (blk_cell BK4.out 1).trans rfl
      have z2 : w4.cell? ⟨w.heap.size, 2, none⟩ = some (.int .u64 n3) := (blk_cell BK4.out 2).trans rfl
      have z3 : w4.cell? ⟨w.heap.size, 3, none⟩ = some (.int .u64 v3) := (blk_cell BK4.out 3).trans rfl
      have f0 := blk_frozen BK4.out 0
      have f1 := blk_frozen BK4.out 1
      have f2 := blk_frozen BK4.out 2
      have f3 := blk_frozen BK4.out 3
      go_wp2_with fail
      have bk_ := Aside0.mk (blk_drew BK4.out)
      have ck_ := Aside0.mk (blk_drew CK4.out)
      have hb_ := Aside0.mk (below_drew1 HB4.out)
      clear z0 z1 z2 z3 f0 f1 f2 f3
      clear BK4 CK4 HB4
      refine start_ (n := 8) (S := fun w' => w'.cell? ⟨w.heap.size, 0, none⟩ = some (.int .u64 n2) ∧ w'.cell? ⟨w.heap.size, 1, none⟩ = some (.int .u64 n1) ∧ w'.cell? ⟨w.heap.size, 2, none⟩ = some (.int .u64 n3) ∧ w'.cell? ⟨w.heap.size, 3, none⟩ = some (.int .u64 v3)) (ds := [7]) #[false, false, false, false, false, false, false, false] (by kernel_rfl) rfl rfl ⟨(blk_cell bk_.out 0).trans rfl, (blk_cell bk_.out 1).trans rfl, (blk_cell bk_.out 2).trans rfl, (blk_cell bk_.out 3).trans rfl⟩ (fun hHeld => ?_); refine with_tabW rounds_tab7 rounds_bits (fun HT_ HW_ => ?_)
      generalize w4.drew = u4 at bk_ ck_ hb_ hHeld ⊢
      refine pure_ (i := 0) (N := some 32) (v := ?_) (a' := ?_) #[true, false, false, false, false, false, false, false] rfl rfl (any_of HT_.out (by kernel_rfl)) (fun _ _ _ h => h) (Or.inl ⟨by rfl, ?_⟩) ?_ ?_
      rotate_left
      · intro w'
        go_simp
        with_reducible rfl
      rotate_left
      · simp only [Act.put, List.setIfInBounds_toArray, List.set_cons_zero, List.set_cons_succ, i64_w, i32_w]
        rfl
      refine pure_ (i := 3) (N := some 35) (v := ?_) (a' := ?_) #[true, false, false, true, false, false, false, false] rfl rfl (any_of HT_.out (by kernel_rfl)) (fun _ _ _ h => h) (Or.inl ⟨by rfl, ?_⟩) ?_ ?_
      rotate_left
      · intro w'
        go_simp
        with_reducible rfl
      rotate_left
      · simp only [Act.put, List.setIfInBounds_toArray, List.set_cons_zero, List.set_cons_succ, i64_w, i32_w]
        rfl
      refine take_ (i := 1) (N := some 33) (v := ?_) (a' := ?_) #[true, true, false, true, false, false, false, false] rfl rfl (take_ofW HT_.out HW_.out (by kernel_rfl)) (fun _ _ _ h => h) (Or.inl ⟨by rfl, ?_⟩) hHeld ?_ ?_
      rotate_left
      · rintro w' ⟨s0, s1, s2, s3⟩
        go_simp
        with_reducible rfl
      rotate_left
      · simp only [Act.put, List.setIfInBounds_toArray, List.set_cons_zero, List.set_cons_succ, i64_w, i32_w]
        rfl
      refine take_ (i := 4) (N := some 36) (v := ?_) (a' := ?_) #[true, true, false, true, true, false, false, false] rfl rfl (take_ofW HT_.out HW_.out (by kernel_rfl)) (fun _ _ _ h => h) (Or.inl ⟨by rfl, ?_⟩) hHeld ?_ ?_
      rotate_left
      · rintro w' ⟨s0, s1, s2, s3⟩
        go_simp
        with_reducible rfl
      rotate_left
      · simp only [Act.put, List.setIfInBounds_toArray, List.set_cons_zero, List.set_cons_succ, i64_w, i32_w]
        rfl
      refine one_ (i := 2) (N := some 34) #[true, true, true, true, true, false, false, false] rfl rfl (one_of HT_.out (by kernel_rfl)) (by decide) (fun K hK => ?_)
      refine goes_ Tryd.func175 (by kernel_rfl) rfl #[.int .u64 v3, .int .i64 16] (by rfl) rfl rfl (by (try simp only [List.map_toArray, List.map_cons, List.map_nil]); first | done | rfl | (simp only [List.length_drop, List.length_take]; rfl)) ?_
      with_reducible refine (turn16 v3 _).mono ?_
      rintro e w' ⟨rfl, ⟨nd, rfl⟩⟩
      refine ⟨_, rfl, ?_⟩
      clear hHeld
      refine hK.out _ _ ⟨(blk_cell bk_.out 0).trans rfl, (blk_cell bk_.out 1).trans rfl, (blk_cell bk_.out 2).trans rfl, (blk_cell bk_.out 3).trans rfl⟩ (fun hHeld => ?_)
      clear hK K
      have bk2 := Aside0.mk (blk_drewN bk_.out nd)
      have ck2 := Aside0.mk (blk_drewN ck_.out nd)
      have hb2 := Aside0.mk (pw_below_drewN hb_.out nd)
      clear bk_ ck_ hb_
      generalize u4.drewN nd = u4b at bk2 ck2 hb2 hHeld ⊢
      have bk_ := bk2
      have ck_ := ck2
      have hb_ := hb2
      clear bk2 ck2 hb2
      refine norm_ (a' := ?_) ?_ ?_
      rotate_left
      · show Act.put _ (some 34) _ = _
        simp only [Act.put, List.setIfInBounds_toArray, List.set_cons_zero, List.set_cons_succ, i64_w, i32_w]
        rfl
      refine pure_ (i := 5) (N := some 37) (v := ?_) (a' := ?_) #[true, true, true, true, true, true, false, false] rfl rfl (any_of HT_.out (by kernel_rfl)) (fun _ _ _ h => h) (Or.inl ⟨by rfl, ?_⟩) ?_ ?_
      rotate_left
      · intro w'
        go_simp
        with_reducible rfl
      rotate_left
      · simp only [Act.put, List.setIfInBounds_toArray, List.set_cons_zero, List.set_cons_succ, i64_w, i32_w]
        rfl
      refine pure_ (i := 6) (N := some 38) (v := ?_) (a' := ?_) #[true, true, true, true, true, true, true, false] rfl rfl (any_of HT_.out (by kernel_rfl)) (fun _ _ _ h => h) (Or.inl ⟨by rfl, ?_⟩) ?_ ?_
      rotate_left
      · intro w'
        go_simp
        with_reducible rfl
      rotate_left
      · simp only [Act.put, List.setIfInBounds_toArray, List.set_cons_zero, List.set_cons_succ, i64_w, i32_w]
        rfl
      refine last_ (i := 7) (N := none) #[true, true, true, true, true, true, true, true] rfl rfl (one_of HT_.out (by kernel_rfl)) (by decide) (fun K hK => ?_)
      have s_ : u4b.cell? ⟨w.heap.size, 3, none⟩ = some (.int .u64 v3) := (blk_cell bk_.out 3).trans rfl
      have f_ := blk_frozen bk_.out 3
      refine skip_ (w1 := ?_) (by rfl) rfl ?_ ?_
      rotate_left
      · go_simp
        rfl
      refine hK.out _ _ ?_
      clear hK K
      refine done_ (done_of HT_.out (by kernel_rfl)) ?_
      clear s_ f_ hHeld
      have BK5 := Aside0.mk (blk_put (cs' := #[.int .u64 (n2), .int .u64 (n1), .int .u64 (n3), .int .u64 (Go.bits .xor .u64 (rotV v3 16 48) n3)]) bk_.out 3 (.int .u64 (Go.bits .xor .u64 (rotV v3 16 48) n3)) rfl)
      have CK5 := Aside0.mk (blk_far ck_.out (p := ⟨w.heap.size, 3, none⟩) (show w.heap.size + 1 ≠ w.heap.size by omega) (.int .u64 (Go.bits .xor .u64 (rotV v3 16 48) n3)))
      have HB5 := Aside0.mk (hb_.out.setCell (p := ⟨w.heap.size, 3, none⟩) (Nat.le_refl _) (.int .u64 (Go.bits .xor .u64 (rotV v3 16 48) n3)))
      clear bk_ ck_ hb_
      generalize hn4 : Go.bits .xor .u64 (rotV v3 16 48) n3 = n4 at BK5 CK5 HB5 ⊢
      have HN4 := Lib.hid hn4
      clear hn4
      generalize u4b.setCell ⟨w.heap.size, 3, none⟩ (.int .u64 n4) = w5 at BK5 CK5 HB5 ⊢
      have z0 : w5.cell? ⟨w.heap.size, 0, none⟩ = some (.int .u64 n2) := (blk_cell BK5.out 0).trans rfl
      have z1 : w5.cell? ⟨w.heap.size, 1, none⟩ = some (.int .u64 n1) := (blk_cell BK5.out 1).trans rfl
      have z2 : w5.cell? ⟨w.heap.size, 2, none⟩ = some (.int .u64 n3) := (blk_cell BK5.out 2).trans rfl
      have z3 : w5.cell? ⟨w.heap.size, 3, none⟩ = some (.int .u64 n4) := (blk_cell BK5.out 3).trans rfl
      have f0 := blk_frozen BK5.out 0
      have f1 := blk_frozen BK5.out 1
      have f2 := blk_frozen BK5.out 2
      have f3 := blk_frozen BK5.out 3
      go_wp2_with fail
      have bk_ := BK5
      have ck_ := CK5
      have hb_ := HB5
      clear BK5 CK5 HB5
      clear z0 z1 z2 z3 f0 f1 f2 f3
      have BK6 := Aside0.mk (blk_put (cs' := #[.int .u64 (IntKind.u64.wrap (n2 + n4)), .int .u64 (n1), .int .u64 (n3), .int .u64 (n4)]) bk_.out 0 (.int .u64 (IntKind.u64.wrap (n2 + n4))) rfl)
      have CK6 := Aside0.mk (blk_far ck_.out (p := ⟨w.heap.size, 0, none⟩) (show w.heap.size + 1 ≠ w.heap.size by omega) (.int .u64 (IntKind.u64.wrap (n2 + n4))))
      have HB6 := Aside0.mk (hb_.out.setCell (p := ⟨w.heap.size, 0, none⟩) (Nat.le_refl _) (.int .u64 (IntKind.u64.wrap (n2 + n4))))
      clear bk_ ck_ hb_
      generalize hn5 : IntKind.u64.wrap (n2 + n4) = n5 at BK6 CK6 HB6 ⊢
      have HN5 := Lib.hid hn5
      clear hn5
      generalize w5.setCell ⟨w.heap.size, 0, none⟩ (.int .u64 n5) = w6 at BK6 CK6 HB6 ⊢
      have z0 : w6.cell? ⟨w.heap.size, 0, none⟩ = some (.int .u64 n5) := (blk_cell BK6.out 0).trans rfl
      have z1 : w6.cell? ⟨w.heap.size, 1, none⟩ = some (.int .u64 n1) := (blk_cell BK6.out 1).trans rfl
      have z2 : w6.cell? ⟨w.heap.size, 2, none⟩ = some (.int .u64 n3) := (blk_cell BK6.out 2).trans rfl
      have z3 : w6.cell? ⟨w.heap.size, 3, none⟩ = some (.int .u64 n4) := (blk_cell BK6.out 3).trans rfl
      have f0 := blk_frozen BK6.out 0
      have f1 := blk_frozen BK6.out 1
      have f2 := blk_frozen BK6.out 2
      have f3 := blk_frozen BK6.out 3
      go_wp2_with fail
      have bk_ := Aside0.mk (blk_drew BK6.out)
      have ck_ := Aside0.mk (blk_drew CK6.out)
      have hb_ := Aside0.mk (below_drew1 HB6.out)
      clear z0 z1 z2 z3 f0 f1 f2 f3
      clear BK6 CK6 HB6
      refine start_ (n := 8) (S := fun w' => w'.cell? ⟨w.heap.size, 0, none⟩ = some (.int .u64 n5) ∧ w'.cell? ⟨w.heap.size, 1, none⟩ = some (.int .u64 n1) ∧ w'.cell? ⟨w.heap.size, 2, none⟩ = some (.int .u64 n3) ∧ w'.cell? ⟨w.heap.size, 3, none⟩ = some (.int .u64 n4)) (ds := [7]) #[false, false, false, false, false, false, false, false] (by kernel_rfl) rfl rfl ⟨(blk_cell bk_.out 0).trans rfl, (blk_cell bk_.out 1).trans rfl, (blk_cell bk_.out 2).trans rfl, (blk_cell bk_.out 3).trans rfl⟩ (fun hHeld => ?_); refine with_tabW rounds_tab9 rounds_bits (fun HT_ HW_ => ?_)
      generalize w6.drew = u6 at bk_ ck_ hb_ hHeld ⊢
      refine pure_ (i := 0) (N := some 45) (v := ?_) (a' := ?_) #[true, false, false, false, false, false, false, false] rfl rfl (any_of HT_.out (by kernel_rfl)) (fun _ _ _ h => h) (Or.inl ⟨by rfl, ?_⟩) ?_ ?_
      rotate_left
      · intro w'
        go_simp
        with_reducible rfl
      rotate_left
      · simp only [Act.put, List.setIfInBounds_toArray, List.set_cons_zero, List.set_cons_succ, i64_w, i32_w]
        rfl
      refine pure_ (i := 3) (N := some 48) (v := ?_) (a' := ?_) #[true, false, false, true, false, false, false, false] rfl rfl (any_of HT_.out (by kernel_rfl)) (fun _ _ _ h => h) (Or.inl ⟨by rfl, ?_⟩) ?_ ?_
      rotate_left
      · intro w'
        go_simp
        with_reducible rfl
      rotate_left
      · simp only [Act.put, List.setIfInBounds_toArray, List.set_cons_zero, List.set_cons_succ, i64_w, i32_w]
        rfl
      refine take_ (i := 1) (N := some 46) (v := ?_) (a' := ?_) #[true, true, false, true, false, false, false, false] rfl rfl (take_ofW HT_.out HW_.out (by kernel_rfl)) (fun _ _ _ h => h) (Or.inl ⟨by rfl, ?_⟩) hHeld ?_ ?_
      rotate_left
      · rintro w' ⟨s0, s1, s2, s3⟩
        go_simp
        with_reducible rfl
      rotate_left
      · simp only [Act.put, List.setIfInBounds_toArray, List.set_cons_zero, List.set_cons_succ, i64_w, i32_w]
        rfl
      refine take_ (i := 4) (N := some 49) (v := ?_) (a' := ?_) #[true, true, false, true, true, false, false, false] rfl rfl (take_ofW HT_.out HW_.out (by kernel_rfl)) (fun _ _ _ h => h) (Or.inl ⟨by rfl, ?_⟩) hHeld ?_ ?_
      rotate_left
      · rintro w' ⟨s0, s1, s2, s3⟩
        go_simp
        with_reducible rfl
      rotate_left
      · simp only [Act.put, List.setIfInBounds_toArray, List.set_cons_zero, List.set_cons_succ, i64_w, i32_w]
        rfl
      refine one_ (i := 2) (N := some 47) #[true, true, true, true, true, false, false, false] rfl rfl (one_of HT_.out (by kernel_rfl)) (by decide) (fun K hK => ?_)
      refine goes_ Tryd.func175 (by kernel_rfl) rfl #[.int .u64 n4, .int .i64 21] (by rfl) rfl rfl (by (try simp only [List.map_toArray, List.map_cons, List.map_nil]); first | done | rfl | (simp only [List.length_drop, List.length_take]; rfl)) ?_
      with_reducible refine (turn21 n4 _).mono ?_
      rintro e w' ⟨rfl, ⟨nd, rfl⟩⟩
      refine ⟨_, rfl, ?_⟩
      clear hHeld
      refine hK.out _ _ ⟨(blk_cell bk_.out 0).trans rfl, (blk_cell bk_.out 1).trans rfl, (blk_cell bk_.out 2).trans rfl, (blk_cell bk_.out 3).trans rfl⟩ (fun hHeld => ?_)
      clear hK K
      have bk2 := Aside0.mk (blk_drewN bk_.out nd)
      have ck2 := Aside0.mk (blk_drewN ck_.out nd)
      have hb2 := Aside0.mk (pw_below_drewN hb_.out nd)
      clear bk_ ck_ hb_
      generalize u6.drewN nd = u6b at bk2 ck2 hb2 hHeld ⊢
      have bk_ := bk2
      have ck_ := ck2
      have hb_ := hb2
      clear bk2 ck2 hb2
      refine norm_ (a' := ?_) ?_ ?_
      rotate_left
      · show Act.put _ (some 47) _ = _
        simp only [Act.put, List.setIfInBounds_toArray, List.set_cons_zero, List.set_cons_succ, i64_w, i32_w]
        rfl
      refine pure_ (i := 5) (N := some 50) (v := ?_) (a' := ?_) #[true, true, true, true, true, true, false, false] rfl rfl (any_of HT_.out (by kernel_rfl)) (fun _ _ _ h => h) (Or.inl ⟨by rfl, ?_⟩) ?_ ?_
      rotate_left
      · intro w'
        go_simp
        with_reducible rfl
      rotate_left
      · simp only [Act.put, List.setIfInBounds_toArray, List.set_cons_zero, List.set_cons_succ, i64_w, i32_w]
        rfl
      refine pure_ (i := 6) (N := some 51) (v := ?_) (a' := ?_) #[true, true, true, true, true, true, true, false] rfl rfl (any_of HT_.out (by kernel_rfl)) (fun _ _ _ h => h) (Or.inl ⟨by rfl, ?_⟩) ?_ ?_
      rotate_left
      · intro w'
        go_simp
        with_reducible rfl
      rotate_left
      · simp only [Act.put, List.setIfInBounds_toArray, List.set_cons_zero, List.set_cons_succ, i64_w, i32_w]
        rfl
      refine last_ (i := 7) (N := none) #[true, true, true, true, true, true, true, true] rfl rfl (one_of HT_.out (by kernel_rfl)) (by decide) (fun K hK => ?_)
      have s_ : u6b.cell? ⟨w.heap.size, 3, none⟩ = some (.int .u64 n4) := (blk_cell bk_.out 3).trans rfl
      have f_ := blk_frozen bk_.out 3
      refine skip_ (w1 := ?_) (by rfl) rfl ?_ ?_
      rotate_left
      · go_simp
        rfl
      refine hK.out _ _ ?_
      clear hK K
      refine done_ (done_of HT_.out (by kernel_rfl)) ?_
      clear s_ f_ hHeld
      have BK7 := Aside0.mk (blk_put (cs' := #[.int .u64 (n5), .int .u64 (n1), .int .u64 (n3), .int .u64 (Go.bits .xor .u64 (rotV n4 21 43) n5)]) bk_.out 3 (.int .u64 (Go.bits .xor .u64 (rotV n4 21 43) n5)) rfl)
      have CK7 := Aside0.mk (blk_far ck_.out (p := ⟨w.heap.size, 3, none⟩) (show w.heap.size + 1 ≠ w.heap.size by omega) (.int .u64 (Go.bits .xor .u64 (rotV n4 21 43) n5)))
      have HB7 := Aside0.mk (hb_.out.setCell (p := ⟨w.heap.size, 3, none⟩) (Nat.le_refl _) (.int .u64 (Go.bits .xor .u64 (rotV n4 21 43) n5)))
      clear bk_ ck_ hb_
      generalize hn6 : Go.bits .xor .u64 (rotV n4 21 43) n5 = n6 at BK7 CK7 HB7 ⊢
      have HN6 := Lib.hid hn6
      clear hn6
      generalize u6b.setCell ⟨w.heap.size, 3, none⟩ (.int .u64 n6) = w7 at BK7 CK7 HB7 ⊢
      have z0 : w7.cell? ⟨w.heap.size, 0, none⟩ = some (.int .u64 n5) := (blk_cell BK7.out 0).trans rfl
      have z1 : w7.cell? ⟨w.heap.size, 1, none⟩ = some (.int .u64 n1) := (blk_cell BK7.out 1).trans rfl
      have z2 : w7.cell? ⟨w.heap.size, 2, none⟩ = some (.int .u64 n3) := (blk_cell BK7.out 2).trans rfl
      have z3 : w7.cell? ⟨w.heap.size, 3, none⟩ = some (.int .u64 n6) := (blk_cell BK7.out 3).trans rfl
      have f0 := blk_frozen BK7.out 0
      have f1 := blk_frozen BK7.out 1
      have f2 := blk_frozen BK7.out 2
      have f3 := blk_frozen BK7.out 3
      go_wp2_with fail
      have bk_ := BK7
      have ck_ := CK7
      have hb_ := HB7
      clear BK7 CK7 HB7
      clear z0 z1 z2 z3 f0 f1 f2 f3
      have BK8 := Aside0.mk (blk_put (cs' := #[.int .u64 (n5), .int .u64 (n1), .int .u64 (IntKind.u64.wrap (n3 + n1)), .int .u64 (n6)]) bk_.out 2 (.int .u64 (IntKind.u64.wrap (n3 + n1))) rfl)
      have CK8 := Aside0.mk (blk_far ck_.out (p := ⟨w.heap.size, 2, none⟩) (show w.heap.size + 1 ≠ w.heap.size by omega) (.int .u64 (IntKind.u64.wrap (n3 + n1))))
      have HB8 := Aside0.mk (hb_.out.setCell (p := ⟨w.heap.size, 2, none⟩) (Nat.le_refl _) (.int .u64 (IntKind.u64.wrap (n3 + n1))))
      clear bk_ ck_ hb_
      generalize hn7 : IntKind.u64.wrap (n3 + n1) = n7 at BK8 CK8 HB8 ⊢
      have HN7 := Lib.hid hn7
      clear hn7
      generalize w7.setCell ⟨w.heap.size, 2, none⟩ (.int .u64 n7) = w8 at BK8 CK8 HB8 ⊢
      have z0 : w8.cell? ⟨w.heap.size, 0, none⟩ = some (.int .u64 n5) := (blk_cell BK8.out 0).trans rfl
      have z1 : w8.cell? ⟨w.heap.size, 1, none⟩ = some (.int .u64 n1) := (blk_cell BK8.out 1).trans rfl
      have z2 : w8.cell? ⟨w.heap.size, 2, none⟩ = some (.int .u64 n7) := (blk_cell BK8.out 2).trans rfl
      have z3 : w8.cell? ⟨w.heap.size, 3, none⟩ = some (.int .u64 n6) := (blk_cell BK8.out 3).trans rfl
      have f0 := blk_frozen BK8.out 0
      have f1 := blk_frozen BK8.out 1
      have f2 := blk_frozen BK8.out 2
      have f3 := blk_frozen BK8.out 3
      go_wp2_with fail
      have bk_ := Aside0.mk (blk_drew BK8.out)
      have ck_ := Aside0.mk (blk_drew CK8.out)
      have hb_ := Aside0.mk (below_drew1 HB8.out)
      clear z0 z1 z2 z3 f0 f1 f2 f3
      clear BK8 CK8 HB8
      refine start_ (n := 8) (S := fun w' => w'.cell? ⟨w.heap.size, 0, none⟩ = some (.int .u64 n5) ∧ w'.cell? ⟨w.heap.size, 1, none⟩ = some (.int .u64 n1) ∧ w'.cell? ⟨w.heap.size, 2, none⟩ = some (.int .u64 n7) ∧ w'.cell? ⟨w.heap.size, 3, none⟩ = some (.int .u64 n6)) (ds := [7]) #[false, false, false, false, false, false, false, false] (by kernel_rfl) rfl rfl ⟨(blk_cell bk_.out 0).trans rfl, (blk_cell bk_.out 1).trans rfl, (blk_cell bk_.out 2).trans rfl, (blk_cell bk_.out 3).trans rfl⟩ (fun hHeld => ?_); refine with_tabW rounds_tab11 rounds_bits (fun HT_ HW_ => ?_)
      generalize w8.drew = u8 at bk_ ck_ hb_ hHeld ⊢
      refine pure_ (i := 0) (N := some 58) (v := ?_) (a' := ?_) #[true, false, false, false, false, false, false, false] rfl rfl (any_of HT_.out (by kernel_rfl)) (fun _ _ _ h => h) (Or.inl ⟨by rfl, ?_⟩) ?_ ?_
      rotate_left
      · intro w'
        go_simp
        with_reducible rfl
      rotate_left
      · simp only [Act.put, List.setIfInBounds_toArray, List.set_cons_zero, List.set_cons_succ, i64_w, i32_w]
        rfl
      refine pure_ (i := 3) (N := some 61) (v := ?_) (a' := ?_) #[true, false, false, true, false, false, false, false] rfl rfl (any_of HT_.out (by kernel_rfl)) (fun _ _ _ h => h) (Or.inl ⟨by rfl, ?_⟩) ?_ ?_
      rotate_left
      · intro w'
        go_simp
        with_reducible rfl
      rotate_left
      · simp only [Act.put, List.setIfInBounds_toArray, List.set_cons_zero, List.set_cons_succ, i64_w, i32_w]
        rfl
      refine take_ (i := 1) (N := some 59) (v := ?_) (a' := ?_) #[true, true, false, true, false, false, false, false] rfl rfl (take_ofW HT_.out HW_.out (by kernel_rfl)) (fun _ _ _ h => h) (Or.inl ⟨by rfl, ?_⟩) hHeld ?_ ?_
      rotate_left
      · rintro w' ⟨s0, s1, s2, s3⟩
        go_simp
        with_reducible rfl
      rotate_left
      · simp only [Act.put, List.setIfInBounds_toArray, List.set_cons_zero, List.set_cons_succ, i64_w, i32_w]
        rfl
      refine take_ (i := 4) (N := some 62) (v := ?_) (a' := ?_) #[true, true, false, true, true, false, false, false] rfl rfl (take_ofW HT_.out HW_.out (by kernel_rfl)) (fun _ _ _ h => h) (Or.inl ⟨by rfl, ?_⟩) hHeld ?_ ?_
      rotate_left
      · rintro w' ⟨s0, s1, s2, s3⟩
        go_simp
        with_reducible rfl
      rotate_left
      · simp only [Act.put, List.setIfInBounds_toArray, List.set_cons_zero, List.set_cons_succ, i64_w, i32_w]
        rfl
      refine one_ (i := 2) (N := some 60) #[true, true, true, true, true, false, false, false] rfl rfl (one_of HT_.out (by kernel_rfl)) (by decide) (fun K hK => ?_)
      refine goes_ Tryd.func175 (by kernel_rfl) rfl #[.int .u64 n1, .int .i64 17] (by rfl) rfl rfl (by (try simp only [List.map_toArray, List.map_cons, List.map_nil]); first | done | rfl | (simp only [List.length_drop, List.length_take]; rfl)) ?_
      with_reducible refine (turn17 n1 _).mono ?_
      rintro e w' ⟨rfl, ⟨nd, rfl⟩⟩
      refine ⟨_, rfl, ?_⟩
      clear hHeld
      refine hK.out _ _ ⟨(blk_cell bk_.out 0).trans rfl, (blk_cell bk_.out 1).trans rfl, (blk_cell bk_.out 2).trans rfl, (blk_cell bk_.out 3).trans rfl⟩ (fun hHeld => ?_)
      clear hK K
      have bk2 := Aside0.mk (blk_drewN bk_.out nd)
      have ck2 := Aside0.mk (blk_drewN ck_.out nd)
      have hb2 := Aside0.mk (pw_below_drewN hb_.out nd)
      clear bk_ ck_ hb_
      generalize u8.drewN nd = u8b at bk2 ck2 hb2 hHeld ⊢
      have bk_ := bk2
      have ck_ := ck2
      have hb_ := hb2
      clear bk2 ck2 hb2
      refine norm_ (a' := ?_) ?_ ?_
      rotate_left
      · show Act.put _ (some 60) _ = _
        simp only [Act.put, List.setIfInBounds_toArray, List.set_cons_zero, List.set_cons_succ, i64_w, i32_w]
        rfl
      refine pure_ (i := 5) (N := some 63) (v := ?_) (a' := ?_) #[true, true, true, true, true, true, false, false] rfl rfl (any_of HT_.out (by kernel_rfl)) (fun _ _ _ h => h) (Or.inl ⟨by rfl, ?_⟩) ?_ ?_
      rotate_left
      · intro w'
        go_simp
        with_reducible rfl
      rotate_left
      · simp only [Act.put, List.setIfInBounds_toArray, List.set_cons_zero, List.set_cons_succ, i64_w, i32_w]
        rfl
      refine pure_ (i := 6) (N := some 64) (v := ?_) (a' := ?_) #[true, true, true, true, true, true, true, false] rfl rfl (any_of HT_.out (by kernel_rfl)) (fun _ _ _ h => h) (Or.inl ⟨by rfl, ?_⟩) ?_ ?_
      rotate_left
      · intro w'
        go_simp
        with_reducible rfl
      rotate_left
      · simp only [Act.put, List.setIfInBounds_toArray, List.set_cons_zero, List.set_cons_succ, i64_w, i32_w]
        rfl
      refine last_ (i := 7) (N := none) #[true, true, true, true, true, true, true, true] rfl rfl (one_of HT_.out (by kernel_rfl)) (by decide) (fun K hK => ?_)
      have s_ : u8b.cell? ⟨w.heap.size, 1, none⟩ = some (.int .u64 n1) := (blk_cell bk_.out 1).trans rfl
      have f_ := blk_frozen bk_.out 1
      refine skip_ (w1 := ?_) (by rfl) rfl ?_ ?_
      rotate_left
      · go_simp
        rfl
      refine hK.out _ _ ?_
      clear hK K
      refine done_ (done_of HT_.out (by kernel_rfl)) ?_
      clear s_ f_ hHeld
      have BK9 := Aside0.mk (blk_put (cs' := #[.int .u64 (n5), .int .u64 (Go.bits .xor .u64 (rotV n1 17 47) n7), .int .u64 (n7), .int .u64 (n6)]) bk_.out 1 (.int .u64 (Go.bits .xor .u64 (rotV n1 17 47) n7)) rfl)
      have CK9 := Aside0.mk (blk_far ck_.out (p := ⟨w.heap.size, 1, none⟩) (show w.heap.size + 1 ≠ w.heap.size by omega) (.int .u64 (Go.bits .xor .u64 (rotV n1 17 47) n7)))
      have HB9 := Aside0.mk (hb_.out.setCell (p := ⟨w.heap.size, 1, none⟩) (Nat.le_refl _) (.int .u64 (Go.bits .xor .u64 (rotV n1 17 47) n7)))
      clear bk_ ck_ hb_
      generalize hn8 : Go.bits .xor .u64 (rotV n1 17 47) n7 = n8 at BK9 CK9 HB9 ⊢
      have HN8 := Lib.hid hn8
      clear hn8
      generalize u8b.setCell ⟨w.heap.size, 1, none⟩ (.int .u64 n8) = w9 at BK9 CK9 HB9 ⊢
      have z0 : w9.cell? ⟨w.heap.size, 0, none⟩ = some (.int .u64 n5) := (blk_cell BK9.out 0).trans rfl
      have z1 : w9.cell? ⟨w.heap.size, 1, none⟩ = some (.int .u64 n8) := (blk_cell BK9.out 1).trans rfl
      have z2 : w9.cell? ⟨w.heap.size, 2, none⟩ = some (.int .u64 n7) := (blk_cell BK9.out 2).trans rfl
      have z3 : w9.cell? ⟨w.heap.size, 3, none⟩ = some (.int .u64 n6) := (blk_cell BK9.out 3).trans rfl
      have f0 := blk_frozen BK9.out 0
      have f1 := blk_frozen BK9.out 1
      have f2 := blk_frozen BK9.out 2
      have f3 := blk_frozen BK9.out 3
      go_wp2_with fail
      have bk_ := BK9
      have ck_ := CK9
      have hb_ := HB9
      clear BK9 CK9 HB9
      refine (turn32 _ _).mono ?_
      rintro e w' ⟨rfl, ⟨nd, rfl⟩⟩
      have bk2 := Aside0.mk (blk_drewN bk_.out nd)
      have ck2 := Aside0.mk (blk_drewN ck_.out nd)
      have hb2 := Aside0.mk (pw_below_drewN hb_.out nd)
      clear z0 z1 z2 z3 f0 f1 f2 f3
      clear bk_ ck_ hb_
      generalize w9.drewN nd = u9 at bk2 ck2 hb2 ⊢
      have bk_ := bk2
      have ck_ := ck2
      have hb_ := hb2
      clear bk2 ck2 hb2
      have z0 : u9.cell? ⟨w.heap.size, 0, none⟩ = some (.int .u64 n5) := (blk_cell bk_.out 0).trans rfl
      have z1 : u9.cell? ⟨w.heap.size, 1, none⟩ = some (.int .u64 n8) := (blk_cell bk_.out 1).trans rfl
      have z2 : u9.cell? ⟨w.heap.size, 2, none⟩ = some (.int .u64 n7) := (blk_cell bk_.out 2).trans rfl
      have z3 : u9.cell? ⟨w.heap.size, 3, none⟩ = some (.int .u64 n6) := (blk_cell bk_.out 3).trans rfl
      have f0 := blk_frozen bk_.out 0
      have f1 := blk_frozen bk_.out 1
      have f2 := blk_frozen bk_.out 2
      have f3 := blk_frozen bk_.out 3
      go_wp2_with fail
      clear z0 z1 z2 z3 f0 f1 f2 f3
      have BK10 := Aside0.mk (blk_put (cs' := #[.int .u64 (n5), .int .u64 (n8), .int .u64 (rotV n7 32 32), .int .u64 (n6)]) bk_.out 2 (.int .u64 (rotV n7 32 32)) rfl)
      have CK10 := Aside0.mk (blk_far ck_.out (p := ⟨w.heap.size, 2, none⟩) (show w.heap.size + 1 ≠ w.heap.size by omega) (.int .u64 (rotV n7 32 32)))
      have HB10 := Aside0.mk (hb_.out.setCell (p := ⟨w.heap.size, 2, none⟩) (Nat.le_refl _) (.int .u64 (rotV n7 32 32)))
      clear bk_ ck_ hb_
      generalize hn9 : rotV n7 32 32 = n9 at BK10 CK10 HB10 ⊢
      have HN9 := Lib.hid hn9
      clear hn9
      generalize u9.setCell ⟨w.heap.size, 2, none⟩ (.int .u64 n9) = w10 at BK10 CK10 HB10 ⊢
      have z0 : w10.cell? ⟨w.heap.size, 0, none⟩ = some (.int .u64 n5) := (blk_cell BK10.out 0).trans rfl
      have z1 : w10.cell? ⟨w.heap.size, 1, none⟩ = some (.int .u64 n8) := (blk_cell BK10.out 1).trans rfl
      have z2 : w10.cell? ⟨w.heap.size, 2, none⟩ = some (.int .u64 n9) := (blk_cell BK10.out 2).trans rfl
      have z3 : w10.cell? ⟨w.heap.size, 3, none⟩ = some (.int .u64 n6) := (blk_cell BK10.out 3).trans rfl
      have f0 := blk_frozen BK10.out 0
      have f1 := blk_frozen BK10.out 1
      have f2 := blk_frozen BK10.out 2
      have f3 := blk_frozen BK10.out 3
      go_wp2_with fail
      go_roundw
      case measure => simp [intOf]
      case rel =>
        refine ⟨m, n5, n8, n9, n6, by omega, by go_num, ⟨?_⟩, BK10, CK10, HB10⟩
        rw [← HI.out]
        show iterV m _ = iterV m (roundV (v0, v1, v2, v3))
        have hn0 := HN0.out
        have hn1 := HN1.out
        have hn2 := HN2.out
        have hn3 := HN3.out
        have hn4 := HN4.out
        have hn5 := HN5.out
        have hn6 := HN6.out
        have hn7 := HN7.out
        have hn8 := HN8.out
        have hn9 := HN9.out
        subst hn0 hn1 hn2 hn3 hn4 hn5 hn6 hn7 hn8 hn9
        rfl
    · obtain rfl : m = 0 := by omega
      have z0 : wr.cell? ⟨w.heap.size, 0, none⟩ = some (.int .u64 v0) := (blk_cell BK0.out 0).trans rfl
      have z1 : wr.cell? ⟨w.heap.size, 1, none⟩ = some (.int .u64 v1) := (blk_cell BK0.out 1).trans rfl
      have z2 : wr.cell? ⟨w.heap.size, 2, none⟩ = some (.int .u64 v2) := (blk_cell BK0.out 2).trans rfl
      have z3 : wr.cell? ⟨w.heap.size, 3, none⟩ = some (.int .u64 v3) := (blk_cell BK0.out 3).trans rfl
      have f0 := blk_frozen BK0.out 0
      have f1 := blk_frozen BK0.out 1
      have f2 := blk_frozen BK0.out 2
      have f3 := blk_frozen BK0.out 3
      have y0 : wr.cell? ⟨w.heap.size + 1, 0, none⟩ = some (.int .u64 0) := (blk_cell CK0.out 0).trans rfl
      have y1 : wr.cell? ⟨w.heap.size + 1, 1, none⟩ = some (.int .u64 0) := (blk_cell CK0.out 1).trans rfl
      have y2 : wr.cell? ⟨w.heap.size + 1, 2, none⟩ = some (.int .u64 0) := (blk_cell CK0.out 2).trans rfl
      have y3 : wr.cell? ⟨w.heap.size + 1, 3, none⟩ = some (.int .u64 0) := (blk_cell CK0.out 3).trans rfl
      have g0 := blk_frozen CK0.out 0
      have g1 := blk_frozen CK0.out 1
      have g2 := blk_frozen CK0.out 2
      have g3 := blk_frozen CK0.out 3
      go_wp2
      refine bodyPost_ret (results_cell_row rfl _ _ (w.heap.size + 1) 210 #[.int .u64 v0, .int .u64 v1, .int .u64 v2, .int .u64 v3] (0, 0) _ rfl (((blk_put (cs' := #[.int .u64 v0, .int .u64 v1, .int .u64 v2, .int .u64 v3]) (blk_put (cs' := #[.int .u64 v0, .int .u64 v1, .int .u64 v2, .int .u64 0]) (blk_put (cs' := #[.int .u64 v0, .int .u64 v1, .int .u64 0, .int .u64 0]) (blk_put (cs' := #[.int .u64 v0, .int .u64 0, .int .u64 0, .int .u64 0]) CK0.out 0 (.int .u64 v0) rfl) 1 (.int .u64 v1) rfl) 2 (.int .u64 v2) rfl) 3 (.int .u64 v3) rfl))) Tryd.underlying210 rfl (by kernel_rfl)) rfl ?_
      refine ⟨?_, (((HB0.out.setCell (p := ⟨w.heap.size + 1, 0, none⟩) (Nat.le_succ _) _).setCell (p := ⟨w.heap.size + 1, 1, none⟩) (Nat.le_succ _) _).setCell (p := ⟨w.heap.size + 1, 2, none⟩) (Nat.le_succ _) _).setCell (p := ⟨w.heap.size + 1, 3, none⟩) (Nat.le_succ _) _⟩
      rw [← HI.out]
      rfl
def kauditref23_words_rounds.f (a0_0 a0_1 a0_2 a0_3 a1 : Int) : Option (Int × Int × Int × Int) := if 0 ≤ a1 ∧ a1 ≤ 1000 then some (iterV a1.toNat (a0_0, a0_1, a0_2, a0_3)) else none
theorem kauditref23_words_rounds.calls (a0_0 a0_1 a0_2 a0_3 a1 r1 r2 r3 r4 : Int) (w : World) (h : kauditref23_words_rounds.f a0_0 a0_1 a0_2 a0_3 a1 = some (r1, r2, r3, r4)) :
    Calls Tryd.prog 154 #[.agg #[.int .u64 a0_0, .int .u64 a0_1, .int .u64 a0_2, .int .u64 a0_3], .int .i64 a1] w fun e w' => e = .returned (.agg #[.int .u64 r1, .int .u64 r2, .int .u64 r3, .int .u64 r4]) ∧ Below w.heap.size w w' := by
  unfold kauditref23_words_rounds.f at h
  split at h
  · rename_i hb
    have h := Option.some.inj h
    have hd := rounds_in (a0_0, a0_1, a0_2, a0_3) a1.toNat (by omega) w
    rw [show ((a1.toNat : Nat) : Int) = a1 from by omega, h] at hd
    exact hd
  · cases h
end Go.Proofs.YtjnlmmjadlidlaaDoor.PRec
end
