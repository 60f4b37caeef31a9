/-
  The premise on the world that the functions of chapter 3 hand on: the laid tables (powers of ten; the hexadecimal digits; the types of records) read as the program's text lays them.
-/
import Derived.Test.YtjnlmmjadlidlaaDoorProg
import Derived.Lib.SmallJoins
import Derived.Lib.ItoaNum
import Derived.Lib.LaidTab
import Derived.Below
import Derived.KernelRfl
import Derived.Test.YtjnlmmjadlidlaaDoorWWords
namespace Go.Proofs.YtjnlmmjadlidlaaDoor.PRec
open Go.RowKit Go.Proofs.YtjnlmmjadlidlaaDoorW.PrintWords

def digitsTab : List Int := [48, 49, 50, 51, 52, 53, 54, 55, 56, 57, 97, 98, 99, 100, 101, 102]

/-- The types of records: name, number, single. -/
def typesTab : List (List UInt8 × Int × Bool) :=
  [([85, 83, 69, 82], 1005, true), ([68, 65, 69, 77, 79, 78], 1200, true), ([83, 89, 83, 67, 65, 76, 76], 1300, false), ([80, 65, 84, 72], 1302, false), ([67, 79, 78, 70, 73, 71], 1305, true),
   ([83, 79, 67, 75, 65, 68, 68, 82], 1306, false), ([67, 87, 68], 1307, false), ([69, 88, 69, 67, 86, 69], 1309, false), ([69, 79, 69], 1320, false), ([76, 79, 83, 83], 1331, true)]
def typeCells (x : List UInt8 × Int × Bool) : List Value := [.string ⟨x.1.toArray⟩, .int .i64 x.2.1, .bool x.2.2]
def typesCells : Array Value := (typesTab.flatMap typeCells).toArray

/-- The laid tables that chapter 3 reads. -/
def GL (w : World) : Prop :=
  Lib.TabIs Tryd.prog w "internal/strconv.uint64pow10" .u64 Lib.pow10Tab ∧ Lib.TabIs Tryd.prog w "kaudit/value.digits" .u8 digitsTab ∧ w.var? Tryd.prog "kaudit/record.types" = some typesCells

theorem GL.below {w w' : World} (h : GL w) (hb : Below w.heap.size w w') : GL w' :=
  ⟨Joins.tab_stays (g := 3) (by kernel_rfl) h.1 hb (Nat.le_refl _), Joins.tab_stays (g := 2) (by kernel_rfl) h.2.1 hb (Nat.le_refl _), Joins.var_stays (g := 0) (by kernel_rfl) h.2.2 hb (Nat.le_refl _)⟩

theorem tab_add (b i : Nat) : (⟨b, 0, none⟩ : Addr).add i = ⟨b, i, none⟩ := by
  unfold Addr.add
  by_cases h : i = 0
  · subst h; rfl
  · rw [if_neg h]
    simp

/-- The digits, as a row that is read. -/
theorem GL.digits {w : World} (h : GL w) : Kd.C (Kd.int .u8) w (some ⟨2, 0, none⟩) digitsTab.length digitsTab := by
  refine ⟨rfl, by decide, fun _ => ⟨⟨2, 0, none⟩, rfl, fun j p hj => ⟨[.int .u8 p], rfl, rfl, fun i u hu => ?_⟩⟩⟩
  have hlt := (List.getElem?_eq_some_iff.1 hj).1
  have hc := h.2.1.cell (g := 2) (by kernel_rfl) j hlt
  have hi : i = 0 := by
    have := (List.getElem?_eq_some_iff.1 hu).1
    simp at this
    exact this
  subst hi
  have hu' : u = .int .u8 p := by simpa using hu.symm
  rw [hu', show (⟨2, 0, none⟩ : Addr).add (j * (Kd.int .u8).sz + 0) = ⟨2, j, none⟩ from by rw [show (Kd.int .u8).sz = 1 from rfl, Nat.mul_one, Nat.add_zero, add_plain], hc]
  rw [List.getD_eq_getElem?_getD, hj]
  rfl

theorem types_block {w : World} (h : GL w) : ∃ t fr, w.heap[0]? = some (.cells typesCells t fr) := by
  have hg : Tryd.prog.globalNamed "kaudit/record.types" = some 0 := by kernel_rfl
  have h2 := h.2.2
  unfold World.var? at h2
  rw [hg] at h2
  simp only [Option.bind_some] at h2
  split at h2
  · rename_i cs t fr he
    refine ⟨t, fr, ?_⟩
    rw [he]
    simp only [Option.some.injEq] at h2
    rw [h2]
  · cases h2

end Go.Proofs.YtjnlmmjadlidlaaDoor.PRec
