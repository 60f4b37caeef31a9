/-
  The premise on the world that the functions of chapter 37 hand on: the two laid tables (powers of ten; the letters of a mode) read as the program's text lays them.
-/
import Derived.Test.YtjnlmmjadlidlaaDoorProg
import Derived.Lib.SmallJoins
import Derived.Lib.ItoaNum
import Derived.Lib.LaidTab
import Derived.Below
import Derived.KernelRfl
namespace Go.Proofs.YtjnlmmjadlidlaaDoor.PNames
open Go.RowKit

def lettersTab : List Int := [114, 119, 120, 114, 119, 120, 114, 119, 120]

/-- The laid tables that chapter 37 reads. -/
def GL (w : World) : Prop :=
  Lib.TabIs Tryd.prog w "internal/strconv.uint64pow10" .u64 Lib.pow10Tab ∧ Lib.TabIs Tryd.prog w "kaudit/access.letters" .u8 lettersTab

theorem GL.below {w w' : World} (h : GL w) (hb : Below w.heap.size w w') : GL w' :=
  ⟨Joins.tab_stays (g := 3) (by kernel_rfl) h.1 hb (Nat.le_refl _), Joins.tab_stays (g := 1) (by kernel_rfl) h.2 hb (Nat.le_refl _)⟩

end Go.Proofs.YtjnlmmjadlidlaaDoor.PNames
