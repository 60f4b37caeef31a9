/-
  The laid tables of chapter 37's rows: the row's condition gives the premise of the walks; and the heap that the program's own initialisers leave meets it.
-/
import Derived.Test.YtjnlmmjadlidlaaDoorRows
import Derived.Test.YtjnlmmjadlidlaaDoorNGL
import Derived.LaidMore
import Derived.MakeChecks
import Derived.Stop.LaidErr
import Derived.Lib.LaidTab
namespace Go.Proofs.YtjnlmmjadlidlaaDoor
open Go.RowKit

theorem own : ownKnob Tryd.prog.godebug = none := by kernel_rfl

theorem door_met37 (os : Os) (args : Array Value) : laidMetH Tryd.prog Rows.namesThenRow.laid ((World.doorLaid Tryd.prog 400 os).forCall (fun _ _ => 0) ⟨#[], args, []⟩).memory :=
  laidMetH_of_parts3 (fuel := 8) (laidMet_of_run' 8 (by kernel_rfl) (by kernel_rfl)) (by kernel_rfl) (by kernel_rfl)

theorem gl_of_laid37 {W : World} (h : laidMetH Tryd.prog Rows.namesThenRow.laid W) : PNames.GL W := by
  rw [MakeChecks.laidMetH_plain _ _ _ (by kernel_rfl)] at h
  refine ⟨?_, ?_⟩
  · have h3 := h.tail.tail.tail
    exact Lib.tabIs_of_head (k := .u64) (zs := Lib.pow10Tab) (rest := []) (g := 3) (t := 245) (e := 67) (n := 20) (by kernel_rfl) (by kernel_rfl) (by kernel_rfl) (by kernel_rfl) (by kernel_rfl) (by kernel_rfl) h3
  · exact Lib.tabIs_of_head (k := .u8) (zs := PNames.lettersTab) (g := 1) (t := 176) (e := 5) (n := 9) (by kernel_rfl) (by kernel_rfl) (by kernel_rfl) (by kernel_rfl) (by kernel_rfl) (by kernel_rfl) h

end Go.Proofs.YtjnlmmjadlidlaaDoor
