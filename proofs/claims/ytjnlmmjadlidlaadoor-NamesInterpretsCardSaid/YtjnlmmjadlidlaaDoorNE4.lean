/-
  access.Format: the nine letters of a mode.
-/
import Derived.Test.YtjnlmmjadlidlaaDoorNGL
import Derived.Test.YtjnlmmjadlidlaaDoorPNamesx0
import Derived.WalkKit
import Derived.LoopTactic
import Derived.WalkSpells
import Derived.Outline
import Derived.Lib.Hide
import Derived.Lib.SmallJoins
import Derived.Lib.SlBytesRow
import Derived.Laws.Rows
namespace Go.Proofs.YtjnlmmjadlidlaaDoor.PNames
open Go.RowKit Go.Proofs.YtjnlmmjadlidlaaDoorW.PrintWords

def lettersCells : Array Value := #[.int .u8 114, .int .u8 119, .int .u8 120, .int .u8 114, .int .u8 119, .int .u8 120, .int .u8 114, .int .u8 119, .int .u8 120]

theorem letters_block {w : World} (h : Lib.TabIs Tryd.prog w "kaudit/access.letters" .u8 lettersTab) : ∃ t fr, w.heap[1]? = some (.cells lettersCells t fr) := by
  have hg : Tryd.prog.globalNamed "kaudit/access.letters" = some 1 := by kernel_rfl
  unfold Lib.TabIs World.var? at h
  rw [hg] at h
  simp only [Option.bind_some] at h
  split at h
  · rename_i cs t fr he
    refine ⟨t, fr, ?_⟩
    rw [he]
    simp only [Option.some.injEq] at h
    rw [h]
    rfl
  · cases h

/-- Is letter k of a mode a dash? -/
def bitOff (m : Int) (k : Nat) : Bool := Go.bits .and .i64 (m / 2 ^ (8 - k)) 1 == 0

def modeCells (b : Nat → Bool) : Nat → Array Value
  | 0 => lettersCells
  | k + 1 => if b k then (modeCells b k).setIfInBounds k (.int .u8 45) else modeCells b k
theorem modeCells_size (b : Nat → Bool) : ∀ k, (modeCells b k).size = 9
  | 0 => rfl
  | k + 1 => by unfold modeCells; split <;> simp [modeCells_size b k]

def modeBytes (b : Nat → Bool) : Nat → List UInt8
  | 0 => [114, 119, 120, 114, 119, 120, 114, 119, 120]
  | k + 1 => if b k then (modeBytes b k).set k 45 else modeBytes b k
theorem modeBytes_length (b : Nat → Bool) : ∀ k, (modeBytes b k).length = 9
  | 0 => rfl
  | k + 1 => by unfold modeBytes; split <;> simp [modeBytes_length b k]
theorem modeCells_eq (b : Nat → Bool) : ∀ k, modeCells b k = ((modeBytes b k).map fun c => Value.int .u8 (c.toNat : Int)).toArray
  | 0 => rfl
  | k + 1 => by
    unfold modeCells modeBytes
    split
    · rw [modeCells_eq b k, List.map_set]; simp
    · exact modeCells_eq b k

/-- The nine letters. -/
def modeText (m : Int) : ByteArray := ⟨(modeBytes (bitOff m) 9).toArray⟩
theorem modeText_size (m : Int) : (modeText m).size = 9 := by
  show (modeBytes (bitOff m) 9).toArray.size = 9
  simp [modeBytes_length]

theorem mode_conv {w : World} {b : Nat} {m : Int} (h : w.heap[b]? = some (.cells (modeCells (bitOff m) 9) 176 (0, 0))) :
    (convert 22 9 (.slice (some ⟨b, 0, none⟩) 9 9)).run Tryd.prog w = .ok (.string (modeText m)) w := by
  have hb : Lib.Bytes w b 0 (modeText m) := by
    intro i hi
    rw [Nat.zero_add, Joins.cell_of_block h i, modeCells_eq]
    have hl : i < (modeBytes (bitOff m) 9).length := by rw [modeText_size] at hi; rw [modeBytes_length]; exact hi
    simp only [List.getElem?_toArray, List.getElem?_map, List.getElem?_eq_getElem hl, Option.map_some]
    rfl
  have hc := Lib.run_convert_whole (P := Tryd.prog) w 22 5 9 Tryd.underlying22 Tryd.underlying5 Tryd.underlying9 b 0 (modeText m) hb 9
  rw [modeText_size] at hc
  exact hc

set_option maxRecDepth 100000 in
set_option maxHeartbeats 4000000 in
theorem aformat_in (m : Int) (w : World) (h0 : 0 ≤ m) (h1 : m ≤ 511) (hG : GL w) :
    Calls Tryd.prog 66 #[.int .i64 m] w fun e w' => e = .returned (.string (modeText m)) ∧ Below w.heap.size w w' := by
  obtain ⟨tt, fr, hg0⟩ := letters_block hG.2
  have hg1 : w.heap[1]? = some (.cells #[.int .u8 114, .int .u8 119, .int .u8 120, .int .u8 114, .int .u8 119, .int .u8 120, .int .u8 114, .int .u8 119, .int .u8 120] tt fr) := hg0
  clear hg0
  have hlt1 : 1 < w.heap.size := (Array.getElem?_eq_some_iff.1 hg1).1
  have hu176 := Tryd.underlying176
  have d0 : decide (m < 0) = false := decide_eq_false (by omega)
  have d1 : decide (511 < m) = false := decide_eq_false (by omega)
  clear hG
  go_enter Tryd.func66, Tryd.ntmps66
  go_wp2_with (refine wpList_load_row rfl 176 _ rfl 1 rfl tt #[.int .u8 114, .int .u8 119, .int .u8 120, .int .u8 114, .int .u8 119, .int .u8 120, .int .u8 114, .int .u8 119, .int .u8 120] fr _ hg1 Tryd.underlying176 rfl (by kernel_rfl) ?_)
  go_loopw [12] (fun i wr => ∃ k : Nat, k ≤ 9 ∧ i = .int .i64 k ∧ wr.heap[w.heap.size]? = some (.cells (modeCells (bitOff m) k) 176 (0, 0)) ∧ Below w.heap.size w wr) (fun i _ => (9 - (intOf i).toNat))
  case atStart => exact ⟨0, by omega, rfl, (heap_alloc_new w _ : _ = some (.cells lettersCells 176 (0, 0))), (Below.refl _ w).alloc (Nat.le_refl _) _⟩
  case round =>
    obtain ⟨k, hk, rfl, hB, hbel⟩ := hrel
    by_cases hlt : k < 9
    · have HL := Lib.hid hbel
      have hcell : wr.cell? ⟨w.heap.size, k, none⟩ = some ((modeCells (bitOff m) k)[k]'(by rw [modeCells_size]; exact hlt)) := (Joins.cell_of_block hB k).trans (Array.getElem?_eq_getElem _)
      have hfr := Joins.unfrozen_of_block hB k
      generalize (modeCells (bitOff m) k)[k]'(by rw [modeCells_size]; exact hlt) = cv at hcell
      have HB := Lib.hid hB
      clear hbel hB
      by_cases hb : (Go.bits .and .i64 (m / 2 ^ (8 - k)) 1 == 0) = true
      · go_wp2
        exact ⟨⟨k + 1, by omega, by go_num, by rw [modeCells, if_pos (show bitOff m k = true from hb)]; exact Joins.block_setCell HB.out _, HL.out.setCell (p := ⟨w.heap.size, k, none⟩) (Nat.le_refl _) _⟩, by simp [intOf]; omega⟩
      · rw [Bool.not_eq_true] at hb
        go_wp2
        exact ⟨⟨k + 1, by omega, by go_num, by rw [modeCells, if_neg (show ¬ bitOff m k = true by rw [show bitOff m k = false from hb]; exact Bool.false_ne_true)]; exact HB.out, HL.out⟩, by simp [intOf]; omega⟩
    · obtain rfl : k = 9 := by omega
      have hconv := mode_conv hB
      clear hB
      go_wp2
      go_ret
      exact ⟨rfl, hbel⟩

set_option maxHeartbeats 1000000 in
theorem aformat_out (m : Int) (w : World) (h : m < 0 ∨ 511 < m) :
    Calls Tryd.prog 66 #[.int .i64 m] w fun e w' => e = .returned (.string ⟨#[]⟩) ∧ w' = w := by
  rcases h with h | h
  · go_enter Tryd.func66, Tryd.ntmps66
    go_wp2
    go_ret
    exact ⟨rfl, rfl⟩
  · have h' : ¬ m < 0 := by omega
    go_enter Tryd.func66, Tryd.ntmps66
    go_wp2
    go_ret
    exact ⟨rfl, rfl⟩

def access_Format.f (a0 : Int) : Option ByteArray := if 0 ≤ a0 ∧ a0 ≤ 511 then some (modeText a0) else some ⟨#[]⟩

theorem access_Format.calls (a0 : Int) (r : ByteArray) (w : World) (hG : GL w) (h : access_Format.f a0 = some r) :
    Calls Tryd.prog 66 #[.int .i64 a0] w fun e w' => e = .returned (.string r) ∧ Below w.heap.size w w' := by
  unfold access_Format.f at h
  split at h
  · rename_i hb
    obtain rfl := Option.some.inj h
    exact aformat_in a0 w hb.1 hb.2 hG
  · rename_i hb
    obtain rfl := Option.some.inj h
    refine (aformat_out a0 w (by omega)).mono ?_
    rintro e w' ⟨rfl, rfl⟩
    exact ⟨rfl, Below.refl _ _⟩

end Go.Proofs.YtjnlmmjadlidlaaDoor.PNames
