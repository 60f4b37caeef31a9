/-
  kauditref37.compare: two namings compared by time, kind and identity.
-/
import Derived.Test.YtjnlmmjadlidlaaDoorPNamesx0
import Derived.WalkKit
import Derived.LoopTactic
import Derived.WalkSpells
import Derived.Outline
import Derived.Lib.Hide
import Derived.Lib.SmallJoins
namespace Go.Proofs.YtjnlmmjadlidlaaDoor.PNames
open Go.RowKit Go.Proofs.YtjnlmmjadlidlaaDoorW.PrintWords

def cmp47 (a0 a1 a2 b0 b1 b2 : Int) : Int :=
  if a0 < b0 then -1 else if b0 < a0 then 1 else if a1 < b1 then -1 else if b1 < a1 then 1 else if a2 < b2 then -1 else if b2 < a2 then 1 else 0

theorem ret_int {k : IntKind} {a b : Int} (h : a = b) : Ending.returned (.int k a) = .returned (.int k b) := by rw [h]

set_option maxRecDepth 100000 in
set_option maxHeartbeats 4000000 in
theorem compare_in (a0 a1 a2 : Int) (a3 : ByteArray) (b0 b1 b2 : Int) (b3 : ByteArray) (w : World) :
    Calls Tryd.prog 64 #[.agg #[.int .i64 a0, .int .i64 a1, .int .i64 a2, .string a3], .agg #[.int .i64 b0, .int .i64 b1, .int .i64 b2, .string b3]] w fun e w' => e = .returned (.int .i64 (cmp47 a0 a1 a2 b0 b1 b2)) ∧ Below w.heap.size w w' := by
  have hu47 := Tryd.underlying47
  have hu171 := Tryd.underlying171
  go_enter Tryd.func64, Tryd.ntmps64
  go_wp2
  go_loopw [24] (fun i wr => ∃ k : Nat, k ≤ 3 ∧ i = .int .i64 k ∧ (1 ≤ k → a0 = b0) ∧ (2 ≤ k → a1 = b1) ∧ (3 ≤ k → a2 = b2) ∧
      wr.heap[w.heap.size + 1 + 1]? = some (.cells #[.int .i64 a0, .int .i64 b0, .int .i64 a1, .int .i64 b1, .int .i64 a2, .int .i64 b2] 171 (0, 0)) ∧ Below w.heap.size w wr) (fun i _ => (3 - (intOf i).toNat))
  case atStart =>
    exact ⟨0, by omega, rfl, by omega, by omega, by omega, by simpa using heap_alloc_new ((w.alloc (.cells #[.int .i64 a0, .int .i64 a1, .int .i64 a2, .string a3] 47)).alloc (.cells #[.int .i64 b0, .int .i64 b1, .int .i64 b2, .string b3] 47)) (.cells #[.int .i64 a0, .int .i64 b0, .int .i64 a1, .int .i64 b1, .int .i64 a2, .int .i64 b2] 171),
      (((Below.refl _ w).alloc (Nat.le_refl _) _).alloc (by simp) _).alloc (by simp; omega) _⟩
  case round =>
    obtain ⟨k, hk, rfl, e0, e1, e2, hB, hbel⟩ := hrel
    rcases (show k = 0 ∨ k = 1 ∨ k = 2 ∨ k = 3 by omega) with rfl | rfl | rfl | rfl
    · have c0 : wr.cell? ⟨w.heap.size + 1 + 1, 0, none⟩ = some (.int .i64 a0) := (Joins.cell_of_block hB 0).trans rfl
      have c1 : wr.cell? ⟨w.heap.size + 1 + 1, 1, none⟩ = some (.int .i64 b0) := (Joins.cell_of_block hB 1).trans rfl
      have hlt := (Array.getElem?_eq_some_iff.1 hB).1
      have HB := Lib.hid hB
      have HL := Lib.hid hbel
      clear hB hbel
      by_cases h1 : a0 < b0
      · go_wp2
        go_ret
        exact ⟨ret_int (by unfold cmp47; rw [if_pos (by omega)]), HL.out.alloc HL.out.size _⟩
      · by_cases h2 : b0 < a0
        · go_wp2
          go_ret
          exact ⟨ret_int (by unfold cmp47; rw [if_neg (by omega), if_pos (by omega)]), HL.out.alloc HL.out.size _⟩
        · go_wp2
          go_roundw
          case rel => exact ⟨1, by omega, rfl, by omega, by omega, by omega, (Below.heap_alloc wr _ _ hlt).trans HB.out, HL.out.alloc HL.out.size _⟩
          case measure => simp [intOf]
    · have c0 : wr.cell? ⟨w.heap.size + 1 + 1, 2, none⟩ = some (.int .i64 a1) := (Joins.cell_of_block hB 2).trans rfl
      have c1 : wr.cell? ⟨w.heap.size + 1 + 1, 3, none⟩ = some (.int .i64 b1) := (Joins.cell_of_block hB 3).trans rfl
      have hlt := (Array.getElem?_eq_some_iff.1 hB).1
      have HB := Lib.hid hB
      have HL := Lib.hid hbel
      clear hB hbel
      by_cases h1 : a1 < b1
      · go_wp2
        go_ret
        exact ⟨ret_int (by unfold cmp47; rw [if_neg (by omega), if_neg (by omega)]; rw [if_pos (by omega)]), HL.out.alloc HL.out.size _⟩
      · by_cases h2 : b1 < a1
        · go_wp2
          go_ret
          exact ⟨ret_int (by unfold cmp47; rw [if_neg (by omega), if_neg (by omega)]; rw [if_neg (by omega), if_pos (by omega)]), HL.out.alloc HL.out.size _⟩
        · go_wp2
          go_roundw
          case rel => exact ⟨2, by omega, rfl, by omega, by omega, by omega, (Below.heap_alloc wr _ _ hlt).trans HB.out, HL.out.alloc HL.out.size _⟩
          case measure => simp [intOf]
    · have c0 : wr.cell? ⟨w.heap.size + 1 + 1, 4, none⟩ = some (.int .i64 a2) := (Joins.cell_of_block hB 4).trans rfl
      have c1 : wr.cell? ⟨w.heap.size + 1 + 1, 5, none⟩ = some (.int .i64 b2) := (Joins.cell_of_block hB 5).trans rfl
      have hlt := (Array.getElem?_eq_some_iff.1 hB).1
      have HB := Lib.hid hB
      have HL := Lib.hid hbel
      clear hB hbel
      by_cases h1 : a2 < b2
      · go_wp2
        go_ret
        exact ⟨ret_int (by unfold cmp47; rw [if_neg (by omega), if_neg (by omega)]; rw [if_neg (by omega), if_neg (by omega)]; rw [if_pos (by omega)]), HL.out.alloc HL.out.size _⟩
      · by_cases h2 : b2 < a2
        · go_wp2
          go_ret
          exact ⟨ret_int (by unfold cmp47; rw [if_neg (by omega), if_neg (by omega)]; rw [if_neg (by omega), if_neg (by omega)]; rw [if_neg (by omega), if_pos (by omega)]), HL.out.alloc HL.out.size _⟩
        · go_wp2
          go_roundw
          case rel => exact ⟨3, by omega, rfl, by omega, by omega, by omega, (Below.heap_alloc wr _ _ hlt).trans HB.out, HL.out.alloc HL.out.size _⟩
          case measure => simp [intOf]
    · have HE := Lib.hid (And.intro (e0 (by omega)) (And.intro (e1 (by omega)) (e2 (by omega))))
      clear e0 e1 e2
      go_wp2
      go_ret
      exact ⟨ret_int (by obtain ⟨x0, x1, x2⟩ := HE.out; unfold cmp47; rw [if_neg (by omega), if_neg (by omega), if_neg (by omega), if_neg (by omega), if_neg (by omega), if_neg (by omega)]), hbel⟩

def kauditref37_compare.f (a0_0 a0_1 a0_2 : Int) (_a0_3 : ByteArray) (a1_0 a1_1 a1_2 : Int) (_a1_3 : ByteArray) : Option Int := some (cmp47 a0_0 a0_1 a0_2 a1_0 a1_1 a1_2)

theorem kauditref37_compare.calls (a0_0 : Int) (a0_1 : Int) (a0_2 : Int) (a0_3 : ByteArray) (a1_0 : Int) (a1_1 : Int) (a1_2 : Int) (a1_3 : ByteArray) (r : Int) (w : World) (h : kauditref37_compare.f a0_0 a0_1 a0_2 a0_3 a1_0 a1_1 a1_2 a1_3 = some r) :
    Calls Tryd.prog 64 #[.agg #[.int .i64 a0_0, .int .i64 a0_1, .int .i64 a0_2, .string a0_3], .agg #[.int .i64 a1_0, .int .i64 a1_1, .int .i64 a1_2, .string a1_3]] w fun e w' => e = .returned (.int .i64 r) ∧ Below w.heap.size w w' := by
  obtain rfl := Option.some.inj h
  exact compare_in _ _ _ _ _ _ _ _ w

end Go.Proofs.YtjnlmmjadlidlaaDoor.PNames
