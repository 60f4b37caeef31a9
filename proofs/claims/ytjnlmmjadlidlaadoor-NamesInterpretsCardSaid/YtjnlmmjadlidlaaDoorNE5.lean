/-
  names.perms: the letters of a set of permissions.
-/
import Derived.Test.YtjnlmmjadlidlaaDoorNGL
import Derived.WalkKit
import Derived.LoopTactic
import Derived.WalkSpells
import Derived.Outline
import Derived.Lib.Hide
namespace Go.Proofs.YtjnlmmjadlidlaaDoor.PNames
open Go.RowKit

/-- The letter of a bit, if it is set. -/
def letterIf (n b : Int) (c : UInt8) : List UInt8 := if (Go.bits .and .i64 n b != 0) = true then [c] else []
def permsTo (n : Int) : Nat → List UInt8
  | 0 => []
  | 1 => letterIf n 4 114
  | 2 => letterIf n 4 114 ++ letterIf n 2 119
  | 3 => (letterIf n 4 114 ++ letterIf n 2 119) ++ letterIf n 1 120
  | _ => ((letterIf n 4 114 ++ letterIf n 2 119) ++ letterIf n 1 120) ++ letterIf n 8 97

theorem letterIf_le (n b : Int) (c : UInt8) : (letterIf n b c).length ≤ 1 := by unfold letterIf; split <;> simp
theorem permsTo_le (n : Int) (k : Nat) : (permsTo n k).length ≤ 4 := by
  have h1 := letterIf_le n 4 114
  have h2 := letterIf_le n 2 119
  have h3 := letterIf_le n 1 120
  have h4 := letterIf_le n 8 97
  unfold permsTo
  split <;> simp <;> omega

theorem perms_yes {t : ByteArray} {l l' : List UInt8} {lo hi : Nat} (h : t.data.toList = l) {c : UInt8} (hc : ((#[114, 119, 120, 97] : Array UInt8).extract lo hi).toList = [c]) (hl : l' = l ++ [c]) :
    (t ++ (⟨#[114, 119, 120, 97]⟩ : ByteArray).extract lo hi).data.toList = l' := by
  rw [hl, ← h, ← hc]
  simp [ByteArray.data_append, ByteArray.data_extract]

set_option maxRecDepth 100000 in
set_option maxHeartbeats 4000000 in
theorem perms_in (n : Int) (w : World) (h1 : 1 ≤ n) (h2 : n ≤ 15) :
    Calls Tryd.prog 67 #[.int .i64 n] w fun e w' => (∃ s : ByteArray, e = .returned (.string s) ∧ s.data.toList = permsTo n 4) ∧ w' = w := by
  have i0 : ∀ w, (Instr.index 177 (.agg #[.int .i64 4, .int .i64 2, .int .i64 1, .int .i64 8]) (.int .i64 0)).run Tryd.prog w = .ok (.int .i64 4) w := fun _ => by kernel_rfl
  have i1 : ∀ w, (Instr.index 177 (.agg #[.int .i64 4, .int .i64 2, .int .i64 1, .int .i64 8]) (.int .i64 1)).run Tryd.prog w = .ok (.int .i64 2) w := fun _ => by kernel_rfl
  have i2 : ∀ w, (Instr.index 177 (.agg #[.int .i64 4, .int .i64 2, .int .i64 1, .int .i64 8]) (.int .i64 2)).run Tryd.prog w = .ok (.int .i64 1) w := fun _ => by kernel_rfl
  have i3 : ∀ w, (Instr.index 177 (.agg #[.int .i64 4, .int .i64 2, .int .i64 1, .int .i64 8]) (.int .i64 3)).run Tryd.prog w = .ok (.int .i64 8) w := fun _ => by kernel_rfl
  go_enter Tryd.func67, Tryd.ntmps67
  go_wp2
  go_loop [13, 3] (fun i s => ∃ (k : Nat) (t : ByteArray), k ≤ 4 ∧ i = .int .i64 k ∧ s = .string t ∧ t.data.toList = permsTo n k) (fun i _ => (4 - (intOf i).toNat))
  case atStart => exact ⟨0, ⟨#[]⟩, by omega, rfl, rfl, rfl⟩
  case round =>
    obtain ⟨k, t, hk, rfl, rfl, ht⟩ := hrel
    have H := Lib.hid ht
    have hts : t.size ≤ 4 := by
      have e : t.size = (permsTo n k).length := by rw [← ht]; rfl
      have := permsTo_le n k
      omega
    clear ht
    rcases (show k = 0 ∨ k = 1 ∨ k = 2 ∨ k = 3 ∨ k = 4 by omega) with rfl | rfl | rfl | rfl | rfl
    · by_cases hb : (Go.bits .and .i64 n 4 != 0) = true
      · go_wp2
        exact ⟨⟨1, _, by omega, rfl, rfl, perms_yes H.out (c := 114) (by decide) (by simp [permsTo, letterIf, hb])⟩, by simp [intOf]⟩
      · rw [Bool.not_eq_true] at hb
        go_wp2
        exact ⟨⟨1, _, by omega, rfl, rfl, H.out.trans (by simp [permsTo, letterIf, hb])⟩, by simp [intOf]⟩
    · by_cases hb : (Go.bits .and .i64 n 2 != 0) = true
      · go_wp2
        exact ⟨⟨2, _, by omega, rfl, rfl, perms_yes H.out (c := 119) (by decide) (by simp [permsTo, letterIf, hb])⟩, by simp [intOf]⟩
      · rw [Bool.not_eq_true] at hb
        go_wp2
        exact ⟨⟨2, _, by omega, rfl, rfl, H.out.trans (by simp [permsTo, letterIf, hb])⟩, by simp [intOf]⟩
    · by_cases hb : (Go.bits .and .i64 n 1 != 0) = true
      · go_wp2
        exact ⟨⟨3, _, by omega, rfl, rfl, perms_yes H.out (c := 120) (by decide) (by simp [permsTo, letterIf, hb])⟩, by simp [intOf]⟩
      · rw [Bool.not_eq_true] at hb
        go_wp2
        exact ⟨⟨3, _, by omega, rfl, rfl, H.out.trans (by simp [permsTo, letterIf, hb])⟩, by simp [intOf]⟩
    · by_cases hb : (Go.bits .and .i64 n 8 != 0) = true
      · go_wp2
        exact ⟨⟨4, _, by omega, rfl, rfl, perms_yes H.out (c := 97) (by decide) (by simp [permsTo, letterIf, hb])⟩, by simp [intOf]⟩
      · rw [Bool.not_eq_true] at hb
        go_wp2
        exact ⟨⟨4, _, by omega, rfl, rfl, H.out.trans (by simp [permsTo, letterIf, hb])⟩, by simp [intOf]⟩
    · go_wp2
      go_ret
      exact ⟨⟨t, rfl, H.out⟩, rfl⟩

set_option maxHeartbeats 1000000 in
theorem perms_out (n : Int) (w : World) (h : n < 1 ∨ 15 < n) :
    Calls Tryd.prog 67 #[.int .i64 n] w fun e w' => e = .returned (.string ⟨#[]⟩) ∧ w' = w := by
  rcases h with h | h
  · go_enter Tryd.func67, Tryd.ntmps67
    go_wp2
    go_ret
    exact ⟨rfl, rfl⟩
  · have h' : ¬ n < 1 := by omega
    go_enter Tryd.func67, Tryd.ntmps67
    go_wp2
    go_ret
    exact ⟨rfl, rfl⟩

def names_perms.f (a0 : Int) : Option ByteArray := if 1 ≤ a0 ∧ a0 ≤ 15 then some ⟨(permsTo a0 4).toArray⟩ else some ⟨#[]⟩

theorem names_perms.calls (a0 : Int) (r : ByteArray) (w : World) (h : names_perms.f a0 = some r) :
    Calls Tryd.prog 67 #[.int .i64 a0] w fun e w' => e = .returned (.string r) ∧ Below w.heap.size w w' := by
  unfold names_perms.f at h
  split at h
  · rename_i hb
    obtain rfl := Option.some.inj h
    refine (perms_in a0 w hb.1 hb.2).mono ?_
    rintro e w' ⟨⟨s, rfl, hs⟩, rfl⟩
    exact ⟨by rw [← hs], Below.refl _ _⟩
  · rename_i hb
    obtain rfl := Option.some.inj h
    refine (perms_out a0 w (by omega)).mono ?_
    rintro e w' ⟨rfl, rfl⟩
    exact ⟨rfl, Below.refl _ _⟩

end Go.Proofs.YtjnlmmjadlidlaaDoor.PNames
