/-
  kauditref01.Decimal: the decimal digits of a number that is not negative.
-/
import Derived.Test.YtjnlmmjadlidlaaDoorNGL
import Derived.WalkKit
import Derived.LoopTactic
import Derived.WalkSpells
import Derived.Outline
import Derived.Lib.Hide
import Derived.Lib.ItoaNum
import Derived.Laws.Runes
namespace Go.Proofs.YtjnlmmjadlidlaaDoor.PNames
open Go.RowKit

theorem encode_digit (d : Nat) (h : d < 10) : Utf8.encode (48 + (d : Int)) = ⟨#[UInt8.ofNat (48 + d)]⟩ := by
  rcases (show d = 0 ∨ d = 1 ∨ d = 2 ∨ d = 3 ∨ d = 4 ∨ d = 5 ∨ d = 6 ∨ d = 7 ∨ d = 8 ∨ d = 9 by omega) with rfl | rfl | rfl | rfl | rfl | rfl | rfl | rfl | rfl | rfl <;> rfl

theorem nDigits_le (N : Nat) (hN : N ≤ 9223372036854775807) : Lib.nDigits N ≤ 19 := by
  by_cases h : Lib.nDigits N ≤ 19
  · exact h
  · exfalso
    have key : ∀ (k u : Nat), k < Lib.nDigits u → 1 ≤ k → 10 ^ k ≤ u := by
      intro k
      induction k with
      | zero => intro u _ h1; omega
      | succ k ih =>
        intro u hu _
        by_cases hs : u < 10
        · rw [Lib.nDigits_small hs] at hu; omega
        · rw [Lib.nDigits_big hs] at hu
          by_cases hk : k = 0
          · subst hk; simp; omega
          · have := ih (u / 10) (by omega) (by omega)
            rw [Nat.pow_succ]
            omega
    have := key 19 N (by omega) (by omega)
    omega

set_option maxRecDepth 100000 in
set_option maxHeartbeats 4000000 in
theorem decimal_in (N : Nat) (hN : N ≤ 9223372036854775807) (w : World) :
    Calls Tryd.prog 113 #[.int .i64 N] w fun e w' => e = .returned (.string ⟨(Lib.decDigits N).toArray⟩) ∧ w' = w := by
  go_enter Tryd.func113, Tryd.ntmps113
  go_wp2
  go_loop [0, 3] (fun i s => ∃ (n : Nat) (t : ByteArray), n ≤ 9223372036854775807 ∧ i = .int .i64 n ∧ s = .string t ∧ Lib.decDigits N = Lib.decDigits n ++ t.data.toList) (fun i _ => (intOf i).toNat)
  case atStart => exact ⟨N, ⟨#[]⟩, hN, rfl, rfl, by simp⟩
  case round =>
    obtain ⟨n, t, hn, rfl, rfl, ht⟩ := hrel
    have hts : t.size ≤ 19 := by
      have e := congrArg List.length ht
      rw [Lib.decDigits_length, List.length_append] at e
      have e2 : t.data.toList.length = t.size := rfl
      have := nDigits_le N hN
      omega
    have H := Lib.hid ht
    clear ht
    by_cases hlt : 10 ≤ n
    · have he := encode_digit (n % 10) (by omega)
      rw [show (((n % 10 : Nat) : Int)) = (n : Int) % 10 from by omega] at he
      obtain ⟨u, hu⟩ : ∃ u : ByteArray, u = ⟨#[UInt8.ofNat (48 + n % 10)]⟩ := ⟨_, rfl⟩
      have hc1 : ∀ w, (convert 21 9 (.int .i32 (48 + (n : Int) % 10))).run Tryd.prog w = .ok (.string u) w := fun w => by rw [hu, ← he]; exact run_convert_int_string w 21 9 .i32 _ (by kernel_rfl) (by kernel_rfl)
      have hus : u.size ≤ 1 := by rw [hu]; exact Nat.le_refl _
      have HU := Lib.hid hu
      clear he hu
      go_wp2
      refine ⟨⟨n / 10, u ++ t, by omega, by go_num, rfl, ?_⟩, by simp [intOf]; omega⟩
      rw [H.out, HU.out, Lib.decDigits, dif_neg (by omega)]
      simp [ByteArray.data_append]
    · have he := encode_digit n (by omega)
      obtain ⟨u, hu⟩ : ∃ u : ByteArray, u = ⟨#[UInt8.ofNat (48 + n)]⟩ := ⟨_, rfl⟩
      have hc1 : ∀ w, (convert 21 9 (.int .i32 (48 + (n : Int)))).run Tryd.prog w = .ok (.string u) w := fun w => by rw [hu, ← he]; exact run_convert_int_string w 21 9 .i32 _ (by kernel_rfl) (by kernel_rfl)
      have hus : u.size ≤ 1 := by rw [hu]; exact Nat.le_refl _
      have HU := Lib.hid hu
      clear he hu
      go_wp2
      go_ret
      refine ⟨?_, rfl⟩
      have hf : (⟨(Lib.decDigits N).toArray⟩ : ByteArray) = u ++ t := by
        rw [H.out, HU.out, Lib.decDigits, dif_pos (by omega)]
        apply ByteArray.ext
        simp [ByteArray.data_append]
      rw [hf]
      rfl

def kauditref01_Decimal.f (a0 : Int) : Option ByteArray := if 0 ≤ a0 ∧ a0 ≤ 9223372036854775807 then some ⟨(Lib.decDigits a0.toNat).toArray⟩ else none

theorem kauditref01_Decimal.calls (a0 : Int) (r : ByteArray) (w : World) (h : kauditref01_Decimal.f a0 = some r) :
    Calls Tryd.prog 113 #[.int .i64 a0] w fun e w' => e = .returned (.string r) ∧ Below w.heap.size w w' := by
  unfold kauditref01_Decimal.f at h
  split at h
  · rename_i hb
    obtain rfl := Option.some.inj h
    have hd := decimal_in a0.toNat (by omega) w
    rw [show ((a0.toNat : Nat) : Int) = a0 from by omega] at hd
    refine hd.mono ?_
    rintro e w' ⟨rfl, rfl⟩
    exact ⟨rfl, Below.refl _ _⟩
  · cases h

end Go.Proofs.YtjnlmmjadlidlaaDoor.PNames
