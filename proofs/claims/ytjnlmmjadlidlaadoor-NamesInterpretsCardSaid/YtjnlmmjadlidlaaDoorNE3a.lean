/-
  slices.Backward at a list of namings: its iterator hands out the elements from the last to the first.
-/
import Derived.RangeFuncNested
import Derived.RangeFuncBound
import Derived.RangeFuncCalls
import Derived.RangeFuncLeaves
import Derived.RangeFuncBox
import Derived.Shelf.Abstract
import Derived.Shelf.RegionOpen
import Derived.WalkKit
import Derived.OwnWalkIn
import Derived.TacticsInMore
import Derived.LoopNIn
import Derived.LoopIn
import Derived.Test.YtjnlmmjadlidlaaDoorPNamesx0
namespace Go.Proofs.YtjnlmmjadlidlaaDoor.PNames
open Go.RowKit Go.Shelf Go.Proofs.YtjnlmmjadlidlaaDoorW.PrintWords

attribute [local go_sem] Oper.semAt_some

def enc47 (x : S47) : Value := .agg #[.int .i64 x.f0, .int .i64 x.f1, .int .i64 x.f2, .string x.f3]

/-- Element number k from the back, with its index. -/
def bk (l : List S47) (k : Nat) : Int × S47 := ((l.length : Int) - 1 - k, rd_T47 l ((l.length : Int) - 1 - k))

def upto {α : Type} (f : Nat → α) (k : Nat) : List α := (List.range k).map f
theorem upto_succ {α : Type} (f : Nat → α) (k : Nat) : upto f (k + 1) = upto f k ++ [f k] := by simp [upto, List.range_succ]
theorem upto_length {α : Type} (f : Nat → α) (k : Nat) : (upto f k).length = k := by simp [upto]

/-- What a round that goes on keeps: what lay below n₀, and the box that holds the slice. -/
def KpB (n₀ Bs : Nat) (A B : World) : Prop := Below n₀ A B ∧ B.heap[Bs]? = A.heap[Bs]?
theorem KpB.refl (n₀ Bs : Nat) (A : World) : KpB n₀ Bs A A := ⟨Below.refl _ _, rfl⟩
theorem KpB.trans {n₀ Bs : Nat} {A B C : World} (h : KpB n₀ Bs A B) (k : KpB n₀ Bs B C) : KpB n₀ Bs A C := ⟨h.1.trans k.1, k.2.trans h.2⟩

set_option maxRecDepth 100000 in
set_option maxHeartbeats 4000000 in
theorem backward1_in (F : Fence) (n : Nat) (h7 : F.fn 141) (hro : F.round = none) (hn : 1 ≤ n) (lb Bs n₀ : Nat) (A : Option Addr) (c : Nat) (l : List S47)
    (J Jx : List (Int × S47) → World → Prop)
    (hY : ∀ pre x W, J pre W → pre.length < l.length → YieldAt F (n - 1) Tryd.prog lb #[.int .i64 x.1, enc47 x.2] W fun e W' =>
      (e = .returned (.bool true) ∧ J (pre ++ [x]) W' ∧ KpB n₀ Bs W W') ∨ (e = .returned (.bool false) ∧ Jx (pre ++ [x]) W'))
    (W : World) (hBs : Boxed W Bs 23 (.slice A l.length c)) (hC : ∀ W', Below n₀ W W' → Kd.C k47 W' A l.length l) (h0 : J [] W) :
    CallsIn F n Tryd.prog 141 #[.func (.yield lb) #[] #[], .pointer (some ⟨Bs, 0, none⟩)] W fun e W' => (∃ v, e = .returned v) ∧
      ((∃ ys, ys = upto (bk l) l.length ∧ J ys W') ∨ (∃ pre, (∃ k, k ≤ l.length ∧ pre = upto (bk l) k) ∧ Jx pre W')) := by
  have hmx : l.length ≤ 9223372036854775807 := (hC W (Below.refl _ _)).2.1
  refine callsIn_of_wp Tryd.func141 rfl h7 ?_ hro
  simp only [Tryd.ntmps141, List.size_toArray, List.length_cons, List.length_nil, Nat.reduceAdd, Nat.reduceSub, Array.replicate_succ, Array.replicate_zero, List.push_toArray, List.append_toArray, List.nil_append, List.cons_append]
  have hBsc := hBs.cell
  gi_wp2
  gi_loopw [3] (fun i wr => ∃ k : Nat, k ≤ l.length ∧ i = .int .i64 ((l.length : Int) - 1 - k) ∧ J (upto (bk l) k) wr ∧ KpB n₀ Bs W wr)
    (fun i _ => (intOf i + 1).toNat)
  case atStart => exact ⟨0, Nat.zero_le _, by simp, h0, KpB.refl _ _ _⟩
  case round =>
    obtain ⟨k, hk, rfl, hJs, hnx⟩ := hrel
    have hCr := hC wr hnx.1
    have hBsr : wr.cell? ⟨Bs, 0, none⟩ = some (.slice A l.length c) := Boxed.cell (hnx.2.trans hBs)
    by_cases hlt : k < l.length
    · obtain ⟨fn, tmps, assign, body, hy, hR⟩ := hY _ (bk l k) wr hJs (by rw [upto_length]; exact hlt)
      obtain ⟨ad, rfl, q0, q1, q2, q3⟩ := at_T47 hCr ((l.length : Int) - 1 - k) (by omega) (by omega)
      rw [show ((l.length : Int) - 1 - k).toNat = l.length - 1 - k from by omega] at q0 q1 q2 q3
      dsimp only [bk, enc47] at hy
      have hu47 := Tryd.underlying47
      clear hY hC hCr
      gi_wp2
      refine hR.mono ?_
      rintro e W3 (⟨rfl, hJ3, hk3⟩ | ⟨rfl, hJx3⟩)
      · gi_wp2
        go_roundw
        case rel => exact ⟨k + 1, by omega, by simp; omega, by rw [upto_succ]; exact hJ3, hnx.trans hk3⟩
        case measure => simp [intOf]; omega
      · gi_wp2
        refine bodyPost_ret (results_none rfl _ _ _) rfl ?_
        exact ⟨⟨_, rfl⟩, .inr ⟨_, ⟨k + 1, by omega, (upto_succ _ _).symm⟩, hJx3⟩⟩
    · obtain rfl : k = l.length := by omega
      gi_wp2
      go_end0
      exact ⟨⟨_, rfl⟩, .inl ⟨_, rfl, hJs⟩⟩

end Go.Proofs.YtjnlmmjadlidlaaDoor.PNames
