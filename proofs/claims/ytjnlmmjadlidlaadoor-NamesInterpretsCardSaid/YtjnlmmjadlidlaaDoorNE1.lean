/-
  strconv.Itoa in the form in which the printed callers ask it.
-/
import Derived.Test.YtjnlmmjadlidlaaDoorNGL
import Derived.Test.YtjnlmmjadlidlaaDoorItoa
import Derived.Lib.AppendIntMem
namespace Go.Proofs.YtjnlmmjadlidlaaDoor.PNames
open Go.RowKit

def strconv_Itoa.f (a0 : Int) : Option ByteArray := if -9223372036854775808 ≤ a0 ∧ a0 ≤ 9223372036854775807 then some ⟨(Lib.itoa a0).toArray⟩ else none

theorem strconv_Itoa.calls (a0 : Int) (r : ByteArray) (w : World) (hG : GL w) (h : strconv_Itoa.f a0 = some r) :
    Calls Tryd.prog 69 #[.int .i64 a0] w fun e w' => e = .returned (.string r) ∧ Below w.heap.size w w' := by
  unfold strconv_Itoa.f at h
  split at h
  · rename_i hb
    obtain rfl := Option.some.inj h
    refine (Tryd.strconv_Itoa a0 hb.1 hb.2 w hG.1).mono ?_
    rintro e w' ⟨rfl, k, os, rfl⟩
    exact ⟨rfl, Lib.below_grow _ w (Nat.le_refl _) k os⟩
  · cases h

end Go.Proofs.YtjnlmmjadlidlaaDoor.PNames
