/-
  strconv.Itoa and the reference's Decimal in the form in which chapter 3's printed callers ask them.
-/
import Derived.Test.YtjnlmmjadlidlaaDoorRGL
import Derived.Test.YtjnlmmjadlidlaaDoorItoa
import Derived.Test.YtjnlmmjadlidlaaDoorNE7
import Derived.Lib.AppendIntMem
namespace Go.Proofs.YtjnlmmjadlidlaaDoor.PRec
open Go.RowKit

def strconv_Itoa.f (a0 : Int) : Option ByteArray := if -9223372036854775808 ≤ a0 ∧ a0 ≤ 9223372036854775807 then some ⟨(Lib.itoa a0).toArray⟩ else none

theorem strconv_Itoa.calls (a0 : Int) (r : ByteArray) (w : World) (hG : GL w) (h : strconv_Itoa.f a0 = some r) :
    Calls Tryd.prog 69 #[.int .i64 a0] w fun e w' => e = .returned (.string r) ∧ Below w.heap.size w w' := by
  unfold strconv_Itoa.f at h
  split at h
  · rename_i hb
    obtain rfl := Option.some.inj h
    refine (Tryd.strconv_Itoa a0 hb.1 hb.2 w hG.1).mono ?_
    rintro e w' ⟨rfl, k, os, rfl⟩
    exact ⟨rfl, Lib.below_grow _ w (Nat.le_refl _) k os⟩
  · cases h

def kauditref01_Decimal.f (a0 : Int) : Option ByteArray := PNames.kauditref01_Decimal.f a0
theorem kauditref01_Decimal.calls (a0 : Int) (r : ByteArray) (w : World) (h : kauditref01_Decimal.f a0 = some r) :
    Calls Tryd.prog 113 #[.int .i64 a0] w fun e w' => e = .returned (.string r) ∧ Below w.heap.size w w' := PNames.kauditref01_Decimal.calls a0 r w h

end Go.Proofs.YtjnlmmjadlidlaaDoor.PRec
