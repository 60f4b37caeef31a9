/-
  What came in as a record (chapter 3), opened.
-/
import Derived.Test.YtjnlmmjadlidlaaDoorOpen
import Derived.Test.YtjnlmmjadlidlaaDoorPRecx0
namespace Go.Proofs.YtjnlmmjadlidlaaDoor.Open3
open Go.ChangeShapes Go.WideShapes Go.RowKit Go.Proofs.YtjnlmmjadlidlaaDoorW.PrintWords Go.Proofs.YtjnlmmjadlidlaaDoor.PRec Go.Proofs.YtjnlmmjadlidlaaDoor.Open

def QP (x : S34) : Prop := x.f0.size ≤ maxLen ∧ (Lit.int .i64 x.f1).wf = true ∧ (Lit.int .i64 x.f2).wf = true ∧ x.f3.size ≤ maxLen
def QR (x : S50) : Prop := (Lit.int .i64 x.f0).wf = true ∧ (Lit.int .i64 x.f1).wf = true ∧ (Lit.int .i64 x.f2).wf = true ∧ x.f3.length ≤ maxLen ∧ ∀ y ∈ x.f3, QP y

section
variable {H : Type} {enc : TypeId × Value → H} {w : World} {base : Nat} {spare : Nat → Bool} {held : Bool}
theorem opens34 : Opens enc Tryd.prog w base spare held 34 k34 QP :=
  opens_iso (f := fun x : S34 => (x.f0, x.f1, x.f2, x.f3)) (fun p => (⟨p.1, p.2.1, p.2.2.1, p.2.2.2⟩ : S34)) (fun _ => rfl)
    (opens_struct Tryd.underlying34 (by kernel_rfl) (chain_cons rfl (by kernel_rfl) (opens_string Tryd.underlying9) (chain_cons rfl (by kernel_rfl) (opens_int Tryd.underlying3) (chain_cons rfl (by kernel_rfl) (opens_int Tryd.underlying3)
      (chain_one rfl (by kernel_rfl) (opens_string Tryd.underlying9))))))
theorem opens50 : Opens enc Tryd.prog w base spare held 50 k50 QR :=
  opens_iso (f := fun x : S50 => (x.f0, x.f1, x.f2, x.f3)) (fun p => (⟨p.1, p.2.1, p.2.2.1, p.2.2.2⟩ : S50)) (fun _ => rfl)
    (opens_struct Tryd.underlying50 (by kernel_rfl) (chain_cons rfl (by kernel_rfl) (opens_int Tryd.underlying3) (chain_cons rfl (by kernel_rfl) (opens_int Tryd.underlying3) (chain_cons rfl (by kernel_rfl) (opens_int Tryd.underlying3)
      (chain_one rfl (by kernel_rfl) (opens_slice Tryd.underlying35 (by kernel_rfl) opens34))))))
end
end Go.Proofs.YtjnlmmjadlidlaaDoor.Open3
