/-
  What came in as namings and pairs (chapter 37), opened.
-/
import Derived.Test.YtjnlmmjadlidlaaDoorOpen
import Derived.Test.YtjnlmmjadlidlaaDoorPNamesx0
namespace Go.Proofs.YtjnlmmjadlidlaaDoor.Open
open Go.ChangeShapes Go.WideShapes Go.RowKit Go.Proofs.YtjnlmmjadlidlaaDoorW.PrintWords Go.Proofs.YtjnlmmjadlidlaaDoor.PNames

def QN (x : S47) : Prop := (Lit.int .i64 x.f0).wf = true ∧ (Lit.int .i64 x.f1).wf = true ∧ (Lit.int .i64 x.f2).wf = true ∧ x.f3.size ≤ maxLen
def QP (x : S34) : Prop := x.f0.size ≤ maxLen ∧ (Lit.int .i64 x.f1).wf = true ∧ (Lit.int .i64 x.f2).wf = true ∧ x.f3.size ≤ maxLen

section
variable {H : Type} {enc : TypeId × Value → H} {w : World} {base : Nat} {spare : Nat → Bool} {held : Bool}
theorem opens47 : Opens enc Tryd.prog w base spare held 47 k47 QN :=
  opens_iso (f := fun x : S47 => (x.f0, x.f1, x.f2, x.f3)) (fun p => (⟨p.1, p.2.1, p.2.2.1, p.2.2.2⟩ : S47)) (fun _ => rfl)
    (opens_struct Tryd.underlying47 (by kernel_rfl) (chain_cons rfl (by kernel_rfl) (opens_int Tryd.underlying3) (chain_cons rfl (by kernel_rfl) (opens_int Tryd.underlying3) (chain_cons rfl (by kernel_rfl) (opens_int Tryd.underlying3)
      (chain_one rfl (by kernel_rfl) (opens_string Tryd.underlying9))))))
theorem opens34 : Opens enc Tryd.prog w base spare held 34 k34 QP :=
  opens_iso (f := fun x : S34 => (x.f0, x.f1, x.f2, x.f3)) (fun p => (⟨p.1, p.2.1, p.2.2.1, p.2.2.2⟩ : S34)) (fun _ => rfl)
    (opens_struct Tryd.underlying34 (by kernel_rfl) (chain_cons rfl (by kernel_rfl) (opens_string Tryd.underlying9) (chain_cons rfl (by kernel_rfl) (opens_int Tryd.underlying3) (chain_cons rfl (by kernel_rfl) (opens_int Tryd.underlying3)
      (chain_one rfl (by kernel_rfl) (opens_string Tryd.underlying9))))))
end
theorem heap47 : Kd.Heap k47 := Kd.heap_iso _ (Kd.heap_pair (Kd.heap_int _) (Kd.heap_pair (Kd.heap_int _) (Kd.heap_pair (Kd.heap_int _) Kd.heap_string)))
theorem heap34 : Kd.Heap k34 := Kd.heap_iso _ (Kd.heap_pair Kd.heap_string (Kd.heap_pair (Kd.heap_int _) (Kd.heap_pair (Kd.heap_int _) Kd.heap_string)))
end Go.Proofs.YtjnlmmjadlidlaaDoor.Open
