/-
  names.Name in the form in which the printed callers ask it.
-/
import Derived.Test.YtjnlmmjadlidlaaDoorNE3b
namespace Go.Proofs.YtjnlmmjadlidlaaDoor.PNames
open Go.RowKit Go.Shelf Go.Proofs.YtjnlmmjadlidlaaDoorW.PrintWords

/-- The last naming that hits, from the back. -/
def findBack (l : List S47) (kind id time : Int) : Option S47 := l.reverse.find? (hit kind id time)

theorem bk_rev (l : List S47) (j : Nat) (hj : j < l.length) : (bk l j).2 = l.reverse[j]'(by simpa using hj) := by
  unfold bk rd_T47
  simp only [List.getElem_reverse]
  rw [show ((l.length : Int) - 1 - j).toNat = l.length - 1 - j from by omega, List.getD_eq_getElem?_getD, List.getElem?_eq_getElem (by omega)]
  rfl

theorem findBack_none {l : List S47} {kind id time : Int} (h : ∀ x ∈ upto (bk l) l.length, hit kind id time x.2 = false) : findBack l kind id time = none := by
  unfold findBack
  rw [List.find?_eq_none]
  intro x hx
  obtain ⟨j, hj, rfl⟩ := List.mem_iff_getElem.1 hx
  have hj' : j < l.length := by simpa using hj
  have := h (bk l j) (by simp only [upto, List.mem_map, List.mem_range]; exact ⟨j, hj', rfl⟩)
  rw [bk_rev l j hj'] at this
  rw [this]; exact Bool.false_ne_true

theorem findBack_some {l : List S47} {kind id time : Int} {k : Nat} (hk : k < l.length) (h : hit kind id time (bk l k).2 = true) (hb : ∀ j, j < k → hit kind id time (bk l j).2 = false) : findBack l kind id time = some (bk l k).2 := by
  unfold findBack
  rw [List.find?_eq_some_iff_getElem]
  refine ⟨h, k, by simpa using hk, (bk_rev l k hk).symm, fun j hj => ?_⟩
  have := hb j hj
  rw [bk_rev l j (by omega)] at this
  simpa using this

def names_Name.f (l0 : List S47) (a1 a2 a3 : Int) : Option (ByteArray × Bool) :=
  match findBack l0 a1 a2 a3 with
  | some x => some (x.f3, !x.f3.toList.isEmpty)
  | none => some (⟨#[]⟩, false)

theorem names_Name.calls (A0 : Option Addr) (c0 : Nat) (l0 : List S47) (a1 : Int) (a2 : Int) (a3 : Int) (r1 : ByteArray) (r2 : Bool) (w : World) (hr0 : Kd.C k47 w A0 l0.length l0) (_hc0 : l0.length ≤ c0) (h : names_Name.f l0 a1 a2 a3 = some (r1, r2)) :
    Calls Tryd.prog 65 #[.slice A0 l0.length c0, .int .i64 a1, .int .i64 a2, .int .i64 a3] w fun e w' => e = .returned (.tuple #[.string r1, .bool r2]) ∧ Below w.heap.size w w' := by
  refine (callsIn_wide (n := 6)).1 ((name_in Fence.wide 6 trivial trivial trivial rfl (by omega) A0 c0 l0 a1 a2 a3 w hr0).mono ?_)
  rintro e w' ⟨⟨rfl, hn⟩ | ⟨k, hk, rfl, hh, hb⟩, hbel⟩
  · rw [names_Name.f, findBack_none hn] at h
    simp only [Option.some.injEq, Prod.mk.injEq] at h
    obtain ⟨rfl, rfl⟩ := h
    exact ⟨rfl, hbel⟩
  · rw [names_Name.f, findBack_some hk hh hb] at h
    simp only [Option.some.injEq, Prod.mk.injEq] at h
    obtain ⟨rfl, rfl⟩ := h
    exact ⟨rfl, hbel⟩

end Go.Proofs.YtjnlmmjadlidlaaDoor.PNames
