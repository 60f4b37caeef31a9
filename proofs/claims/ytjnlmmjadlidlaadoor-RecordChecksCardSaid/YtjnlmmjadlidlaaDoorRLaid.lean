/-
  The laid tables of chapter 3's rows: the row's condition gives the premise of the walks; and the heap that the program's own initialisers leave meets it.
-/
import Derived.Test.YtjnlmmjadlidlaaDoorRows
import Derived.Test.YtjnlmmjadlidlaaDoorRGL
import Derived.LaidMore
import Derived.MakeChecks
import Derived.Stop.LaidErr
import Derived.Lib.LaidTab
import Derived.Deep.Strs
namespace Go.Proofs.YtjnlmmjadlidlaaDoor.R3
open Go.RowKit Go.ChangeShapes

theorem own : ownKnob Tryd.prog.godebug = none := by kernel_rfl

theorem door_met03 (os : Os) (args : Array Value) : laidMetH Tryd.prog Rows.recordChecksRow.laid ((World.doorLaid Tryd.prog 400 os).forCall (fun _ _ => 0) ⟨#[], args, []⟩).memory :=
  laidMetH_of_parts3 (fuel := 8) (laidMet_of_run' 8 (by kernel_rfl) (by kernel_rfl)) (by kernel_rfl) (by kernel_rfl)

set_option maxRecDepth 100000 in
/-- A record of the table that reads as laid holds these three cells. -/
theorem elem_cells {H : Type} {enc : TypeId × Value → H} {w : World} {base : Nat} {sp : Nat → Bool} {held : Bool} {fuel : Nat} {cs : List Value} {s : List UInt8} {n : Int} {b : Bool} {p : List MemPlace}
    (h : DataW.trod enc Tryd.prog w base sp held fuel 121 cs = some (.agg [.lit (.string s), .lit (.int .i64 n), .lit (.bool b)], p)) : cs = PRec.typeCells (s, n, b) := by
  obtain ⟨y0, y1, y2, k, hx, hl, h0, h1, h2⟩ := Go.Deep.trod_struct3 Tryd.underlying121 h
  have hl3 : cs.length = 3 := hl.trans (by kernel_rfl)
  obtain ⟨c0, c1, c2, rfl⟩ : ∃ c0 c1 c2, cs = [c0, c1, c2] := by
    match cs, hl3 with
    | [a, b, c], _ => exact ⟨a, b, c, rfl⟩
  simp only [Prod.mk.injEq, DataW.agg.injEq, List.cons.injEq] at hx
  obtain ⟨⟨e0, e1, e2, _⟩, _⟩ := hx
  have k0 : Tryd.prog.cellsOf 9 = 1 := by kernel_rfl
  have k1 : Tryd.prog.cellsOf 3 = 1 := by kernel_rfl
  have k2 : Tryd.prog.cellsOf 4 = 1 := by kernel_rfl
  obtain ⟨s0, q0, r0, _⟩ := DataW.trod_string Tryd.underlying9 h0
  obtain ⟨n0, q1, r1, _⟩ := DataW.trod_int Tryd.underlying3 h1
  obtain ⟨b0, q2, r2⟩ := DataW.trod_bool Tryd.underlying4 h2
  simp [k0] at q0
  simp [k1] at q1
  simp [k2] at q2
  rw [r0] at e0
  rw [r1] at e1
  rw [r2] at e2
  simp only [DataW.lit.injEq, Lit.string.injEq, Lit.int.injEq, Lit.bool.injEq, true_and] at e0 e1 e2
  subst q0 q1 q2
  show _ = [Value.string ⟨s.toArray⟩, Value.int .i64 n, Value.bool b]
  rw [e0, e1, e2]

theorem triples : ∀ (n : Nat) (l : List Value), l.length = 3 * n → l = (List.range n).flatMap fun i => (l.drop (i * 3)).take 3
  | 0, l, h => by
    rw [List.length_eq_zero_iff.1 (by omega : l.length = 0)]
    rfl
  | n + 1, l, h => by
    have ih := triples n (l.drop 3) (by rw [List.length_drop]; omega)
    rw [List.range_succ_eq_map, List.flatMap_cons, List.flatMap_map]
    have e : ((List.range n).flatMap fun i => (l.drop ((i + 1) * 3)).take 3) = (List.range n).flatMap fun i => ((l.drop 3).drop (i * 3)).take 3 := by
      congr 1
      funext i
      rw [List.drop_drop, show 3 + i * 3 = (i + 1) * 3 by omega]
    show l = (l.drop (0 * 3)).take 3 ++ ((List.range n).flatMap fun i => (l.drop ((i + 1) * 3)).take 3)
    rw [e, ← ih]
    simp

def typDatum {H : Type} (x : List UInt8 × Int × Bool) : DataW H := .agg [.lit (.string x.1), .lit (.int .i64 x.2.1), .lit (.bool x.2.2)]

set_option maxRecDepth 100000 in
theorem arr_cells {H : Type} {enc : TypeId × Value → H} {w : World} {base : Nat} {sp : Nat → Bool} {held : Bool} {fuel : Nat} {cs : List Value} {p : List MemPlace}
    (h : DataW.trod enc Tryd.prog w base sp held fuel 122 cs = some (.agg (PRec.typesTab.map typDatum), p)) : cs = PRec.typesTab.flatMap PRec.typeCells := by
  have hce : Tryd.prog.cellsOf 121 = 3 := by kernel_rfl
  have hct : Tryd.prog.cellsOf 122 = 30 := by kernel_rfl
  cases fuel with
  | zero => simp [DataW.trod] at h
  | succ fuel =>
    simp only [DataW.trod, Tryd.underlying122, hce, hct] at h
    split at h
    · rename_i hl
      obtain ⟨xs, hm, hx⟩ := Option.map_eq_some_iff.1 h
      have hxs : xs.map (·.1) = PRec.typesTab.map (typDatum (H := H)) := by
        have := congrArg Prod.fst hx
        simpa using this
      have each : ∀ i, i < 10 → (cs.drop (i * 3)).take 3 = PRec.typeCells (PRec.typesTab.getD i ([], 0, false)) := by
        intro i hi
        obtain ⟨b, hb, hf⟩ := Lib.mapM_at hm i i (by simp [hi])
        have h2 : (xs.map (·.1))[i]? = some b.1 := by simp [hb]
        rw [hxs, List.getElem?_map] at h2
        have h3 : PRec.typesTab[i]? = some (PRec.typesTab.getD i ([], 0, false)) := by
          rw [List.getD_eq_getElem?_getD, List.getElem?_eq_getElem (show i < PRec.typesTab.length from hi)]
          rfl
        rw [h3] at h2
        have h4 : b.1 = typDatum (PRec.typesTab.getD i ([], 0, false)) := (Option.some.inj h2).symm
        exact elem_cells (p := b.2) (by rw [hf]; exact congrArg some (Prod.ext h4 rfl))
      have hlen : cs.length = 3 * 10 := by omega
      rw [triples 10 cs hlen]
      have : ∀ i ∈ List.range 10, (cs.drop (i * 3)).take 3 = PRec.typeCells (PRec.typesTab.getD i ([], 0, false)) := fun i hi => each i (List.mem_range.1 hi)
      rw [List.flatMap_def, List.map_congr_left this]
      rfl
    · cases h

set_option maxRecDepth 100000 in
theorem gl_of_laid03 {W : World} (h : laidMetH Tryd.prog Rows.recordChecksRow.laid W) : PRec.GL W := by
  rw [MakeChecks.laidMetH_plain _ _ _ (by kernel_rfl)] at h
  refine ⟨?_, ?_, ?_⟩
  · have h2 := h.tail.tail
    exact Lib.tabIs_of_head (k := .u64) (zs := Lib.pow10Tab) (g := 3) (t := 245) (e := 67) (n := 20) (by kernel_rfl) (by kernel_rfl) (by kernel_rfl) (by kernel_rfl) (by kernel_rfl) (by kernel_rfl) h2
  · have h3 := h.tail.tail.tail
    exact Lib.tabIs_of_head (k := .u8) (zs := PRec.digitsTab) (g := 2) (t := 206) (e := 5) (n := 16) (by kernel_rfl) (by kernel_rfl) (by kernel_rfl) (by kernel_rfl) (by kernel_rfl) (by kernel_rfl) h3
  · have h4 := h.tail.tail.tail.tail
    obtain ⟨ps, ⟨g', t', cs, fuel, p, q, hg', ht', hvar, hd, _, _⟩, _⟩ := h4
    have eg : Tryd.prog.globalNamed "kaudit/record.types" = some 0 := by kernel_rfl
    obtain rfl := Option.some.inj (eg.symm.trans hg')
    have et : (Tryd.prog.globals[0]?).map (·.type) = some 122 := by kernel_rfl
    obtain rfl := Option.some.inj (et.symm.trans ht')
    have hc := arr_cells (p := p) hd
    rw [hvar]
    congr 1
    apply Array.ext'
    rw [hc]
    rfl

end Go.Proofs.YtjnlmmjadlidlaaDoor.R3
