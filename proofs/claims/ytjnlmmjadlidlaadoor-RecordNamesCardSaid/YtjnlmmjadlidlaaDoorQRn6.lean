/-
  A part of the proof of this: RecordNames holds for every input: Name, Number, Single and Types say what the table of types says (the card).
-/
import Derived.Test.YtjnlmmjadlidlaaDoorRows
import Derived.LaidMore
import Derived.MakeChecks
import Derived.Stop.LaidErr
import Derived.Lib.LaidTab
import Derived.Deep.Strs
import Derived.Test.YtjnlmmjadlidlaaDoorQRn5
section
namespace Go.Proofs.YtjnlmmjadlidlaaDoor.Pure3
open Go.RowKit Go.Proofs.YtjnlmmjadlidlaaDoor.PRec Go.Proofs.YtjnlmmjadlidlaaDoorW.PrintWords
theorem refSingle_ev (t : Int) : Ev (fun k => kauditref03_Single.f k t) (typeOne t) := by
  unfold kauditref03_Single.f
  exact Ev.bind (find_ev t) (by rw [find_one]; exact Ev.now _)
def numRes (o : Option (List UInt8 × Int × Bool)) : Int := match o with | some x => x.2.1 | none => 0
theorem num_l0 (s : ByteArray) (d : Nat) : ∀ (k i : Nat), i + d = 10 → d < k → kauditref03_Number.l0 k s kindsL i = some (numRes (findN s i)) := by
  induction d with
  | zero =>
    intro k i hi hk
    obtain ⟨k, rfl⟩ : ∃ m, k = m + 1 := ⟨k - 1, by omega⟩
    obtain rfl : i = 10 := by omega
    simp only [kauditref03_Number.l0]
    rw [if_neg (by decide)]
    rfl
  | succ d ih =>
    intro k i hi hk
    obtain ⟨k, rfl⟩ : ∃ m, k = m + 1 := ⟨k - 1, by omega⟩
    have hl : (kindsL.length : Int) = 10 := rfl
    simp only [kauditref03_Number.l0]
    rw [if_pos (by omega), if_pos (by omega), kinds_at i (by omega)]
    by_cases h : (tName i).toList = s.toList
    · rw [if_pos h, findN_hit (by omega) h]
      rfl
    · rw [if_neg h, findN_miss (by omega) h, wsucc (n := 10) (by omega) (by omega)]
      exact ih k (i + 1) (by omega) (by omega)
theorem refNumber_ev (s : ByteArray) : Ev (fun k => kauditref03_Number.f k s) (typeNum s) := by
  refine ⟨11, fun k hk => ?_⟩
  show kauditref03_Number.f k s = _
  unfold kauditref03_Number.f
  rw [kinds_f]
  have := num_l0 s 10 k 0 (by omega) (by omega)
  refine this.trans ?_
  unfold numRes typeNum
  cases findN s 0 <;> rfl
theorem types_l0 (d : Nat) : ∀ (k i : Nat), i + d = 10 → d < k → kauditref03_Types.l0 k (numsTo i) kindsL i = some (numsTo 10) := by
  induction d with
  | zero =>
    intro k i hi hk
    obtain ⟨k, rfl⟩ : ∃ m, k = m + 1 := ⟨k - 1, by omega⟩
    obtain rfl : i = 10 := by omega
    simp only [kauditref03_Types.l0]
    rw [if_neg (by decide)]
  | succ d ih =>
    intro k i hi hk
    obtain ⟨k, rfl⟩ : ∃ m, k = m + 1 := ⟨k - 1, by omega⟩
    have hl : (kindsL.length : Int) = 10 := rfl
    have hn : (numsTo i).length = i := by simp [numsTo]
    simp only [kauditref03_Types.l0]
    rw [if_pos (by omega), if_pos (by omega), if_pos (by omega), kinds_at i (by omega), numsTo_succ, wsucc (n := 10) (by omega) (by omega)]
    exact ih k (i + 1) (by omega) (by omega)
theorem refTypes_ev : Ev (fun k => kauditref03_Types.f k) (numsTo 10) := by
  refine ⟨11, fun k hk => ?_⟩
  show kauditref03_Types.f k = _
  unfold kauditref03_Types.f
  rw [kinds_f]
  exact types_l0 10 k 0 (by omega) (by omega)
theorem nums_rd : ∀ i : Nat, i < 10 → rd (numsTo 10) (i : Int) = tNum i := by decide
theorem name_row : ∀ i : Nat, i < 10 → typeName (tNum i) = tName i := by
  intro i hi
  match i, hi with
  | 0, _ => rfl
  | 1, _ => rfl
  | 2, _ => rfl
  | 3, _ => rfl
  | 4, _ => rfl
  | 5, _ => rfl
  | 6, _ => rfl
  | 7, _ => rfl
  | 8, _ => rfl
  | 9, _ => rfl
  | i + 10, hi => omega
theorem row_back : ∀ i : Nat, i < 10 → numRes ((typesTab.drop 0).find? fun x => x.1 == (tAt i).1) = tNum i := by decide
theorem num_back (i : Nat) (hi : i < 10) : typeNum (typeName (tNum i)) = tNum i := by
  rw [name_row i hi, ← row_back i hi]
  unfold typeNum findN
  rw [tName_list]
  rfl
theorem names_l0 (t : Int) (s : ByteArray) (d : Nat) : ∀ i : Nat, i + d = 10 → Ev (fun k => kauditlaw03_RecordNames.l0 k t s (numsTo 10) (numsTo 10) (i : Int)) true := by
  have hl : ((numsTo 10).length : Int) = 10 := rfl
  induction d with
  | zero =>
    intro i hi
    refine Ev.step (f := fun k => (kauditref03_Name.f k t).bind fun t191 => (if (typeName t).toList = t191.toList then ((kauditref03_Single.f k t).bind fun t193 => (if (typeOne t == t193) = true then ((kauditref03_Name.f k (wrap64 (1300 + (Int.tmod t 40)))).bind fun t195 => (if (typeName (wrap64 (1300 + (Int.tmod t 40)))).toList = t195.toList then ((kauditref03_Number.f k s).bind fun t197 => (if typeNum s = t197 then ((kauditlaw03_awake.f k).bind fun t198 => (some t198)) else (some false))) else (some false))) else (some false))) else (some false))) (fun k => ?_) ?_
    · simp only [kauditlaw03_RecordNames.l0]
      rw [if_neg (by omega)]
      rfl
    · refine Ev.bind (refName_ev _) (Ev.congr (fun k => if_pos rfl) ?_)
      refine Ev.bind (refSingle_ev _) (Ev.congr (fun k => if_pos (by simp)) ?_)
      refine Ev.bind (refName_ev _) (Ev.congr (fun k => if_pos rfl) ?_)
      refine Ev.bind (refNumber_ev _) (Ev.congr (fun k => if_pos rfl) ?_)
      exact Ev.bind awake_ev (Ev.now true)
  | succ d ih =>
    intro i hi
    have hn := nums_rd i (by omega)
    refine Ev.step (f := fun k => (kauditref03_Name.f k (tNum i)).bind fun t181 => (if (typeName (tNum i)).toList = t181.toList then ((kauditref03_Single.f k (tNum i)).bind fun t185 => (if (typeOne (tNum i) != t185) = true then (some false) else ((kauditref03_Name.f k (tNum i)).bind fun t187 => ((record_Number.f t187).bind fun t188 => (if t188 = tNum i then (kauditlaw03_RecordNames.l0 k t s (numsTo 10) (numsTo 10) ((i + 1 : Nat) : Int)) else (some false)))))) else (some false))) (fun k => ?_) ?_
    · simp only [kauditlaw03_RecordNames.l0]
      rw [if_pos (by omega), if_pos (by omega), if_pos (by omega), if_pos trivial, hn, wsucc (n := 10) (by omega) (by omega)]
      rfl
    · refine Ev.bind (refName_ev _) (Ev.congr (fun k => if_pos rfl) ?_)
      refine Ev.bind (refSingle_ev _) (Ev.congr (fun k => if_neg (by simp)) ?_)
      refine Ev.bind (refName_ev _) ?_
      simp only [record_Number.f, Option.bind_some]
      exact Ev.congr (fun k => if_pos (num_back i (by omega))) (ih (i + 1) (by omega))
theorem RecordNames (a0 : Int) (a1 : ByteArray) (_w0 : (Lit.int .i64 a0).wf = true) (_w1 : a1.size ≤ 140737488351232) : ∃ k, kauditlaw03_RecordNames.f k a0 a1 = some true := by
  refine Ev.rounds ?_
  unfold kauditlaw03_RecordNames.f
  simp only [record_Types.f, Option.bind_some]
  refine Ev.bind refTypes_ev (Ev.congr (fun k => if_pos rfl) ?_)
  exact names_l0 a0 a1 10 0 (by omega)
end Go.Proofs.YtjnlmmjadlidlaaDoor.Pure3
end
section
namespace Go.Proofs.YtjnlmmjadlidlaaDoor.R3
open Go.RowKit Go.ChangeShapes
theorem own : ownKnob Tryd.prog.godebug = none := by kernel_rfl
theorem door_met03 (os : Os) (args : Array Value) : laidMetH Tryd.prog Rows.recordChecksRow.laid ((World.doorLaid Tryd.prog 400 os).forCall (fun _ _ => 0) ⟨#[], args, []⟩).memory :=
  laidMetH_of_parts3 (fuel := 8) (laidMet_of_run' 8 (by kernel_rfl) (by kernel_rfl)) (by kernel_rfl) (by kernel_rfl)
set_option maxRecDepth 100000 in
theorem elem_cells {H : Type} {enc : TypeId × Value → H} {w : World} {base : Nat} {sp : Nat → Bool} {held : Bool} {fuel : Nat} {cs : List Value} {s : List UInt8} {n : Int} {b : Bool} {p : List MemPlace}
    (h : DataW.trod enc Tryd.prog w base sp held fuel 121 cs = some (.agg [.lit (.string s), .lit (.int .i64 n), .lit (.bool b)], p)) : cs = PRec.typeCells (s, n, b) := by
  obtain ⟨y0, y1, y2, k, hx, hl, h0, h1, h2⟩ := Go.Deep.trod_struct3 Tryd.underlying121 h
  have hl3 : cs.length = 3 := hl.trans (by kernel_rfl)
  obtain ⟨c0, c1, c2, rfl⟩ : ∃ c0 c1 c2, cs = [c0, c1, c2] := by
    match cs, hl3 with
    | [a, b, c], _ => exact ⟨a, b, c, rfl⟩
  simp only [Prod.mk.injEq, DataW.agg.injEq, List.cons.injEq] at hx
  obtain ⟨⟨e0, e1, e2, _⟩, _⟩ := hx
  have k0 : Tryd.prog.cellsOf 9 = 1 := by kernel_rfl
  have k1 : Tryd.prog.cellsOf 3 = 1 := by kernel_rfl
  have k2 : Tryd.prog.cellsOf 4 = 1 := by kernel_rfl
  obtain ⟨s0, q0, r0, _⟩ := DataW.trod_string Tryd.underlying9 h0
  obtain ⟨n0, q1, r1, _⟩ := DataW.trod_int Tryd.underlying3 h1
  obtain ⟨b0, q2, r2⟩ := DataW.trod_bool Tryd.underlying4 h2
  simp [k0] at q0
  simp [k1] at q1
  simp [k2] at q2
  rw [r0] at e0
  rw [r1] at e1
  rw [r2] at e2
  simp only [DataW.lit.injEq, Lit.string.injEq, Lit.int.injEq, Lit.bool.injEq, true_and] at e0 e1 e2
  subst q0 q1 q2
  show _ = [Value.string ⟨s.toArray⟩, Value.int .i64 n, Value.bool b]
  rw [e0, e1, e2]
theorem triples : ∀ (n : Nat) (l : List Value), l.length = 3 * n → l = (List.range n).flatMap fun i => (l.drop (i * 3)).take 3
  | 0, l, h => by
    rw [List.length_eq_zero_iff.1 (by omega : l.length = 0)]
    rfl
  | n + 1, l, h => by
    have ih := triples n (l.drop 3) (by rw [List.length_drop]; omega)
    rw [List.range_succ_eq_map, List.flatMap_cons, List.flatMap_map]
    have e : ((List.range n).flatMap fun i => (l.drop ((i + 1) * 3)).take 3) = (List.range n).flatMap fun i => ((l.drop 3).drop (i * 3)).take 3 := by
      congr 1
      funext i
      rw [List.drop_drop, show 3 + i * 3 = (i + 1) * 3 by omega]
    show l = (l.drop (0 * 3)).take 3 ++ ((List.range n).flatMap fun i => (l.drop ((i + 1) * 3)).take 3)
    rw [e, ← ih]
    simp
def typDatum {H : Type} (x : List UInt8 × Int × Bool) : DataW H := .agg [.lit (.string x.1), .lit (.int .i64 x.2.1), .lit (.bool x.2.2)]
set_option maxRecDepth 100000 in
theorem arr_cells {H : Type} {enc : TypeId × Value → H} {w : World} {base : Nat} {sp : Nat → Bool} {held : Bool} {fuel : Nat} {cs : List Value} {p : List MemPlace}
    (h : DataW.trod enc Tryd.prog w base sp held fuel 122 cs = some (.agg (PRec.typesTab.map typDatum), p)) : cs = PRec.typesTab.flatMap PRec.typeCells := by
  have hce : Tryd.prog.cellsOf 121 = 3 := by kernel_rfl
  have hct : Tryd.prog.cellsOf 122 = 30 := by kernel_rfl
  cases fuel with
  | zero => simp [DataW.trod] at h
  | succ fuel =>
    simp only [DataW.trod, Tryd.underlying122, hce, hct] at h
    split at h
    · rename_i hl
      obtain ⟨xs, hm, hx⟩ := Option.map_eq_some_iff.1 h
      have hxs : xs.map (·.1) = PRec.typesTab.map (typDatum (H := H)) := by
        have := congrArg Prod.fst hx
        simpa using this
      have each : ∀ i, i < 10 → (cs.drop (i * 3)).take 3 = PRec.typeCells (PRec.typesTab.getD i ([], 0, false)) := by
        intro i hi
        obtain ⟨b, hb, hf⟩ := Lib.mapM_at hm i i (by simp [hi])
        have h2 : (xs.map (·.1))[i]? = some b.1 := by simp [hb]
        rw [hxs, List.getElem?_map] at h2
        have h3 : PRec.typesTab[i]? = some (PRec.typesTab.getD i ([], 0, false)) := by
          rw [List.getD_eq_getElem?_getD, List.getElem?_eq_getElem (show i < PRec.typesTab.length from hi)]
          rfl
        rw [h3] at h2
        have h4 : b.1 = typDatum (PRec.typesTab.getD i ([], 0, false)) := (Option.some.inj h2).symm
        exact elem_cells (p := b.2) (by rw [hf]; exact congrArg some (Prod.ext h4 rfl))
      have hlen : cs.length = 3 * 10 := by omega
      rw [triples 10 cs hlen]
      have : ∀ i ∈ List.range 10, (cs.drop (i * 3)).take 3 = PRec.typeCells (PRec.typesTab.getD i ([], 0, false)) := fun i hi => each i (List.mem_range.1 hi)
      rw [List.flatMap_def, List.map_congr_left this]
      rfl
    · cases h
set_option maxRecDepth 100000 in
theorem gl_of_laid03 {W : World} (h : laidMetH Tryd.prog Rows.recordChecksRow.laid W) : PRec.GL W := by
  rw [MakeChecks.laidMetH_plain _ _ _ (by kernel_rfl)] at h
  refine ⟨?_, ?_, ?_⟩
  · have h2 := h.tail.tail
    exact Lib.tabIs_of_head (k := .u64) (zs := Lib.pow10Tab) (g := 3) (t := 245) (e := 67) (n := 20) (by kernel_rfl) (by kernel_rfl) (by kernel_rfl) (by kernel_rfl) (by kernel_rfl) (by kernel_rfl) h2
  · have h3 := h.tail.tail.tail
    exact Lib.tabIs_of_head (k := .u8) (zs := PRec.digitsTab) (g := 2) (t := 206) (e := 5) (n := 16) (by kernel_rfl) (by kernel_rfl) (by kernel_rfl) (by kernel_rfl) (by kernel_rfl) (by kernel_rfl) h3
  · have h4 := h.tail.tail.tail.tail
    obtain ⟨ps, ⟨g', t', cs, fuel, p, q, hg', ht', hvar, hd, _, _⟩, _⟩ := h4
    have eg : Tryd.prog.globalNamed "kaudit/record.types" = some 0 := by kernel_rfl
    obtain rfl := Option.some.inj (eg.symm.trans hg')
    have et : (Tryd.prog.globals[0]?).map (·.type) = some 122 := by kernel_rfl
    obtain rfl := Option.some.inj (et.symm.trans ht')
    have hc := arr_cells (p := p) hd
    rw [hvar]
    congr 1
    apply Array.ext'
    rw [hc]
    rfl
end Go.Proofs.YtjnlmmjadlidlaaDoor.R3
end
