/-
  record.Name, Single, Number, Types: the table of types.
-/
import Derived.Test.YtjnlmmjadlidlaaDoorRGL
import Derived.Test.YtjnlmmjadlidlaaDoorPNamesx0
import Derived.WalkKit
import Derived.LoopTactic
import Derived.WalkSpells
import Derived.Outline
import Derived.Lib.Hide
import Derived.Lib.SmallJoins
import Derived.Laws.Rows
namespace Go.Proofs.YtjnlmmjadlidlaaDoor.PRec
open Go.RowKit Go.Proofs.YtjnlmmjadlidlaaDoorW.PrintWords

def tAt (k : Nat) : List UInt8 × Int × Bool := typesTab.getD k ([], 0, false)
def tName (k : Nat) : ByteArray := ⟨(tAt k).1.toArray⟩
def tNum (k : Nat) : Int := (tAt k).2.1
def tOne (k : Nat) : Bool := (tAt k).2.2

theorem ix0 (wr : World) : (Instr.index 122 (.agg typesCells) (.int .i64 0)).run Tryd.prog wr = .ok (.agg #[.string (tName 0), .int .i64 (tNum 0), .bool (tOne 0)]) wr := by kernel_rfl
theorem ix1 (wr : World) : (Instr.index 122 (.agg typesCells) (.int .i64 1)).run Tryd.prog wr = .ok (.agg #[.string (tName 1), .int .i64 (tNum 1), .bool (tOne 1)]) wr := by kernel_rfl
theorem ix2 (wr : World) : (Instr.index 122 (.agg typesCells) (.int .i64 2)).run Tryd.prog wr = .ok (.agg #[.string (tName 2), .int .i64 (tNum 2), .bool (tOne 2)]) wr := by kernel_rfl
theorem ix3 (wr : World) : (Instr.index 122 (.agg typesCells) (.int .i64 3)).run Tryd.prog wr = .ok (.agg #[.string (tName 3), .int .i64 (tNum 3), .bool (tOne 3)]) wr := by kernel_rfl
theorem ix4 (wr : World) : (Instr.index 122 (.agg typesCells) (.int .i64 4)).run Tryd.prog wr = .ok (.agg #[.string (tName 4), .int .i64 (tNum 4), .bool (tOne 4)]) wr := by kernel_rfl
theorem ix5 (wr : World) : (Instr.index 122 (.agg typesCells) (.int .i64 5)).run Tryd.prog wr = .ok (.agg #[.string (tName 5), .int .i64 (tNum 5), .bool (tOne 5)]) wr := by kernel_rfl
theorem ix6 (wr : World) : (Instr.index 122 (.agg typesCells) (.int .i64 6)).run Tryd.prog wr = .ok (.agg #[.string (tName 6), .int .i64 (tNum 6), .bool (tOne 6)]) wr := by kernel_rfl
theorem ix7 (wr : World) : (Instr.index 122 (.agg typesCells) (.int .i64 7)).run Tryd.prog wr = .ok (.agg #[.string (tName 7), .int .i64 (tNum 7), .bool (tOne 7)]) wr := by kernel_rfl
theorem ix8 (wr : World) : (Instr.index 122 (.agg typesCells) (.int .i64 8)).run Tryd.prog wr = .ok (.agg #[.string (tName 8), .int .i64 (tNum 8), .bool (tOne 8)]) wr := by kernel_rfl
theorem ix9 (wr : World) : (Instr.index 122 (.agg typesCells) (.int .i64 9)).run Tryd.prog wr = .ok (.agg #[.string (tName 9), .int .i64 (tNum 9), .bool (tOne 9)]) wr := by kernel_rfl
theorem index_types (k : Nat) (hk : k < 10) (wr : World) : (Instr.index 122 (.agg typesCells) (.int .i64 (k : Int))).run Tryd.prog wr = .ok (.agg #[.string (tName k), .int .i64 (tNum k), .bool (tOne k)]) wr := by
  match k, hk with
  | 0, _ => exact ix0 wr
  | 1, _ => exact ix1 wr
  | 2, _ => exact ix2 wr
  | 3, _ => exact ix3 wr
  | 4, _ => exact ix4 wr
  | 5, _ => exact ix5 wr
  | 6, _ => exact ix6 wr
  | 7, _ => exact ix7 wr
  | 8, _ => exact ix8 wr
  | 9, _ => exact ix9 wr
  | k + 10, hk => omega

/-- The first row whose number is t, from row k on. -/
def findT (t : Int) (k : Nat) : Option (List UInt8 × Int × Bool) := (typesTab.drop k).find? fun x => x.2.1 == t
theorem drop_types : ∀ k, k < 10 → typesTab.drop k = tAt k :: typesTab.drop (k + 1) := by decide
theorem findT_hit {t : Int} {k : Nat} (hk : k < 10) (h : tNum k = t) : findT t k = some (tAt k) := by
  unfold findT
  rw [drop_types k hk, List.find?_cons, show ((tAt k).2.1 == t) = true from by simpa [tNum] using h]
theorem findT_miss {t : Int} {k : Nat} (hk : k < 10) (h : ¬ tNum k = t) : findT t k = findT t (k + 1) := by
  unfold findT
  rw [drop_types k hk, List.find?_cons, show ((tAt k).2.1 == t) = false from by simpa [tNum] using h]
theorem findT_end (t : Int) : findT t 10 = none := rfl

/-- The name of a type, or the empty text. -/
def typeName (t : Int) : ByteArray := match findT t 0 with | some x => ⟨x.1.toArray⟩ | none => ⟨#[]⟩
def typeOne (t : Int) : Bool := match findT t 0 with | some x => x.2.2 | none => false

set_option maxRecDepth 100000 in
set_option maxHeartbeats 4000000 in
theorem name_in (t : Int) (w : World) (hG : GL w) :
    Calls Tryd.prog 42 #[.int .i64 t] w fun e w' => e = .returned (.string (typeName t)) ∧ Below w.heap.size w w' := by
  obtain ⟨tt, fr, hg0⟩ := types_block hG
  have hu122 := Tryd.underlying122
  have hu121 := Tryd.underlying121
  clear hG
  go_enter Tryd.func42, Tryd.ntmps42
  go_wp2_with (refine wpList_load_row rfl 122 _ rfl 0 rfl tt typesCells fr _ hg0 Tryd.underlying122 rfl (by kernel_rfl) ?_)
  go_loopw [6] (fun i wr => ∃ k : Nat, k ≤ 10 ∧ i = .int .i64 k ∧ findT t 0 = findT t k ∧ Below w.heap.size w wr) (fun i _ => (10 - (intOf i).toNat))
  case atStart => exact ⟨0, by omega, rfl, rfl, Below.refl _ w⟩
  case round =>
    obtain ⟨k, hk, rfl, hf, hbel⟩ := hrel
    by_cases hlt : k < 10
    · have HL := Lib.hid hbel
      have hidx := index_types k hlt wr
      by_cases hn : tNum k = t
      · have hres : typeName t = tName k := by unfold typeName; rw [hf, findT_hit hlt hn]; rfl
        clear hbel hf
        rw [hn] at hidx
        clear hn
        generalize tName k = nm at hidx hres
        generalize tOne k = on at hidx
        go_wp2
        go_ret
        exact ⟨by rw [hres]; rfl, HL.out.alloc HL.out.size _⟩
      · have hnext : findT t 0 = findT t (k + 1) := by rw [hf, findT_miss hlt hn]
        clear hbel hf
        generalize tName k = nm at hidx
        generalize tNum k = nu at hidx hn
        generalize tOne k = on at hidx
        go_wp2
        exact ⟨⟨k + 1, by omega, by go_num, hnext, HL.out.alloc HL.out.size _⟩, by simp [intOf]; omega⟩
    · obtain rfl : k = 10 := by omega
      have hres : typeName t = ⟨#[]⟩ := by unfold typeName; rw [hf, findT_end]
      clear hf
      go_wp2
      go_ret
      exact ⟨by rw [hres]; rfl, hbel⟩

set_option maxRecDepth 100000 in
set_option maxHeartbeats 4000000 in
theorem single_in (t : Int) (w : World) (hG : GL w) :
    Calls Tryd.prog 44 #[.int .i64 t] w fun e w' => e = .returned (.bool (typeOne t)) ∧ Below w.heap.size w w' := by
  obtain ⟨tt, fr, hg0⟩ := types_block hG
  have hu122 := Tryd.underlying122
  have hu121 := Tryd.underlying121
  clear hG
  go_enter Tryd.func44, Tryd.ntmps44
  go_wp2_with (refine wpList_load_row rfl 122 _ rfl 0 rfl tt typesCells fr _ hg0 Tryd.underlying122 rfl (by kernel_rfl) ?_)
  go_loopw [6] (fun i wr => ∃ k : Nat, k ≤ 10 ∧ i = .int .i64 k ∧ findT t 0 = findT t k ∧ Below w.heap.size w wr) (fun i _ => (10 - (intOf i).toNat))
  case atStart => exact ⟨0, by omega, rfl, rfl, Below.refl _ w⟩
  case round =>
    obtain ⟨k, hk, rfl, hf, hbel⟩ := hrel
    by_cases hlt : k < 10
    · have HL := Lib.hid hbel
      have hidx := index_types k hlt wr
      by_cases hn : tNum k = t
      · have hres : typeOne t = tOne k := by unfold typeOne; rw [hf, findT_hit hlt hn]; rfl
        clear hbel hf
        rw [hn] at hidx
        clear hn
        generalize tName k = nm at hidx
        generalize tOne k = on at hidx hres
        go_wp2
        go_ret
        exact ⟨by rw [hres]; rfl, HL.out.alloc HL.out.size _⟩
      · have hnext : findT t 0 = findT t (k + 1) := by rw [hf, findT_miss hlt hn]
        clear hbel hf
        generalize tName k = nm at hidx
        generalize tNum k = nu at hidx hn
        generalize tOne k = on at hidx
        go_wp2
        exact ⟨⟨k + 1, by omega, by go_num, hnext, HL.out.alloc HL.out.size _⟩, by simp [intOf]; omega⟩
    · obtain rfl : k = 10 := by omega
      have hres : typeOne t = false := by unfold typeOne; rw [hf, findT_end]
      clear hf
      go_wp2
      go_ret
      exact ⟨by rw [hres]; rfl, hbel⟩

/-- The first row with this name, from row k on. -/
def findN (s : ByteArray) (k : Nat) : Option (List UInt8 × Int × Bool) := (typesTab.drop k).find? fun x => x.1 == s.toList
theorem tName_list (k : Nat) : (tName k).toList = (tAt k).1 := by rw [ByteArray.toList_eq]; simp [tName]
theorem findN_hit {s : ByteArray} {k : Nat} (hk : k < 10) (h : (tName k).toList = s.toList) : findN s k = some (tAt k) := by
  rw [tName_list] at h
  unfold findN
  rw [drop_types k hk, List.find?_cons, show ((tAt k).1 == s.toList) = true from by simpa using h]
theorem findN_miss {s : ByteArray} {k : Nat} (hk : k < 10) (h : ¬ (tName k).toList = s.toList) : findN s k = findN s (k + 1) := by
  rw [tName_list] at h
  unfold findN
  rw [drop_types k hk, List.find?_cons, show ((tAt k).1 == s.toList) = false from by simpa using h]
theorem findN_end (s : ByteArray) : findN s 10 = none := rfl
/-- The number of a name, or 0. -/
def typeNum (s : ByteArray) : Int := match findN s 0 with | some x => x.2.1 | none => 0

set_option maxRecDepth 100000 in
set_option maxHeartbeats 4000000 in
theorem number_in (s : ByteArray) (w : World) (hG : GL w) :
    Calls Tryd.prog 46 #[.string s] w fun e w' => e = .returned (.int .i64 (typeNum s)) ∧ Below w.heap.size w w' := by
  obtain ⟨tt, fr, hg0⟩ := types_block hG
  have hu122 := Tryd.underlying122
  have hu121 := Tryd.underlying121
  clear hG
  go_enter Tryd.func46, Tryd.ntmps46
  go_wp2_with (refine wpList_load_row rfl 122 _ rfl 0 rfl tt typesCells fr _ hg0 Tryd.underlying122 rfl (by kernel_rfl) ?_)
  go_loopw [6] (fun i wr => ∃ k : Nat, k ≤ 10 ∧ i = .int .i64 k ∧ findN s 0 = findN s k ∧ Below w.heap.size w wr) (fun i _ => (10 - (intOf i).toNat))
  case atStart => exact ⟨0, by omega, rfl, rfl, Below.refl _ w⟩
  case round =>
    obtain ⟨k, hk, rfl, hf, hbel⟩ := hrel
    by_cases hlt : k < 10
    · have HL := Lib.hid hbel
      have hidx := index_types k hlt wr
      by_cases hn : (tName k).toList = s.toList
      · have hres : typeNum s = tNum k := by unfold typeNum; rw [hf, findN_hit hlt hn]; rfl
        have hb : ((tName k).toList == s.toList) = true := by simpa using hn
        clear hbel hf hn
        generalize tName k = nm at hidx hb
        generalize tNum k = nu at hidx hres
        generalize tOne k = on at hidx
        go_wp2
        go_ret
        exact ⟨by rw [hres]; rfl, HL.out.alloc HL.out.size _⟩
      · have hnext : findN s 0 = findN s (k + 1) := by rw [hf, findN_miss hlt hn]
        have hb : ((tName k).toList == s.toList) = false := by simpa using hn
        clear hbel hf hn
        generalize tName k = nm at hidx hb
        generalize tNum k = nu at hidx
        generalize tOne k = on at hidx
        go_wp2
        exact ⟨⟨k + 1, by omega, by go_num, hnext, HL.out.alloc HL.out.size _⟩, by simp [intOf]; omega⟩
    · obtain rfl : k = 10 := by omega
      have hres : typeNum s = 0 := by unfold typeNum; rw [hf, findN_end]
      clear hf
      go_wp2
      go_ret
      exact ⟨by rw [hres]; rfl, hbel⟩

def record_Name.f (a0 : Int) : Option ByteArray := some (typeName a0)
theorem record_Name.calls (a0 : Int) (r : ByteArray) (w : World) (hG : GL w) (h : record_Name.f a0 = some r) :
    Calls Tryd.prog 42 #[.int .i64 a0] w fun e w' => e = .returned (.string r) ∧ Below w.heap.size w w' := by
  obtain rfl := Option.some.inj h
  exact name_in a0 w hG
def record_Single.f (a0 : Int) : Option Bool := some (typeOne a0)
theorem record_Single.calls (a0 : Int) (r : Bool) (w : World) (hG : GL w) (h : record_Single.f a0 = some r) :
    Calls Tryd.prog 44 #[.int .i64 a0] w fun e w' => e = .returned (.bool r) ∧ Below w.heap.size w w' := by
  obtain rfl := Option.some.inj h
  exact single_in a0 w hG
def record_Number.f (a0 : ByteArray) : Option Int := some (typeNum a0)
theorem record_Number.calls (a0 : ByteArray) (r : Int) (w : World) (hG : GL w) (h : record_Number.f a0 = some r) :
    Calls Tryd.prog 46 #[.string a0] w fun e w' => e = .returned (.int .i64 r) ∧ Below w.heap.size w w' := by
  obtain rfl := Option.some.inj h
  exact number_in a0 w hG

end Go.Proofs.YtjnlmmjadlidlaaDoor.PRec
