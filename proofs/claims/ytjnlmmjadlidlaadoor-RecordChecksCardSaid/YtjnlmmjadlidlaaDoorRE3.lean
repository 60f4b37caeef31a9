/-
  record.Format: the line of a record, by a strings.Builder.
-/
import Derived.Test.YtjnlmmjadlidlaaDoorRShelf
import Derived.Test.YtjnlmmjadlidlaaDoorRE0
import Derived.Test.YtjnlmmjadlidlaaDoorRE1
import Derived.Test.YtjnlmmjadlidlaaDoorPRecx4
import Derived.Test.YtjnlmmjadlidlaaDoorPRecx5
import Derived.Deep.RegionHeld3
namespace Go.Proofs.YtjnlmmjadlidlaaDoor.PRec
open Go.RowKit Go.Proofs.YtjnlmmjadlidlaaDoorW.PrintWords

/-- A builder that holds this text. -/
def Bd (B b : Nat) (s : ByteArray) (W : World) : Prop := Lib.IsBuilder 113 5 B b (Lib.byteCells s.data.toList) W

theorem builder_stays {B b : Nat} {p : Value} {bs : List Value} {w w' : World} (h : Lib.BuilderAt 113 5 B b p bs w) (hb : Below w.heap.size w w') : Lib.BuilderAt 113 5 B b p bs w' := by
  obtain ⟨hB, v, hbk, hown, hne⟩ := h
  exact ⟨hB, v, blk_below hbk hb, own_move hown (fun k hk => hb.block k (hown.lt k hk).2), hne⟩
theorem Bd.stays {B b : Nat} {s : ByteArray} {w w' : World} (h : Bd B b s w) (hb : Below w.heap.size w w') : Bd B b s w' := h.elim (fun h => .inl (builder_stays h hb)) (fun h => .inr (builder_stays h hb))
theorem bd_new (W : World) : Bd W.heap.size W.heap.size ⟨#[]⟩ (W.alloc (.cells #[.pointer none, .slice none 0 0] 113)) := Lib.fresh_isBuilder 113 5 W
theorem strCells_eq (s : ByteArray) : Lib.strCells s = Lib.byteCells s.data.toList := rfl
theorem bd_write {B b : Nat} {s t : ByteArray} {W : World} (h : Bd B b s W) (hB : B ≤ W.heap.size) (hl : s.size + t.size ≤ 140737488355328) :
    Calls Tryd.prog 78 #[.pointer (some ⟨b, 0, none⟩), .string t] W fun e w' => e = .returned (.tuple #[.int .i64 t.size, .nilIface]) ∧ Bd B b (s ++ t) w' ∧ Below B W w' := by
  refine (Tryd.Builder_WriteString B b _ t W h (by rw [Lib.byteCells_length]; exact hl) hB).mono ?_
  rintro e w' ⟨rfl, h1, h2⟩
  refine ⟨rfl, .inr ?_, h2⟩
  have e : Lib.byteCells (s ++ t).data.toList = Lib.byteCells s.data.toList ++ Lib.strCells t := by rw [strCells_eq, ByteArray.data_append, Array.toList_append]; simp [Lib.byteCells]
  rw [e]
  exact h1
theorem bd_string {B b : Nat} {s : ByteArray} {W : World} (h : Bd B b s W) (hB : B ≤ W.heap.size) :
    Calls Tryd.prog 81 #[.pointer (some ⟨b, 0, none⟩)] W fun e w' => e = .returned (.string s) ∧ Below B W w' := by
  refine (Tryd.Builder_String_any B b s.data.toList W h hB).mono ?_
  rintro e w' ⟨rfl, h1⟩
  exact ⟨rfl, h1⟩

/-- The line's beginning: the type, the time's seconds; its milliseconds; the serial number. -/
def head1 (a0 a1 : Int) : ByteArray := ((((⟨#[116, 121, 112, 101, 61]⟩ : ByteArray) ++ typeName a0) ++ (⟨#[32, 109, 115, 103, 61, 97, 117, 100, 105, 116, 40]⟩ : ByteArray)) ++ ⟨(Lib.itoa (Int.tdiv a1 1000)).toArray⟩) ++ (⟨#[46]⟩ : ByteArray)
def msS (a1 : Int) : ByteArray := ⟨(Lib.itoa (Int.tmod a1 1000)).toArray⟩
def head2 (a1 : Int) : ByteArray := (⟨(Lib.repeatL [48] (3 - (msS a1).size)).toArray⟩ : ByteArray) ++ msS a1
def head3 (a2 : Int) : ByteArray := ((⟨#[58]⟩ : ByteArray) ++ ⟨(Lib.itoa a2).toArray⟩) ++ (⟨#[41, 58]⟩ : ByteArray)

/-- The pairs behind a line's beginning. -/
def fmtPairs (k : Nat) : List S34 → ByteArray → Option (ByteArray × Int)
  | [], s => some (s, 0)
  | p :: r, s => (value_Format.f k p.f0 p.f1 p.f2 p.f3).bind fun t => if t.2 = 0 then (if s.size + (1 + t.1.size) ≤ 140737488355328 then fmtPairs k r (s ++ ((⟨#[32]⟩ : ByteArray) ++ t.1)) else none) else some (⟨#[]⟩, t.2)

def record_Format.f (k : Nat) (a0_0 a0_1 a0_2 : Int) (l0_3 : List S34) : Option (ByteArray × Int) :=
  (record_Check.f k a0_0 a0_1 a0_2 l0_3).bind fun e => if e = 0 then
    (if (0 ≤ a0_1 ∧ a0_1 ≤ 4611686018427387904) ∧ (0 ≤ a0_2 ∧ a0_2 ≤ 4611686018427387904) then fmtPairs k l0_3 ((head1 a0_0 a0_1 ++ head2 a0_1) ++ head3 a0_2) else none) else some (⟨#[]⟩, e)

theorem fmtPairs.mono (k : Nat) : ∀ (l : List S34) (s : ByteArray), LeO (fmtPairs k l s) (fmtPairs (k + 1) l s)
  | [], _ => LeO.refl _
  | p :: r, s => by
    unfold fmtPairs
    refine LeO.bind (value_Format.mono _ _ _ _ _) (fun t => ?_)
    refine LeO.ite (LeO.ite (fmtPairs.mono k r _) (LeO.refl _)) (LeO.refl _)
theorem record_Format.mono : ∀ a0 a1 a2 a3 k, LeO (record_Format.f k a0 a1 a2 a3) (record_Format.f (k + 1) a0 a1 a2 a3) := by
  intro a0 a1 a2 a3 k
  unfold record_Format.f
  refine LeO.bind (record_Check.mono _ _ _ _ _) (fun t => ?_)
  exact LeO.ite (LeO.ite (fmtPairs.mono k _ _) (LeO.refl _)) (LeO.refl _)

theorem empty_app (s : ByteArray) : (⟨#[]⟩ : ByteArray) ++ s = s := by
  apply ByteArray.ext
  rw [ByteArray.data_append]
  simp
theorem head_size (nm t1 : ByteArray) : (((((⟨#[116, 121, 112, 101, 61]⟩ : ByteArray) ++ nm) ++ (⟨#[32, 109, 115, 103, 61, 97, 117, 100, 105, 116, 40]⟩ : ByteArray)) ++ t1) ++ (⟨#[46]⟩ : ByteArray)).size = nm.size + t1.size + 17 := by
  simp only [ByteArray.size_append]
  show 5 + nm.size + 11 + t1.size + 1 = _
  omega
theorem typeName_le (t : Int) : (typeName t).size ≤ 8 := by
  unfold typeName
  cases h : findT t 0 with
  | none => exact Nat.zero_le _
  | some x =>
    have hm := List.mem_of_find?_eq_some h
    have hall : ∀ x ∈ typesTab.drop 0, x.1.length ≤ 8 := by decide
    simpa [ByteArray.size] using hall x hm
theorem digits_le : ∀ (m u : Nat), u < 10 ^ (m + 1) → (Lib.decDigits u).length ≤ m + 1 := by
  intro m
  induction m with
  | zero => intro u h; rw [Lib.decDigits, dif_pos (by omega)]; simp
  | succ m ih =>
    intro u h
    rw [Lib.decDigits]
    split
    · simp
    · have := ih (u / 10) (by rw [Nat.pow_succ] at h; omega)
      simp only [List.length_append, List.length_cons, List.length_nil]
      omega
theorem ms_le {a : Int} (h : 0 ≤ a) : (msS a).size ≤ 3 := by
  have e : Int.tmod a 1000 = a % 1000 := Int.tmod_eq_emod_of_nonneg h
  show (Lib.itoa (Int.tmod a 1000)).toArray.size ≤ 3
  rw [e]
  unfold Lib.itoa
  rw [if_neg (by omega)]
  have := digits_le 2 (a % 1000).toNat (by omega)
  simpa using this
theorem drop_T34 (l : List S34) (i : Nat) (h : i < l.length) : l.drop i = rd_T34 l (i : Int) :: l.drop (i + 1) := by
  unfold rd_T34
  rw [Int.toNat_natCast, List.getD_eq_getElem?_getD, List.getElem?_eq_getElem h, Option.getD_some]
  exact List.drop_eq_getElem_cons h
theorem wrap_succ {j : Nat} (h : j + 1 ≤ 9223372036854775807) : wrap64 ((j : Int) + 1) = ((j + 1 : Nat) : Int) := by unfold wrap64; omega
theorem meas_lt {n j : Nat} (h : j + 1 ≤ n) : n - (intOf (.int .i64 ((j + 1 : Nat) : Int))).toNat < n - (intOf (.int .i64 (j : Int))).toNat := by
  show n - (((j + 1 : Nat) : Int)).toNat < n - ((j : Int)).toNat
  rw [Int.toNat_natCast, Int.toNat_natCast]
  omega
theorem head3_size (t : ByteArray) : (((⟨#[58]⟩ : ByteArray) ++ t) ++ (⟨#[41, 58]⟩ : ByteArray)).size = t.size + 3 := by
  simp only [ByteArray.size_append]
  show 1 + t.size + 2 = _
  omega
theorem sp_size (t : ByteArray) : ((⟨#[32]⟩ : ByteArray) ++ t).size = 1 + t.size := by
  rw [ByteArray.size_append]
  rfl
theorem itoa_le (n : Int) (h0 : -9223372036854775808 ≤ n) (h1 : n ≤ 9223372036854775807) : (⟨(Lib.itoa n).toArray⟩ : ByteArray).size ≤ 21 := by
  show (Lib.itoa n).toArray.size ≤ 21
  unfold Lib.itoa
  split
  · have := digits_le 19 n.natAbs (by omega)
    simp; omega
  · have := digits_le 19 n.toNat (by omega)
    simp; omega

set_option maxRecDepth 100000 in
set_option maxHeartbeats 8000000 in
theorem format_bad (k : Nat) (a0_0 a0_1 a0_2 : Int) (A0_3 : Option Addr) (c0_3 : Nat) (l0_3 : List S34) (ec : Int) (w : World) (hr0_3 : Kd.C k34 w A0_3 l0_3.length l0_3) (hc0_3 : l0_3.length ≤ c0_3) (hG : GL w) (hck : record_Check.f k a0_0 a0_1 a0_2 l0_3 = some ec) (he : ¬ ec = 0) :
    Calls Tryd.prog 36 #[.agg #[.int .i64 a0_0, .int .i64 a0_1, .int .i64 a0_2, .slice A0_3 l0_3.length c0_3]] w fun e w' => e = .returned (.tuple #[.string ⟨#[]⟩, .int .i64 ec]) ∧ Below w.heap.size w w' := by
  have hu50 := Tryd.underlying50
  have hu34 := Tryd.underlying34
  have HR := Aside0.mk hr0_3
  have HC := Aside0.mk hc0_3
  have HGL := Aside0.mk hG
  have HCK := Aside0.mk hck
  clear hr0_3 hc0_3 hG hck
  have he0 : (ec == 0) = false := by simpa using he
  have he1 : (ec != 0) = true := by simpa using he
  go_enter Tryd.func36, Tryd.ntmps36
  go_wp2_with (first | ((with_reducible refine gate_dst (N := 1) rfl ?_); refine box_event ?hg (N := 1) ?hd (cs := #[.int .i64 a0_0, .int .i64 a0_1, .int .i64 a0_2, .slice A0_3 l0_3.length c0_3]) (t := 50) ?hr ?_; (case hd => rfl); (case hg => rfl); (case hr => first | (go_simp; done) | (go_simp; rfl)); intro gr hg w1 hbox hb; have BK := Aside0.mk hbox; have HB := Aside0.mk hb; have GR := Aside0.mk hg; have hz0 : w1.cell? ⟨gr, 0, none⟩ = some (.int .i64 a0_0) := (blk_cell BK.out 0).trans rfl; have hz1 : w1.cell? ⟨gr, 1, none⟩ = some (.int .i64 a0_1) := (blk_cell BK.out 1).trans rfl; have hz2 : w1.cell? ⟨gr, 2, none⟩ = some (.int .i64 a0_2) := (blk_cell BK.out 2).trans rfl; have hz3 : w1.cell? ⟨gr, 3, none⟩ = some (.slice A0_3 l0_3.length c0_3) := (blk_cell BK.out 3).trans rfl; clear hg hbox hb))
  refine (record_Check.calls k a0_0 a0_1 a0_2 _ _ l0_3 ec _ ?s1 ?s2 ?s3 HCK.out).mono ?_
  case s1 => exact Kd.C_below HR.out HB.out
  case s2 => exact HC.out
  case s3 => exact GL.below HGL.out HB.out
  rintro e w2 ⟨rfl, hb⟩
  clear hz0 hz1 hz2 hz3
  have HB2 := Aside0.mk (below_step HB.out hb)
  clear BK HB hb
  go_wp2_with fail
  go_ret2
  exact ⟨rfl, HB2.out⟩

set_option maxRecDepth 100000 in
set_option maxHeartbeats 8000000 in
theorem record_Format.calls (k : Nat) (a0_0 a0_1 a0_2 : Int) (A0_3 : Option Addr) (c0_3 : Nat) (l0_3 : List S34) (r1 : ByteArray) (r2 : Int) (w : World) (hr0_3 : Kd.C k34 w A0_3 l0_3.length l0_3) (hc0_3 : l0_3.length ≤ c0_3) (hG : GL w) (h : record_Format.f k a0_0 a0_1 a0_2 l0_3 = some (r1, r2)) :
    Calls Tryd.prog 36 #[.agg #[.int .i64 a0_0, .int .i64 a0_1, .int .i64 a0_2, .slice A0_3 l0_3.length c0_3]] w fun e w' => e = .returned (.tuple #[.string r1, .int .i64 r2]) ∧ Below w.heap.size w w' := by
  have hu50 := Tryd.underlying50
  have hu34 := Tryd.underlying34
  have HR := Aside0.mk hr0_3
  have HC := Aside0.mk hc0_3
  have HGL := Aside0.mk hG
  clear hr0_3 hc0_3 hG
  obtain ⟨ec, hck, H⟩ := Option.bind_eq_some_iff.1 h
  have HCK := Aside0.mk hck
  clear h hck
  by_cases he : ec = 0
  · rw [if_pos he] at H
    have he0 : (ec == 0) = true := by simpa using he
    have he1 : (ec != 0) = false := by simpa using he
    have HH := Aside0.mk H
    clear H
    subst he
    go_enter Tryd.func36, Tryd.ntmps36
    go_wp2_with (first | ((with_reducible refine gate_dst (N := 1) rfl ?_); refine box_event ?hg (N := 1) ?hd (cs := #[.int .i64 a0_0, .int .i64 a0_1, .int .i64 a0_2, .slice A0_3 l0_3.length c0_3]) (t := 50) ?hr ?_; (case hd => rfl); (case hg => rfl); (case hr => first | (go_simp; done) | (go_simp; rfl)); intro gr hg w1 hbox hb; have BK := Aside0.mk hbox; have HB := Aside0.mk hb; have GR := Aside0.mk hg; have hz0 : w1.cell? ⟨gr, 0, none⟩ = some (.int .i64 a0_0) := (blk_cell BK.out 0).trans rfl; have hz1 : w1.cell? ⟨gr, 1, none⟩ = some (.int .i64 a0_1) := (blk_cell BK.out 1).trans rfl; have hz2 : w1.cell? ⟨gr, 2, none⟩ = some (.int .i64 a0_2) := (blk_cell BK.out 2).trans rfl; have hz3 : w1.cell? ⟨gr, 3, none⟩ = some (.slice A0_3 l0_3.length c0_3) := (blk_cell BK.out 3).trans rfl; clear hg hbox hb))
    refine (record_Check.calls k a0_0 a0_1 a0_2 _ _ l0_3 0 _ ?s1 ?s2 ?s3 HCK.out).mono ?_
    case s1 => exact Kd.C_below HR.out HB.out
    case s2 => exact HC.out
    case s3 => exact GL.below HGL.out HB.out
    rintro e w2 ⟨rfl, hb⟩
    clear hz0 hz1 hz2 hz3
    have BK2 := Aside0.mk (blk_below BK.out hb)
    have HB2 := Aside0.mk (below_step HB.out hb)
    clear BK HB hb
    go_wp2_with (first | ((with_reducible refine gate_dst (N := 5) rfl ?_); refine box_event ?hg (N := 5) ?hd (cs := #[.pointer none, .slice none 0 0]) (t := 113) ?hr ?_; (case hd => rfl); (case hg => rfl); (case hr => first | (go_simp; done) | (go_simp; rfl)); intro gb hg w3 hbox hb; have BB := Aside0.mk hbox; have HB3 := Aside0.mk hb; have GB := Aside0.mk hg; clear hg hbox hb))
    have BK3 := Aside0.mk (blk_below BK2.out HB3.out)
    have hgrb : gr < gb := by rw [GB.out]; exact blk_lt BK2.out
    have hwb : w.heap.size ≤ gb := by rw [GB.out]; exact HB2.out.size
    have hD3 : Bd gb gb ⟨#[]⟩ w3 := .inl ⟨Nat.le_refl _, .slice none 0 0, BB.out, World.ownsRow_nil _ _ _ _, by simp [Value.ownBlock]⟩
    have hB3 : Below gb w2 w3 := by rw [GB.out]; exact HB3.out
    have HW3 := Aside0.mk (below_step HB2.out HB3.out)
    have HD3 := Aside0.mk hD3
    have HS3 := Aside0.mk (show gb ≤ w3.heap.size from Nat.le_of_lt (blk_lt BB.out))
    clear hD3 hB3 HB3 BB BK2 HB2 GB
    have hz0 : w3.cell? ⟨gr, 0, none⟩ = some (.int .i64 a0_0) := (blk_cell BK3.out 0).trans rfl
    have hz1 : w3.cell? ⟨gr, 1, none⟩ = some (.int .i64 a0_1) := (blk_cell BK3.out 1).trans rfl
    obtain ⟨hg1, hg2⟩ : (0 ≤ a0_1 ∧ a0_1 ≤ 4611686018427387904) ∧ (0 ≤ a0_2 ∧ a0_2 ≤ 4611686018427387904) := by
      by_cases hc : (0 ≤ a0_1 ∧ a0_1 ≤ 4611686018427387904) ∧ (0 ≤ a0_2 ∧ a0_2 ≤ 4611686018427387904)
      · exact hc
      · have := HH.out
        rw [if_neg hc] at this
        cases this
    have HP := Aside0.mk (show fmtPairs k l0_3 ((head1 a0_0 a0_1 ++ head2 a0_1) ++ head3 a0_2) = some (r1, r2) from by have h2 := HH.out; rw [if_pos ⟨hg1, hg2⟩] at h2; exact h2)
    clear HH
    obtain ⟨nm, hnm⟩ : ∃ x, x = typeName a0_0 := ⟨_, rfl⟩
    have hns : nm.size ≤ 8 := by rw [hnm]; exact typeName_le a0_0
    have HNM := Aside0.mk hnm
    clear hnm
    obtain ⟨t1, ht1⟩ : ∃ x : ByteArray, x = ⟨(Lib.itoa (Int.tdiv a0_1 1000)).toArray⟩ := ⟨_, rfl⟩
    have hq : Int.tdiv a0_1 1000 = a0_1 / 1000 := Int.tdiv_eq_ediv_of_nonneg hg1.1
    have hts : t1.size ≤ 21 := by rw [ht1]; exact itoa_le _ (by rw [hq]; omega) (by rw [hq]; omega)
    have HT1 := Aside0.mk ht1
    have hQ := Aside0.mk hq
    have hi1 : strconv_Itoa.f (a0_1 / 1000) = some t1 := by unfold strconv_Itoa.f; rw [if_pos (by omega), ht1, hq]
    have HI1 := Aside0.mk hi1
    clear ht1 hq hi1
    have k1 : (9223372036854775807 < 5 + nm.size) = False := eq_false (by omega)
    have k2 : (9223372036854775807 < 5 + nm.size + 11) = False := eq_false (by omega)
    have k3 : (9223372036854775807 < 5 + nm.size + 11 + t1.size) = False := eq_false (by omega)
    have k4 : (9223372036854775807 < 5 + nm.size + 11 + t1.size + 1) = False := eq_false (by omega)
    have hqd : Int.tdiv a0_1 1000 = a0_1 / 1000 := hQ.out
    have hqw : IntKind.i64.wrap (a0_1 / 1000) = a0_1 / 1000 := by rw [IntKind.wrap_i64]; omega
    go_region_held3 (fun w' => w'.cell? ⟨gr, 0, none⟩ = some (.int .i64 a0_0) ∧ w'.cell? ⟨gr, 1, none⟩ = some (.int .i64 a0_1)) (first | exact ⟨hz0, hz1⟩ | exact ⟨hy0, hy1⟩ | exact ⟨hx0, hx1⟩ | exact ⟨hv0, hv1⟩) (first | (go_at_call 42; refine (record_Name.calls a0_0 nm _ ?gl (by rw [HNM.out]; rfl)).mono ?_; (case gl => exact GL.below HGL.out (below_drew1 HW3.out)); rintro e w4 ⟨rfl, hb⟩; have HW4 := Aside0.mk (below_step (below_drew1 HW3.out) hb); have BK4 := Aside0.mk (blk_below (w := w3.drew) BK3.out hb); have HD4 := Aside0.mk (Bd.stays (w := w3.drew) HD3.out hb); have hy0 : w4.cell? ⟨gr, 0, none⟩ = some (.int .i64 a0_0) := (blk_cell BK4.out 0).trans rfl; have hy1 : w4.cell? ⟨gr, 1, none⟩ = some (.int .i64 a0_1) := (blk_cell BK4.out 1).trans rfl; have HS4 := Aside0.mk (Nat.le_trans HS3.out hb.size); clear hb) | (go_at_call 69; refine (strconv_Itoa.calls _ t1 _ ?gl ?hf).mono ?_; (case hf => first | exact HI1.out | (rw [hqw]; exact HI1.out)); (case gl => exact GL.below HGL.out HW4.out); rintro e w5 ⟨rfl, hb⟩; have HW5 := Aside0.mk (below_step HW4.out hb); have BK5 := Aside0.mk (blk_below BK4.out hb); have HD5 := Aside0.mk (Bd.stays HD4.out hb); have hx0 : w5.cell? ⟨gr, 0, none⟩ = some (.int .i64 a0_0) := (blk_cell BK5.out 0).trans rfl; have hx1 : w5.cell? ⟨gr, 1, none⟩ = some (.int .i64 a0_1) := (blk_cell BK5.out 1).trans rfl; have HS5 := Aside0.mk (Nat.le_trans HS4.out hb.size); clear hb) | (go_at_call 78; refine (bd_write HD5.out HS5.out ?sz).mono ?_; (case sz => rw [head_size]; show 0 + _ ≤ _; omega); rintro e w6 ⟨rfl, hd, hb⟩; have HW6 := Aside0.mk (below_weaken HW5.out hwb hb); have BK6 := Aside0.mk ((hb.block gr hgrb).trans BK5.out); have HD6 := Aside0.mk hd; have hv0 : w6.cell? ⟨gr, 0, none⟩ = some (.int .i64 a0_0) := (blk_cell BK6.out 0).trans rfl; have hv1 : w6.cell? ⟨gr, 1, none⟩ = some (.int .i64 a0_1) := (blk_cell BK6.out 1).trans rfl; have HS6 := Aside0.mk (Nat.le_trans HS5.out hb.size); clear hb hd))
    clear hz0 hz1 hy0 hy1 hx0 hx1 hv0 hv1
    clear HW3 BK3 HD3 HS3 HW4 BK4 HD4 HS4 HW5 BK5 HD5 HS5
    have hv1 : w6.cell? ⟨gr, 1, none⟩ = some (.int .i64 a0_1) := (blk_cell BK6.out 1).trans rfl
    have hv2 : w6.cell? ⟨gr, 2, none⟩ = some (.int .i64 a0_2) := (blk_cell BK6.out 2).trans rfl
    have hv3 : w6.cell? ⟨gr, 3, none⟩ = some (.slice A0_3 l0_3.length c0_3) := (blk_cell BK6.out 3).trans rfl
    have hmd : Int.tmod a0_1 1000 = a0_1 % 1000 := Int.tmod_eq_emod_of_nonneg hg1.1
    obtain ⟨s6, hs6, hz6, hd6⟩ : ∃ s6 : ByteArray, s6 = head1 a0_0 a0_1 ∧ s6.size ≤ 50 ∧ Bd gb gb s6 w6 := by
      have e : (⟨#[]⟩ : ByteArray) ++ (((((⟨#[116, 121, 112, 101, 61]⟩ : ByteArray) ++ nm) ++ (⟨#[32, 109, 115, 103, 61, 97, 117, 100, 105, 116, 40]⟩ : ByteArray)) ++ t1) ++ (⟨#[46]⟩ : ByteArray)) = head1 a0_0 a0_1 := by
        rw [HNM.out, HT1.out, empty_app]; rfl
      refine ⟨_, e, ?_, HD6.out⟩
      rw [empty_app, head_size]
      omega
    have HS1 := Aside0.mk hs6
    have HD6s := Aside0.mk hd6
    clear HD6 hs6 hd6
    have HD6 := HD6s
    clear HD6s
    obtain ⟨t2, ht2⟩ : ∃ x : ByteArray, x = msS a0_1 := ⟨_, rfl⟩
    have hts2 : t2.size ≤ 3 := by rw [ht2]; exact ms_le hg1.1
    have hi2 : strconv_Itoa.f (a0_1 % 1000) = some t2 := by unfold strconv_Itoa.f; rw [if_pos (by omega), ht2, msS, hmd]
    have HT2 := Aside0.mk ht2
    have HI2 := Aside0.mk hi2
    clear ht2 hi2
    have hmw : IntKind.i64.wrap (a0_1 % 1000) = a0_1 % 1000 := by rw [IntKind.wrap_i64]; omega
    go_wp2_with fail
    refine (strconv_Itoa.calls _ t2 _ (GL.below HGL.out HW6.out) HI2.out).mono ?_
    rintro e w7 ⟨rfl, hb⟩
    have HW7 := Aside0.mk (below_step HW6.out hb)
    have BK7 := Aside0.mk (blk_below BK6.out hb)
    have HD7 := Aside0.mk (Bd.stays HD6.out hb)
    have HS7 := Aside0.mk (Nat.le_trans HS6.out hb.size)
    clear hb hv1 hv2 hv3 hmd hmw HW6 BK6 HD6 HS6
    have hrep : wrap64 (3 - (t2.size : Int)) = ((3 - t2.size : Nat) : Int) := by unfold wrap64; omega
    have hrepw : IntKind.i64.wrap (3 - (t2.size : Int)) = ((3 - t2.size : Nat) : Int) := by rw [IntKind.wrap_i64]; omega
    go_wp2_with fail
    refine (Tryd.strings_Repeat ⟨#[48]⟩ (3 - t2.size) w7 (by omega) (by show 1 * _ ≤ _; omega)).mono ?_
    rintro e w8 ⟨rfl, hb⟩
    obtain ⟨t3, ht3⟩ : ∃ x : ByteArray, x = ⟨(Lib.repeatL (⟨#[48]⟩ : ByteArray).data.toList (3 - t2.size)).toArray⟩ := ⟨_, rfl⟩
    rw [← ht3]
    have hts3 : t3.size ≤ 3 := by
      rw [ht3]
      show (Lib.repeatL [48] (3 - t2.size)).toArray.size ≤ 3
      have := Lib.repeatL_length [48] (3 - t2.size)
      simp at this ⊢
      omega
    have HT3 := Aside0.mk ht3
    have HW8 := Aside0.mk (below_step HW7.out hb)
    have BK8 := Aside0.mk (blk_below BK7.out hb)
    have HD8 := Aside0.mk (Bd.stays HD7.out hb)
    have HS8 := Aside0.mk (Nat.le_trans HS7.out hb.size)
    clear hb ht3 HW7 BK7 HD7 HS7 hrep hrepw
    have k5 : (9223372036854775807 < t3.size + t2.size) = False := eq_false (by omega)
    go_wp2_with fail
    refine (bd_write HD8.out HS8.out (by rw [ByteArray.size_append]; omega)).mono ?_
    rintro e w9 ⟨rfl, hd, hb⟩
    obtain ⟨s9, hs9⟩ : ∃ x, x = s6 ++ (t3 ++ t2) := ⟨_, rfl⟩
    rw [← hs9] at hd
    have hz9 : s9.size ≤ 60 := by rw [hs9, ByteArray.size_append, ByteArray.size_append]; omega
    have HS9e := Aside0.mk hs9
    have HW9 := Aside0.mk (below_weaken HW8.out hwb hb)
    have BK9 := Aside0.mk ((hb.block gr hgrb).trans BK8.out)
    have HD9 := Aside0.mk hd
    have HS9 := Aside0.mk (Nat.le_trans HS8.out hb.size)
    clear hb hd hs9 HW8 BK8 HD8 HS8 k5
    have hv2 : w9.cell? ⟨gr, 2, none⟩ = some (.int .i64 a0_2) := (blk_cell BK9.out 2).trans rfl
    obtain ⟨t4, ht4⟩ : ∃ x : ByteArray, x = ⟨(Lib.itoa a0_2).toArray⟩ := ⟨_, rfl⟩
    have hts4 : t4.size ≤ 21 := by rw [ht4]; exact itoa_le _ (by omega) (by omega)
    have HI4 := Aside0.mk (show strconv_Itoa.f a0_2 = some t4 by unfold strconv_Itoa.f; rw [if_pos (by omega), ht4])
    have HT4 := Aside0.mk ht4
    clear ht4
    go_wp2_with fail
    refine (strconv_Itoa.calls _ t4 _ (GL.below HGL.out HW9.out) HI4.out).mono ?_
    rintro e w10 ⟨rfl, hb⟩
    have HW10 := Aside0.mk (below_step HW9.out hb)
    have BK10 := Aside0.mk (blk_below BK9.out hb)
    have HD10 := Aside0.mk (Bd.stays HD9.out hb)
    have HS10 := Aside0.mk (Nat.le_trans HS9.out hb.size)
    clear hb hv2 HW9 BK9 HD9 HS9
    have k6 : (9223372036854775807 < 1 + t4.size) = False := eq_false (by omega)
    have k7 : (9223372036854775807 < 1 + t4.size + 2) = False := eq_false (by omega)
    go_wp2_with fail
    refine (bd_write HD10.out HS10.out (by rw [head3_size]; omega)).mono ?_
    rintro e w11 ⟨rfl, hd, hb⟩
    obtain ⟨s11, hs11, hz11, HP11⟩ : ∃ x, x = s9 ++ (((⟨#[58]⟩ : ByteArray) ++ t4) ++ (⟨#[41, 58]⟩ : ByteArray)) ∧ x.size ≤ 100 ∧ Aside0 (fmtPairs k l0_3 x = some (r1, r2)) := by
      refine ⟨_, rfl, by rw [ByteArray.size_append, head3_size]; omega, ⟨?_⟩⟩
      have h2 := HP.out
      rw [show head1 a0_0 a0_1 = s6 from HS1.out.symm, show head2 a0_1 = t3 ++ t2 from by rw [head2, HT3.out, HT2.out], show head3 a0_2 = ((⟨#[58]⟩ : ByteArray) ++ t4) ++ (⟨#[41, 58]⟩ : ByteArray) from by rw [head3, HT4.out]] at h2
      rw [HS9e.out]
      exact h2
    rw [← hs11] at hd
    have HW11 := Aside0.mk (below_weaken HW10.out hwb hb)
    have BK11 := Aside0.mk ((hb.block gr hgrb).trans BK10.out)
    have HD11 := Aside0.mk hd
    have HS11 := Aside0.mk (Nat.le_trans HS10.out hb.size)
    clear hb hd hs11 HW10 BK10 HD10 HS10 k6 k7 HP HS1 HS9e HT4 HT3 HT2 HI4 HI2 HT1 HI1 HNM k1 k2 k3 k4 hqd hqw hz6 hz9 hts hts2 hts3 hts4 hns
    have hv3 : w11.cell? ⟨gr, 3, none⟩ = some (.slice A0_3 l0_3.length c0_3) := (blk_cell BK11.out 3).trans rfl
    go_wp2_with fail
    clear hv3 BK11
    go_loopw [48] (fun i wr => ∃ (j : Nat) (s : ByteArray), j ≤ l0_3.length ∧ i = .int .i64 j ∧ Aside0 (fmtPairs k (l0_3.drop j) s = some (r1, r2)) ∧ Aside0 (Below w.heap.size w wr) ∧ Aside0 (Bd gb gb s wr) ∧ Aside0 (gb ≤ wr.heap.size)) (fun i _ => (l0_3.length - (intOf i).toNat))
    case atStart => exact ⟨0, s11, by omega, rfl, HP11, HW11, HD11, HS11⟩
    case round =>
      clear HP11 HW11 HD11 HS11
      obtain ⟨j, s, hj, rfl, HP, HW, HD, HS⟩ := hrel
      by_cases hlt : j < l0_3.length
      · have hpos : (0 : Int) ≤ (j : Int) := by omega
        have hltI : (j : Int) < (l0_3.length : Int) := by omega
        have HLE := Aside0.mk hlt
        have hp := HP.out
        rw [drop_T34 l0_3 j hlt] at hp
        simp only [fmtPairs] at hp
        obtain ⟨⟨t, e2⟩, hf, hq⟩ := Option.bind_eq_some_iff.1 hp
        have HF := Aside0.mk hf
        have HQ := Aside0.mk hq
        clear hp hf hq HP
        obtain ⟨ad, eA, hx0, hx1, hx2, hx3⟩ := at_T34 (Kd.C_below HR.out HW.out) (j : Int) hpos hltI
        subst eA
        simp only [Int.toNat_natCast] at hx0 hx1 hx2 hx3
        generalize rd_T34 l0_3 (j : Int) = p at hx0 hx1 hx2 hx3 HF
        by_cases he2 : e2 = 0
        · subst he2
          have hq2 := HQ.out
          rw [if_pos rfl] at hq2
          have hsz : s.size + (1 + t.size) ≤ 140737488355328 := by
            by_cases hc : s.size + (1 + t.size) ≤ 140737488355328
            · exact hc
            · rw [if_neg hc] at hq2; cases hq2
          rw [if_pos hsz] at hq2
          have HN := Aside0.mk hq2
          clear hq2 HQ
          go_wp2_with fail
          refine (value_Format.calls k p.f0 p.f1 p.f2 p.f3 t 0 _ (GL.below HGL.out (HW.out.alloc HW.out.size _)) HF.out).mono ?_
          rintro e w13 ⟨rfl, hb⟩
          have hba := below_alloc (Below.refl wr.heap.size wr) (.cells #[.string p.f0, .int .i64 p.f1, .int .i64 p.f2, .string p.f3] 34)
          have HDa : Bd gb gb s _ := Bd.stays HD.out hba
          have HW13 := Aside0.mk (below_step (HW.out.alloc HW.out.size _) hb)
          have HD13 := Aside0.mk (Bd.stays HDa hb)
          have HS13 := Aside0.mk (Nat.le_trans HS.out (Nat.le_trans hba.size hb.size))
          clear hb hba HDa HW HD HS hx0 hx1 hx2 hx3 HF
          have k8 : (9223372036854775807 < 1 + t.size) = False := eq_false (by omega)
          go_wp2_with fail
          refine (bd_write HD13.out HS13.out (by rw [sp_size]; exact hsz)).mono ?_
          rintro e w14 ⟨rfl, hd, hb⟩
          have HW14 := Aside0.mk (below_weaken HW13.out hwb hb)
          have HD14 := Aside0.mk hd
          have HS14 := Aside0.mk (Nat.le_trans HS13.out hb.size)
          clear hb hd HW13 HD13 HS13 k8
          go_wp2_with fail
          have hlen : l0_3.length ≤ 9223372036854775807 := HR.out.2.1
          have hle := HLE.out
          have hw : wrap64 ((j : Int) + 1) = ((j + 1 : Nat) : Int) := wrap_succ (Nat.le_trans hle hlen)
          rw [hw]
          refine ⟨⟨j + 1, _, hle, rfl, HN, HW14, HD14, HS14⟩, ?_⟩
          exact meas_lt hle
        · have hq2 := HQ.out
          rw [if_neg he2] at hq2
          simp only [Option.some.injEq, Prod.mk.injEq] at hq2
          obtain ⟨rfl, rfl⟩ := hq2
          have hn0 : (e2 == 0) = false := by simpa using he2
          have hn1 : (e2 != 0) = true := by simpa using he2
          clear HQ
          go_wp2_with fail
          refine (value_Format.calls k p.f0 p.f1 p.f2 p.f3 t e2 _ (GL.below HGL.out (HW.out.alloc HW.out.size _)) HF.out).mono ?_
          rintro e w13 ⟨rfl, hb⟩
          have HW13 := Aside0.mk (below_step (HW.out.alloc HW.out.size _) hb)
          clear hb HW HD HS hx0 hx1 hx2 hx3 HF
          go_wp2_with fail
          go_ret2
          exact ⟨rfl, HW13.out⟩
      · obtain rfl : j = l0_3.length := by omega
        have hp := HP.out
        rw [List.drop_length] at hp
        simp only [fmtPairs, Option.some.injEq, Prod.mk.injEq] at hp
        obtain ⟨rfl, rfl⟩ := hp
        clear HP
        go_wp2_with fail
        refine (bd_string HD.out HS.out).mono ?_
        rintro e w15 ⟨rfl, hb⟩
        have HW15 := Aside0.mk (below_weaken HW.out hwb hb)
        clear hb HW HD HS
        go_wp2_with fail
        go_ret2
        exact ⟨rfl, HW15.out⟩
  · rw [if_neg he] at H
    simp only [Option.some.injEq, Prod.mk.injEq] at H
    obtain ⟨rfl, rfl⟩ := H
    exact format_bad k a0_0 a0_1 a0_2 A0_3 c0_3 l0_3 ec w HR.out HC.out HGL.out HCK.out he

end Go.Proofs.YtjnlmmjadlidlaaDoor.PRec
